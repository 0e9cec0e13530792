import Derived.Test.YtpnhnobnjcknjaaG15
namespace Go.Proofs.Ytpnhnobnjcknjaa.Pe
open Go.Pe Go.RowKit
set_option maxRecDepth 20000
set_option maxHeartbeats 4000000
set_option linter.unusedSimpArgs false
set_option linter.unusedVariables false

def gapAt (bn g i : Nat) : Nat := if againAt bn i then 1 else max g 1
theorem part_step {t : List UInt8} (h7 : 7 < t.length) (h1 : t.length ≤ 4095) {bn g i : Nat} {R : Int} (hlR : (t.length : Int) ≤ R) (hbn : bn ≤ 255) (hg : g ≤ 100) (hi : i < t.length / 7) {L : Lnk} (hP : PAt t bn g R i L) :
    ∃ L', PAt t bn g R (i + 1) L' ∧ ∀ f n, runL [] (f + gapAt bn g i) n L = runL [] f (n + gapAt bn g i) L' := by
  obtain ⟨r, c, hr, hc, hrf, hW, hR, hB, hG, h0, hrN⟩ := hP.r
  obtain ⟨r', a, b, q1, q2, q3, ⟨q4, q5, q6⟩, q7, q8, q9, q10, q11⟩ := recv_part h7 h1 hlR hc hrf hW hR hB hG h0 hP.le
  have hrN' : r' = recN t R bn g (i + 1) := by rw [← q11, hrN]; rfl
  have hnd : doneL L = false := by
    rw [doneL, decide_eq_false (show ¬ (L.a.u.length + L.b.u.length = 0) by rw [hP.a]; simp)]
    simp
  have htr : tickV r' = skR 1 r' := by
    have := skR_tick 0 r'
    rwa [skR_zero q10] at this
  have hpos : L.s.pos = ((7 * i + 6 : Nat) : Int) := by rw [hP.s.pos, if_neg (by omega)]
  by_cases ha : againAt bn i
  · have hb : b = true := q7.2 ⟨hi, ha⟩
    subst hb
    rw [if_pos rfl] at q8
    subst q8
    have hst : L.s.st = 1 := by rw [hP.s.st, if_neg (by omega), if_pos ha]
    have hrec : recvAll [] L.a.u L.r L.b L.m = (r', ⟨[⟨4, 0, 0, 0, bn, g, []⟩], []⟩, L.m + 1) := by
      rw [hP.a, hP.b, hr]
      simp only [recvAll, q1, if_true, fateL_nil, putW_pass]
      rfl
    have htk : takeAll [(⟨4, 0, 0, 0, bn, g, []⟩ : Pdu)] L.s = { L.s with st := 2, left := if (bn : Int) = 0 then -1 else (bn : Int), gap := g, clock := g, waits := 0 } := by
      have : L.s.takes ⟨4, 0, 0, 0, bn, g, []⟩ = true := by
        simp [Snd.takes, hst, Pdu.right]
        omega
      show takeS L.s _ = _
      rw [takeS, if_pos this, if_neg (by simp), if_neg (by simp)]
    obtain ⟨s1, hs1⟩ : ∃ s1, ({ L.s with st := 2, left := if (bn : Int) = 0 then -1 else (bn : Int), gap := g, clock := g, waits := 0 } : Snd) = s1 := ⟨_, rfl⟩
    have hso : s1.sound := by
      have := take_sound hP.s.sound ⟨4, 0, 0, 0, bn, g, []⟩
      have e : takeS L.s ⟨4, 0, 0, 0, bn, g, []⟩ = s1 := by rw [← hs1, ← htk]; rfl
      rwa [e] at this
    obtain ⟨s2, s3, s4, s5⟩ := send_at (s := s1) h7 h1 hbn hg hi hso (by rw [← hs1]; exact hP.s.text) (by rw [← hs1]; exact hpos) (by rw [← hs1]; exact hP.s.num) (by rw [← hs1]) (by rw [← hs1]) (by rw [← hs1]; exact Int.le_refl _) (by
      rw [← hs1]
      show (if (bn : Int) = 0 then (-1 : Int) else (bn : Int)) = _
      by_cases hb0 : bn = 0
      · rw [if_pos (by omega), if_pos hb0]
      · rw [if_neg (by omega), if_neg hb0]
        have : i % bn = 0 := by
          rcases ha with h | ⟨_, h⟩
          · rw [h]; exact Nat.zero_mod _
          · exact h
        rw [this, Nat.sub_zero])
    obtain ⟨s6, s7⟩ := tick_sat s4 s5
    have hT : tickL [] L = ⟨tickS (nextS s1), tickV r', ⟨[nextP s1], []⟩, ⟨[], []⟩, L.m + 1 + 1⟩ := by
      unfold tickL
      rw [hrec]
      simp only [htk, hs1, s2, if_true, fateL_nil, putW_pass]
      rw [hP.a]
      rfl
    refine ⟨⟨tickS (nextS s1), tickV r', ⟨[nextP s1], []⟩, ⟨[], []⟩, L.m + 1 + 1⟩, ⟨by omega, by rw [s3]; rfl, rfl, s6, s7, r', 1, htr, by omega, q2, q3, q4, q5, q6, fun h => by omega, hrN'⟩, fun f n => ?_⟩
    rw [show gapAt bn g i = 1 by rw [gapAt, if_pos ha], run_go hnd, hT]
  · have hb : b = false := by
      cases b
      · rfl
      · exact absurd (q7.1 rfl).2 ha
    subst hb
    have hst : L.s.st = 2 := by rw [hP.s.st, if_neg (by omega), if_neg ha]
    have hcl := hP.one hst
    obtain ⟨hgap, hleft⟩ := hP.s.going hi ha
    have hrec : recvAll [] L.a.u L.r L.b L.m = (r', ⟨[], []⟩, L.m) := by
      rw [hP.a, hP.b, hr]
      simp only [recvAll, q1, Bool.false_eq_true, if_false]
    by_cases hg1 : g ≤ 1
    · obtain ⟨s2, s3, s4, s5⟩ := send_at (s := L.s) h7 h1 hbn hg hi hP.s.sound hP.s.text hpos hP.s.num hst hgap (by omega) hleft
      obtain ⟨s6, s7⟩ := tick_sat s4 s5
      have hT : tickL [] L = ⟨tickS (nextS L.s), tickV r', ⟨[nextP L.s], []⟩, ⟨[], []⟩, L.m + 1⟩ := by
        unfold tickL
        rw [hrec]
        simp only [takeAll, s2, if_true, fateL_nil, putW_pass]
        rw [hP.a]
        rfl
      refine ⟨⟨tickS (nextS L.s), tickV r', ⟨[nextP L.s], []⟩, ⟨[], []⟩, L.m + 1⟩, ⟨by omega, by rw [s3]; rfl, rfl, s6, s7, r', 1, htr, by omega, q2, q3, q4, q5, q6, fun h => by omega, hrN'⟩, fun f n => ?_⟩
      rw [show gapAt bn g i = 1 by rw [gapAt, if_neg ha]; omega, run_go hnd, hT]
    · have hgo : L.s.goes = false := by simp [Snd.goes, hst, hgap, hcl]; omega
      have hns : nextS L.s = L.s := by rw [nextS, if_neg (by rw [hgo]; decide)]
      have hts : tickS L.s = { L.s with clock := 2 } := by
        unfold tickS
        rw [if_pos (.inr hst), hcl, show IntKind.wrap .i64 ((1 : Int) + 1) = 2 by decide]
        simp only
        rw [if_neg (show ¬ ((1099511627776 : Int) < 2) by decide), if_neg (by rw [hst]; omega)]
      have hsd := tick_sound hP.s.sound
      have hT : tickL [] L = ⟨tickS L.s, tickV r', ⟨[], []⟩, ⟨[], []⟩, L.m⟩ := by
        unfold tickL
        rw [hrec]
        simp only [takeAll, hgo, hns, Bool.false_eq_true, if_false]
        rw [hP.a]
      have hQ : QAt t bn g R i 2 (tickL [] L) := by
        rw [hT]
        refine ⟨rfl, rfl, ?_, ?_, ?_, r', htr, q2, q3, q4, q5, q6, q10, hrN'⟩
        · rw [hts] at hsd ⊢
          exact ⟨hsd, hP.s.text, hP.s.pos, hP.s.num, hP.s.st, fun hh => by have : L.s.st = 1 := hh; rw [hst] at this; omega, hP.s.going⟩
        · rw [hts]; exact hst
        · rw [hts]; rfl
      obtain ⟨L', p1, p2⟩ := wait_step h7 h1 hbn hg hi ha (g - 2) 2 (tickL [] L) hQ (by omega) (by omega)
      refine ⟨L', p1, fun f n => ?_⟩
      rw [show gapAt bn g i = (g - 2 + 1) + 1 by rw [gapAt, if_neg ha]; omega, show f + (g - 2 + 1 + 1) = (f + (g - 2 + 1)) + 1 by omega, run_go hnd, p2]
      congr 1
      omega
theorem last_step {t : List UInt8} (h7 : 7 < t.length) (h1 : t.length ≤ 4095) {bn g : Nat} {R : Int} (hlR : (t.length : Int) ≤ R) {L : Lnk} (hP : PAt t bn g R (t.length / 7) L) (f n : Nat) :
    ∃ L', runL [] (f + 2) n L = (L', n + 1) ∧ L'.s.st = 3 ∧ L'.r.st = 3 ∧ L'.r.got = t ∧ L'.s = L.s ∧ L'.r = recN t R bn g (t.length / 7 + 1) := by
  obtain ⟨r, c, hr, hc, hrf, hW, hR, hB, hG, h0, hrN⟩ := hP.r
  obtain ⟨r', a, b, q1, q2, q3, ⟨q4, q5, q6⟩, q7, q8, q9, q10, q11⟩ := recv_part h7 h1 hlR hc hrf hW hR hB hG h0 hP.le
  have hrN' : r' = recN t R bn g (t.length / 7 + 1) := by rw [← q11, hrN]; rfl
  have hnd : doneL L = false := by
    rw [doneL, decide_eq_false (show ¬ (L.a.u.length + L.b.u.length = 0) by rw [hP.a]; simp)]
    simp
  have hb : b = false := by
    cases b
    · rfl
    · have := (q7.1 rfl).1; omega
  subst hb
  have hst : L.s.st = 3 := by rw [hP.s.st, if_pos rfl]
  have hr3 : r'.st = 3 := q9.2 rfl
  have hN : partsN t = 1 + t.length / 7 := by rw [partsN, if_neg (by omega)]
  have hgot : r'.got = t := by
    rcases q3 with h | ⟨_, hA, _⟩
    · omega
    · rw [hA.got, if_pos (by omega)]
  have hrec : recvAll [] L.a.u L.r L.b L.m = (r', ⟨[], []⟩, L.m) := by
    rw [hP.a, hP.b, hr]
    simp only [recvAll, q1, Bool.false_eq_true, if_false]
  have hgo : L.s.goes = false := by simp [Snd.goes, hst]
  have hns : nextS L.s = L.s := by rw [nextS, if_neg (by rw [hgo]; decide)]
  have hts : tickS L.s = L.s := by rw [tickS, if_neg (by omega)]
  have htr : tickV r' = r' := by rw [tickV, if_neg (by omega)]
  have hT : tickL [] L = ⟨L.s, r', ⟨[], []⟩, ⟨[], []⟩, L.m⟩ := by
    unfold tickL
    rw [hrec]
    simp only [takeAll, hgo, hns, hts, htr, Bool.false_eq_true, if_false]
    rw [hP.a]
  refine ⟨⟨L.s, r', ⟨[], []⟩, ⟨[], []⟩, L.m⟩, ?_, hst, hr3, hgot, rfl, hrN'⟩
  rw [show f + 2 = (f + 1) + 1 by omega, run_go hnd, hT, run_done]
  rw [doneL]
  simp only [hst, hr3]
  rfl
end Go.Proofs.Ytpnhnobnjcknjaa.Pe
