import Derived.Test.YtpnhnobnjcknjaaE14
namespace Go.Proofs.Ytpnhnobnjcknjaa.Pe
open Go.Pe Go.RowKit
set_option maxRecDepth 20000
set_option maxHeartbeats 4000000
set_option linter.unusedSimpArgs false
set_option linter.unusedVariables false

theorem tick_sat {t : List UInt8} {bn g i : Nat} {s : Snd} (h : SAt t bn g i s) (hc : s.clock = 0) : SAt t bn g i (tickS s) ∧ ((tickS s).st = 2 → (tickS s).clock = 1) := by
  have hs := tick_sound h.sound
  revert hs
  unfold tickS
  rw [hc]
  have hw : IntKind.wrap .i64 ((0 : Int) + 1) = 1 := by decide
  rw [hw]
  by_cases hst : s.st = 1 ∨ s.st = 2
  · rw [if_pos hst]
    simp only
    rw [if_neg (show ¬ ((1099511627776 : Int) < 1) by decide), if_neg (show ¬ (s.st = 1 ∧ (100 : Int) < 1) by omega)]
    intro hs
    exact ⟨⟨hs, h.text, h.pos, h.num, h.st, fun _ => (show (1 : Int) ≤ 100 by decide), h.going⟩, fun _ => rfl⟩
  · rw [if_neg hst]
    intro _
    exact ⟨h, fun hh => absurd (.inr hh) hst⟩
/-- The receiver behind the first i parts, exactly. -/
def recN (t : List UInt8) (R : Int) (bn g : Nat) : Nat → Rcv
  | 0 => freshR R bn g
  | i + 1 => (recvV (recN t R bn g i) ((partsL t)[i]?.getD Pdu.none)).1
/-- The talk at the top of a tick, part i under way. -/
structure PAt (t : List UInt8) (bn g : Nat) (R : Int) (i : Nat) (L : Lnk) : Prop where
  le : i ≤ t.length / 7
  a : L.a = ⟨[(partsL t)[i]?.getD Pdu.none], []⟩
  b : L.b = ⟨[], []⟩
  s : SAt t bn g i L.s
  one : L.s.st = 2 → L.s.clock = 1
  r : ∃ r c, L.r = skR c r ∧ c ≤ 100 ∧ r.fine ∧ WAt t bn i r ∧ r.room = R ∧ r.block = bn ∧ r.gap = g ∧ (i = 0 → r.st ≠ 2) ∧ r = recN t R bn g i
/-- Between two parts: part i has come, the sender's clock is at k. -/
structure QAt (t : List UInt8) (bn g : Nat) (R : Int) (i k : Nat) (L : Lnk) : Prop where
  a : L.a = ⟨[], []⟩
  b : L.b = ⟨[], []⟩
  s : SAt t bn g i L.s
  st : L.s.st = 2
  clock : L.s.clock = k
  r : ∃ r, L.r = skR (k - 1) r ∧ r.fine ∧ WAt t bn (i + 1) r ∧ r.room = R ∧ r.block = bn ∧ r.gap = g ∧ r.clock = 0 ∧ r = recN t R bn g (i + 1)
theorem recv_part {t : List UInt8} (h7 : 7 < t.length) (h1 : t.length ≤ 4095) {bn g i c : Nat} {R : Int} (hlR : (t.length : Int) ≤ R) {r : Rcv} (hc : c ≤ 100) (hrf : r.fine) (hW : WAt t bn i r) (hR : r.room = R) (hB : r.block = bn) (hG : r.gap = g) (h0 : i = 0 → r.st ≠ 2) (hi : i ≤ t.length / 7) :
    ∃ r' a b, recvV (skR c r) ((partsL t)[i]?.getD Pdu.none) = (r', a, b) ∧ r'.fine ∧ WAt t bn (i + 1) r' ∧ (r'.room = R ∧ r'.block = bn ∧ r'.gap = g) ∧ (b = true ↔ i < t.length / 7 ∧ againAt bn i) ∧ a = (if b = true then ⟨4, 0, 0, 0, bn, g, []⟩ else Pdu.none) ∧ (r'.st = 3 ↔ i = t.length / 7) ∧ r'.clock = 0 ∧ (recvV r ((partsL t)[i]?.getD Pdu.none)).1 = r' := by
  have hN : partsN t = 1 + t.length / 7 := by rw [partsN, if_neg (by omega)]
  obtain ⟨r', a, b, q1, q2, q3, q4, q5, q6⟩ := pass_step (by omega) h1 hlR hR hB hG hW (by omega)
  have e : recvV (skR c r) ((partsL t)[i]?.getD Pdu.none) = recvV r ((partsL t)[i]?.getD Pdu.none) := by
    rcases hW with hz | ⟨hi1, hA, _⟩
    · rw [skR_off (h0 hz)]
    · exact recv_sk h1 hA hi1 (by omega) hc
  have hpr : ((partsL t)[i]?.getD Pdu.none).right = true := by
    have hlen := parts_len (t := t) (by omega) h1
    rw [List.getElem?_eq_getElem (show i < (partsL t).length by omega)]
    exact parts_right (by omega) h1 _ (List.getElem_mem _)
  have hrf' : r'.fine := by have := fine_recv hrf hpr; rw [q1] at this; exact this
  refine ⟨r', a, b, e.trans q1, hrf', q2, q3, ?_, q5, ?_, ?_⟩
  · rw [q4]
    constructor
    · rintro ⟨x, y⟩; exact ⟨by omega, y⟩
    · rintro ⟨x, y⟩; exact ⟨by omega, y⟩
  · rw [q6]; omega
  · refine ⟨?_, by rw [q1]⟩
    rcases q2 with hz | ⟨_, hA, _⟩
    · omega
    · exact hA.clock
theorem wait_step {t : List UInt8} (h7 : 7 < t.length) (h1 : t.length ≤ 4095) {bn g i : Nat} {R : Int} (hbn : bn ≤ 255) (hg : g ≤ 100) (hi : i < t.length / 7) (hna : ¬ againAt bn i) : ∀ (d k : Nat) (L : Lnk), QAt t bn g R i k L → 1 ≤ k → k + d = g →
    ∃ L', PAt t bn g R (i + 1) L' ∧ ∀ f n, runL [] (f + (d + 1)) n L = runL [] f (n + (d + 1)) L'
  | d, k, L, hQ, hk, hkd => by
    obtain ⟨r, hr, hrf, hW, hR, hB, hG, hrc, hrN⟩ := hQ.r
    obtain ⟨hgap, hleft⟩ := hQ.s.going hi hna
    have hnd : doneL L = false := by rw [doneL, hQ.st]; rfl
    have hrec : recvAll [] L.a.u L.r L.b L.m = (L.r, L.b, L.m) := by rw [hQ.a]; rfl
    have htk : takeAll L.b.u L.s = L.s := by rw [hQ.b]; rfl
    have hti : tickV L.r = skR k r := by
      rw [hr, skR_tick, show k - 1 + 1 = k by omega]
    cases d with
    | zero =>
      have hpos : L.s.pos = ((7 * i + 6 : Nat) : Int) := by rw [hQ.s.pos, if_neg (by omega)]
      obtain ⟨s1, s2, s3, s4⟩ := send_at h7 h1 hbn hg hi hQ.s.sound hQ.s.text hpos hQ.s.num hQ.st hgap (by rw [hQ.clock]; omega) hleft
      obtain ⟨s5, s6⟩ := tick_sat s3 s4
      refine ⟨⟨tickS (nextS L.s), tickV L.r, ⟨[nextP L.s], []⟩, ⟨[], []⟩, L.m + 1⟩, ⟨by omega, by rw [s2]; rfl, rfl, s5, s6, r, k, hti, by omega, hrf, hW, hR, hB, hG, fun h => by omega, hrN⟩, fun f n => ?_⟩
      have hT : tickL [] L = ⟨tickS (nextS L.s), tickV L.r, ⟨[nextP L.s], []⟩, ⟨[], []⟩, L.m + 1⟩ := by
        unfold tickL
        rw [hrec]
        simp only [htk, s1, if_true, fateL_nil, putW_pass]
        rw [hQ.a, hQ.b]
        rfl
      rw [show f + (0 + 1) = f + 1 by omega, run_go hnd, hT]
    | succ d =>
      have hgo : L.s.goes = false := by simp [Snd.goes, hQ.st, hgap, hQ.clock]; omega
      have hns : nextS L.s = L.s := by rw [nextS, if_neg (by rw [hgo]; decide)]
      have hwk : IntKind.wrap .i64 ((k : Int) + 1) = ((k + 1 : Nat) : Int) := wrapIN (by omega)
      have hts : tickS L.s = { L.s with clock := ((k + 1 : Nat) : Int) } := by
        unfold tickS
        rw [if_pos (.inr hQ.st), hQ.clock, hwk]
        simp only
        rw [if_neg (show ¬ ((1099511627776 : Int) < ((k + 1 : Nat) : Int)) by omega), if_neg (by rw [hQ.st]; omega)]
      have hsd := tick_sound hQ.s.sound
      have hT : tickL [] L = ⟨tickS L.s, tickV L.r, ⟨[], []⟩, ⟨[], []⟩, L.m⟩ := by
        unfold tickL
        rw [hrec]
        simp only [htk, hgo, hns, Bool.false_eq_true, if_false]
        rw [hQ.a, hQ.b]
      have hQ' : QAt t bn g R i (k + 1) (tickL [] L) := by
        rw [hT]
        refine ⟨rfl, rfl, ?_, ?_, ?_, r, by rw [hti]; rfl, hrf, hW, hR, hB, hG, hrc, hrN⟩
        · rw [hts] at hsd ⊢
          exact ⟨hsd, hQ.s.text, hQ.s.pos, hQ.s.num, hQ.s.st, fun hh => by have : L.s.st = 1 := hh; rw [hQ.st] at this; omega, hQ.s.going⟩
        · rw [hts]; exact hQ.st
        · rw [hts]
      obtain ⟨L', p1, p2⟩ := wait_step h7 h1 hbn hg hi hna d (k + 1) (tickL [] L) hQ' (by omega) (by omega)
      refine ⟨L', p1, fun f n => ?_⟩
      rw [show f + (d + 1 + 1) = (f + (d + 1)) + 1 by omega, run_go hnd, p2]
      congr 1
      omega
end Go.Proofs.Ytpnhnobnjcknjaa.Pe
