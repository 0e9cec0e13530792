import Derived.Test.YtpnhnobnjcknjaaU2
import Derived.Test.YtpnhnobnjcknjaaG15
namespace Go.Proofs.Ytpnhnobnjcknjaa.Pe
open Go.Pe Go.RowKit
set_option maxRecDepth 20000
set_option maxHeartbeats 4000000
set_option linter.unusedSimpArgs false
set_option linter.unusedVariables false

theorem hmore_nil (k : Nat) : hmore [] k = true := by simp [hmore]
/-! ### any hand-over -/
structure HFine (q : Rcv) (H : Hnd) : Prop where
  s : H.s.sound
  r : H.r.fine
  c : sameCfg q H.r
theorem HFine.step {q : Rcv} {lose : List Bool} {H : Hnd} (h : HFine q H) : HFine q (stepH lose H) := by
  obtain ⟨s1, hs1⟩ : ∃ s1, (if H.ans then takeS H.s H.a else H.s) = s1 := ⟨_, rfl⟩
  have hso : s1.sound := by
    rw [← hs1]
    split
    · exact take_sound h.s _
    · exact h.s
  unfold stepH
  rw [hs1]
  by_cases hg : s1.goes = true
  · rw [if_pos hg]
    split
    · exact ⟨next_sound hso, fine_recv h.r (nextP_right hso hg), cfg_recv q _ _ h.c⟩
    · exact ⟨next_sound hso, h.r, h.c⟩
  · rw [if_neg hg]
    exact ⟨tick_sound hso, fine_tick h.r, cfg_tick q _ h.c⟩
theorem HFine.run {q : Rcv} {lose : List Bool} : ∀ (f : Nat) (H : Hnd), HFine q H → HFine q (runH lose f H)
  | 0, _, h => h
  | f + 1, H, h => by
    rw [runH]
    split
    · exact HFine.run f _ h.step
    · exact h
theorem HFine.start {q r : Rcv} {t : List UInt8} {lose : List Bool} (he : newE t = 0) (hr : r.fine) (hc : sameCfg q r) : HFine q (startH t lose r) := by
  unfold startH
  split
  · exact ⟨new_sound, fine_recv hr (newP_right he), cfg_recv q _ _ hc⟩
  · exact ⟨new_sound, hr, hc⟩

/-! ### one that loses nothing -/
structure HAt (t : List UInt8) (bn g : Nat) (R : Int) (i c : Nat) (H : Hnd) : Prop where
  le : i ≤ t.length / 7
  s : SAt t bn g i H.s
  clock : H.s.st = 2 → H.s.clock = c
  cg : c ≤ g
  ans : H.ans = true ↔ i < t.length / 7 ∧ againAt bn i
  a : H.ans = true → H.a = ⟨4, 0, 0, 0, bn, g, []⟩
  c0 : H.ans = true → c = 0
  r : ∃ r, H.r = skR c r ∧ r.fine ∧ WAt t bn (i + 1) r ∧ r.room = R ∧ r.block = bn ∧ r.gap = g
theorem hand_send {t : List UInt8} (h7 : 7 < t.length) (h1 : t.length ≤ 4095) {bn g i c : Nat} {R : Int} (hlR : (t.length : Int) ≤ R) (hbn : bn ≤ 255) (hg : g ≤ 100) (hi : i < t.length / 7) {H : Hnd} (hH : HAt t bn g R i c H) {s1 : Snd} (hs1 : (if H.ans then takeS H.s H.a else H.s) = s1)
    (hgo : s1.goes = true) (hP : (partsL t)[i + 1]? = some (nextP s1)) (hS : SAt t bn g (i + 1) (nextS s1)) (hc : (nextS s1).clock = 0) : HAt t bn g R (i + 1) 0 (stepH [] H) := by
  obtain ⟨r, hr, hrf, hW, hR, hB, hG⟩ := hH.r
  obtain ⟨r', a, b, q1, q2, q3, ⟨q4, q5, q6⟩, q7, q8, q9, q10, _⟩ := recv_part h7 h1 (c := c) hlR (by have := hH.cg; omega) hrf hW hR hB hG (fun h => by omega) (by omega : i + 1 ≤ t.length / 7)
  have hq : recvV H.r (nextP s1) = (r', a, b) := by
    rw [hP] at q1
    rw [hr]
    exact q1
  have hT : stepH [] H = ⟨nextS s1, r', a, b, H.k + 1⟩ := by
    unfold stepH
    rw [hs1, if_pos hgo, hmore_nil, if_pos rfl, hq]
  rw [hT]
  refine ⟨by omega, hS, fun _ => hc, by omega, q7, fun hb => ?_, fun _ => rfl, r', ?_, q2, q3, q4, q5, q6⟩
  · show a = _
    rw [q8, if_pos hb]
  · rw [skR_zero q10]
theorem hand_step {t : List UInt8} (h7 : 7 < t.length) (h1 : t.length ≤ 4095) {bn g i c : Nat} {R : Int} (hlR : (t.length : Int) ≤ R) (hbn : bn ≤ 255) (hg : g ≤ 100) (hi : i < t.length / 7) {H : Hnd} (hH : HAt t bn g R i c H) :
    HAt t bn g R (i + 1) 0 (stepH [] H) ∨ (c < g ∧ HAt t bn g R i (c + 1) (stepH [] H)) := by
  have hpos : H.s.pos = ((7 * i + 6 : Nat) : Int) := by rw [hH.s.pos, if_neg (by omega)]
  by_cases ha : againAt bn i
  · left
    have hb : H.ans = true := hH.ans.2 ⟨hi, ha⟩
    have hst : H.s.st = 1 := by rw [hH.s.st, if_neg (by omega), if_pos ha]
    have htk : takeS H.s H.a = { H.s with st := 2, left := if (bn : Int) = 0 then -1 else (bn : Int), gap := g, clock := g, waits := 0 } := by
      rw [hH.a hb]
      have : H.s.takes ⟨4, 0, 0, 0, bn, g, []⟩ = true := by
        simp [Snd.takes, hst, Pdu.right]
        omega
      rw [takeS, if_pos this, if_neg (by simp), if_neg (by simp)]
    obtain ⟨s1, hs1⟩ : ∃ s1, ({ H.s with st := 2, left := if (bn : Int) = 0 then -1 else (bn : Int), gap := g, clock := g, waits := 0 } : Snd) = s1 := ⟨_, rfl⟩
    have hso : s1.sound := by
      have := take_sound hH.s.sound H.a
      rw [htk, hs1] at this
      exact this
    obtain ⟨s2, s3, s4, s5⟩ := send_at (s := s1) h7 h1 hbn hg hi hso (by rw [← hs1]; exact hH.s.text) (by rw [← hs1]; exact hpos) (by rw [← hs1]; exact hH.s.num) (by rw [← hs1]) (by rw [← hs1]) (by rw [← hs1]; exact Int.le_refl _) (by
      rw [← hs1]
      show (if (bn : Int) = 0 then (-1 : Int) else (bn : Int)) = _
      by_cases hb0 : bn = 0
      · rw [if_pos (by omega), if_pos hb0]
      · rw [if_neg (by omega), if_neg hb0]
        have : i % bn = 0 := by
          rcases ha with h | ⟨_, h⟩
          · rw [h]; exact Nat.zero_mod _
          · exact h
        rw [this, Nat.sub_zero])
    exact hand_send h7 h1 hlR hbn hg hi hH (by rw [hb, if_pos rfl, htk, hs1]) s2 s3 s4 s5
  · have hb : H.ans = false := by
      cases h : H.ans
      · rfl
      · exact absurd (hH.ans.1 h).2 ha
    have hst : H.s.st = 2 := by rw [hH.s.st, if_neg (by omega), if_neg ha]
    have hcl := hH.clock hst
    obtain ⟨hgap, hleft⟩ := hH.s.going hi ha
    have hs1 : (if H.ans then takeS H.s H.a else H.s) = H.s := by rw [hb]; rfl
    by_cases hcg : c = g
    · left
      obtain ⟨s2, s3, s4, s5⟩ := send_at (s := H.s) h7 h1 hbn hg hi hH.s.sound hH.s.text hpos hH.s.num hst hgap (by rw [hcl]; omega) hleft
      exact hand_send h7 h1 hlR hbn hg hi hH hs1 s2 s3 s4 s5
    · right
      have hcg' := hH.cg
      have hgo : H.s.goes = false := by simp [Snd.goes, hst, hgap, hcl]; omega
      have hwk : IntKind.wrap .i64 ((c : Int) + 1) = ((c + 1 : Nat) : Int) := wrapIN (by omega)
      have hts : tickS H.s = { H.s with clock := ((c + 1 : Nat) : Int) } := by
        unfold tickS
        rw [if_pos (.inr hst), hcl, hwk]
        simp only
        rw [if_neg (show ¬ ((1099511627776 : Int) < ((c + 1 : Nat) : Int)) by omega), if_neg (by rw [hst]; omega)]
      have hsd := tick_sound hH.s.sound
      obtain ⟨r, hr, hrf, hW, hR, hB, hG⟩ := hH.r
      have hT : stepH [] H = ⟨tickS H.s, tickV H.r, H.a, false, H.k⟩ := by
        unfold stepH
        rw [hs1, if_neg (by rw [hgo]; decide)]
      rw [hT]
      refine ⟨by omega, hH.le, ?_, fun _ => by rw [hts], by omega, ⟨fun h => (by cases h), fun h => absurd h.2 ha⟩, fun h => (by cases h), fun h => (by cases h), r, ?_, hrf, hW, hR, hB, hG⟩
      · rw [hts] at hsd ⊢
        exact ⟨hsd, hH.s.text, hH.s.pos, hH.s.num, hH.s.st, fun hh => by have : H.s.st = 1 := hh; rw [hst] at this; omega, hH.s.going⟩
      · show tickV H.r = _
        rw [hr, skR_tick]
theorem hand_run {t : List UInt8} (h7 : 7 < t.length) (h1 : t.length ≤ 4095) {bn g : Nat} {R : Int} (hlR : (t.length : Int) ≤ R) (hbn : bn ≤ 255) (hg : g ≤ 100) : ∀ (m i c f : Nat) (H : Hnd), HAt t bn g R i c H → (t.length / 7 - i) * (g + 1) + (g - c) ≤ m + g → m ≤ f → c ≤ g →
    ∃ c', HAt t bn g R (t.length / 7) c' (runH [] f H) := by
  have hend : ∀ (c f : Nat) (H : Hnd), HAt t bn g R (t.length / 7) c H → ∃ c', HAt t bn g R (t.length / 7) c' (runH [] f H) := by
    intro c f H hH
    have hst : H.s.st = 3 := by rw [hH.s.st, if_pos rfl]
    have hl : liveH H = false := by simp [liveH, hst]
    cases f with
    | zero => exact ⟨c, hH⟩
    | succ f => rw [runH, hl]; exact ⟨c, hH⟩
  have hmul : ∀ i, i < t.length / 7 → (t.length / 7 - i) * (g + 1) = (t.length / 7 - (i + 1)) * (g + 1) + (g + 1) := by
    intro i hi
    rw [show t.length / 7 - i = (t.length / 7 - (i + 1)) + 1 by omega, Nat.add_mul]
    omega
  intro m
  induction m with
  | zero =>
    intro i c f H hH hm hf hc
    by_cases hi : i = t.length / 7
    · subst hi; exact hend c f H hH
    · have hle := hH.le
      have := hmul i (by omega)
      omega
  | succ m ih =>
    intro i c f H hH hm hf hc
    by_cases hi : i = t.length / 7
    · subst hi; exact hend c f H hH
    · have hle := hH.le
      have hlt : i < t.length / 7 := by omega
      have hd := hmul i hlt
      obtain ⟨f, rfl⟩ : ∃ f', f = f' + 1 := ⟨f - 1, by omega⟩
      have hl : liveH H = true := by
        have : H.s.st = 1 ∨ H.s.st = 2 := by
          rw [hH.s.st, if_neg hi]
          split
          · exact .inl rfl
          · exact .inr rfl
        simp [liveH]; exact this
      rw [runH, hl, if_pos rfl]
      rcases hand_step h7 h1 hlR hbn hg hlt hH with h | ⟨hc', h⟩
      · exact ih (i + 1) 0 f _ h (by omega) (by omega) (by omega)
      · exact ih i (c + 1) f _ h (by omega) (by omega) (by omega)
theorem hand_text {t : List UInt8} (h0 : 1 ≤ t.length) (h1 : t.length ≤ 200) {bn g : Nat} (hbn : bn ≤ 255) (hg : g ≤ 7) {q : Rcv} (hq : sameCfg (freshR 4095 bn g) q) (hqf : q.fine) :
    (runH [] 3000 (startH t [] q)).s.st = 3 ∧ (runH [] 3000 (startH t [] q)).s.pos = t.length ∧ (runH [] 3000 (startH t [] q)).r.st = 3 ∧ (runH [] 3000 (startH t [] q)).r.got = t ∧ (runH [] 3000 (startH t [] q)).r.room = 4095 := by
  have hst : startH t [] q = ⟨newS t, (recvV q (newP t)).1, (recvV q (newP t)).2.1, (recvV q (newP t)).2.2, 0⟩ := by rw [startH, hmore_nil, if_pos rfl]
  have hp0 : (partsL t)[0]?.getD Pdu.none = newP t := by
    by_cases h7 : t.length ≤ 7
    · rw [parts_short h0 h7, newP, if_neg (by omega), if_pos h7]; rfl
    · rw [(parts_long (by omega) (by omega)).2.1, newP, if_neg (by omega), if_neg h7]; rfl
  obtain ⟨r1, a1, q1, q2, q3, q4⟩ := RAt.first (t := t) (r := freshR 4095 bn g) h0 (by omega) (show (t.length : Int) ≤ 4095 by omega)
  rw [hp0] at q1
  have hk : (newP t).k = 1 ∨ (newP t).k = 2 := by
    unfold newP
    rw [if_neg (by omega)]
    split
    · exact .inl rfl
    · exact .inr rfl
  have hqr : recvV q (newP t) = (r1, a1, decide (7 < t.length)) := by rw [recv_anew hq hk]; exact q1
  rw [hst, hqr]
  have hcfg : sameCfg (freshR 4095 bn g) r1 := by
    have := cfg_recv (freshR 4095 bn g) (freshR 4095 bn g) (newP t) ⟨rfl, rfl, rfl⟩
    rw [q1] at this
    exact this
  by_cases h7 : t.length ≤ 7
  · have hs : newS t = ⟨3, t, t.length, 0, -1, 0, 0, 0, 0⟩ := by rw [newS, if_neg (by omega), if_pos h7]
    have hN : partsN t = 1 := by rw [partsN, if_pos h7]
    have hrun : runH [] 3000 ⟨newS t, r1, a1, decide (7 < t.length), 0⟩ = ⟨newS t, r1, a1, decide (7 < t.length), 0⟩ := by
      show runH [] (2999 + 1) _ = _
      rw [runH, hs]
      rfl
    rw [hrun, hs]
    exact ⟨rfl, rfl, by rw [q2.st, if_pos hN.symm], by rw [q2.got, if_pos hN.symm], hcfg.1⟩
  · have hs : newS t = ⟨1, t, 6, 1, -1, 0, 0, 0, 0⟩ := by rw [newS, if_neg (by omega), if_neg h7]
    have hM : 1 ≤ t.length / 7 := by omega
    have hN : partsN t = 1 + t.length / 7 := by rw [partsN, if_neg h7]
    have hsnd := new_sound (t := t)
    rw [hs] at hsnd ⊢
    have hfine : r1.fine := by
      have := fine_recv hqf (newP_right (t := t) (by rw [newE, if_neg (by omega), if_neg (by omega)]))
      rw [hqr] at this
      exact this
    have hH : HAt t bn g 4095 0 0 ⟨⟨1, t, 6, 1, -1, 0, 0, 0, 0⟩, r1, a1, decide (7 < t.length), 0⟩ := by
      refine ⟨by omega, ⟨hsnd, rfl, by rw [if_neg (by omega)]; rfl, rfl, by rw [if_neg (by omega), if_pos (.inl rfl)], fun _ => (show (0 : Int) ≤ 100 by decide), fun _ hh => absurd (.inl rfl) hh⟩, fun h => (by cases h), by omega, ?_, fun _ => ?_, fun _ => rfl, r1, (skR_zero q2.clock).symm, hfine, .inr ⟨by omega, q2, fun _ => ?_⟩, hcfg.1, hcfg.2.1, hcfg.2.2⟩
      · show decide (7 < t.length) = true ↔ _
        rw [decide_eq_true_eq]
        exact ⟨fun _ => ⟨by omega, .inl rfl⟩, fun _ => by omega⟩
      · show a1 = _
        rw [q3, if_pos (by omega)]
        rfl
      · rw [q4 (by omega), leftAt]
        show (if (bn : Int) = 0 then -1 else (bn : Int)) = _
        by_cases hz : bn = 0
        · rw [if_pos (by omega), if_pos hz]
        · rw [if_neg (by omega), if_neg hz]
          simp
    have hmul : t.length / 7 * (g + 1) ≤ 28 * 8 := Nat.mul_le_mul (by omega) (by omega)
    obtain ⟨c', hE⟩ := hand_run (by omega) (by omega) (show (t.length : Int) ≤ 4095 by omega) hbn (by omega) 3000 0 0 3000 _ hH (by rw [Nat.sub_zero]; omega) (Nat.le_refl _) (by omega)
    obtain ⟨r, hr, hrf, hW, hR, hB, hG⟩ := hE.r
    have hst3 : r.st = 3 ∧ r.got = t := by
      rcases hW with h | ⟨_, hA, _⟩
      · omega
      · exact ⟨by rw [hA.st, if_pos (by omega)], by rw [hA.got, if_pos (by omega)]⟩
    have hre : (runH [] 3000 ⟨⟨1, t, 6, 1, -1, 0, 0, 0, 0⟩, r1, a1, decide (7 < t.length), 0⟩).r = r := by rw [hr, skR_off (by rw [hst3.1]; decide)]
    refine ⟨by rw [hE.s.st, if_pos rfl], by rw [hE.s.pos, if_pos rfl], ?_, ?_, ?_⟩
    · rw [hre]; exact hst3.1
    · rw [hre]; exact hst3.2
    · rw [hre]; exact hR
end Go.Proofs.Ytpnhnobnjcknjaa.Pe
