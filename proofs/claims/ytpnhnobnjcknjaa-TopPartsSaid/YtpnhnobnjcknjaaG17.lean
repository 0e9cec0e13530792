import Derived.Test.YtpnhnobnjcknjaaG16
namespace Go.Proofs.Ytpnhnobnjcknjaa.Pe
open Go.Pe Go.RowKit
set_option maxRecDepth 20000
set_option maxHeartbeats 4000000
set_option linter.unusedSimpArgs false
set_option linter.unusedVariables false

def tT (bn g : Nat) : Nat → Nat
  | 0 => 0
  | i + 1 => tT bn g i + gapAt bn g i
theorem tT_closed (bn g : Nat) : ∀ i, tT bn g (i + 1) + 1 = tkN i bn (max g 1)
  | 0 => by
    have : tkN 0 bn (max g 1) = 2 := by unfold tkN; simp
    rw [this]
    show 0 + gapAt bn g 0 + 1 = 2
    rw [gapAt, if_pos (.inl rfl)]
  | i + 1 => by
    show tT bn g (i + 1) + gapAt bn g (i + 1) + 1 = _
    have h1 := tT_closed bn g i
    have h2 := tkN_step i bn (max g 1)
    have h3 : gapAt bn g (i + 1) = if bn ≠ 0 ∧ (i + 1) % bn = 0 then 1 else max g 1 := by
      unfold gapAt
      by_cases h : bn ≠ 0 ∧ (i + 1) % bn = 0
      · rw [if_pos h, if_pos (.inr ⟨by omega, h.2⟩)]
      · rw [if_neg h, if_neg (fun hh => by
          rcases hh with hh | hh
          · omega
          · exact h ⟨by omega, hh.2⟩)]
    omega
theorem reach {t : List UInt8} (h7 : 7 < t.length) (h1 : t.length ≤ 4095) {bn g : Nat} {R : Int} (hlR : (t.length : Int) ≤ R) (hbn : bn ≤ 255) (hg : g ≤ 100) {L0 : Lnk} (h0 : PAt t bn g R 0 L0) :
    ∀ i, i ≤ t.length / 7 → ∃ L, PAt t bn g R i L ∧ ∀ f, runL [] (f + tT bn g i) 0 L0 = runL [] f (tT bn g i) L
  | 0, _ => ⟨L0, h0, fun f => rfl⟩
  | i + 1, hi => by
    obtain ⟨L, p1, p2⟩ := reach h7 h1 hlR hbn hg h0 i (by omega)
    obtain ⟨L', q1, q2⟩ := part_step h7 h1 hlR hbn hg (by omega) p1
    refine ⟨L', q1, fun f => ?_⟩
    show runL [] (f + (tT bn g i + gapAt bn g i)) 0 L0 = runL [] f (tT bn g i + gapAt bn g i) L'
    rw [show f + (tT bn g i + gapAt bn g i) = (f + gapAt bn g i) + tT bn g i by omega, p2, q2]
theorem tkN_le2 (s b G : Nat) : tkN s b G ≤ 2 + s + s * G := by
  unfold tkN
  have h1 : (if b = 0 then 0 else s / b) ≤ s := by split; omega; exact Nat.div_le_self _ _
  have h2 : (s - (if b = 0 then 0 else s / b)) * G ≤ s * G := Nat.mul_le_mul_right G (by omega)
  omega
/-- A talk that loses nothing. -/
theorem play_passes {t : List UInt8} (h0 : 1 ≤ t.length) (h1 : t.length ≤ 4095) {bn g : Nat} {R : Int} (hlR : (t.length : Int) ≤ R) (hbn : bn ≤ 255) (hg : g ≤ 100) (hgr : (t.length / 7 + 1) * (g + 2) ≤ 6000) :
    ∃ s r n, playV t R bn g [] = (s, r, n) ∧ s.st = 3 ∧ r.st = 3 ∧ r.got = t ∧ (n : Int) = ticksV t.length bn g ∧ s.pos = t.length ∧ s.text = t ∧ r = recN t R bn g (partsN t) := by
  have he : newE t = 0 := by rw [newE, if_neg (by omega), if_neg (by omega)]
  rw [playV, if_pos he]
  by_cases h7 : t.length ≤ 7
  · have hs : newS t = ⟨3, t, t.length, 0, -1, 0, 0, 0, 0⟩ := by rw [newS, if_neg (by omega), if_pos h7]
    have hp : newP t = ⟨1, t.length, 0, 0, 0, 0, t⟩ := by rw [newP, if_neg (by omega), if_pos h7]
    have hq : recvV (freshR R bn g) ⟨1, t.length, 0, 0, 0, 0, t⟩ = (⟨3, t.length, t, 0, 0, bn, g, 0, R, 0⟩, Pdu.none, false) := by
      have : ¬ (freshR R bn g).room < (t.length : Int) := by show ¬ R < _; omega
      simp only [recvV, if_true, beginR, if_neg this]
      rfl
    have hst : startL t R bn g [] = ⟨⟨3, t, t.length, 0, -1, 0, 0, 0, 0⟩, freshR R bn g, ⟨[⟨1, t.length, 0, 0, 0, 0, t⟩], []⟩, ⟨[], []⟩, 1⟩ := by rw [startL, hs, hp, fateL_nil, putW_pass]; rfl
    have hrun : runL [] 100000 0 (startL t R bn g []) = (⟨⟨3, t, t.length, 0, -1, 0, 0, 0, 0⟩, ⟨3, t.length, t, 0, 0, bn, g, 0, R, 0⟩, ⟨[], []⟩, ⟨[], []⟩, 1⟩, 1) := by
      rw [hst]
      show runL [] (99999 + 1) 0 _ = _
      rw [run_go (by simp [doneL])]
      have ht : tickL [] ⟨⟨3, t, t.length, 0, -1, 0, 0, 0, 0⟩, freshR R bn g, ⟨[⟨1, t.length, 0, 0, 0, 0, t⟩], []⟩, ⟨[], []⟩, 1⟩ = ⟨⟨3, t, t.length, 0, -1, 0, 0, 0, 0⟩, ⟨3, t.length, t, 0, 0, bn, g, 0, R, 0⟩, ⟨[], []⟩, ⟨[], []⟩, 1⟩ := by
        simp [tickL, recvAll, hq, takeAll, nextS, Snd.goes, tickS, tickV]
      rw [ht]
      show runL [] (99998 + 1) 1 _ = _
      rw [run_done (by simp [doneL])]
    rw [hrun]
    refine ⟨_, _, _, rfl, rfl, rfl, rfl, ?_, rfl, rfl, ?_⟩
    · rw [tk_of (by omega) h1 hbn (by omega), if_pos h7]
    · rw [partsN, if_pos h7, recN, recN, parts_short (by omega) h7]
      show _ = (recvV (freshR R bn g) ⟨1, t.length, 0, 0, 0, 0, t⟩).1
      rw [hq]
  have hs : newS t = ⟨1, t, 6, 1, -1, 0, 0, 0, 0⟩ := by rw [newS, if_neg (by omega), if_neg h7]
  have hp : newP t = ⟨2, t.length, 0, 0, 0, 0, t.take 6⟩ := by rw [newP, if_neg (by omega), if_neg h7]
  have hM : 1 ≤ t.length / 7 := by omega
  have hsnd := new_sound (t := t)
  have hP : PAt t bn g R 0 (startL t R bn g []) := by
    rw [startL, hs, hp, fateL_nil, putW_pass]
    rw [hs] at hsnd
    refine ⟨by omega, by rw [(parts_long (by omega) h1).2.1]; rfl, rfl, ⟨hsnd, rfl, by rw [if_neg (by omega)]; rfl, rfl, by rw [if_neg (by omega), if_pos (.inl rfl)], fun _ => (show (0 : Int) ≤ 100 by decide), fun _ hh => absurd (.inl rfl) hh⟩, fun hh => (by cases hh), freshR R bn g, 0, ?_, by omega, ?_, .inl rfl, rfl, rfl, rfl, fun _ hh => (by cases hh), rfl⟩
    · rw [skR_off (show (0 : Int) ≠ 2 by decide)]
    · simp [freshR, Rcv.fine]; omega
  obtain ⟨L, p1, p2⟩ := reach (by omega) h1 hlR hbn hg hP (t.length / 7) (Nat.le_refl _)
  have hc := tT_closed bn g (t.length / 7 - 1)
  rw [show t.length / 7 - 1 + 1 = t.length / 7 by omega] at hc
  have hle := tkN_le2 (t.length / 7 - 1) bn (max g 1)
  have hle2 : (t.length / 7 - 1) * (max g 1) ≤ (t.length / 7 + 1) * (g + 2) := Nat.mul_le_mul (by omega) (by omega)
  obtain ⟨L', q1, q2, q3, q4, q5, q6⟩ := last_step (by omega) h1 hlR p1 (100000 - tT bn g (t.length / 7) - 2) (tT bn g (t.length / 7))
  have hrun : runL [] 100000 0 (startL t R bn g []) = (L', tT bn g (t.length / 7) + 1) := by
    have := p2 (100000 - tT bn g (t.length / 7) - 2 + 2)
    rw [show 100000 - tT bn g (t.length / 7) - 2 + 2 + tT bn g (t.length / 7) = 100000 by omega] at this
    rw [this, q1]
  rw [hrun]
  refine ⟨_, _, _, rfl, q2, q3, q4, ?_, ?_, ?_, ?_⟩
  · rw [tk_of (by omega) h1 hbn (by omega), if_neg h7]
    omega
  · rw [q5, p1.s.pos, if_pos rfl]
  · rw [q5, p1.s.text]
  · rw [q6, partsN, if_neg h7, Nat.add_comm]
end Go.Proofs.Ytpnhnobnjcknjaa.Pe
