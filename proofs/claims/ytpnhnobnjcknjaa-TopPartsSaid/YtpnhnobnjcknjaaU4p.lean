import Derived.Test.YtpnhnobnjcknjaaG17
namespace Go.Proofs.Ytpnhnobnjcknjaa.Pe
open Go.Pe Go.RowKit
set_option maxRecDepth 20000
set_option maxHeartbeats 4000000
set_option linter.unusedSimpArgs false
set_option linter.unusedVariables false

/-- How many Go's a receiver says of the first i parts. -/
def gosN (M bn : Nat) : Nat → Nat
  | 0 => 0
  | i + 1 => gosN M bn i + (if i < M ∧ againAt bn i then 1 else 0)
theorem gosN_le (M bn : Nat) : ∀ i, gosN M bn i ≤ i
  | 0 => Nat.le_refl _
  | i + 1 => by
    have := gosN_le M bn i
    unfold gosN
    split <;> omega
theorem gosN_closed (M bn : Nat) : ∀ i, i + 1 ≤ M → gosN M bn (i + 1) = 1 + (if bn = 0 then 0 else i / bn)
  | 0, h => by
    have h0 : 0 < M := h
    show 0 + (if 0 < M ∧ againAt bn 0 then 1 else 0) = _
    rw [if_pos ⟨h0, .inl rfl⟩]
    simp
  | i + 1, h => by
    show gosN M bn (i + 1) + _ = _
    rw [gosN_closed M bn i (by omega)]
    by_cases hb : bn = 0
    · rw [if_pos hb, if_pos hb, if_neg (by rintro ⟨_, h | ⟨h, _⟩⟩ <;> omega)]
    · rw [if_neg hb, if_neg hb]
      have h1 : (i + 1) / bn = i / bn + if bn ∣ i + 1 then 1 else 0 := Nat.succ_div
      by_cases hd : (i + 1) % bn = 0
      · rw [if_pos ⟨by omega, .inr ⟨by omega, hd⟩⟩]
        rw [if_pos (Nat.dvd_of_mod_eq_zero hd)] at h1
        omega
      · rw [if_neg (by rintro ⟨_, h | ⟨_, h⟩⟩; omega; exact hd h)]
        rw [if_neg (fun h => hd (Nat.mod_eq_zero_of_dvd h))] at h1
        omega
theorem gosN_all (M bn : Nat) : gosN M bn (M + 1) = if M = 0 then 0 else 1 + (if bn = 0 then 0 else (M - 1) / bn) := by
  show gosN M bn M + _ = _
  rw [if_neg (show ¬ (M < M ∧ againAt bn M) by omega)]
  cases M with
  | zero => rfl
  | succ M => rw [gosN_closed (M + 1) bn M (Nat.le_refl _)]; simp
/-- One part that is taken, exactly. -/
theorem part_take {t : List UInt8} (h0 : 1 ≤ t.length) (h1 : t.length ≤ 4095) {bn i : Nat} {g : Nat} {r : Rcv} (hroom : r.room = 4095) (hb : r.block = bn) (hg : r.gap = g) (hW : WAt t bn i r) (hi : i < partsN t) (hr : r = recN t 4095 bn g i) :
    ∃ r' a b, recvV r ((partsL t)[i]?.getD Pdu.none) = (r', a, b) ∧ WAt t bn (i + 1) r' ∧ (r'.room = 4095 ∧ r'.block = bn ∧ r'.gap = g) ∧ b = decide (i < t.length / 7 ∧ 7 < t.length ∧ againAt bn i) ∧ a = (if b = true then ⟨4, 0, 0, 0, bn, g, []⟩ else Pdu.none) ∧ r' = recN t 4095 bn g (i + 1) := by
  obtain ⟨r', a, b, q1, q2, q3, q4, q5, _⟩ := whole_step h0 h1 hroom hb hg hW hi
  refine ⟨r', a, b, q1, q2, q3, ?_, q5, ?_⟩
  · have hN : i + 1 < partsN t ↔ i < t.length / 7 ∧ 7 < t.length := by unfold partsN; split <;> omega
    cases b
    · symm
      rw [decide_eq_false_iff_not]
      rintro ⟨x, y, z⟩
      have := q4.2 ⟨hN.2 ⟨x, y⟩, z⟩
      simp at this
    · symm
      rw [decide_eq_true_eq]
      obtain ⟨x, y⟩ := q4.1 rfl
      exact ⟨(hN.1 x).1, (hN.1 x).2, y⟩
  · rw [recN, ← hr, q1]
end Go.Proofs.Ytpnhnobnjcknjaa.Pe
