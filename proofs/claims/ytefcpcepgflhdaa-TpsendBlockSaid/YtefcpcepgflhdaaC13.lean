import Derived.Test.YtefcpcepgflhdaaC11
namespace Go.Proofs.Ytefcpcepgflhdaa.Pe
open Go.Pe Go.RowKit
set_option maxRecDepth 20000
set_option maxHeartbeats 4000000
set_option linter.unusedSimpArgs false

/-- What the law's own counts say of the sender. -/
def BInv (i : Nat) (s : Snd) (left gap clock : Int) : Prop :=
  s.ok ∧ 0 ≤ left ∧ left ≤ 5000 ∧ 0 ≤ clock ∧ clock ≤ 127 + i ∧
  (s.st = 2 → gap = s.gap ∧ clock = s.clock ∧ ((s.left = -1 ∧ 5000 - (i : Int) ≤ left) ∨ (s.left = left ∧ 1 ≤ left)))
theorem BInv.tick {i : Nat} {s : Snd} {left gap clock : Int} (h : BInv i s left gap clock) (hi : i ≤ 120) : BInv (i + 1) (tickS s) left gap (clock + 1) := by
  obtain ⟨h1, h2, h3, h4, h5, h6⟩ := h
  unfold tickS
  generalize hc : (if 1099511627776 < IntKind.wrap .i64 (s.clock + 1) then 1099511627776 else IntKind.wrap .i64 (s.clock + 1)) = c
  dsimp only
  by_cases hst : s.st = 1 ∨ s.st = 2
  · rw [if_pos hst]
    by_cases hf : s.st = 1 ∧ 100 < c
    · rw [if_pos hf]
      refine ⟨h1, h2, h3, by omega, by omega, fun h => ?_⟩
      simp at h
    · rw [if_neg hf]
      refine ⟨h1, h2, h3, by omega, by omega, fun h => ?_⟩
      simp only at h
      obtain ⟨q1, q2, q3⟩ := h6 h
      have hw : IntKind.wrap .i64 (s.clock + 1) = s.clock + 1 := wrapI64 (by omega)
      rw [hw, if_neg (by omega)] at hc
      refine ⟨q1, ?_, ?_⟩
      · simp only
        omega
      · rcases q3 with ⟨a, b⟩ | q3
        · exact .inl ⟨a, by omega⟩
        · exact .inr q3
  · rw [if_neg hst]
    refine ⟨h1, h2, h3, by omega, by omega, fun h => absurd (.inr h) hst⟩
theorem BInv.next {i : Nat} {s : Snd} {left gap clock : Int} (h : BInv i s left gap clock) (hi : i ≤ 120) (hg : s.goes = true) : 1 ≤ left ∧ gap ≤ clock ∧ BInv (i + 1) (nextS s) (left - 1) gap 0 := by
  obtain ⟨h1, h2, h3, h4, h5, h6⟩ := h
  simp only [Snd.goes, Bool.and_eq_true, decide_eq_true_eq, Bool.not_eq_true', decide_eq_false_iff_not] at hg
  obtain ⟨q1, q2, q3⟩ := h6 hg.1
  have hgo : s.goes = true := by simp [Snd.goes, hg.1, hg.2]
  refine ⟨by omega, by omega, ?_⟩
  obtain ⟨o1, o2, o3⟩ := h1
  unfold nextS
  rw [if_pos hgo]
  refine ⟨⟨?_, ?_, o3⟩, by omega, by omega, by omega, by omega, fun h => ?_⟩
  · simp only [nextTo]; split <;> omega
  · simp only [nextTo]; split <;> omega
  · simp only [nextT] at h
    refine ⟨q1, rfl, ?_⟩
    simp only [nextL]
    split at h
    · cases h
    · rename_i hto
      rw [if_neg hto]
      split at h
      · rename_i hl
        rw [if_pos hl]
        rcases q3 with ⟨a, b⟩ | ⟨a, b⟩
        · exact .inl ⟨a, by omega⟩
        · omega
      · rename_i hl
        rw [if_neg hl]
        split at h
        · cases h
        · rename_i hz
          rcases q3 with ⟨a, b⟩ | ⟨a, b⟩
          · exact absurd a hl
          · have hw : IntKind.wrap .i64 (s.left - 1) = s.left - 1 := wrapI64 (by omega)
            rw [hw] at hz ⊢
            exact .inr ⟨by omega, by omega⟩
def Snd.asks (s : Snd) (p : Pdu) : Bool := decide (s.st = 1) && p.right && decide (p.k = 4) && decide (p.s = 0)
theorem BInv.take {i : Nat} {s : Snd} {left gap clock : Int} (h : BInv i s left gap clock) (p : Pdu) (hp : s.asks p = true) : BInv (i + 1) (takeS s p) (if p.b = 0 then 5000 else p.b) p.g p.g := by
  obtain ⟨h1, h2, h3, h4, h5, h6⟩ := h
  simp only [Snd.asks, Bool.and_eq_true, decide_eq_true_eq] at hp
  obtain ⟨⟨⟨a1, a2⟩, a3⟩, a4⟩ := hp
  have ht : s.takes p = true := by simp [Snd.takes, a1, a2, a3]
  have hb : 0 ≤ p.b ∧ p.b ≤ 255 ∧ 0 ≤ p.g ∧ p.g ≤ 127 := by
    simp [Pdu.right, a3] at a2
    omega
  unfold takeS
  rw [if_pos ht, if_neg (by omega), if_neg (by omega)]
  refine ⟨h1, by split <;> omega, by split <;> omega, by omega, by omega, fun _ => ⟨rfl, rfl, ?_⟩⟩
  by_cases hz : p.b = 0
  · left; simp [hz]; omega
  · right; simp [hz]; omega
theorem BInv.pass {i : Nat} {s : Snd} {left gap clock : Int} (h : BInv i s left gap clock) (p : Pdu) (hp : s.asks p = false) : BInv (i + 1) (takeS s p) left gap clock := by
  obtain ⟨h1, h2, h3, h4, h5, h6⟩ := h
  unfold takeS
  split
  · rename_i ht
    have hne : ¬ p.s = 0 := by
      intro h
      simp [Snd.takes] at ht
      simp [Snd.asks, ht, h] at hp
    simp only [Snd.takes, Bool.and_eq_true, decide_eq_true_eq] at ht
    have hst := ht.1.1
    split
    · exact ⟨h1, h2, h3, h4, by omega, fun h => by simp at h⟩
    · split
      · split
        · exact ⟨h1, h2, h3, h4, by omega, fun h => by simp at h⟩
        · exact ⟨h1, h2, h3, h4, by omega, fun h => by simp only at h; omega⟩
      · rename_i n2 n1
        have : 0 ≤ p.s ∧ p.s ≤ 2 := by
          have := ht.2
          simp [Pdu.right, ht.1.2] at this
          omega
        omega
  · refine ⟨h1, h2, h3, h4, by omega, fun h => ?_⟩
    obtain ⟨q1, q2, q3⟩ := h6 h
    refine ⟨q1, q2, ?_⟩
    rcases q3 with ⟨a, b⟩ | q3
    · exact .inl ⟨a, by omega⟩
    · exact .inr q3
end Go.Proofs.Ytefcpcepgflhdaa.Pe
