import Derived.Test.YtcdmhigmgpflbaaDL2
import Derived.Test.YtcdmhigmgpflbaaDL4
namespace Go.Proofs.Ytcdmhigmgpflbaa.Pe
open Go.Pe Go.RowKit
set_option maxRecDepth 20000
set_option maxHeartbeats 4000000
set_option linter.unusedSimpArgs false
set_option linter.unusedVariables false
theorem askV_quiet (s : Srv) (c : UInt8) (r : List UInt8) : (askV s (c :: r)).1.quiet = 0 := by
  unfold askV
  have h : ({ s with quiet := 0 } : Srv).quiet = 0 := rfl
  revert h
  generalize ({ s with quiet := 0 } : Srv) = t
  intro h
  simp only
  split
  · unfold sesA; repeat' split
    all_goals exact h
  split
  · unfold unlA seedA keyA; repeat' split
    all_goals exact h
  split
  · unfold readA; repeat' split
    all_goals exact h
  split
  · unfold writeA; repeat' split
    all_goals exact h
  split
  · unfold forgetA; repeat' split
    all_goals exact h
  split
  · unfold maskA; repeat' split
    all_goals exact h
  split
  · unfold hereA; repeat' split
    all_goals exact h
  split
  · unfold handA; repeat' split
    all_goals exact h
  · exact h
theorem tick_long {s : Srv} (h : s.tk) {n : Int} (hn : n > 50) : (tickDV n s).ses = 1 ∧ (tickDV n s).op = false ∧ (tickDV n s).seed = -1 := by
  have := h.q
  rw [tickDV_eq h]
  unfold tkN
  rw [if_pos (by omega)]
  exact ⟨rfl, rfl, rfl⟩
theorem tick_short {s : Srv} (h : s.tk) {n : Int} (h0 : 0 ≤ n) (hn : s.quiet + n ≤ 50) : (tickDV n s).ses = s.ses ∧ (tickDV n s).op = s.op ∧ (tickDV n s).seed = s.seed := by
  rw [tickDV_eq h]
  unfold tkN
  rw [if_neg (by omega)]
  exact ⟨rfl, rfl, rfl⟩
theorem tickDV_right {s : Srv} (h : RightS s) (n : Int) : RightS (tickDV n s) := itA_right _ h
theorem tick_to {s r : Srv} {n : Int} (h : RightS s) (e : tickDV n s = r) : PureCalls Try.prog 38 [s.pv, PI n] r.pv := e ▸ tickD_calls s n h.tk
theorem same_self {s : Srv} (h : RightS s) : PureCalls Try.prog 34 [s.pv, s.pv] (PB true) := same_at (by simp) h.fits.items h.fits.dtc
end Go.Proofs.Ytcdmhigmgpflbaa.Pe
