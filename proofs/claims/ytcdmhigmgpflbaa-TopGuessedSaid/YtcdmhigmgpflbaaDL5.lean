import Derived.Test.YtcdmhigmgpflbaaDL2
namespace Go.Proofs.Ytcdmhigmgpflbaa.Pe
open Go.Pe Go.RowKit
set_option maxRecDepth 20000
set_option maxHeartbeats 4000000
set_option linter.unusedSimpArgs false
set_option linter.unusedVariables false
/-- The server behind so many ticks,in one step. -/
def wrN (w n : Int) : Int := if w ≤ 2 then w else if w - n ≤ 2 then 0 else w - n
def tkN (n : Nat) (s : Srv) : Srv :=
  if 1 ≤ n ∧ s.quiet + n > 50 then { s with ses := 1,op := false,seed := -1,quiet := min (s.quiet + n) 51,wrong := wrN s.wrong n }
  else { s with quiet := min (s.quiet + n) 51,wrong := wrN s.wrong n }
theorem tkN_zero {s : Srv} (h : s.tk) (hq : s.quiet ≤ 51) : tkN 0 s = s := by
  have h1 := h.1
  have h2 := h.2
  unfold tkN wrN
  have e1 : min (s.quiet + ((0 : Nat) : Int)) 51 = s.quiet := by omega
  have e2 : (if s.wrong ≤ 2 then s.wrong else if s.wrong - ((0 : Nat) : Int) ≤ 2 then 0 else s.wrong - ((0 : Nat) : Int)) = s.wrong := by
    split
    · rfl
    · split <;> omega
  rw [if_neg (by omega),e1,e2]
theorem tkN_succ (n : Nat) (s : Srv) (hq : 0 ≤ s.quiet ∧ s.quiet ≤ 51) : tkN n (tick1 s) = tkN (n + 1) s := by
  obtain ⟨ses,op,seed,wrong,quiet,draw,sec,its,dtc⟩ := s
  simp only at hq
  unfold tick1 tickW tickQ tkN wrN
  simp only
  repeat' split
  all_goals (first | (simp only [Srv.mk.injEq,true_and,and_true] at *; omega) | (simp only [Srv.mk.injEq] at *; refine ⟨?_,?_,?_,?_,?_,?_,?_,?_,?_⟩ <;> first | rfl | omega) | omega)
theorem itA_tkN : ∀ (n : Nat) {s : Srv},s.tk → itA tick1 n s = tkN n s
  | 0,s,h => by rw [itA_zero,tkN_zero h h.q.2]
  | n + 1,s,h => by rw [itA_succ,itA_tkN n (tick1_tk h),tkN_succ n s h.q]
theorem tkN_sat {s : Srv} (h : s.tk) {n : Nat} (hn : 60 ≤ n) : tkN n s = tkN 60 s := by
  obtain ⟨⟨q1,q2⟩,w1,w2⟩ := h
  obtain ⟨ses,op,seed,wrong,quiet,draw,sec,its,dtc⟩ := s
  simp only at q1 q2 w1 w2
  unfold tkN wrN
  simp only
  repeat' split
  all_goals (first | (simp only [Srv.mk.injEq,true_and,and_true] at *; omega) | (simp only [Srv.mk.injEq] at *; refine ⟨?_,?_,?_,?_,?_,?_,?_,?_,?_⟩ <;> first | rfl | omega) | omega)
theorem tickDV_eq {s : Srv} (h : s.tk) (n : Int) : tickDV n s = tkN n.toNat s := by
  unfold tickDV
  rw [itA_tkN _ h]
  by_cases hn : n ≤ 60
  · rw [Int.min_eq_left hn]
  · rw [Int.min_eq_right (by omega),tkN_sat h (n := n.toNat) (by omega)]
    rfl
end Go.Proofs.Ytcdmhigmgpflbaa.Pe


namespace Go.Proofs.Ytcdmhigmgpflbaa.Pe
open Go.Pe Go.RowKit
set_option maxRecDepth 20000
set_option maxHeartbeats 4000000
set_option linter.unusedSimpArgs false
set_option linter.unusedVariables false
theorem tickDV_right {s : Srv} (h : RightS s) (n : Int) : RightS (tickDV n s) := itA_right _ h
theorem tick_to {s r : Srv} {n : Int} (h : RightS s) (e : tickDV n s = r) : PureCalls Try.prog 38 [s.pv,PI n] r.pv := e ▸ tickD_calls s n h.tk
end Go.Proofs.Ytcdmhigmgpflbaa.Pe

