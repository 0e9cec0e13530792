import Derived.Test.YtcdmhigmgpflbaaTab1
import Derived.Test.YtcdmhigmgpflbaaPeB
namespace Go.Proofs.Ytcdmhigmgpflbaa.Pe
open Go.Pe Go.RowKit
set_option maxRecDepth 20000
set_option maxHeartbeats 4000000
set_option linter.unusedSimpArgs false
set_option linter.unusedVariables false

structure Trb where
  id : Int
  st : Int
  sc : Int
  ca : Int
  deriving DecidableEq
def Trb.cells (t : Trb) : List PV := [PI t.id,PI t.st,PI t.sc,PI t.ca]
def Trb.pv (t : Trb) : PV := .agg t.cells
abbrev trbRows (l : List Trb) : List (List PV) := l.map Trb.cells
abbrev trbsPV (l : List Trb) : PV := .im 4 (trbRows l)
theorem trbRows_get {l : List Trb} {i : Nat} (h : i < l.length) : (trbRows l).getD i [] = l[i].cells := by
  simp [trbRows,List.getD_eq_getElem?_getD,h]
theorem trbRows_len (l : List Trb) : (trbRows l).length = l.length := by simp
theorem wrapI64 {x : Int} (h : -9223372036854775808 ≤ x ∧ x ≤ 9223372036854775807) : IntKind.wrap .i64 x = x := by
  rw [IntKind.wrap_i64]; omega
theorem wrapIN {i : Nat} (h : i < 9223372036854775807) : IntKind.wrap .i64 ((i : Int) + 1) = ((i + 1 : Nat) : Int) := by rw [wrapI64 (by omega)]; omega
/-- Has a status a bit? -/
def hasV (st bit : Int) : Bool := !decide (bitsA .and .i64 st bit = 0)
theorem clear_calls (l : List Trb) : PureCalls Try.prog 169 [trbsPV l] (trbsPV []) := by
  refine PureCalls.of tabOK mixed Try.func169 rfl rfl (by decide +kernel) (by simp [Try.ntmps169]) ?_
  simp only [go_sem,Nat.reduceAdd,Nat.reduceSub,Nat.reduceMul,Nat.reduceLT,Nat.reduceLeDiff,Nat.reduceEqDiff,Nat.reduceBEq,Int.reduceToNat,Int.reduceLT,Int.reduceLE,Int.reduceEq,Int.reduceNe,Int.reduceAdd,Int.reduceSub,Int.reduceMul,Int.reduceNeg,↓reduceIte,reduceCtorEq,Try.ntmps169,Try.results169]
end Go.Proofs.Ytcdmhigmgpflbaa.Pe

