import Derived.Test.YtcdmhigmgpflbaaLC3
import Derived.Test.YtcdmhigmgpflbaaLD4
namespace Go.Proofs.Ytcdmhigmgpflbaa.Pe.Lk
open Go.Pe Go.RowKit
set_option maxRecDepth 20000
set_option maxHeartbeats 4000000
set_option linter.unusedSimpArgs false
set_option linter.unusedVariables false

end Go.Proofs.Ytcdmhigmgpflbaa.Pe.Lk


namespace Go.Proofs.Ytcdmhigmgpflbaa.Pe.Lk
open Go.Pe Go.RowKit
set_option maxRecDepth 20000
set_option maxHeartbeats 4000000
set_option linter.unusedSimpArgs false
set_option linter.unusedVariables false

end Go.Proofs.Ytcdmhigmgpflbaa.Pe.Lk


namespace Go.Proofs.Ytcdmhigmgpflbaa.Pe.Lk
open Go.Pe Go.RowKit
set_option maxRecDepth 20000
set_option maxHeartbeats 4000000
set_option linter.unusedSimpArgs false
set_option linter.unusedVariables false

/-- The receiver behind the first i parts of a text. -/
structure RAt (t : List UInt8) (i : Nat) (r : Rcv) : Prop where
  len : r.len = t.length
  got : r.got = if i = partsN t then t else t.take (7 * i - 1)
  st : r.st = if i = partsN t then 3 else 2
  num : 7 < t.length → r.num = ((i % 16 : Nat) : Int)
  err : r.err = 0
  clock : r.clock = 0
theorem RAt.first {t : List UInt8} (h0 : 1 ≤ t.length) (h1 : t.length ≤ 4095) {r : Rcv} (hr : (t.length : Int) ≤ r.room) : ∃ r' a, recvV r ((partsL t)[0]?.getD Pdu.none) = (r', a, decide (7 < t.length)) ∧ RAt t 1 r' ∧
    (a = if 7 < t.length then goP r else Pdu.none) ∧ (7 < t.length → r'.left = if r.block = 0 then -1 else r.block) := by
  by_cases h : t.length ≤ 7
  · have hN : partsN t = 1 := by rw [partsN, if_pos h]
    rw [parts_short h0 h]
    refine ⟨⟨3, t.length, t, 0, 0, r.block, r.gap, 0, r.room, 0⟩, Pdu.none, ?_, ⟨rfl, by simp [hN], by simp [hN], fun h' => by omega, rfl, rfl⟩, by rw [if_neg (by omega)], fun h' => by omega⟩
    rw [decide_eq_false (by omega)]
    simp only [List.getElem?_cons_zero, Option.getD_some, recvV, if_true, beginR]
    rw [if_neg (by omega)]
    rfl
  · obtain ⟨q1, q2, q3⟩ := parts_long (by omega : 7 < t.length) h1
    have hN : partsN t = 1 + t.length / 7 := by rw [partsN, if_neg h]
    rw [q2, decide_eq_true (by omega)]
    refine ⟨⟨2, t.length, t.take 6, 1, (if r.block = 0 then -1 else r.block), r.block, r.gap, 0, r.room, 0⟩, goP r, ?_, ⟨rfl, by rw [if_neg (show ¬ (1 = partsN t) by omega)], by rw [if_neg (show ¬ (1 = partsN t) by omega)], fun _ => rfl, rfl, rfl⟩, by rw [if_pos (show 7 < t.length by omega)], fun _ => rfl⟩
    simp only [Option.getD_some, recvV, if_true, beginR]
    rw [if_neg (by decide), if_neg (by omega), if_neg (by omega)]
    rfl
end Go.Proofs.Ytcdmhigmgpflbaa.Pe.Lk


namespace Go.Proofs.Ytcdmhigmgpflbaa.Pe.Lk
open Go.Pe Go.RowKit
set_option maxRecDepth 20000
set_option maxHeartbeats 4000000
set_option linter.unusedSimpArgs false
set_option linter.unusedVariables false

end Go.Proofs.Ytcdmhigmgpflbaa.Pe.Lk


namespace Go.Proofs.Ytcdmhigmgpflbaa.Pe.Lk
open Go.Pe Go.RowKit
set_option maxRecDepth 20000
set_option maxHeartbeats 4000000
set_option linter.unusedSimpArgs false
set_option linter.unusedVariables false

/-- A receiver behind k ticks more. -/
def skR (k : Nat) (r : Rcv) : Rcv := if r.st = 2 then (if k ≤ 100 then { r with clock := k } else failR { r with clock := 101 } 181) else r
end Go.Proofs.Ytcdmhigmgpflbaa.Pe.Lk


namespace Go.Proofs.Ytcdmhigmgpflbaa.Pe.Lk
open Go.Pe Go.RowKit
set_option maxRecDepth 20000
set_option maxHeartbeats 4000000
set_option linter.unusedSimpArgs false
set_option linter.unusedVariables false

/-- How many parts are left of a block behind i parts. -/
def leftAt (bn i : Nat) : Int := if bn = 0 then -1 else (bn : Int) - ((i - 1) % bn : Nat)
def WAt (t : List UInt8) (bn i : Nat) (r : Rcv) : Prop := i = 0 ∨ (1 ≤ i ∧ RAt t i r ∧ (i < partsN t → r.left = leftAt bn i))
end Go.Proofs.Ytcdmhigmgpflbaa.Pe.Lk

