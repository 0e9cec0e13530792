import Derived.Test.YtcdmhigmgpflbaaGreatDI20
set_option maxRecDepth 20000
set_option maxHeartbeats 4000000
set_option linter.unusedSimpArgs false
set_option linter.unusedVariables false
namespace Go.Proofs.YtcdmhigmgpflbaaGreat.Pe
open Go.Pe Go.RowKit
structure Op22 where
  n : Int
  q : List UInt8
  is : Bool
def Op22.row (o : Op22) : List PV := [PI o.n,bytesPV o.q,PB o.is]
end Go.Proofs.YtcdmhigmgpflbaaGreat.Pe
namespace Go.Proofs.YtcdmhigmgpflbaaGreat.Pe
open Go.Pe Go.RowKit
theorem itN_lt {f : Nat → Nat} {m : Nat} (hf : ∀ x,f x < m) : ∀ (n : Nat) {x : Nat},x < m → itN f n x < m
  | 0,x,h => by rw [itN_zero]; exact h
  | n + 1,x,_ => by rw [itN_succ]; exact itN_lt hf n (hf x)
theorem itN_keyS_lt (s n : Nat) {x : Nat} (h : x < 4294967296) : itN (keyS s) n x < 4294967296 := itN_lt (fun x => keyS_lt s x) n h
theorem keyV_wide (a sec : Int) : 0 ≤ keyV a sec ∧ keyV a sec ≤ 4294967295 := by
  have := itN_keyS_lt (nat32 sec) 3 (xor_lt (nat32_lt a) (nat32_lt sec))
  unfold keyV
  omega
end Go.Proofs.YtcdmhigmgpflbaaGreat.Pe
namespace Go.Proofs.YtcdmhigmgpflbaaGreat.Pe
open Go.Pe Go.RowKit
def isH (c : UInt8) : Prop := c = 0x34 ∨ c = 0x36 ∨ c = 0x37
instance (c : UInt8) : Decidable (isH c) := by unfold isH; infer_instance
end Go.Proofs.YtcdmhigmgpflbaaGreat.Pe
