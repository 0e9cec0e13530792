import Derived.Test.YtcdmhigmgpflbaaDL9
namespace Go.Proofs.Ytcdmhigmgpflbaa.Pe
open Go.Pe Go.RowKit
set_option maxRecDepth 20000
set_option maxHeartbeats 4000000
set_option linter.unusedSimpArgs false
set_option linter.unusedVariables false
theorem u8of_val (n : Int) : ((u8of n).toNat : Int) = n % 256 := by rw [← u8of_eq,IntKind.wrap_u8]
theorem ask_seed {s : Srv} (hw : s.wrong ≤ 2) (hs : s.ses ≠ 1) (ho : s.op = false) : askV s [0x27,1] = ({ s with quiet := 0,seed := s.draw,draw := nextDraw s.draw },0x67 :: 1 :: fourV s.draw,false) := by
  have e : askV s [0x27,1] = seedA { s with quiet := 0 } := rfl
  rw [e,seedA,if_neg (fun h => h hw),if_neg hs,if_neg (by simp [ho])]
  rfl
theorem ask_key {s : Srv} (k : List UInt8) (hk : k.length = 4) : askV s (0x27 :: 2 :: k) = keyA { s with quiet := 0 } k := by
  have e : askV s (0x27 :: 2 :: k) = if k.length = 4 then keyA { s with quiet := 0 } k else denyA { s with quiet := 0 } 0x27 0x13 := rfl
  rw [e,if_pos hk]
theorem ask_key_good {s : Srv} (hw : s.wrong ≤ 2) (hs : s.ses ≠ 1) (hsd : s.seed ≥ 0) : askV s (0x27 :: 2 :: fourV (keyV s.seed s.sec)) = ({ s with quiet := 0,op := true,seed := -1,wrong := 0 },[0x67,2],false) := by
  rw [ask_key _ (fourV_len _),keyA,if_neg (fun h => h hw),if_neg hs,if_neg (fun h => h hsd),if_pos rfl]
  rfl
/-- A server that was told i wrong keys,one behind the other. -/
structure GuS (i : Nat) (s : Srv) : Prop where
  r : RightS s
  ses : s.ses = 2
  op : s.op = false
  w : s.wrong = if i < 3 then (i : Int) else 12
  q : i = 3 → s.quiet = 0
end Go.Proofs.Ytcdmhigmgpflbaa.Pe

