import Derived.Test.YtcdmhigmgpflbaaDL8
namespace Go.Proofs.Ytcdmhigmgpflbaa.Pe
open Go.Pe Go.RowKit
set_option maxRecDepth 20000
set_option maxHeartbeats 4000000
set_option linter.unusedSimpArgs false
set_option linter.unusedVariables false
theorem u8of_val (n : Int) : ((u8of n).toNat : Int) = n % 256 := by rw [← u8of_eq,IntKind.wrap_u8]
theorem fourV_inj {a b : Int} (ha : 0 ≤ a ∧ a ≤ 4294967295) (hb : 0 ≤ b ∧ b ≤ 4294967295) (h : fourV a = fourV b) : a = b := by
  simp only [fourV,List.cons.injEq,and_true] at h
  obtain ⟨h1,h2,h3,h4⟩ := h
  have e : ∀ {x y : Int},u8of x = u8of y → x % 256 = y % 256 := fun {x y} h => by rw [← u8of_val,← u8of_val,h]
  have h1 := e h1
  have h2 := e h2
  have h3 := e h3
  have h4 := e h4
  have q1 : ∀ n : Int,n.fdiv (2 ^ min 24 64) = n / 16777216 := fun n => by show n.fdiv 16777216 = _; rw [Int.fdiv_eq_ediv_of_nonneg _ (by decide)]
  have q2 : ∀ n : Int,n.fdiv (2 ^ min 16 64) = n / 65536 := fun n => by show n.fdiv 65536 = _; rw [Int.fdiv_eq_ediv_of_nonneg _ (by decide)]
  have q3 : ∀ n : Int,n.fdiv (2 ^ min 8 64) = n / 256 := fun n => by show n.fdiv 256 = _; rw [Int.fdiv_eq_ediv_of_nonneg _ (by decide)]
  rw [q1,q1] at h1
  rw [q2,q2] at h2
  rw [q3,q3] at h3
  omega
theorem ask_seed {s : Srv} (hw : s.wrong ≤ 2) (hs : s.ses ≠ 1) (ho : s.op = false) : askV s [0x27,1] = ({ s with quiet := 0,seed := s.draw,draw := nextDraw s.draw },0x67 :: 1 :: fourV s.draw,false) := by
  have e : askV s [0x27,1] = seedA { s with quiet := 0 } := rfl
  rw [e,seedA,if_neg (fun h => h hw),if_neg hs,if_neg (by simp [ho])]
  rfl
theorem ask_key {s : Srv} (k : List UInt8) (hk : k.length = 4) : askV s (0x27 :: 2 :: k) = keyA { s with quiet := 0 } k := by
  have e : askV s (0x27 :: 2 :: k) = if k.length = 4 then keyA { s with quiet := 0 } k else denyA { s with quiet := 0 } 0x27 0x13 := rfl
  rw [e,if_pos hk]
theorem ask_key_bad {s : Srv} {k : Int} (hw : s.wrong ≤ 2) (hs : s.ses ≠ 1) (hsd : s.seed ≥ 0) (hk : 0 ≤ k ∧ k ≤ 4294967295) (hne : k ≠ keyV s.seed s.sec) : askV s (0x27 :: 2 :: fourV k) = (wrongA { s with quiet := 0 },[0x7f,0x27,0x35],false) := by
  rw [ask_key _ (fourV_len k),keyA,if_neg (fun h => h hw),if_neg hs,if_neg (fun h => h hsd),if_neg (fun h => hne (fourV_inj hk (keyV_wide _ _) h))]
  rfl
theorem ask_key_good {s : Srv} (hw : s.wrong ≤ 2) (hs : s.ses ≠ 1) (hsd : s.seed ≥ 0) : askV s (0x27 :: 2 :: fourV (keyV s.seed s.sec)) = ({ s with quiet := 0,op := true,seed := -1,wrong := 0 },[0x67,2],false) := by
  rw [ask_key _ (fourV_len _),keyA,if_neg (fun h => h hw),if_neg hs,if_neg (fun h => h hsd),if_pos rfl]
  rfl
theorem ask_many {s : Srv} (hw : ¬ s.wrong ≤ 2) : askV s [0x27,1] = ({ s with quiet := 0 },[0x7f,0x27,0x36],false) := by
  have e : askV s [0x27,1] = seedA { s with quiet := 0 } := rfl
  rw [e,seedA,if_pos hw]
  rfl
/-- A server that was told i wrong keys,one behind the other. -/
structure GuS (i : Nat) (s : Srv) : Prop where
  r : RightS s
  ses : s.ses = 2
  op : s.op = false
  w : s.wrong = if i < 3 then (i : Int) else 12
  q : i = 3 → s.quiet = 0
end Go.Proofs.Ytcdmhigmgpflbaa.Pe

