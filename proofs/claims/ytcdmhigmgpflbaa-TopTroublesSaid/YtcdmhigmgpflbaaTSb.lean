import Derived.Test.YtcdmhigmgpflbaaTS8
namespace Go.Proofs.Ytcdmhigmgpflbaa.Pe
open Go.Pe Go.RowKit
set_option maxRecDepth 20000
set_option maxHeartbeats 4000000
set_option linter.unusedSimpArgs false
set_option linter.unusedVariables false
theorem numB_four {n : Int} (h : 0 ≤ n ∧ n ≤ 4294967295) : ((numB (fourV n) : Nat) : Int) = n := by
  have e1 := u8of_val (n.fdiv (2 ^ min 24 64))
  have e2 := u8of_val (n.fdiv (2 ^ min 16 64))
  have e3 := u8of_val (n.fdiv (2 ^ min 8 64))
  have e4 := u8of_val n
  have q1 : n.fdiv (2 ^ min 24 64) = n / 16777216 := by show n.fdiv 16777216 = _; rw [Int.fdiv_eq_ediv_of_nonneg _ (by decide)]
  have q2 : n.fdiv (2 ^ min 16 64) = n / 65536 := by show n.fdiv 65536 = _; rw [Int.fdiv_eq_ediv_of_nonneg _ (by decide)]
  have q3 : n.fdiv (2 ^ min 8 64) = n / 256 := by show n.fdiv 256 = _; rw [Int.fdiv_eq_ediv_of_nonneg _ (by decide)]
  unfold fourV numB
  rw [q1] at e1
  rw [q2] at e2
  rw [q3] at e3
  rw [q1,q2,q3]
  simp only [List.foldl_cons,List.foldl_nil]
  omega
theorem keyFor_four {n : Int} (h : 0 ≤ n ∧ n ≤ 4294967295) (secret : Int) : keyForV secret (0x67 :: 1 :: fourV n) = (keyQ (keyV n secret),true) := by
  have e : keyForV secret (0x67 :: 1 :: fourV n) = (keyQ (keyV (numB (fourV n)) secret),true) := rfl
  rw [e,numB_four h]
theorem keyQ_len (k : Int) : (keyQ k).length = 6 := rfl
/-! ### talks over a way that loses nothing -/
theorem ses_one (n : UInt8) : sesQ (n.toNat : Int) = [0x10,n] := by
  unfold sesQ
  rw [bytesN1]
  congr 2
  rw [← UInt8.toNat_inj]; have := u8of_val (n.toNat : Int); have := n.toNat_lt; omega
theorem ask_sesN {s : Srv} {n : UInt8} (h : 1 ≤ n.toNat ∧ n.toNat ≤ 3) : askV s [0x10,n] = ({ s with quiet := 0,ses := n.toNat,op := false,seed := -1 },[0x50,n],false) := by
  have e : askV s [0x10,n] = sesA { s with quiet := 0 } [n] := rfl
  rw [e]
  unfold sesA
  simp only
  rw [if_pos (by simp [sesOK]; omega)]
  rfl
theorem talk_ses {s : Srv} (hr : RightS s) {n : UInt8} (h : 1 ≤ n.toNat ∧ n.toNat ≤ 3) : talkV s [0x10,n] [] [] = ({ s with quiet := 0,ses := n.toNat,op := false,seed := -1 },[0x50,n],false,true) := by
  rw [talk_thru hr (by simp) (by simp),ask_sesN h]
theorem talk_seed {s : Srv} (hr : RightS s) (hw : s.wrong ≤ 2) (hs : s.ses ≠ 1) (ho : s.op = false) : talkV s seedQ [] [] = ({ s with quiet := 0,seed := s.draw,draw := nextDraw s.draw },0x67 :: 1 :: fourV s.draw,false,true) := by
  rw [talk_thru hr (by simp [seedQ]) (by simp [seedQ]),show seedQ = [0x27,1] from rfl,ask_seed hw hs ho]
theorem talk_good {s : Srv} (hr : RightS s) (hw : s.wrong ≤ 2) (hs : s.ses ≠ 1) (hsd : s.seed ≥ 0) : talkV s (keyQ (keyV s.seed s.sec)) [] [] = ({ s with quiet := 0,op := true,seed := -1,wrong := 0 },[0x67,2],false,true) := by
  rw [talk_thru hr (by rw [keyQ_len]; decide) (by rw [keyQ_len]; decide),show keyQ (keyV s.seed s.sec) = 0x27 :: 2 :: fourV (keyV s.seed s.sec) from rfl,ask_key_good hw hs hsd]
/-- A fresh server with numbers of 32 bits. -/
def freshS (S D : Int) (l : List Itm) : Srv := ⟨1,false,-1,0,0,D,S,l,[]⟩
theorem fresh_right {S D : Int} (hS : 0 ≤ S ∧ S ≤ 4294967295) (hD : 0 ≤ D ∧ D ≤ 4294967295) {l : List Itm} (hl : okIts none l = true) (hm : l.length ≤ 16) : RightS (freshS S D l) :=
  ⟨hl,(by decide : (1 : Int) ≤ 1 ∧ (1 : Int) ≤ 3),(by decide : (-1 : Int) ≤ -1 ∧ (-1 : Int) ≤ 4294967295),(by decide : (0 : Int) ≤ 0 ∧ (0 : Int) ≤ 12),(by decide : (0 : Int) ≤ 0 ∧ (0 : Int) ≤ 51),hD,hS,hm,rfl⟩
theorem wr16 (x : UInt16) : IntKind.wrap .i64 (x.toNat : Int) = (x.toNat : Int) := by have := x.toNat_lt; rw [wrapI64_eq]; omega
theorem right_to {s : Srv} {q : List UInt8} {f g : List Int} {r : TalkR} (h : talkV s q f g = r) (hr : RightS s) : RightS r.1 := by
  rw [← h]
  rcases talk_any s q f g with e | e | e <;> rw [e]
  · exact hr
  · exact ask_right hr q
  · exact ask_right hr q
end Go.Proofs.Ytcdmhigmgpflbaa.Pe

