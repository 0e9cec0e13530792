import Derived.Test.YtcdmhigmgpflbaaGreatDT1
import Derived.Test.YtcdmhigmgpflbaaGreatDI3
import Derived.Test.YtcdmhigmgpflbaaGreatDI9
set_option maxRecDepth 20000
set_option linter.unusedSimpArgs false
set_option linter.unusedVariables false
set_option maxHeartbeats 4000000
open Nat renaming reduceAdd → zA,reduceSub → zB,reduceMul → zC,reduceLT → zD,reduceLeDiff → zE,reduceEqDiff → zF,reduceBEq → zG
open Int renaming reduceToNat → zH,reduceLT → zI,reduceLE → zJ,reduceEq → zK,reduceNe → zL,reduceAdd → zM,reduceSub → zN,reduceMul → zO,reduceNeg → zP,toNat_natCast → yCa,natCast_zero → yCb
open List renaming length_cons → yBa,length_nil → yBb,map_cons → yBi,map_nil → yBj,length_map → yBm
namespace Go.Proofs.YtcdmhigmgpflbaaGreat.Pe
open Go.Pe Go.RowKit
def tabT : Tab := fun t => if t = 22 then (tab t).map (fun ti => { ti with trunc := true }) else tab t
theorem tabTOK : TabOK Tryz.prog tabT := by
  intro t ti h
  unfold tabT at h
  split at h
  · obtain ⟨ti',h1,rfl⟩ := Option.map_eq_some_iff.1 h
    obtain ⟨q1,q2,q3,q4⟩ := tabOK t ti' h1
    exact ⟨q1,q2,q3,q4⟩
  · exact tabOK t ti h
theorem tabT_bytes : tabT 22 = some { ti22 with trunc := true } := rfl
theorem tabT_eq (t : Nat) : tabT t = if t = 22 then some { ti22 with trunc := true } else tab t := by
  unfold tabT
  split
  · rename_i h; subst h; rfl
  · rfl
end Go.Proofs.YtcdmhigmgpflbaaGreat.Pe
namespace Go.Proofs.YtcdmhigmgpflbaaGreat.Pe
open Go.Pe Go.RowKit
theorem growN {n : Int} {hp : List (Nat × Blk)} {nx : Nat} {K KP : CK} (h0 : 0 ≤ n) (h1 : n ≤ 1000000) (hnx : lk nx hp = none) (hnx2 : lk (nx + 1) hp = none) (h : K (.own nx 1) ((nx,.arr 5 1 [] 1 false) :: (nx,.arr 5 1 (List.replicate n.toNat [.lit (.int .u8 0)]) 0 false) :: hp) (nx + 1 + 1)) (hnil : n = 0 → K (.lit (.slice none 0 0)) hp nx) :
    CallA Tryz.prog 74 [.lit (.slice none 0 0),PI n] hp nx K KP := by
  refine CallA.into tabTOK mixed Tryz.func74 rfl rfl (by decide +kernel) (by simp [Tryz.ntmps74]) ?_
  have g0 : decide (n < 0) = false := by simp; omega
  have hw0 : IntKind.wrap .i64 0 = 0 := by decide
  have hw : IntKind.wrap .i64 (n - 0) = n := by rw [wrapI64 (by omega)]; omega
  simp only [go_sem,zA,zB,zC,zD,zE,zF,zG,zH,zI,zJ,zK,zL,zM,zN,zO,zP,↓reduceIte,reduceCtorEq,tabT_eq,Tryz.ntmps74,Tryz.results74,g0,hw0,hw]
  by_cases hn : n = 0
  · have g1 : decide (n > 0) = false := by simp; omega
    simp only [go_sem,zA,zB,zC,zD,zE,zF,zG,zH,zI,zJ,zK,zL,zM,zN,zO,zP,↓reduceIte,reduceCtorEq,tabT_eq,Tryz.ntmps74,Tryz.results74,g0,hw0,hw,g1]
    exact hnil hn
  · have g1 : decide (n > 0) = true := by simp; omega
    simp only [go_sem,zA,zB,zC,zD,zE,zF,zG,zH,zI,zJ,zK,zL,zM,zN,zO,zP,↓reduceIte,reduceCtorEq,tabT_eq,Tryz.ntmps74,Tryz.results74,g0,hw0,hw,g1,hnx,hnx2]
    exact ⟨⟨h0,by omega,by omega⟩,by rw [if_neg (by omega)],by omega,h⟩
def flatN (l : List (List UInt8)) (i : Nat) : List UInt8 := (l.take i).flatten
theorem flatN_succ {l : List (List UInt8)} {i : Nat} (h : i < l.length) : flatN l (i + 1) = flatN l i ++ l[i] := by
  rw [flatN,List.take_succ_eq_append_getElem h,List.flatten_append,flatN]
  simp
theorem flatN_le (l : List (List UInt8)) (i : Nat) : (flatN l i).length ≤ l.flatten.length := by
  have : l.flatten = flatN l i ++ (l.drop i).flatten := by rw [flatN,← List.flatten_append,List.take_append_drop]
  rw [this,List.length_append]; omega
theorem flatN_all {l : List (List UInt8)} {i : Nat} (h : l.length ≤ i) : flatN l i = l.flatten := by rw [flatN,List.take_of_length_le h]
theorem rowsBs_getD {l : List (List UInt8)} {i : Nat} (h : i < l.length) : (l.map rowBs).getD i [] = [bytesPV l[i]] := by
  simp [List.getD_eq_getElem?_getD,h,rowBs]
def ccSt1 (l : List (List UInt8)) (i : Nat) : St := ⟨36,[(0,bytessPV l),(3,PI (flatN l i).length),(9,bytessPV l),(10,PI l.length),(11,PI i)],[],0,0⟩
def ccI1 (l : List (List UInt8)) (m : Nat) (s : St) : Prop := ∃ i : Nat,i ≤ l.length ∧ m = l.length - i ∧ s = ccSt1 l i
def ccSt2 (l : List (List UInt8)) (i v : Nat) : St := ⟨36,[(6,.own 0 v),(25,bytessPV l),(26,PI l.length),(27,PI i)],[(0,.arr 5 1 (rowsB (flatN l i)) v false)],3,0⟩
def ccI2 (l : List (List UInt8)) (m : Nat) (s : St) : Prop := ∃ i v : Nat,i ≤ l.length ∧ m = l.length - i ∧ s = ccSt2 l i v
def ccSt3 (l : List (List UInt8)) : St := ⟨36,[(6,.lit (.slice none 0 0)),(25,bytessPV l),(26,PI l.length),(27,PI (0 : Nat))],[],3,0⟩
def ccSt4 (l : List (List UInt8)) (i v : Nat) : St := ⟨36,[(6,.own 3 v),(25,bytessPV l),(26,PI l.length),(27,PI i)],[(3,.arr 5 1 (rowsB (flatN l i)) v false)],4,0⟩
def ccI3 (l : List (List UInt8)) (m : Nat) (s : St) : Prop := ∃ i v : Nat,i ≤ l.length ∧ m = l.length - i ∧ ((i = 0 ∧ s = ccSt3 l) ∨ (0 < i ∧ s = ccSt4 l i v))
theorem concatL_calls (l : List (List UInt8)) (hl : l.length ≤ 1000) (h : l.flatten.length ≤ 1000000) : PureCalls Tryz.prog 49 [bytessPV l] (bytesPV l.flatten) := by
  refine PureCalls.of tabTOK mixed Tryz.func49 rfl rfl (by decide +kernel) (by simp [Tryz.ntmps49]) ?_
  have f00 : flatN l 0 = [] := by simp [flatN]
  simp only [go_sem,zA,zB,zC,zD,zE,zF,zG,zH,zI,zJ,zK,zL,zM,zN,zO,zP,↓reduceIte,reduceCtorEq,tabT_eq,Tryz.ntmps49,Tryz.results49]
  refine wpA_loop (ccI1 l) ⟨_,_,?_,0,by omega,rfl,rfl⟩ ?_
  · simp only [go_sem,zA,zB,zC,zD,zE,zF,zG,zH,zI,zJ,zK,zL,zM,zN,zO,zP,↓reduceIte,reduceCtorEq,tabT_eq,ccSt1,f00,yBm,yBb,yCb]
  rintro m s ⟨i,hi,rfl,rfl⟩
  by_cases hc : i < l.length
  · have f1 : decide ((i : Int) < (l.length : Int)) = true := decide_eq_true (by omega)
    obtain ⟨f3,f4⟩ : (0 : Int) ≤ (i : Int) ∧ (i : Int) < (l.length : Int) := by omega
    have hw := wrapIN (i := i) (by omega)
    have hrow := rowsBs_getD hc
    have hs := flatN_succ hc
    have hle := flatN_le l (i + 1)
    have hsl : (flatN l i).length + l[i].length = (flatN l (i + 1)).length := by rw [hs,List.length_append]
    generalize l[i] = x at hrow hsl
    have hw0 : IntKind.wrap .i64 (((flatN l i).length : Int) + (x.length : Int)) = ((flatN l (i + 1)).length : Int) := by rw [wrapI64 (by omega)]; omega
    have f0 : decide (((flatN l (i + 1)).length : Int) < 0) = false := decide_eq_false (by omega)
    simp only [go_sem,zA,zB,zC,zD,zE,zF,zG,zH,zI,zJ,zK,zL,zM,zN,zO,zP,↓reduceIte,reduceCtorEq,tabT_eq,ccSt1,f1,f3,f4,yBm,yCa,hrow,hw0,f0,hw,rowsB_length]
    refine ⟨l.length - (i + 1),_,by omega,?_,i + 1,by omega,rfl,rfl⟩
    simp only [go_sem,zA,zB,zC,zD,zE,zF,zG,zH,zI,zJ,zK,zL,zM,zN,zO,zP,↓reduceIte,reduceCtorEq,tabT_eq,ccSt1,hw,hw0,yBm]
  · have f1 : decide ((i : Int) < (l.length : Int)) = false := decide_eq_false (by omega)
    have hall := flatN_all (l := l) (i := i) (by omega)
    simp only [go_sem,zA,zB,zC,zD,zE,zF,zG,zH,zI,zJ,zK,zL,zM,zN,zO,zP,↓reduceIte,reduceCtorEq,tabT_eq,ccSt1,f1,hall]
    refine growN (by omega) (by omega) rfl rfl ?_ ?_
    · simp only [go_sem,zA,zB,zC,zD,zE,zF,zG,zH,zI,zJ,zK,zL,zM,zN,zO,zP,↓reduceIte,reduceCtorEq,tabT_eq]
      refine wpA_loop (ccI2 l) ⟨_,_,?_,0,1,by omega,rfl,rfl⟩ ?_
      · simp only [go_sem,zA,zB,zC,zD,zE,zF,zG,zH,zI,zJ,zK,zL,zM,zN,zO,zP,↓reduceIte,reduceCtorEq,tabT_eq,ccSt2,f00,rowsB_nil,yBm,yCb]
      rintro m s ⟨i,v,hi,rfl,rfl⟩
      by_cases hc : i < l.length
      · have f1 : decide ((i : Int) < (l.length : Int)) = true := decide_eq_true (by omega)
        obtain ⟨f3,f4⟩ : (0 : Int) ≤ (i : Int) ∧ (i : Int) < (l.length : Int) := by omega
        have hw := wrapIN (i := i) (by omega)
        have hrow := rowsBs_getD hc
        have hs := flatN_succ hc
        have hle := flatN_le l (i + 1)
        have hsl : (flatN l i).length + l[i].length = (flatN l (i + 1)).length := by rw [hs,List.length_append]
        generalize l[i] = x at hrow hsl hs
        simp only [go_sem,zA,zB,zC,zD,zE,zF,zG,zH,zI,zJ,zK,zL,zM,zN,zO,zP,↓reduceIte,reduceCtorEq,tabT_eq,ccSt2,f1,f3,f4,yBm,yCa,hrow,hw,rowsB_length]
        refine ⟨by omega,l.length - (i + 1),_,by omega,?_,i + 1,v + 1,by omega,rfl,rfl⟩
        simp only [go_sem,zA,zB,zC,zD,zE,zF,zG,zH,zI,zJ,zK,zL,zM,zN,zO,zP,↓reduceIte,reduceCtorEq,tabT_eq,ccSt2,hw,hs,yBm]
      · have f1 : decide ((i : Int) < (l.length : Int)) = false := decide_eq_false (by omega)
        have hall := flatN_all (l := l) (i := i) (by omega)
        simp only [go_sem,zA,zB,zC,zD,zE,zF,zG,zH,zI,zJ,zK,zL,zM,zN,zO,zP,↓reduceIte,reduceCtorEq,tabT_eq,ccSt2,f1,hall,Tryz.ntmps49,Tryz.results49]
    · intro h0
      have hz : ∀ i,flatN l i = [] := fun i => List.eq_nil_of_length_eq_zero (by have := flatN_le l i; omega)
      have hz2 : l.flatten = [] := List.eq_nil_of_length_eq_zero (by omega)
      simp only [go_sem,zA,zB,zC,zD,zE,zF,zG,zH,zI,zJ,zK,zL,zM,zN,zO,zP,↓reduceIte,reduceCtorEq,tabT_eq]
      refine wpA_loop (ccI3 l) ⟨_,_,?_,0,0,by omega,rfl,.inl ⟨rfl,rfl⟩⟩ ?_
      · simp only [go_sem,zA,zB,zC,zD,zE,zF,zG,zH,zI,zJ,zK,zL,zM,zN,zO,zP,↓reduceIte,reduceCtorEq,tabT_eq,ccSt3,yBm,yCb]
      rintro m s ⟨i,v,hi,rfl,⟨rfl,rfl⟩ | ⟨hp,rfl⟩⟩
      · by_cases hc : 0 < l.length
        · have f1 : decide ((0 : Int) < (l.length : Int)) = true := decide_eq_true (by omega)
          have f4 : (0 : Int) < (l.length : Int) := by omega
          have hw : IntKind.wrap .i64 1 = 1 := by decide
          have hrow := rowsBs_getD hc
          have hs := flatN_succ hc
          have hx : l[0] = [] := by rw [hz,hz] at hs; simpa using hs.symm
          rw [hx] at hrow
          simp only [go_sem,zA,zB,zC,zD,zE,zF,zG,zH,zI,zJ,zK,zL,zM,zN,zO,zP,↓reduceIte,reduceCtorEq,tabT_eq,ccSt3,f1,f4,yBm,yCa,hrow,hw,yCb]
          refine ⟨l.length - 1,_,by omega,?_,1,0,by omega,rfl,.inr ⟨by omega,rfl⟩⟩
          simp only [go_sem,zA,zB,zC,zD,zE,zF,zG,zH,zI,zJ,zK,zL,zM,zN,zO,zP,↓reduceIte,reduceCtorEq,tabT_eq,ccSt4,hw,hz,yBm,Int.natCast_one]
        · have f1 : decide ((0 : Int) < (l.length : Int)) = false := decide_eq_false (by omega)
          simp only [go_sem,zA,zB,zC,zD,zE,zF,zG,zH,zI,zJ,zK,zL,zM,zN,zO,zP,↓reduceIte,reduceCtorEq,tabT_eq,ccSt3,f1,hz2,yCb,Tryz.ntmps49,Tryz.results49]
      by_cases hc : i < l.length
      · have f1 : decide ((i : Int) < (l.length : Int)) = true := decide_eq_true (by omega)
        obtain ⟨f3,f4⟩ : (0 : Int) ≤ (i : Int) ∧ (i : Int) < (l.length : Int) := by omega
        have hw := wrapIN (i := i) (by omega)
        have hrow := rowsBs_getD hc
        have hs := flatN_succ hc
        have hx : l[i] = [] := by rw [hz,hz] at hs; simpa using hs.symm
        rw [hx] at hrow
        simp only [go_sem,zA,zB,zC,zD,zE,zF,zG,zH,zI,zJ,zK,zL,zM,zN,zO,zP,↓reduceIte,reduceCtorEq,tabT_eq,ccSt4,f1,f3,f4,yBm,yCa,hrow,hw,hz,rowsB_nil]
        refine ⟨l.length - (i + 1),_,by omega,?_,i + 1,v + 1,by omega,rfl,.inr ⟨by omega,rfl⟩⟩
        simp only [go_sem,zA,zB,zC,zD,zE,zF,zG,zH,zI,zJ,zK,zL,zM,zN,zO,zP,↓reduceIte,reduceCtorEq,tabT_eq,ccSt4,hw,hz,yBm]
      · have f1 : decide ((i : Int) < (l.length : Int)) = false := decide_eq_false (by omega)
        simp only [go_sem,zA,zB,zC,zD,zE,zF,zG,zH,zI,zJ,zK,zL,zM,zN,zO,zP,↓reduceIte,reduceCtorEq,tabT_eq,ccSt4,f1,hz,hz2,Tryz.ntmps49,Tryz.results49]
end Go.Proofs.YtcdmhigmgpflbaaGreat.Pe
namespace Go.Proofs.YtcdmhigmgpflbaaGreat.Pe
open Go.Pe Go.RowKit
def bytesN (n : Int) : Nat → List UInt8
  | 0 => []
  | i + 1 => u8of (n.fdiv (2 ^ min (8 * i) 64)) :: bytesN n i
theorem bytesN_len (n : Int) : ∀ k,(bytesN n k).length = k
  | 0 => rfl
  | k + 1 => by rw [bytesN,yBa,bytesN_len n k]
def nmRows (n : Int) (k i : Nat) : List UInt8 := List.replicate (k - i) 0 ++ bytesN n i
theorem nmRows_len (n : Int) {k i : Nat} (h : i ≤ k) : (nmRows n k i).length = k := by simp [nmRows,bytesN_len]; omega
theorem nmRows_set (n : Int) {k i : Nat} (h : i < k) : (nmRows n k i).set (k - 1 - i) (u8of (n.fdiv (2 ^ min (8 * i) 64))) = nmRows n k (i + 1) := by
  unfold nmRows
  obtain ⟨m,rfl⟩ : ∃ m,k = m + 1 + i := ⟨k - 1 - i,by omega⟩
  rw [show m + 1 + i - i = m + 1 by omega,show m + 1 + i - 1 - i = m by omega,show m + 1 + i - (i + 1) = m by omega,List.set_append,if_pos (by simp),List.replicate_succ',List.set_append,if_neg (by simp)]
  simp [bytesN]
def nmSt (n : Int) (k i : Nat) : St := ⟨26,[(0,PI n),(1,PI k),(5,.own 0 0),(9,PI k),(10,PI i)],[(0,.arr 5 1 (rowsB (nmRows n k i)) 0 false)],20,0⟩
def nmI (n : Int) (k : Nat) (m : Nat) (st : St) : Prop := ∃ i : Nat,i ≤ k ∧ m = k - i ∧ st = nmSt n k i
theorem rows_zero (k : Nat) : rowsB (List.replicate k 0) = List.replicate k [.lit (.int .u8 0)] := by simp [rowsB,rowB]
theorem number_calls (n : Int) (k : Nat) (hk : k ≤ 8) : PureCalls Tryz.prog 34 [PI n,PI k] (bytesPV (bytesN n k)) := by
  refine PureCalls.of tabOK mixed Tryz.func34 rfl rfl (by decide +kernel) (by simp [Tryz.ntmps34]) ?_
  have h0 : nmRows n k 0 = List.replicate k 0 := by simp [nmRows,bytesN]
  simp only [go_sem,zA,zB,zC,zD,zE,zF,zG,zH,zI,zJ,zK,zL,zM,zN,zO,zP,↓reduceIte,reduceCtorEq,Tryz.ntmps34,Tryz.results34]
  refine ⟨by omega,?_⟩
  refine wpA_loop (nmI n k) ⟨_,_,?_,0,by omega,rfl,rfl⟩ ?_
  · simp only [go_sem,zA,zB,zC,zD,zE,zF,zG,zH,zI,zJ,zK,zL,zM,zN,zO,zP,↓reduceIte,reduceCtorEq,nmSt,h0,rows_zero,yCa,yCb]
  rintro m st ⟨i,hi,rfl,rfl⟩
  have ln := nmRows_len n hi
  by_cases hc : i < k
  · have f1 : decide ((i : Int) < (k : Int)) = true := decide_eq_true (by omega)
    have hw := wrapIN (i := i) (by omega)
    have w1 : IntKind.wrap .i64 ((k : Int) - 1) = ((k - 1 : Nat) : Int) := by rw [wrapI64_eq]; omega
    have w2 : IntKind.wrap .i64 (((k - 1 : Nat) : Int) - (i : Int)) = ((k - 1 - i : Nat) : Int) := by rw [wrapI64_eq]; omega
    have w3 : IntKind.wrap .i64 (8 * (i : Int)) = ((8 * i : Nat) : Int) := by rw [wrapI64_eq]; omega
    obtain ⟨f3,f4⟩ : (0 : Int) ≤ ((k - 1 - i : Nat) : Int) ∧ ((k - 1 - i : Nat) : Int) < (k : Int) := by omega
    have f5 : (0 : Int) ≤ ((8 * i : Nat) : Int) := by omega
    have f6 : k - 1 - i < k := by omega
    simp only [go_sem,zA,zB,zC,zD,zE,zF,zG,zH,zI,zJ,zK,zL,zM,zN,zO,zP,↓reduceIte,reduceCtorEq,nmSt,f1,hw,w1,w2,w3,f3,f4,f5,f6,ln,rowsB_length,u8of_eq,yCa]
    have g8 : List.drop 1 ((rowsB (nmRows n k i)).getD (k - 1 - i) []) = [] := by rw [rowsB_getD (by rw [ln]; exact f6)]; rfl
    have g7 : (rowsB (nmRows n k i)).set (k - 1 - i) [.lit (.int .u8 (u8of (n.fdiv (2 ^ min (8 * i) 64))).toNat)] = rowsB (nmRows n k (i + 1)) := by rw [← nmRows_set n hc]; simp [rowsB,rowB]
    refine ⟨k - (i + 1),_,by omega,?_,i + 1,by omega,rfl,rfl⟩
    simp only [go_sem,zA,zB,zC,zD,zE,zF,zG,zH,zI,zJ,zK,zL,zM,zN,zO,zP,↓reduceIte,reduceCtorEq,nmSt,g7,g8,hw]
  · have f1 : decide ((i : Int) < (k : Int)) = false := decide_eq_false (by omega)
    have : i = k := by omega
    subst this
    have hz : nmRows n i i = bytesN n i := by simp [nmRows]
    simp only [go_sem,zA,zB,zC,zD,zE,zF,zG,zH,zI,zJ,zK,zL,zM,zN,zO,zP,↓reduceIte,reduceCtorEq,nmSt,f1,hz,Tryz.ntmps34,Tryz.results34]
theorem question_calls (c : UInt8) (l : List (List UInt8)) (hl : l.length ≤ 1000) (h : l.flatten.length ≤ 1000000) : PureCalls Tryz.prog 33 [.lit (.int .u8 c.toNat),bytessPV l] (bytesPV (c :: l.flatten)) := by
  refine PureCalls.of tabOK mixed Tryz.func33 rfl rfl (by decide +kernel) (by simp [Tryz.ntmps33]) ?_
  have cc := concatL_calls l hl h
  generalize l.flatten = o at cc h
  have lo : (rowsB o).length = o.length := rowsB_length o
  simp only [go_sem,zA,zB,zC,zD,zE,zF,zG,zH,zI,zJ,zK,zL,zM,zN,zO,zP,↓reduceIte,reduceCtorEq,Tryz.ntmps33,Tryz.results33]
  (refine CallA.pure (cc) (by simp only [go_sem,zA,zB,zC,zD,zE,zF,zG,zH,zI,zJ,zK,zL,zM,zN,zO,zP,↓reduceIte,reduceCtorEq,lo] <;> first | rfl | decide) ?_; simp only [go_sem,zA,zB,zC,zD,zE,zF,zG,zH,zI,zJ,zK,zL,zM,zN,zO,zP,↓reduceIte,reduceCtorEq,lo])
  refine ⟨by omega,?_⟩
  simp only [go_sem,zA,zB,zC,zD,zE,zF,zG,zH,zI,zJ,zK,zL,zM,zN,zO,zP,↓reduceIte,reduceCtorEq,Tryz.ntmps33,Tryz.results33]
  rfl
theorem question_at {c : UInt8} {cn : Int} {l : List (List UInt8)} {o : List UInt8} (hc : ((c.toNat : Nat) : Int) = cn) (ho : c :: l.flatten = o) (hl : l.length ≤ 1000) (h : l.flatten.length ≤ 1000000) : PureCalls Tryz.prog 33 [.lit (.int .u8 cn),bytessPV l] (bytesPV o) := by
  subst hc ho; exact question_calls c l hl h
theorem bytesN4 (n : Int) : bytesN n 4 = fourV n := by
  have h : n.fdiv (2 ^ min (8 * 0) 64) = n := by show n.fdiv 1 = n; rw [Int.fdiv_one]
  show [_,_,_,u8of (n.fdiv (2 ^ min (8 * 0) 64))] = fourV n
  rw [h]
  rfl
theorem number_at {n : Int} {k : Nat} {kn : Int} (hk : (k : Int) = kn) (h8 : k ≤ 8) : PureCalls Tryz.prog 34 [PI n,PI kn] (bytesPV (bytesN n k)) := by subst hk; exact number_calls n k h8
def sesQ (n : Int) : List UInt8 := 0x10 :: bytesN n 1
def seedQ : List UInt8 := [0x27,1]
def readQ (id : Int) : List UInt8 := 0x22 :: bytesN id 2
def writeQ (id : Int) (b : List UInt8) : List UInt8 := 0x2E :: (bytesN id 2 ++ b)
def clearQ : List UInt8 := [0x14]
def trblQ (m : Int) : List UInt8 := 0x19 :: bytesN m 1
def beginQ (v n : Int) : List UInt8 := 0x34 :: (bytesN v 4 ++ bytesN n 4)
def blockQ (n : Int) (b : List UInt8) : List UInt8 := 0x36 :: (bytesN n 2 ++ b)
def endQ : List UInt8 := [0x37]
theorem session_calls (n : Int) : PureCalls Tryz.prog 8 [PI n] (bytesPV (sesQ n)) := by
  refine PureCalls.of tabOK mixed Tryz.func8 rfl rfl (by decide +kernel) (by simp [Tryz.ntmps8]) ?_
  have c1 := number_at (n := n) (k := 1) (kn := 1) rfl (by decide)
  have c2 := question_at (c := 0x10) (cn := 16) (l := [bytesN n 1]) (o := sesQ n) rfl (by simp [sesQ]) (by simp) (by simp [bytesN_len])
  simp only [go_sem,zA,zB,zC,zD,zE,zF,zG,zH,zI,zJ,zK,zL,zM,zN,zO,zP,↓reduceIte,reduceCtorEq,Tryz.ntmps8,Tryz.results8]
  (refine CallA.pure (c1) (by simp only [go_sem,zA,zB,zC,zD,zE,zF,zG,zH,zI,zJ,zK,zL,zM,zN,zO,zP,↓reduceIte,reduceCtorEq] <;> first | rfl | decide) ?_; simp only [go_sem,zA,zB,zC,zD,zE,zF,zG,zH,zI,zJ,zK,zL,zM,zN,zO,zP,↓reduceIte,reduceCtorEq])
  (refine CallA.pure (c2) (by simp only [go_sem,zA,zB,zC,zD,zE,zF,zG,zH,zI,zJ,zK,zL,zM,zN,zO,zP,↓reduceIte,reduceCtorEq,yBi,yBj,rowBs,Tryz.ntmps8,Tryz.results8] <;> first | rfl | decide) ?_; simp only [go_sem,zA,zB,zC,zD,zE,zF,zG,zH,zI,zJ,zK,zL,zM,zN,zO,zP,↓reduceIte,reduceCtorEq,yBi,yBj,rowBs,Tryz.ntmps8,Tryz.results8])
theorem seed_calls : PureCalls Tryz.prog 10 [] (bytesPV seedQ) := by
  refine PureCalls.of tabOK mixed Tryz.func10 rfl rfl (by decide +kernel) (by simp [Tryz.ntmps10]) ?_
  have c2 := question_at (c := 0x27) (cn := 39) (l := [[1]]) (o := seedQ) rfl (by simp [seedQ]) (by simp) (by simp)
  simp only [go_sem,zA,zB,zC,zD,zE,zF,zG,zH,zI,zJ,zK,zL,zM,zN,zO,zP,↓reduceIte,reduceCtorEq,Tryz.ntmps10,Tryz.results10]
  (refine CallA.pure (c2) (by simp only [go_sem,zA,zB,zC,zD,zE,zF,zG,zH,zI,zJ,zK,zL,zM,zN,zO,zP,↓reduceIte,reduceCtorEq,yBi,yBj,rowBs,rowsB,rowB,Tryz.ntmps10,Tryz.results10] <;> first | rfl | decide) ?_; simp only [go_sem,zA,zB,zC,zD,zE,zF,zG,zH,zI,zJ,zK,zL,zM,zN,zO,zP,↓reduceIte,reduceCtorEq,yBi,yBj,rowBs,rowsB,rowB,Tryz.ntmps10,Tryz.results10])
theorem read_calls (n : Int) : PureCalls Tryz.prog 12 [PI n] (bytesPV (readQ n)) := by
  refine PureCalls.of tabOK mixed Tryz.func12 rfl rfl (by decide +kernel) (by simp [Tryz.ntmps12]) ?_
  have c1 := number_at (n := n) (k := 2) (kn := 2) rfl (by decide)
  have c2 := question_at (c := 0x22) (cn := 34) (l := [bytesN n 2]) (o := readQ n) rfl (by simp [readQ]) (by simp) (by simp [bytesN_len])
  simp only [go_sem,zA,zB,zC,zD,zE,zF,zG,zH,zI,zJ,zK,zL,zM,zN,zO,zP,↓reduceIte,reduceCtorEq,Tryz.ntmps12,Tryz.results12]
  (refine CallA.pure (c1) (by simp only [go_sem,zA,zB,zC,zD,zE,zF,zG,zH,zI,zJ,zK,zL,zM,zN,zO,zP,↓reduceIte,reduceCtorEq] <;> first | rfl | decide) ?_; simp only [go_sem,zA,zB,zC,zD,zE,zF,zG,zH,zI,zJ,zK,zL,zM,zN,zO,zP,↓reduceIte,reduceCtorEq])
  (refine CallA.pure (c2) (by simp only [go_sem,zA,zB,zC,zD,zE,zF,zG,zH,zI,zJ,zK,zL,zM,zN,zO,zP,↓reduceIte,reduceCtorEq,yBi,yBj,rowBs,Tryz.ntmps12,Tryz.results12] <;> first | rfl | decide) ?_; simp only [go_sem,zA,zB,zC,zD,zE,zF,zG,zH,zI,zJ,zK,zL,zM,zN,zO,zP,↓reduceIte,reduceCtorEq,yBi,yBj,rowBs,Tryz.ntmps12,Tryz.results12])
theorem write_calls (n : Int) (b : List UInt8) (hb : b.length ≤ 900000) : PureCalls Tryz.prog 14 [PI n,bytesPV b] (bytesPV (writeQ n b)) := by
  refine PureCalls.of tabOK mixed Tryz.func14 rfl rfl (by decide +kernel) (by simp [Tryz.ntmps14]) ?_
  have c1 := number_at (n := n) (k := 2) (kn := 2) rfl (by decide)
  have c2 := question_at (c := 0x2E) (cn := 46) (l := [bytesN n 2,b]) (o := writeQ n b) rfl (by simp [writeQ]) (by simp) (by simp [bytesN_len]; omega)
  simp only [go_sem,zA,zB,zC,zD,zE,zF,zG,zH,zI,zJ,zK,zL,zM,zN,zO,zP,↓reduceIte,reduceCtorEq,Tryz.ntmps14,Tryz.results14]
  (refine CallA.pure (c1) (by simp only [go_sem,zA,zB,zC,zD,zE,zF,zG,zH,zI,zJ,zK,zL,zM,zN,zO,zP,↓reduceIte,reduceCtorEq] <;> first | rfl | decide) ?_; simp only [go_sem,zA,zB,zC,zD,zE,zF,zG,zH,zI,zJ,zK,zL,zM,zN,zO,zP,↓reduceIte,reduceCtorEq])
  (refine CallA.pure (c2) (by simp only [go_sem,zA,zB,zC,zD,zE,zF,zG,zH,zI,zJ,zK,zL,zM,zN,zO,zP,↓reduceIte,reduceCtorEq,yBi,yBj,rowBs,Tryz.ntmps14,Tryz.results14] <;> first | rfl | decide) ?_; simp only [go_sem,zA,zB,zC,zD,zE,zF,zG,zH,zI,zJ,zK,zL,zM,zN,zO,zP,↓reduceIte,reduceCtorEq,yBi,yBj,rowBs,Tryz.ntmps14,Tryz.results14])
theorem clearQ_calls : PureCalls Tryz.prog 16 [] (bytesPV clearQ) := by
  refine PureCalls.of tabOK mixed Tryz.func16 rfl rfl (by decide +kernel) (by simp [Tryz.ntmps16]) ?_
  have c2 := question_at (c := 0x14) (cn := 20) (l := []) (o := clearQ) rfl (by simp [clearQ]) (by simp) (by simp)
  simp only [go_sem,zA,zB,zC,zD,zE,zF,zG,zH,zI,zJ,zK,zL,zM,zN,zO,zP,↓reduceIte,reduceCtorEq,Tryz.ntmps16,Tryz.results16]
  (refine CallA.pure (c2) (by simp only [go_sem,zA,zB,zC,zD,zE,zF,zG,zH,zI,zJ,zK,zL,zM,zN,zO,zP,↓reduceIte,reduceCtorEq,yBi,yBj,rowBs,Tryz.ntmps16,Tryz.results16] <;> first | rfl | decide) ?_; simp only [go_sem,zA,zB,zC,zD,zE,zF,zG,zH,zI,zJ,zK,zL,zM,zN,zO,zP,↓reduceIte,reduceCtorEq,yBi,yBj,rowBs,Tryz.ntmps16,Tryz.results16])
theorem troubles_calls (n : Int) : PureCalls Tryz.prog 18 [PI n] (bytesPV (trblQ n)) := by
  refine PureCalls.of tabOK mixed Tryz.func18 rfl rfl (by decide +kernel) (by simp [Tryz.ntmps18]) ?_
  have c1 := number_at (n := n) (k := 1) (kn := 1) rfl (by decide)
  have c2 := question_at (c := 0x19) (cn := 25) (l := [bytesN n 1]) (o := trblQ n) rfl (by simp [trblQ]) (by simp) (by simp [bytesN_len])
  simp only [go_sem,zA,zB,zC,zD,zE,zF,zG,zH,zI,zJ,zK,zL,zM,zN,zO,zP,↓reduceIte,reduceCtorEq,Tryz.ntmps18,Tryz.results18]
  (refine CallA.pure (c1) (by simp only [go_sem,zA,zB,zC,zD,zE,zF,zG,zH,zI,zJ,zK,zL,zM,zN,zO,zP,↓reduceIte,reduceCtorEq] <;> first | rfl | decide) ?_; simp only [go_sem,zA,zB,zC,zD,zE,zF,zG,zH,zI,zJ,zK,zL,zM,zN,zO,zP,↓reduceIte,reduceCtorEq])
  (refine CallA.pure (c2) (by simp only [go_sem,zA,zB,zC,zD,zE,zF,zG,zH,zI,zJ,zK,zL,zM,zN,zO,zP,↓reduceIte,reduceCtorEq,yBi,yBj,rowBs,Tryz.ntmps18,Tryz.results18] <;> first | rfl | decide) ?_; simp only [go_sem,zA,zB,zC,zD,zE,zF,zG,zH,zI,zJ,zK,zL,zM,zN,zO,zP,↓reduceIte,reduceCtorEq,yBi,yBj,rowBs,Tryz.ntmps18,Tryz.results18])
theorem begin_calls (v n : Int) : PureCalls Tryz.prog 20 [PI v,PI n] (bytesPV (beginQ v n)) := by
  refine PureCalls.of tabOK mixed Tryz.func20 rfl rfl (by decide +kernel) (by simp [Tryz.ntmps20]) ?_
  have c0 := number_at (n := v) (k := 4) (kn := 4) rfl (by decide)
  have c1 := number_at (n := n) (k := 4) (kn := 4) rfl (by decide)
  have c2 := question_at (c := 0x34) (cn := 52) (l := [bytesN v 4,bytesN n 4]) (o := beginQ v n) rfl (by simp [beginQ]) (by simp) (by simp [bytesN_len])
  simp only [go_sem,zA,zB,zC,zD,zE,zF,zG,zH,zI,zJ,zK,zL,zM,zN,zO,zP,↓reduceIte,reduceCtorEq,Tryz.ntmps20,Tryz.results20]
  (refine CallA.pure (c0) (by simp only [go_sem,zA,zB,zC,zD,zE,zF,zG,zH,zI,zJ,zK,zL,zM,zN,zO,zP,↓reduceIte,reduceCtorEq] <;> first | rfl | decide) ?_; simp only [go_sem,zA,zB,zC,zD,zE,zF,zG,zH,zI,zJ,zK,zL,zM,zN,zO,zP,↓reduceIte,reduceCtorEq])
  (refine CallA.pure (c1) (by simp only [go_sem,zA,zB,zC,zD,zE,zF,zG,zH,zI,zJ,zK,zL,zM,zN,zO,zP,↓reduceIte,reduceCtorEq] <;> first | rfl | decide) ?_; simp only [go_sem,zA,zB,zC,zD,zE,zF,zG,zH,zI,zJ,zK,zL,zM,zN,zO,zP,↓reduceIte,reduceCtorEq])
  (refine CallA.pure (c2) (by simp only [go_sem,zA,zB,zC,zD,zE,zF,zG,zH,zI,zJ,zK,zL,zM,zN,zO,zP,↓reduceIte,reduceCtorEq,yBi,yBj,rowBs,Tryz.ntmps20,Tryz.results20] <;> first | rfl | decide) ?_; simp only [go_sem,zA,zB,zC,zD,zE,zF,zG,zH,zI,zJ,zK,zL,zM,zN,zO,zP,↓reduceIte,reduceCtorEq,yBi,yBj,rowBs,Tryz.ntmps20,Tryz.results20])
theorem block_calls (n : Int) (b : List UInt8) (hb : b.length ≤ 900000) : PureCalls Tryz.prog 22 [PI n,bytesPV b] (bytesPV (blockQ n b)) := by
  refine PureCalls.of tabOK mixed Tryz.func22 rfl rfl (by decide +kernel) (by simp [Tryz.ntmps22]) ?_
  have c1 := number_at (n := n) (k := 2) (kn := 2) rfl (by decide)
  have c2 := question_at (c := 0x36) (cn := 54) (l := [bytesN n 2,b]) (o := blockQ n b) rfl (by simp [blockQ]) (by simp) (by simp [bytesN_len]; omega)
  simp only [go_sem,zA,zB,zC,zD,zE,zF,zG,zH,zI,zJ,zK,zL,zM,zN,zO,zP,↓reduceIte,reduceCtorEq,Tryz.ntmps22,Tryz.results22]
  (refine CallA.pure (c1) (by simp only [go_sem,zA,zB,zC,zD,zE,zF,zG,zH,zI,zJ,zK,zL,zM,zN,zO,zP,↓reduceIte,reduceCtorEq] <;> first | rfl | decide) ?_; simp only [go_sem,zA,zB,zC,zD,zE,zF,zG,zH,zI,zJ,zK,zL,zM,zN,zO,zP,↓reduceIte,reduceCtorEq])
  (refine CallA.pure (c2) (by simp only [go_sem,zA,zB,zC,zD,zE,zF,zG,zH,zI,zJ,zK,zL,zM,zN,zO,zP,↓reduceIte,reduceCtorEq,yBi,yBj,rowBs,Tryz.ntmps22,Tryz.results22] <;> first | rfl | decide) ?_; simp only [go_sem,zA,zB,zC,zD,zE,zF,zG,zH,zI,zJ,zK,zL,zM,zN,zO,zP,↓reduceIte,reduceCtorEq,yBi,yBj,rowBs,Tryz.ntmps22,Tryz.results22])
theorem end_calls : PureCalls Tryz.prog 24 [] (bytesPV endQ) := by
  refine PureCalls.of tabOK mixed Tryz.func24 rfl rfl (by decide +kernel) (by simp [Tryz.ntmps24]) ?_
  have c2 := question_at (c := 0x37) (cn := 55) (l := []) (o := endQ) rfl (by simp [endQ]) (by simp) (by simp)
  simp only [go_sem,zA,zB,zC,zD,zE,zF,zG,zH,zI,zJ,zK,zL,zM,zN,zO,zP,↓reduceIte,reduceCtorEq,Tryz.ntmps24,Tryz.results24]
  (refine CallA.pure (c2) (by simp only [go_sem,zA,zB,zC,zD,zE,zF,zG,zH,zI,zJ,zK,zL,zM,zN,zO,zP,↓reduceIte,reduceCtorEq,yBi,yBj,rowBs,Tryz.ntmps24,Tryz.results24] <;> first | rfl | decide) ?_; simp only [go_sem,zA,zB,zC,zD,zE,zF,zG,zH,zI,zJ,zK,zL,zM,zN,zO,zP,↓reduceIte,reduceCtorEq,yBi,yBj,rowBs,Tryz.ntmps24,Tryz.results24])
def posV : List UInt8 → List UInt8 → Bool
  | c :: _,d :: _ => decide (d = c + 64)
  | _,_ => false
theorem pos_calls (q a : List UInt8) : PureCalls Tryz.prog 26 [bytesPV q,bytesPV a] (PB (posV q a)) := by
  refine PureCalls.of tabOK mixed Tryz.func26 rfl rfl (by decide +kernel) (by simp [Tryz.ntmps26]) ?_
  have z : decide ((0 : Int) > 0) = false := rfl
  cases q with
  | nil =>
    simp only [go_sem,zA,zB,zC,zD,zE,zF,zG,zH,zI,zJ,zK,zL,zM,zN,zO,zP,↓reduceIte,reduceCtorEq,Tryz.ntmps26,Tryz.results26,rowsB_nil,yBb,yCb,z]
    refine endD_intro (by decide +kernel) ?_
    simp only [go_sem,zA,zB,zC,zD,zE,zF,zG,zH,zI,zJ,zK,zL,zM,zN,zO,zP,↓reduceIte,reduceCtorEq,posV,Tryz.ntmps26,Tryz.results26]
  | cons c q =>
    have hz : decide (((q.length + 1 : Nat) : Int) > 0) = true := decide_eq_true (by omega)
    cases a with
    | nil =>
      simp only [go_sem,zA,zB,zC,zD,zE,zF,zG,zH,zI,zJ,zK,zL,zM,zN,zO,zP,↓reduceIte,reduceCtorEq,Tryz.ntmps26,Tryz.results26,rowsB_nil,rowsB_length,yBa,yBb,yCb,z,hz]
      refine endD_intro (by decide +kernel) ?_
      simp only [go_sem,zA,zB,zC,zD,zE,zF,zG,zH,zI,zJ,zK,zL,zM,zN,zO,zP,↓reduceIte,reduceCtorEq,posV,Tryz.ntmps26,Tryz.results26]
    | cons d a =>
      have gc : (rowsB (c :: q)).getD 0 [] = [.lit (.int .u8 c.toNat)] := rfl
      have gd : (rowsB (d :: a)).getD 0 [] = [.lit (.int .u8 d.toNat)] := rfl
      have hz2 : decide (((a.length + 1 : Nat) : Int) > 0) = true := decide_eq_true (by omega)
      have h1 : (0 : Int) < ((q.length + 1 : Nat) : Int) := by omega
      have h2 : (0 : Int) < ((a.length + 1 : Nat) : Int) := by omega
      have w8 : IntKind.wrap .u8 ((c.toNat : Int) + 64) = ((c + 64).toNat : Int) := by
        rw [IntKind.wrap_u8,UInt8.toNat_add]
        simp only [UInt8.reduceToNat]
        omega
      have he : decide ((d.toNat : Int) = ((c + 64).toNat : Int)) = posV (c :: q) (d :: a) := by
        show _ = decide (d = c + 64)
        by_cases e : d = c + 64
        · rw [e]; simp
        · rw [decide_eq_false e]; exact decide_eq_false fun e' => e (UInt8.toNat_inj.1 (by omega))
      simp only [go_sem,zA,zB,zC,zD,zE,zF,zG,zH,zI,zJ,zK,zL,zM,zN,zO,zP,↓reduceIte,reduceCtorEq,Tryz.ntmps26,Tryz.results26,rowsB_length,yBa,hz,hz2,gc,gd,h1,h2,w8,he]
      refine endD_intro (by decide +kernel) ?_
      simp only [go_sem,zA,zB,zC,zD,zE,zF,zG,zH,zI,zJ,zK,zL,zM,zN,zO,zP,↓reduceIte,reduceCtorEq,Tryz.ntmps26,Tryz.results26]
end Go.Proofs.YtcdmhigmgpflbaaGreat.Pe
namespace Go.Proofs.YtcdmhigmgpflbaaGreat.Pe
open Go.Pe Go.RowKit
theorem list6' {q : List UInt8} (h : q.length = 6) : ∃ a b c d e f,q = [a,b,c,d,e,f] := by
  match q,h with
  | [a,b,c,d,e,f],_ => exact ⟨a,b,c,d,e,f,rfl⟩
theorem wrU' (a : UInt8) : IntKind.wrap .i64 (a.toNat : Int) = (a.toNat : Int) := by have := a.toNat_lt; rw [wrapI64_eq]; omega
def numB (l : List UInt8) : Nat := l.foldl (fun s c => s * 256 + c.toNat) 0
theorem numB_snoc (l : List UInt8) (c : UInt8) : numB (l ++ [c]) = numB l * 256 + c.toNat := by simp [numB,List.foldl_append]
theorem numB_lt : ∀ (n : Nat) (l : List UInt8),l.length = n → numB l < 256 ^ n
  | 0,l,h => by rw [List.eq_nil_of_length_eq_zero h]; decide
  | n + 1,l,h => by
    obtain ⟨m,c,rfl⟩ : ∃ m c,l = m ++ [c] := ⟨l.dropLast,l.getLast (by intro e; rw [e] at h; cases h),(List.dropLast_concat_getLast _).symm⟩
    rw [numB_snoc,Nat.pow_succ]
    have := numB_lt n m (by simpa using h)
    have := c.toNat_lt
    omega
theorem orShift (m : Nat) (b : UInt8) (hm : m < 16777216) : bitsA .or .i64 (IntKind.wrap .i64 ((m : Int) * 2 ^ min 8 64)) (b.toNat : Int) = ((m * 256 + b.toNat : Nat) : Int) := by
  have hb := b.toNat_lt
  have h1 : IntKind.wrap .i64 ((m : Int) * 2 ^ min 8 64) = ((m * 256 : Nat) : Int) := by
    show IntKind.wrap .i64 ((m : Int) * 256) = _
    rw [wrapI64_eq]; omega
  rw [h1]
  have h2 : (BitVec.ofInt 64 ((m * 256 : Nat) : Int) ||| BitVec.ofInt 64 (b.toNat : Int)).toNat = m * 256 + b.toNat := by
    rw [BitVec.toNat_or,BitVec.toNat_ofInt,BitVec.toNat_ofInt]
    have e1 : (((m * 256 : Nat) : Int) % ((2 ^ 64 : Nat) : Int)).toNat = m * 2 ^ 8 := by omega
    have e2 : (((b.toNat : Nat) : Int) % ((2 ^ 64 : Nat) : Int)).toNat = b.toNat := by omega
    rw [e1,e2,Nat.mul_comm,← Nat.two_pow_add_eq_or_of_lt (by omega)]
  show IntKind.wrap .i64 ((BitVec.ofInt 64 ((m * 256 : Nat) : Int) ||| BitVec.ofInt 64 (b.toNat : Int)).toNat : Int) = _
  rw [h2,wrapI64_eq]
  omega
def keyQ (k : Int) : List UInt8 := 0x27 :: 2 :: fourV k
def keyForV (secret : Int) : List UInt8 → List UInt8 × Bool
  | [p,o,x,y,z,w] => if p = 0x67 ∧ o = 1 then (keyQ (keyV (numB [x,y,z,w]) secret),true) else ([],false)
  | _ => ([],false)
theorem keyForV_len {secret : Int} {a : List UInt8} (h : a.length ≠ 6) : keyForV secret a = ([],false) := by
  unfold keyForV
  split
  · exact absurd rfl h
  · rfl
def kfSt (secret : Int) (l : List UInt8) (i : Nat) : St := ⟨44,[(1,PI secret),(6,PI (numB (l.take i))),(25,bytesPV l),(26,PI 4),(27,PI i)],[],20,0⟩
def kfI (secret : Int) (l : List UInt8) (m : Nat) (st : St) : Prop := ∃ i : Nat,i ≤ 4 ∧ m = 4 - i ∧ st = kfSt secret l i
theorem keyFor_calls (a : List UInt8) (secret : Int) : PureCalls Tryz.prog 5 [bytesPV a,PI secret] (.tup [bytesPV (keyForV secret a).1,PB (keyForV secret a).2]) := by
  refine PureCalls.of tabOK mixed Tryz.func5 rfl rfl (by decide +kernel) (by simp [Tryz.ntmps5]) ?_
  by_cases h6 : a.length = 6
  rotate_left 1
  · rw [keyForV_len h6]
    have g : decide ((a.length : Int) = 6) = false := decide_eq_false (by omega)
    simp only [go_sem,zA,zB,zC,zD,zE,zF,zG,zH,zI,zJ,zK,zL,zM,zN,zO,zP,↓reduceIte,reduceCtorEq,Tryz.ntmps5,Tryz.results5,rowsB_length,g]
    done
  obtain ⟨p,o,x,y,z,w,rfl⟩ := list6' h6
  have cs := seed_calls
  have cp := pos_calls seedQ [p,o,x,y,z,w]
  have hp : posV seedQ [p,o,x,y,z,w] = decide (p = 0x67) := rfl
  rw [hp] at cp
  have gl : (rowsB [p,o,x,y,z,w]).length = 6 := rfl
  have g1 : (rowsB [p,o,x,y,z,w]).getD 1 [] = [.lit (.int .u8 o.toNat)] := rfl
  have gd : (rowsB [p,o,x,y,z,w]).drop 2 = rowsB [x,y,z,w] := rfl
  have gt : (rowsB [x,y,z,w]).take 4 = rowsB [x,y,z,w] := rfl
  have i1 : (1 : Int) < 6 := by decide
  have he : ∀ b,(p = 0x67) → decide ((o.toNat : Int) = 1) = b → keyForV secret [p,o,x,y,z,w] = if b = true then (keyQ (keyV (numB [x,y,z,w]) secret),true) else ([],false) := by
    intro b hp hb
    subst hp
    cases b with
    | true =>
      have : o = 1 := UInt8.toNat_inj.1 (by have := of_decide_eq_true hb; simp only [UInt8.reduceToNat]; omega)
      subst this; rfl
    | false =>
      have : ¬ o = 1 := fun e => by subst e; cases hb
      show (if (0x67 : UInt8) = 0x67 ∧ o = 1 then (keyQ (keyV (numB [x,y,z,w]) secret),true) else ([],false)) = _
      rw [if_neg (fun h => this h.2)]
      rfl
  by_cases hp67 : p = 0x67
  rotate_left 1
  · have g : decide (p = 0x67) = false := decide_eq_false hp67
    have e : keyForV secret [p,o,x,y,z,w] = ([],false) := by
      show (if p = 0x67 ∧ o = 1 then (keyQ (keyV (numB [x,y,z,w]) secret),true) else ([],false)) = _
      rw [if_neg (fun h => hp67 h.1)]
    rw [e]
    simp only [go_sem,zA,zB,zC,zD,zE,zF,zG,zH,zI,zJ,zK,zL,zM,zN,zO,zP,↓reduceIte,reduceCtorEq,Tryz.ntmps5,Tryz.results5,rowsB_length,yBa,yBb]
    (refine CallA.pure (cs) (by simp only [go_sem,zA,zB,zC,zD,zE,zF,zG,zH,zI,zJ,zK,zL,zM,zN,zO,zP,↓reduceIte,reduceCtorEq] <;> first | rfl | decide) ?_; simp only [go_sem,zA,zB,zC,zD,zE,zF,zG,zH,zI,zJ,zK,zL,zM,zN,zO,zP,↓reduceIte,reduceCtorEq])
    (refine CallA.pure (cp) (by simp only [go_sem,zA,zB,zC,zD,zE,zF,zG,zH,zI,zJ,zK,zL,zM,zN,zO,zP,↓reduceIte,reduceCtorEq,rowsB_length,yBa,yBb,g1,i1,gd,g,Tryz.ntmps5,Tryz.results5] <;> first | rfl | decide) ?_; simp only [go_sem,zA,zB,zC,zD,zE,zF,zG,zH,zI,zJ,zK,zL,zM,zN,zO,zP,↓reduceIte,reduceCtorEq,rowsB_length,yBa,yBb,g1,i1,gd,g,Tryz.ntmps5,Tryz.results5])
  have g : decide (p = 0x67) = true := decide_eq_true hp67
  cases hb : decide ((o.toNat : Int) = 1) with
  | false =>
    rw [he _ hp67 hb,if_neg (by decide)]
    simp only [go_sem,zA,zB,zC,zD,zE,zF,zG,zH,zI,zJ,zK,zL,zM,zN,zO,zP,↓reduceIte,reduceCtorEq,Tryz.ntmps5,Tryz.results5,rowsB_length,yBa,yBb]
    (refine CallA.pure (cs) (by simp only [go_sem,zA,zB,zC,zD,zE,zF,zG,zH,zI,zJ,zK,zL,zM,zN,zO,zP,↓reduceIte,reduceCtorEq] <;> first | rfl | decide) ?_; simp only [go_sem,zA,zB,zC,zD,zE,zF,zG,zH,zI,zJ,zK,zL,zM,zN,zO,zP,↓reduceIte,reduceCtorEq])
    (refine CallA.pure (cp) (by simp only [go_sem,zA,zB,zC,zD,zE,zF,zG,zH,zI,zJ,zK,zL,zM,zN,zO,zP,↓reduceIte,reduceCtorEq,rowsB_length,yBa,yBb,g1,i1,gd,g,hb,Tryz.ntmps5,Tryz.results5] <;> first | rfl | decide) ?_; simp only [go_sem,zA,zB,zC,zD,zE,zF,zG,zH,zI,zJ,zK,zL,zM,zN,zO,zP,↓reduceIte,reduceCtorEq,rowsB_length,yBa,yBb,g1,i1,gd,g,hb,Tryz.ntmps5,Tryz.results5])
  | true =>
  rw [he _ hp67 hb,if_pos rfl]
  simp only [go_sem,zA,zB,zC,zD,zE,zF,zG,zH,zI,zJ,zK,zL,zM,zN,zO,zP,↓reduceIte,reduceCtorEq,Tryz.ntmps5,Tryz.results5,rowsB_length,yBa,yBb]
  (refine CallA.pure (cs) (by simp only [go_sem,zA,zB,zC,zD,zE,zF,zG,zH,zI,zJ,zK,zL,zM,zN,zO,zP,↓reduceIte,reduceCtorEq] <;> first | rfl | decide) ?_; simp only [go_sem,zA,zB,zC,zD,zE,zF,zG,zH,zI,zJ,zK,zL,zM,zN,zO,zP,↓reduceIte,reduceCtorEq])
  (refine CallA.pure (cp) (by simp only [go_sem,zA,zB,zC,zD,zE,zF,zG,zH,zI,zJ,zK,zL,zM,zN,zO,zP,↓reduceIte,reduceCtorEq,rowsB_length,yBa,yBb,g1,i1,gd,gt,g,hb] <;> first | rfl | decide) ?_; simp only [go_sem,zA,zB,zC,zD,zE,zF,zG,zH,zI,zJ,zK,zL,zM,zN,zO,zP,↓reduceIte,reduceCtorEq,rowsB_length,yBa,yBb,g1,i1,gd,gt,g,hb])
  obtain ⟨l,hl⟩ : ∃ l,l = [x,y,z,w] := ⟨_,rfl⟩
  have hll : l.length = 4 := by rw [hl]; rfl
  rw [← hl]
  refine wpA_loop (kfI secret l) ⟨_,_,?_,0,by omega,rfl,rfl⟩ ?_
  · have n0 : numB [] = 0 := rfl
    simp only [go_sem,zA,zB,zC,zD,zE,zF,zG,zH,zI,zJ,zK,zL,zM,zN,zO,zP,↓reduceIte,reduceCtorEq,kfSt,List.take_zero,yCb,n0]
  rintro m st ⟨i,hi,rfl,rfl⟩
  by_cases hc : i < 4
  · have f1 : decide ((i : Int) < 4) = true := decide_eq_true (by omega)
    have hw := wrapIN (i := i) (by omega)
    obtain ⟨f3,f4⟩ : (0 : Int) ≤ (i : Int) ∧ (i : Int) < (4 : Int) := by omega
    have hil : i < l.length := by omega
    have hrow : (rowsB l).getD i [] = [.lit (.int .u8 l[i].toNat)] := by simp [rowsB,List.getD_eq_getElem?_getD,hil,rowB]
    have hs : numB (l.take (i + 1)) = numB (l.take i) * 256 + l[i].toNat := by rw [List.take_succ_eq_append_getElem hil,numB_snoc]
    generalize l[i] = c at hrow hs
    have hlt := numB_lt i (l.take i) (by simp; omega)
    have hlt2 : numB (l.take i) < 16777216 := by
      have : (256 : Nat) ^ i ≤ 256 ^ 3 := Nat.pow_le_pow_right (by decide) (by omega)
      omega
    have ho := orShift (numB (l.take i)) c hlt2
    have wc := wrU' c
    simp only [go_sem,zA,zB,zC,zD,zE,zF,zG,zH,zI,zJ,zK,zL,zM,zN,zO,zP,↓reduceIte,reduceCtorEq,kfSt,f1,f3,f4,hw,hll,rowsB_length,hrow,yCa,wc,ho,← hs]
    refine ⟨4 - (i + 1),_,by omega,?_,i + 1,by omega,rfl,rfl⟩
    simp only [go_sem,zA,zB,zC,zD,zE,zF,zG,zH,zI,zJ,zK,zL,zM,zN,zO,zP,↓reduceIte,reduceCtorEq,kfSt,hw]
  · have f1 : decide ((i : Int) < 4) = false := decide_eq_false (by omega)
    have hi4 : l.take i = l := by rw [List.take_of_length_le (by omega)]
    have c1 := keyD_calls (numB l) secret
    have c2 := number_at (n := keyV (numB l) secret) (k := 4) (kn := 4) rfl (by decide)
    rw [bytesN4] at c2
    have c3 := question_at (c := 0x27) (cn := 39) (l := [[2],fourV (keyV (numB l) secret)]) (o := keyQ (keyV (numB l) secret)) rfl rfl (by simp) (by simp [fourV_len])
    generalize keyV (numB l) secret = k at c1 c2 c3
    simp only [go_sem,zA,zB,zC,zD,zE,zF,zG,zH,zI,zJ,zK,zL,zM,zN,zO,zP,↓reduceIte,reduceCtorEq,kfSt,f1,hi4]
    (refine CallA.pure (c1) (by simp only [go_sem,zA,zB,zC,zD,zE,zF,zG,zH,zI,zJ,zK,zL,zM,zN,zO,zP,↓reduceIte,reduceCtorEq] <;> first | rfl | decide) ?_; simp only [go_sem,zA,zB,zC,zD,zE,zF,zG,zH,zI,zJ,zK,zL,zM,zN,zO,zP,↓reduceIte,reduceCtorEq])
    (refine CallA.pure (c2) (by simp only [go_sem,zA,zB,zC,zD,zE,zF,zG,zH,zI,zJ,zK,zL,zM,zN,zO,zP,↓reduceIte,reduceCtorEq] <;> first | rfl | decide) ?_; simp only [go_sem,zA,zB,zC,zD,zE,zF,zG,zH,zI,zJ,zK,zL,zM,zN,zO,zP,↓reduceIte,reduceCtorEq])
    (refine CallA.pure (c3) (by simp only [go_sem,zA,zB,zC,zD,zE,zF,zG,zH,zI,zJ,zK,zL,zM,zN,zO,zP,↓reduceIte,reduceCtorEq,yBi,yBj,rowBs,rowsB,rowB] <;> first | rfl | decide) ?_; simp only [go_sem,zA,zB,zC,zD,zE,zF,zG,zH,zI,zJ,zK,zL,zM,zN,zO,zP,↓reduceIte,reduceCtorEq,Tryz.ntmps5,Tryz.results5])
end Go.Proofs.YtcdmhigmgpflbaaGreat.Pe
