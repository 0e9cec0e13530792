import Derived.Test.YtcdmhigmgpflbaaDT1
import Derived.Test.YtcdmhigmgpflbaaDI3
import Derived.Test.YtcdmhigmgpflbaaDI9
namespace Go.Proofs.Ytcdmhigmgpflbaa.Pe
open Go.Pe Go.RowKit
set_option maxRecDepth 20000
set_option linter.unusedSimpArgs false
set_option linter.unusedVariables false
/-- The table,where a slice of one's own that is cut stays one's own. -/
def tabT : Tab := fun t => if t = 31 then (tab t).map (fun ti => { ti with trunc := true }) else tab t
theorem tabTOK : TabOK Try.prog tabT := by
  intro t ti h
  unfold tabT at h
  split at h
  · obtain ⟨ti',h1,rfl⟩ := Option.map_eq_some_iff.1 h
    obtain ⟨q1,q2,q3,q4⟩ := tabOK t ti' h1
    exact ⟨q1,q2,q3,q4⟩
  · exact tabOK t ti h
theorem tabT_bytes : tabT 31 = some { ti31 with trunc := true } := rfl
theorem tabT_eq (t : Nat) : tabT t = if t = 31 then some { ti31 with trunc := true } else tab t := by
  unfold tabT
  split
  · rename_i h; subst h; rfl
  · rfl
end Go.Proofs.Ytcdmhigmgpflbaa.Pe


namespace Go.Proofs.Ytcdmhigmgpflbaa.Pe
open Go.Pe Go.RowKit
open Nat renaming reduceAdd → zA,reduceSub → zB,reduceMul → zC,reduceLT → zD,reduceLeDiff → zE,reduceEqDiff → zF,reduceBEq → zG
open Int renaming reduceToNat → zH,reduceLT → zI,reduceLE → zJ,reduceEq → zK,reduceNe → zL,reduceAdd → zM,reduceSub → zN,reduceMul → zO,reduceNeg → zP
set_option maxRecDepth 20000
set_option maxHeartbeats 4000000
set_option linter.unusedSimpArgs false
set_option linter.unusedVariables false
/-- Grow of nil: a slice of its own,empty,with room. -/
theorem growN {n : Int} {hp : List (Nat × Blk)} {nx : Nat} {K KP : CK} (h0 : 0 ≤ n) (h1 : n ≤ 1000000) (hnx : lk nx hp = none) (hnx2 : lk (nx + 1) hp = none) (h : K (.own nx 1) ((nx,.arr 5 1 [] 1 false) :: (nx,.arr 5 1 (List.replicate n.toNat [.lit (.int .u8 0)]) 0 false) :: hp) (nx + 1 + 1)) (hnil : n = 0 → K (.lit (.slice none 0 0)) hp nx) :
    CallA Try.prog 149 [.lit (.slice none 0 0),PI n] hp nx K KP := by
  refine CallA.into tabTOK mixed Try.func149 rfl rfl (by decide +kernel) (by simp [Try.ntmps149]) ?_
  have g0 : decide (n < 0) = false := by simp; omega
  have hw0 : IntKind.wrap .i64 0 = 0 := by decide
  have hw : IntKind.wrap .i64 (n - 0) = n := by rw [wrapI64 (by omega)]; omega
  simp only [go_sem,zA,zB,zC,zD,zE,zF,zG,zH,zI,zJ,zK,zL,zM,zN,zO,zP,↓reduceIte,reduceCtorEq,tabT_eq,Try.ntmps149,Try.results149,g0,hw0,hw]
  by_cases hn : n = 0
  · have g1 : decide (n > 0) = false := by simp; omega
    simp only [go_sem,zA,zB,zC,zD,zE,zF,zG,zH,zI,zJ,zK,zL,zM,zN,zO,zP,↓reduceIte,reduceCtorEq,tabT_eq,Try.ntmps149,Try.results149,g0,hw0,hw,g1]
    exact hnil hn
  · have g1 : decide (n > 0) = true := by simp; omega
    simp only [go_sem,zA,zB,zC,zD,zE,zF,zG,zH,zI,zJ,zK,zL,zM,zN,zO,zP,↓reduceIte,reduceCtorEq,tabT_eq,Try.ntmps149,Try.results149,g0,hw0,hw,g1,hnx,hnx2]
    exact ⟨⟨h0,by omega,by omega⟩,by rw [if_neg (by omega)],by omega,h⟩
def flatN (l : List (List UInt8)) (i : Nat) : List UInt8 := (l.take i).flatten
theorem flatN_succ {l : List (List UInt8)} {i : Nat} (h : i < l.length) : flatN l (i + 1) = flatN l i ++ l[i] := by
  rw [flatN,List.take_succ_eq_append_getElem h,List.flatten_append,flatN]
  simp
theorem flatN_le (l : List (List UInt8)) (i : Nat) : (flatN l i).length ≤ l.flatten.length := by
  have : l.flatten = flatN l i ++ (l.drop i).flatten := by rw [flatN,← List.flatten_append,List.take_append_drop]
  rw [this,List.length_append]; omega
theorem flatN_all {l : List (List UInt8)} {i : Nat} (h : l.length ≤ i) : flatN l i = l.flatten := by rw [flatN,List.take_of_length_le h]
theorem rowsBs_getD {l : List (List UInt8)} {i : Nat} (h : i < l.length) : (l.map rowBs).getD i [] = [bytesPV l[i]] := by
  simp [List.getD_eq_getElem?_getD,h,rowBs]
def ccSt1 (l : List (List UInt8)) (i : Nat) : St := ⟨36,[(0,bytessPV l),(3,PI (flatN l i).length),(9,bytessPV l),(10,PI l.length),(11,PI i)],[],0,0⟩
def ccI1 (l : List (List UInt8)) (m : Nat) (s : St) : Prop := ∃ i : Nat,i ≤ l.length ∧ m = l.length - i ∧ s = ccSt1 l i
def ccSt2 (l : List (List UInt8)) (i v : Nat) : St := ⟨36,[(6,.own 0 v),(25,bytessPV l),(26,PI l.length),(27,PI i)],[(0,.arr 5 1 (rowsB (flatN l i)) v false)],3,0⟩
def ccI2 (l : List (List UInt8)) (m : Nat) (s : St) : Prop := ∃ i v : Nat,i ≤ l.length ∧ m = l.length - i ∧ s = ccSt2 l i v
def ccSt3 (l : List (List UInt8)) : St := ⟨36,[(6,.lit (.slice none 0 0)),(25,bytessPV l),(26,PI l.length),(27,PI (0 : Nat))],[],3,0⟩
def ccSt4 (l : List (List UInt8)) (i v : Nat) : St := ⟨36,[(6,.own 3 v),(25,bytessPV l),(26,PI l.length),(27,PI i)],[(3,.arr 5 1 (rowsB (flatN l i)) v false)],4,0⟩
def ccI3 (l : List (List UInt8)) (m : Nat) (s : St) : Prop := ∃ i v : Nat,i ≤ l.length ∧ m = l.length - i ∧ ((i = 0 ∧ s = ccSt3 l) ∨ (0 < i ∧ s = ccSt4 l i v))
theorem concatL_calls (l : List (List UInt8)) (hl : l.length ≤ 1000) (h : l.flatten.length ≤ 1000000) : PureCalls Try.prog 126 [bytessPV l] (bytesPV l.flatten) := by
  refine PureCalls.of tabTOK mixed Try.func126 rfl rfl (by decide +kernel) (by simp [Try.ntmps126]) ?_
  have f00 : flatN l 0 = [] := by simp [flatN]
  simp only [go_sem,zA,zB,zC,zD,zE,zF,zG,zH,zI,zJ,zK,zL,zM,zN,zO,zP,↓reduceIte,reduceCtorEq,tabT_eq,Try.ntmps126,Try.results126]
  refine wpA_loop (ccI1 l) ⟨_,_,?_,0,by omega,rfl,rfl⟩ ?_
  · simp only [go_sem,zA,zB,zC,zD,zE,zF,zG,zH,zI,zJ,zK,zL,zM,zN,zO,zP,↓reduceIte,reduceCtorEq,tabT_eq,ccSt1,f00,List.length_map,List.length_nil,Int.natCast_zero]
  rintro m s ⟨i,hi,rfl,rfl⟩
  by_cases hc : i < l.length
  · have f1 : decide ((i : Int) < (l.length : Int)) = true := decide_eq_true (by omega)
    obtain ⟨f3,f4⟩ : (0 : Int) ≤ (i : Int) ∧ (i : Int) < (l.length : Int) := by omega
    have hw := wrapIN (i := i) (by omega)
    have hrow := rowsBs_getD hc
    have hs := flatN_succ hc
    have hle := flatN_le l (i + 1)
    have hsl : (flatN l i).length + l[i].length = (flatN l (i + 1)).length := by rw [hs,List.length_append]
    generalize l[i] = x at hrow hsl
    have hw0 : IntKind.wrap .i64 (((flatN l i).length : Int) + (x.length : Int)) = ((flatN l (i + 1)).length : Int) := by rw [wrapI64 (by omega)]; omega
    have f0 : decide (((flatN l (i + 1)).length : Int) < 0) = false := decide_eq_false (by omega)
    simp only [go_sem,zA,zB,zC,zD,zE,zF,zG,zH,zI,zJ,zK,zL,zM,zN,zO,zP,↓reduceIte,reduceCtorEq,tabT_eq,ccSt1,f1,f3,f4,List.length_map,Int.toNat_natCast,hrow,hw0,f0,hw,rowsB_length]
    refine ⟨l.length - (i + 1),_,by omega,?_,i + 1,by omega,rfl,rfl⟩
    simp only [go_sem,zA,zB,zC,zD,zE,zF,zG,zH,zI,zJ,zK,zL,zM,zN,zO,zP,↓reduceIte,reduceCtorEq,tabT_eq,ccSt1,hw,hw0,List.length_map]
  · have f1 : decide ((i : Int) < (l.length : Int)) = false := decide_eq_false (by omega)
    have hall := flatN_all (l := l) (i := i) (by omega)
    simp only [go_sem,zA,zB,zC,zD,zE,zF,zG,zH,zI,zJ,zK,zL,zM,zN,zO,zP,↓reduceIte,reduceCtorEq,tabT_eq,ccSt1,f1,hall]
    refine growN (by omega) (by omega) rfl rfl ?_ ?_
    · simp only [go_sem,zA,zB,zC,zD,zE,zF,zG,zH,zI,zJ,zK,zL,zM,zN,zO,zP,↓reduceIte,reduceCtorEq,tabT_eq]
      refine wpA_loop (ccI2 l) ⟨_,_,?_,0,1,by omega,rfl,rfl⟩ ?_
      · simp only [go_sem,zA,zB,zC,zD,zE,zF,zG,zH,zI,zJ,zK,zL,zM,zN,zO,zP,↓reduceIte,reduceCtorEq,tabT_eq,ccSt2,f00,rowsB_nil,List.length_map,Int.natCast_zero]
      rintro m s ⟨i,v,hi,rfl,rfl⟩
      by_cases hc : i < l.length
      · have f1 : decide ((i : Int) < (l.length : Int)) = true := decide_eq_true (by omega)
        obtain ⟨f3,f4⟩ : (0 : Int) ≤ (i : Int) ∧ (i : Int) < (l.length : Int) := by omega
        have hw := wrapIN (i := i) (by omega)
        have hrow := rowsBs_getD hc
        have hs := flatN_succ hc
        have hle := flatN_le l (i + 1)
        have hsl : (flatN l i).length + l[i].length = (flatN l (i + 1)).length := by rw [hs,List.length_append]
        generalize l[i] = x at hrow hsl hs
        simp only [go_sem,zA,zB,zC,zD,zE,zF,zG,zH,zI,zJ,zK,zL,zM,zN,zO,zP,↓reduceIte,reduceCtorEq,tabT_eq,ccSt2,f1,f3,f4,List.length_map,Int.toNat_natCast,hrow,hw,rowsB_length]
        refine ⟨by omega,l.length - (i + 1),_,by omega,?_,i + 1,v + 1,by omega,rfl,rfl⟩
        simp only [go_sem,zA,zB,zC,zD,zE,zF,zG,zH,zI,zJ,zK,zL,zM,zN,zO,zP,↓reduceIte,reduceCtorEq,tabT_eq,ccSt2,hw,hs,List.length_map]
      · have f1 : decide ((i : Int) < (l.length : Int)) = false := decide_eq_false (by omega)
        have hall := flatN_all (l := l) (i := i) (by omega)
        simp only [go_sem,zA,zB,zC,zD,zE,zF,zG,zH,zI,zJ,zK,zL,zM,zN,zO,zP,↓reduceIte,reduceCtorEq,tabT_eq,ccSt2,f1,hall,Try.ntmps126,Try.results126]
    · intro h0
      have hz : ∀ i,flatN l i = [] := fun i => List.eq_nil_of_length_eq_zero (by have := flatN_le l i; omega)
      have hz2 : l.flatten = [] := List.eq_nil_of_length_eq_zero (by omega)
      simp only [go_sem,zA,zB,zC,zD,zE,zF,zG,zH,zI,zJ,zK,zL,zM,zN,zO,zP,↓reduceIte,reduceCtorEq,tabT_eq]
      refine wpA_loop (ccI3 l) ⟨_,_,?_,0,0,by omega,rfl,.inl ⟨rfl,rfl⟩⟩ ?_
      · simp only [go_sem,zA,zB,zC,zD,zE,zF,zG,zH,zI,zJ,zK,zL,zM,zN,zO,zP,↓reduceIte,reduceCtorEq,tabT_eq,ccSt3,List.length_map,Int.natCast_zero]
      rintro m s ⟨i,v,hi,rfl,⟨rfl,rfl⟩ | ⟨hp,rfl⟩⟩
      · by_cases hc : 0 < l.length
        · have f1 : decide ((0 : Int) < (l.length : Int)) = true := decide_eq_true (by omega)
          have f4 : (0 : Int) < (l.length : Int) := by omega
          have hw : IntKind.wrap .i64 1 = 1 := by decide
          have hrow := rowsBs_getD hc
          have hs := flatN_succ hc
          have hx : l[0] = [] := by rw [hz,hz] at hs; simpa using hs.symm
          rw [hx] at hrow
          simp only [go_sem,zA,zB,zC,zD,zE,zF,zG,zH,zI,zJ,zK,zL,zM,zN,zO,zP,↓reduceIte,reduceCtorEq,tabT_eq,ccSt3,f1,f4,List.length_map,Int.toNat_natCast,hrow,hw,Int.natCast_zero]
          refine ⟨l.length - 1,_,by omega,?_,1,0,by omega,rfl,.inr ⟨by omega,rfl⟩⟩
          simp only [go_sem,zA,zB,zC,zD,zE,zF,zG,zH,zI,zJ,zK,zL,zM,zN,zO,zP,↓reduceIte,reduceCtorEq,tabT_eq,ccSt4,hw,hz,List.length_map,Int.natCast_one]
        · have f1 : decide ((0 : Int) < (l.length : Int)) = false := decide_eq_false (by omega)
          simp only [go_sem,zA,zB,zC,zD,zE,zF,zG,zH,zI,zJ,zK,zL,zM,zN,zO,zP,↓reduceIte,reduceCtorEq,tabT_eq,ccSt3,f1,hz2,Int.natCast_zero,Try.ntmps126,Try.results126]
      by_cases hc : i < l.length
      · have f1 : decide ((i : Int) < (l.length : Int)) = true := decide_eq_true (by omega)
        obtain ⟨f3,f4⟩ : (0 : Int) ≤ (i : Int) ∧ (i : Int) < (l.length : Int) := by omega
        have hw := wrapIN (i := i) (by omega)
        have hrow := rowsBs_getD hc
        have hs := flatN_succ hc
        have hx : l[i] = [] := by rw [hz,hz] at hs; simpa using hs.symm
        rw [hx] at hrow
        simp only [go_sem,zA,zB,zC,zD,zE,zF,zG,zH,zI,zJ,zK,zL,zM,zN,zO,zP,↓reduceIte,reduceCtorEq,tabT_eq,ccSt4,f1,f3,f4,List.length_map,Int.toNat_natCast,hrow,hw,hz,rowsB_nil]
        refine ⟨l.length - (i + 1),_,by omega,?_,i + 1,v + 1,by omega,rfl,.inr ⟨by omega,rfl⟩⟩
        simp only [go_sem,zA,zB,zC,zD,zE,zF,zG,zH,zI,zJ,zK,zL,zM,zN,zO,zP,↓reduceIte,reduceCtorEq,tabT_eq,ccSt4,hw,hz,List.length_map]
      · have f1 : decide ((i : Int) < (l.length : Int)) = false := decide_eq_false (by omega)
        simp only [go_sem,zA,zB,zC,zD,zE,zF,zG,zH,zI,zJ,zK,zL,zM,zN,zO,zP,↓reduceIte,reduceCtorEq,tabT_eq,ccSt4,f1,hz,hz2,Try.ntmps126,Try.results126]
end Go.Proofs.Ytcdmhigmgpflbaa.Pe


namespace Go.Proofs.Ytcdmhigmgpflbaa.Pe
open Go.Pe Go.RowKit
open Nat renaming reduceAdd → zA,reduceSub → zB,reduceMul → zC,reduceLT → zD,reduceLeDiff → zE,reduceEqDiff → zF,reduceBEq → zG
open Int renaming reduceToNat → zH,reduceLT → zI,reduceLE → zJ,reduceEq → zK,reduceNe → zL,reduceAdd → zM,reduceSub → zN,reduceMul → zO,reduceNeg → zP
set_option maxRecDepth 20000
set_option maxHeartbeats 4000000
set_option linter.unusedSimpArgs false
set_option linter.unusedVariables false
/-- So many bytes of a number,the highest one first. -/
def bytesN (n : Int) : Nat → List UInt8
  | 0 => []
  | i + 1 => u8of (n.fdiv (2 ^ min (8 * i) 64)) :: bytesN n i
theorem bytesN_len (n : Int) : ∀ k,(bytesN n k).length = k
  | 0 => rfl
  | k + 1 => by rw [bytesN,List.length_cons,bytesN_len n k]
def nmRows (n : Int) (k i : Nat) : List UInt8 := List.replicate (k - i) 0 ++ bytesN n i
theorem nmRows_len (n : Int) {k i : Nat} (h : i ≤ k) : (nmRows n k i).length = k := by simp [nmRows,bytesN_len]; omega
theorem nmRows_set (n : Int) {k i : Nat} (h : i < k) : (nmRows n k i).set (k - 1 - i) (u8of (n.fdiv (2 ^ min (8 * i) 64))) = nmRows n k (i + 1) := by
  unfold nmRows
  obtain ⟨m,rfl⟩ : ∃ m,k = m + 1 + i := ⟨k - 1 - i,by omega⟩
  rw [show m + 1 + i - i = m + 1 by omega,show m + 1 + i - 1 - i = m by omega,show m + 1 + i - (i + 1) = m by omega,List.set_append,if_pos (by simp),List.replicate_succ',List.set_append,if_neg (by simp)]
  simp [bytesN]
def nmSt (n : Int) (k i : Nat) : St := ⟨26,[(0,PI n),(1,PI k),(5,.own 0 0),(9,PI k),(10,PI i)],[(0,.arr 5 1 (rowsB (nmRows n k i)) 0 false)],20,0⟩
def nmI (n : Int) (k : Nat) (m : Nat) (st : St) : Prop := ∃ i : Nat,i ≤ k ∧ m = k - i ∧ st = nmSt n k i
theorem rows_zero (k : Nat) : rowsB (List.replicate k 0) = List.replicate k [.lit (.int .u8 0)] := by simp [rowsB,rowB]
theorem number_calls (n : Int) (k : Nat) (hk : k ≤ 8) : PureCalls Try.prog 91 [PI n,PI k] (bytesPV (bytesN n k)) := by
  refine PureCalls.of tabOK mixed Try.func91 rfl rfl (by decide +kernel) (by simp [Try.ntmps91]) ?_
  have h0 : nmRows n k 0 = List.replicate k 0 := by simp [nmRows,bytesN]
  simp only [go_sem,zA,zB,zC,zD,zE,zF,zG,zH,zI,zJ,zK,zL,zM,zN,zO,zP,↓reduceIte,reduceCtorEq,Try.ntmps91,Try.results91]
  refine ⟨by omega,?_⟩
  refine wpA_loop (nmI n k) ⟨_,_,?_,0,by omega,rfl,rfl⟩ ?_
  · simp only [go_sem,zA,zB,zC,zD,zE,zF,zG,zH,zI,zJ,zK,zL,zM,zN,zO,zP,↓reduceIte,reduceCtorEq,nmSt,h0,rows_zero,Int.toNat_natCast,Int.natCast_zero]
  rintro m st ⟨i,hi,rfl,rfl⟩
  have ln := nmRows_len n hi
  by_cases hc : i < k
  · have f1 : decide ((i : Int) < (k : Int)) = true := decide_eq_true (by omega)
    have hw := wrapIN (i := i) (by omega)
    have w1 : IntKind.wrap .i64 ((k : Int) - 1) = ((k - 1 : Nat) : Int) := by rw [wrapI64_eq]; omega
    have w2 : IntKind.wrap .i64 (((k - 1 : Nat) : Int) - (i : Int)) = ((k - 1 - i : Nat) : Int) := by rw [wrapI64_eq]; omega
    have w3 : IntKind.wrap .i64 (8 * (i : Int)) = ((8 * i : Nat) : Int) := by rw [wrapI64_eq]; omega
    obtain ⟨f3,f4⟩ : (0 : Int) ≤ ((k - 1 - i : Nat) : Int) ∧ ((k - 1 - i : Nat) : Int) < (k : Int) := by omega
    have f5 : (0 : Int) ≤ ((8 * i : Nat) : Int) := by omega
    have f6 : k - 1 - i < k := by omega
    simp only [go_sem,zA,zB,zC,zD,zE,zF,zG,zH,zI,zJ,zK,zL,zM,zN,zO,zP,↓reduceIte,reduceCtorEq,nmSt,f1,hw,w1,w2,w3,f3,f4,f5,f6,ln,rowsB_length,u8of_eq,Int.toNat_natCast]
    have g8 : List.drop 1 ((rowsB (nmRows n k i)).getD (k - 1 - i) []) = [] := by rw [rowsB_getD (by rw [ln]; exact f6)]; rfl
    have g7 : (rowsB (nmRows n k i)).set (k - 1 - i) [.lit (.int .u8 (u8of (n.fdiv (2 ^ min (8 * i) 64))).toNat)] = rowsB (nmRows n k (i + 1)) := by rw [← nmRows_set n hc]; simp [rowsB,rowB]
    refine ⟨k - (i + 1),_,by omega,?_,i + 1,by omega,rfl,rfl⟩
    simp only [go_sem,zA,zB,zC,zD,zE,zF,zG,zH,zI,zJ,zK,zL,zM,zN,zO,zP,↓reduceIte,reduceCtorEq,nmSt,g7,g8,hw]
  · have f1 : decide ((i : Int) < (k : Int)) = false := decide_eq_false (by omega)
    have : i = k := by omega
    subst this
    have hz : nmRows n i i = bytesN n i := by simp [nmRows]
    simp only [go_sem,zA,zB,zC,zD,zE,zF,zG,zH,zI,zJ,zK,zL,zM,zN,zO,zP,↓reduceIte,reduceCtorEq,nmSt,f1,hz,Try.ntmps91,Try.results91]
/-! ### questions -/
theorem question_calls (c : UInt8) (l : List (List UInt8)) (hl : l.length ≤ 1000) (h : l.flatten.length ≤ 1000000) : PureCalls Try.prog 90 [.lit (.int .u8 c.toNat),bytessPV l] (bytesPV (c :: l.flatten)) := by
  refine PureCalls.of tabOK mixed Try.func90 rfl rfl (by decide +kernel) (by simp [Try.ntmps90]) ?_
  have cc := concatL_calls l hl h
  generalize l.flatten = o at cc h
  have lo : (rowsB o).length = o.length := rowsB_length o
  simp only [go_sem,zA,zB,zC,zD,zE,zF,zG,zH,zI,zJ,zK,zL,zM,zN,zO,zP,↓reduceIte,reduceCtorEq,Try.ntmps90,Try.results90]
  (refine CallA.pure (cc) (by simp only [go_sem,zA,zB,zC,zD,zE,zF,zG,zH,zI,zJ,zK,zL,zM,zN,zO,zP,↓reduceIte,reduceCtorEq,lo] <;> first | rfl | decide) ?_; simp only [go_sem,zA,zB,zC,zD,zE,zF,zG,zH,zI,zJ,zK,zL,zM,zN,zO,zP,↓reduceIte,reduceCtorEq,lo])
  refine ⟨by omega,?_⟩
  simp only [go_sem,zA,zB,zC,zD,zE,zF,zG,zH,zI,zJ,zK,zL,zM,zN,zO,zP,↓reduceIte,reduceCtorEq,Try.ntmps90,Try.results90]
  rfl
theorem question_at {c : UInt8} {cn : Int} {l : List (List UInt8)} {o : List UInt8} (hc : ((c.toNat : Nat) : Int) = cn) (ho : c :: l.flatten = o) (hl : l.length ≤ 1000) (h : l.flatten.length ≤ 1000000) : PureCalls Try.prog 90 [.lit (.int .u8 cn),bytessPV l] (bytesPV o) := by
  subst hc ho; exact question_calls c l hl h
theorem number_at {n : Int} {k : Nat} {kn : Int} (hk : (k : Int) = kn) (h8 : k ≤ 8) : PureCalls Try.prog 91 [PI n,PI kn] (bytesPV (bytesN n k)) := by subst hk; exact number_calls n k h8
def readQ (id : Int) : List UInt8 := 0x22 :: bytesN id 2
theorem read_calls (n : Int) : PureCalls Try.prog 55 [PI n] (bytesPV (readQ n)) := by
  refine PureCalls.of tabOK mixed Try.func55 rfl rfl (by decide +kernel) (by simp [Try.ntmps55]) ?_
  have c1 := number_at (n := n) (k := 2) (kn := 2) rfl (by decide)
  have c2 := question_at (c := 0x22) (cn := 34) (l := [bytesN n 2]) (o := readQ n) rfl (by simp [readQ]) (by simp) (by simp [bytesN_len])
  simp only [go_sem,zA,zB,zC,zD,zE,zF,zG,zH,zI,zJ,zK,zL,zM,zN,zO,zP,↓reduceIte,reduceCtorEq,Try.ntmps55,Try.results55]
  (refine CallA.pure (c1) (by simp only [go_sem,zA,zB,zC,zD,zE,zF,zG,zH,zI,zJ,zK,zL,zM,zN,zO,zP,↓reduceIte,reduceCtorEq] <;> first | rfl | decide) ?_; simp only [go_sem,zA,zB,zC,zD,zE,zF,zG,zH,zI,zJ,zK,zL,zM,zN,zO,zP,↓reduceIte,reduceCtorEq])
  (refine CallA.pure (c2) (by simp only [go_sem,zA,zB,zC,zD,zE,zF,zG,zH,zI,zJ,zK,zL,zM,zN,zO,zP,↓reduceIte,reduceCtorEq,List.map_cons,List.map_nil,rowBs,Try.ntmps55,Try.results55] <;> first | rfl | decide) ?_; simp only [go_sem,zA,zB,zC,zD,zE,zF,zG,zH,zI,zJ,zK,zL,zM,zN,zO,zP,↓reduceIte,reduceCtorEq,List.map_cons,List.map_nil,rowBs,Try.ntmps55,Try.results55])
end Go.Proofs.Ytcdmhigmgpflbaa.Pe


namespace Go.Proofs.Ytcdmhigmgpflbaa.Pe
open Go.Pe Go.RowKit
set_option maxRecDepth 20000
set_option maxHeartbeats 4000000
set_option linter.unusedSimpArgs false
set_option linter.unusedVariables false
end Go.Proofs.Ytcdmhigmgpflbaa.Pe

