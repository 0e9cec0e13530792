import Derived.Test.YtcdmhigmgpflbaaGreatDT6
import Derived.Test.YtcdmhigmgpflbaaGreatPeU
set_option maxRecDepth 20000
set_option maxHeartbeats 4000000
set_option linter.unusedSimpArgs false
set_option linter.unusedVariables false
open Nat renaming reduceAdd → zA,reduceSub → zB,reduceMul → zC,reduceLT → zD,reduceLeDiff → zE,reduceEqDiff → zF,reduceBEq → zG
open Int renaming reduceToNat → zH,reduceLT → zI,reduceLE → zJ,reduceEq → zK,reduceNe → zL,reduceAdd → zM,reduceSub → zN,reduceMul → zO,reduceNeg → zP,toNat_natCast → yCa,natCast_zero → yCb
open List renaming nil_append → yBc
namespace Go.Proofs.YtcdmhigmgpflbaaGreat.Pe
open Go.Pe Go.RowKit
def listRSt (l : List Trb) (mask : Int) (i : Nat) : Nat → St
  | 0 => ⟨27,[(5,.lit (.slice none 0 0)),(0,trbsPV l),(1,PI mask),(6,PI i)],[],20,0⟩
  | v + 1 => ⟨27,[(5,.own 90 v),(0,trbsPV l),(1,PI mask),(6,PI i)],[(90,.arr 102 4 (trbRows (listV mask (l.take i))) v false)],120,0⟩
def listRI (l : List Trb) (mask : Int) (m : Nat) (st : St) : Prop := ∃ (i v : Nat),i ≤ l.length ∧ m = l.length - i ∧ (v = 0 → listV mask (l.take i) = []) ∧ st = listRSt l mask i v
def listRSm (l : List Trb) (mask : Int) (i b : Nat) : St := ⟨27,[(5,.own b 0),(0,trbsPV l),(1,PI mask),(6,PI i)],[(b,.arr 102 4 (trbRows (listV mask (l.take i))) 0 false)],20,0⟩
theorem listRSm_to (l : List Trb) (mask : Int) (i b : Nat) : WeakS (listRSm l mask i b) (listRSt l mask i 1) := own_renamed (by simp [PV.sw,refsIn]) (Nat.zero_le _) (Nat.zero_le _) (by simp)
theorem listV_len (mask : Int) (l : List Trb) : (listV mask l).length ≤ l.length := List.length_filter_le _ _
theorem listR_calls (l : List Trb) (mask : Int) (hbig : l.length < 1000000) : PureCalls Tryz.prog 97 [trbsPV l,PI mask] (trbsPV (listV mask l)) := by
  refine PureCalls.of tabOK mixed Tryz.func97 rfl rfl (by decide +kernel) (by simp [Tryz.ntmps97]) ?_
  have la := trbRows_len l
  simp only [go_sem,zA,zB,zC,zD,zE,zF,zG,zH,zI,zJ,zK,zL,zM,zN,zO,zP,↓reduceIte,reduceCtorEq,Tryz.ntmps97,Tryz.results97,la]
  refine wpA_loopS (listRI l mask) ⟨_,_,.weak ?_,0,0,by omega,rfl,fun _ => rfl,rfl⟩ ?_
  · simp only [go_sem,zA,zB,zC,zD,zE,zF,zG,zH,zI,zJ,zK,zL,zM,zN,zO,zP,↓reduceIte,reduceCtorEq,listRSt,yCb]
  rintro m st ⟨i,v,hi,rfl,hv,rfl⟩
  by_cases hc : i < l.length
  rotate_left 1
  · have f1 : decide ((i : Int) < (l.length : Int)) = false := decide_eq_false (by omega)
    have hall : listV mask (l.take i) = listV mask l := by rw [List.take_of_length_le (by omega)]
    cases v with
    | zero =>
      have hn := hv rfl
      rw [hall] at hn
      simp only [go_sem,zA,zB,zC,zD,zE,zF,zG,zH,zI,zJ,zK,zL,zM,zN,zO,zP,↓reduceIte,reduceCtorEq,listRSt,la,f1,Tryz.ntmps97,Tryz.results97]
      rw [hn]; rfl
    | succ v =>
      simp only [go_sem,zA,zB,zC,zD,zE,zF,zG,zH,zI,zJ,zK,zL,zM,zN,zO,zP,↓reduceIte,reduceCtorEq,listRSt,la,f1,hall,Tryz.ntmps97,Tryz.results97]
  have f1 : decide ((i : Int) < (l.length : Int)) = true := decide_eq_true (by omega)
  have f2 : (i : Int) < (l.length : Int) := by omega
  have f0 : (0 : Int) ≤ (i : Int) := by omega
  have hw := wrapIN (i := i) (by omega)
  have r1 := trbRows_get hc
  have hsn := listV_snoc mask hc
  generalize l[i] = t at r1 hsn
  have hle : (listV mask (l.take i)).length ≤ l.length := Nat.le_trans (listV_len _ _) (by simp; omega)
  cases hp : hasV t.st mask with
  | false =>
    have hsn : listV mask (l.take (i + 1)) = listV mask (l.take i) := by rw [hsn,hp]; simp
    cases v with
    | zero =>
      simp only [go_sem,zA,zB,zC,zD,zE,zF,zG,zH,zI,zJ,zK,zL,zM,zN,zO,zP,↓reduceIte,reduceCtorEq,listRSt,la,f1,f2,f0,yCa,r1,Trb.cells]
      (refine CallA.pure (hasR_calls t mask) (by simp only [go_sem,zA,zB,zC,zD,zE,zF,zG,zH,zI,zJ,zK,zL,zM,zN,zO,zP,↓reduceIte,reduceCtorEq,Trb.pv,Trb.cells,hw] <;> first | rfl | decide) ?_; simp only [go_sem,zA,zB,zC,zD,zE,zF,zG,zH,zI,zJ,zK,zL,zM,zN,zO,zP,↓reduceIte,reduceCtorEq,Trb.pv,Trb.cells,hw])
      simp only [go_sem,zA,zB,zC,zD,zE,zF,zG,zH,zI,zJ,zK,zL,zM,zN,zO,zP,↓reduceIte,reduceCtorEq,hp,hw,loopKS_normal]
      refine ⟨l.length - (i + 1),listRSt l mask (i + 1) 0,by omega,.weak ?_,i + 1,0,by omega,rfl,fun _ => by rw [hsn]; exact hv rfl,rfl⟩
      simp only [go_sem,zA,zB,zC,zD,zE,zF,zG,zH,zI,zJ,zK,zL,zM,zN,zO,zP,↓reduceIte,reduceCtorEq,listRSt]
    | succ v =>
      simp only [go_sem,zA,zB,zC,zD,zE,zF,zG,zH,zI,zJ,zK,zL,zM,zN,zO,zP,↓reduceIte,reduceCtorEq,listRSt,la,f1,f2,f0,yCa,r1,Trb.cells]
      (refine CallA.pure (hasR_calls t mask) (by simp only [go_sem,zA,zB,zC,zD,zE,zF,zG,zH,zI,zJ,zK,zL,zM,zN,zO,zP,↓reduceIte,reduceCtorEq,Trb.pv,Trb.cells,hw] <;> first | rfl | decide) ?_; simp only [go_sem,zA,zB,zC,zD,zE,zF,zG,zH,zI,zJ,zK,zL,zM,zN,zO,zP,↓reduceIte,reduceCtorEq,Trb.pv,Trb.cells,hw])
      simp only [go_sem,zA,zB,zC,zD,zE,zF,zG,zH,zI,zJ,zK,zL,zM,zN,zO,zP,↓reduceIte,reduceCtorEq,hp,hw,loopKS_normal]
      refine ⟨l.length - (i + 1),listRSt l mask (i + 1) (v + 1),by omega,.weak ?_,i + 1,v + 1,by omega,rfl,fun h => by omega,rfl⟩
      simp only [go_sem,zA,zB,zC,zD,zE,zF,zG,zH,zI,zJ,zK,zL,zM,zN,zO,zP,↓reduceIte,reduceCtorEq,listRSt,hsn]
  | true =>
    have hsn : listV mask (l.take (i + 1)) = listV mask (l.take i) ++ [t] := by rw [hsn,hp]; simp
    cases v with
    | zero =>
      rw [hv rfl] at hsn
      simp only [go_sem,zA,zB,zC,zD,zE,zF,zG,zH,zI,zJ,zK,zL,zM,zN,zO,zP,↓reduceIte,reduceCtorEq,listRSt,la,f1,f2,f0,yCa,r1,Trb.cells]
      (refine CallA.pure (hasR_calls t mask) (by simp only [go_sem,zA,zB,zC,zD,zE,zF,zG,zH,zI,zJ,zK,zL,zM,zN,zO,zP,↓reduceIte,reduceCtorEq,Trb.pv,Trb.cells,hw] <;> first | rfl | decide) ?_; simp only [go_sem,zA,zB,zC,zD,zE,zF,zG,zH,zI,zJ,zK,zL,zM,zN,zO,zP,↓reduceIte,reduceCtorEq,Trb.pv,Trb.cells,hw])
      simp only [go_sem,zA,zB,zC,zD,zE,zF,zG,zH,zI,zJ,zK,zL,zM,zN,zO,zP,↓reduceIte,reduceCtorEq,hp,hw,f2,f0,la,yCa,r1,Trb.cells,loopKS_normal]
      first | (refine ⟨l.length - (i + 1),_,by omega,.seq (s := listRSm l mask (i + 1) 20) ?_ (listRSm_to l mask (i + 1) 20),i + 1,1,by omega,rfl,fun h => by omega,rfl⟩; simp only [go_sem,zA,zB,zC,zD,zE,zF,zG,zH,zI,zJ,zK,zL,zM,zN,zO,zP,↓reduceIte,reduceCtorEq,listRSm,hsn,yBc,Trb.cells]; done) | (refine ⟨l.length - (i + 1),_,by omega,.seq (s := listRSm l mask (i + 1) 21) ?_ (listRSm_to l mask (i + 1) 21),i + 1,1,by omega,rfl,fun h => by omega,rfl⟩; simp only [go_sem,zA,zB,zC,zD,zE,zF,zG,zH,zI,zJ,zK,zL,zM,zN,zO,zP,↓reduceIte,reduceCtorEq,listRSm,hsn,yBc,Trb.cells]; done) | (refine ⟨l.length - (i + 1),_,by omega,.seq (s := listRSm l mask (i + 1) 22) ?_ (listRSm_to l mask (i + 1) 22),i + 1,1,by omega,rfl,fun h => by omega,rfl⟩; simp only [go_sem,zA,zB,zC,zD,zE,zF,zG,zH,zI,zJ,zK,zL,zM,zN,zO,zP,↓reduceIte,reduceCtorEq,listRSm,hsn,yBc,Trb.cells]; done) | (refine ⟨l.length - (i + 1),_,by omega,.seq (s := listRSm l mask (i + 1) 23) ?_ (listRSm_to l mask (i + 1) 23),i + 1,1,by omega,rfl,fun h => by omega,rfl⟩; simp only [go_sem,zA,zB,zC,zD,zE,zF,zG,zH,zI,zJ,zK,zL,zM,zN,zO,zP,↓reduceIte,reduceCtorEq,listRSm,hsn,yBc,Trb.cells]; done) | (refine ⟨l.length - (i + 1),_,by omega,.seq (s := listRSm l mask (i + 1) 24) ?_ (listRSm_to l mask (i + 1) 24),i + 1,1,by omega,rfl,fun h => by omega,rfl⟩; simp only [go_sem,zA,zB,zC,zD,zE,zF,zG,zH,zI,zJ,zK,zL,zM,zN,zO,zP,↓reduceIte,reduceCtorEq,listRSm,hsn,yBc,Trb.cells]; done) | (refine ⟨l.length - (i + 1),_,by omega,.seq (s := listRSm l mask (i + 1) 25) ?_ (listRSm_to l mask (i + 1) 25),i + 1,1,by omega,rfl,fun h => by omega,rfl⟩; simp only [go_sem,zA,zB,zC,zD,zE,zF,zG,zH,zI,zJ,zK,zL,zM,zN,zO,zP,↓reduceIte,reduceCtorEq,listRSm,hsn,yBc,Trb.cells]; done) | (refine ⟨l.length - (i + 1),_,by omega,.seq (s := listRSm l mask (i + 1) 26) ?_ (listRSm_to l mask (i + 1) 26),i + 1,1,by omega,rfl,fun h => by omega,rfl⟩; simp only [go_sem,zA,zB,zC,zD,zE,zF,zG,zH,zI,zJ,zK,zL,zM,zN,zO,zP,↓reduceIte,reduceCtorEq,listRSm,hsn,yBc,Trb.cells]; done) | (refine ⟨l.length - (i + 1),_,by omega,.seq (s := listRSm l mask (i + 1) 27) ?_ (listRSm_to l mask (i + 1) 27),i + 1,1,by omega,rfl,fun h => by omega,rfl⟩; simp only [go_sem,zA,zB,zC,zD,zE,zF,zG,zH,zI,zJ,zK,zL,zM,zN,zO,zP,↓reduceIte,reduceCtorEq,listRSm,hsn,yBc,Trb.cells]; done) | (refine ⟨l.length - (i + 1),_,by omega,.seq (s := listRSm l mask (i + 1) 28) ?_ (listRSm_to l mask (i + 1) 28),i + 1,1,by omega,rfl,fun h => by omega,rfl⟩; simp only [go_sem,zA,zB,zC,zD,zE,zF,zG,zH,zI,zJ,zK,zL,zM,zN,zO,zP,↓reduceIte,reduceCtorEq,listRSm,hsn,yBc,Trb.cells]; done) | (refine ⟨l.length - (i + 1),_,by omega,.seq (s := listRSm l mask (i + 1) 29) ?_ (listRSm_to l mask (i + 1) 29),i + 1,1,by omega,rfl,fun h => by omega,rfl⟩; simp only [go_sem,zA,zB,zC,zD,zE,zF,zG,zH,zI,zJ,zK,zL,zM,zN,zO,zP,↓reduceIte,reduceCtorEq,listRSm,hsn,yBc,Trb.cells]; done) | (refine ⟨l.length - (i + 1),_,by omega,.seq (s := listRSm l mask (i + 1) 30) ?_ (listRSm_to l mask (i + 1) 30),i + 1,1,by omega,rfl,fun h => by omega,rfl⟩; simp only [go_sem,zA,zB,zC,zD,zE,zF,zG,zH,zI,zJ,zK,zL,zM,zN,zO,zP,↓reduceIte,reduceCtorEq,listRSm,hsn,yBc,Trb.cells]; done) | (refine ⟨l.length - (i + 1),_,by omega,.seq (s := listRSm l mask (i + 1) 31) ?_ (listRSm_to l mask (i + 1) 31),i + 1,1,by omega,rfl,fun h => by omega,rfl⟩; simp only [go_sem,zA,zB,zC,zD,zE,zF,zG,zH,zI,zJ,zK,zL,zM,zN,zO,zP,↓reduceIte,reduceCtorEq,listRSm,hsn,yBc,Trb.cells]; done) | (refine ⟨l.length - (i + 1),_,by omega,.seq (s := listRSm l mask (i + 1) 32) ?_ (listRSm_to l mask (i + 1) 32),i + 1,1,by omega,rfl,fun h => by omega,rfl⟩; simp only [go_sem,zA,zB,zC,zD,zE,zF,zG,zH,zI,zJ,zK,zL,zM,zN,zO,zP,↓reduceIte,reduceCtorEq,listRSm,hsn,yBc,Trb.cells]; done) | (refine ⟨l.length - (i + 1),_,by omega,.seq (s := listRSm l mask (i + 1) 33) ?_ (listRSm_to l mask (i + 1) 33),i + 1,1,by omega,rfl,fun h => by omega,rfl⟩; simp only [go_sem,zA,zB,zC,zD,zE,zF,zG,zH,zI,zJ,zK,zL,zM,zN,zO,zP,↓reduceIte,reduceCtorEq,listRSm,hsn,yBc,Trb.cells]; done)
    | succ v =>
      have hnx : trbRows (listV mask (l.take (i + 1))) = trbRows (listV mask (l.take i)) ++ [t.cells] := by rw [hsn]; simp [trbRows]
      have hrl := trbRows_len (listV mask (l.take i))
      simp only [go_sem,zA,zB,zC,zD,zE,zF,zG,zH,zI,zJ,zK,zL,zM,zN,zO,zP,↓reduceIte,reduceCtorEq,listRSt,la,f1,f2,f0,yCa,r1,Trb.cells]
      (refine CallA.pure (hasR_calls t mask) (by simp only [go_sem,zA,zB,zC,zD,zE,zF,zG,zH,zI,zJ,zK,zL,zM,zN,zO,zP,↓reduceIte,reduceCtorEq,Trb.pv,Trb.cells,hw] <;> first | rfl | decide) ?_; simp only [go_sem,zA,zB,zC,zD,zE,zF,zG,zH,zI,zJ,zK,zL,zM,zN,zO,zP,↓reduceIte,reduceCtorEq,Trb.pv,Trb.cells,hw])
      simp only [go_sem,zA,zB,zC,zD,zE,zF,zG,zH,zI,zJ,zK,zL,zM,zN,zO,zP,↓reduceIte,reduceCtorEq,hp,hw,f2,f0,la,yCa,r1,Trb.cells,loopKS_normal,hrl]
      refine ⟨⟨by omega,by omega⟩,l.length - (i + 1),listRSt l mask (i + 1) (v + 2),by omega,.weak ?_,i + 1,v + 2,by omega,rfl,fun h => by omega,rfl⟩
      simp only [go_sem,zA,zB,zC,zD,zE,zF,zG,zH,zI,zJ,zK,zL,zM,zN,zO,zP,↓reduceIte,reduceCtorEq,listRSt,hnx,Trb.cells]
def u8of (x : Int) : UInt8 := UInt8.ofNat (IntKind.wrap .u8 x).toNat
theorem u8of_eq (x : Int) : IntKind.wrap .u8 x = ((u8of x).toNat : Int) := by
  have h : IntKind.wrap .u8 x = x % 256 := by rw [IntKind.wrap_u8]
  unfold u8of
  rw [h,UInt8.toNat_ofNat']
  omega
def packB (t : Trb) : List UInt8 := [u8of (t.id.fdiv (2 ^ min 8 64)),u8of t.id,u8of t.st]
def packL (l : List Trb) : List UInt8 := l.flatMap packB
def packV (mask : Int) (l : List Trb) : List UInt8 := packL (listV mask l)
theorem packL_len (l : List Trb) : (packL l).length = 3 * l.length := by
  unfold packL
  induction l with
  | nil => rfl
  | cons t l ih => rw [List.flatMap_cons,List.length_append,ih]; simp [packB]; omega
theorem packL_snoc {l : List Trb} {i : Nat} (h : i < l.length) : rowsB (packL (l.take (i + 1))) = rowsB (packL (l.take i)) ++ [[.lit (.int .u8 (IntKind.wrap .u8 (l[i].id.fdiv (2 ^ min 8 64))))],[.lit (.int .u8 (IntKind.wrap .u8 l[i].id))],[.lit (.int .u8 (IntKind.wrap .u8 l[i].st))]] := by
  rw [List.take_succ_eq_append_getElem h,packL,List.flatMap_append,← packL,← rowsB_append]
  congr 1
  rw [u8of_eq,u8of_eq,u8of_eq]
  simp [rowsB,packB,rowB]
def packDSt (l : List Trb) (i : Nat) : Nat → St
  | 0 => ⟨31,[(5,.lit (.slice none 0 0)),(10,trbsPV l),(11,PI l.length),(12,PI i)],[],20,0⟩
  | v + 1 => ⟨31,[(5,.own 90 v),(10,trbsPV l),(11,PI l.length),(12,PI i)],[(90,.arr 5 1 (rowsB (packL (l.take i))) v false)],120,0⟩
def packDI (l : List Trb) (m : Nat) (st : St) : Prop := ∃ (i v : Nat),i ≤ l.length ∧ m = l.length - i ∧ (v = 0 ↔ i = 0) ∧ st = packDSt l i v
def packDSm (l : List Trb) (i b : Nat) : St := ⟨31,[(5,.own b 0),(10,trbsPV l),(11,PI l.length),(12,PI i)],[(b,.arr 5 1 (rowsB (packL (l.take i))) 0 false)],20,0⟩
theorem packDSm_to (l : List Trb) (i b : Nat) : WeakS (packDSm l i b) (packDSt l i 1) := own_renamed (by simp [PV.sw,refsIn]) (Nat.zero_le _) (Nat.zero_le _) (by simp)
theorem packD_calls (l0 : List Trb) (mask : Int) (hbig : l0.length < 1000000) : PureCalls Tryz.prog 125 [trbsPV l0,PI mask] (bytesPV (packV mask l0)) := by
  refine PureCalls.of tabOK mixed Tryz.func125 rfl rfl (by decide +kernel) (by simp [Tryz.ntmps125]) ?_
  have hbig : (listV mask l0).length < 1000000 := Nat.lt_of_le_of_lt (listV_len _ _) (by omega)
  have cL := listD_calls l0 mask (by omega)
  simp only [go_sem,zA,zB,zC,zD,zE,zF,zG,zH,zI,zJ,zK,zL,zM,zN,zO,zP,↓reduceIte,reduceCtorEq,Tryz.ntmps125,Tryz.results125]
  rw [packV]
  generalize listV mask l0 = l at hbig cL
  have la := trbRows_len l
  (refine CallA.pure (cL) (by simp only [go_sem,zA,zB,zC,zD,zE,zF,zG,zH,zI,zJ,zK,zL,zM,zN,zO,zP,↓reduceIte,reduceCtorEq,la] <;> first | rfl | decide) ?_; simp only [go_sem,zA,zB,zC,zD,zE,zF,zG,zH,zI,zJ,zK,zL,zM,zN,zO,zP,↓reduceIte,reduceCtorEq,la])
  refine wpA_loopS (packDI l) ⟨_,_,.weak ?_,0,0,by omega,rfl,by simp,rfl⟩ ?_
  · simp only [go_sem,zA,zB,zC,zD,zE,zF,zG,zH,zI,zJ,zK,zL,zM,zN,zO,zP,↓reduceIte,reduceCtorEq,packDSt,yCb,la]
  rintro m st ⟨i,v,hi,rfl,hv,rfl⟩
  by_cases hc : i < l.length
  rotate_left 1
  · have f1 : decide ((i : Int) < (l.length : Int)) = false := decide_eq_false (by omega)
    have hall : packL (l.take i) = packL l := by rw [List.take_of_length_le (by omega)]
    cases v with
    | zero =>
      have hn : l = [] := List.eq_nil_of_length_eq_zero (by have := hv.1 rfl; omega)
      simp only [go_sem,zA,zB,zC,zD,zE,zF,zG,zH,zI,zJ,zK,zL,zM,zN,zO,zP,↓reduceIte,reduceCtorEq,packDSt,la,f1,Tryz.ntmps125,Tryz.results125]
      rw [hn]; rfl
    | succ v =>
      simp only [go_sem,zA,zB,zC,zD,zE,zF,zG,zH,zI,zJ,zK,zL,zM,zN,zO,zP,↓reduceIte,reduceCtorEq,packDSt,la,f1,hall,Tryz.ntmps125,Tryz.results125]
  have f1 : decide ((i : Int) < (l.length : Int)) = true := decide_eq_true (by omega)
  have f2 : (i : Int) < (l.length : Int) := by omega
  have f0 : (0 : Int) ≤ (i : Int) := by omega
  have hw := wrapIN (i := i) (by omega)
  have r1 := trbRows_get hc
  have hnx := packL_snoc hc
  generalize l[i] = t at r1 hnx
  have hrl : (rowsB (packL (l.take i))).length = 3 * i := by rw [rowsB_length,packL_len]; simp; omega
  have hrl2 : (packL (l.take i)).length = 3 * i := by rw [packL_len]; simp; omega
  cases v with
  | zero =>
    have h0 : i = 0 := hv.1 rfl
    have hnx : rowsB (packL (l.take (i + 1))) = [[.lit (.int .u8 (IntKind.wrap .u8 (t.id.fdiv (2 ^ min 8 64))))],[.lit (.int .u8 (IntKind.wrap .u8 t.id))],[.lit (.int .u8 (IntKind.wrap .u8 t.st))]] := by rw [hnx,h0]; rfl
    simp only [go_sem,zA,zB,zC,zD,zE,zF,zG,zH,zI,zJ,zK,zL,zM,zN,zO,zP,↓reduceIte,reduceCtorEq,packDSt,la,f1,f2,f0,yCa,r1,Trb.cells]
    simp only [go_sem,zA,zB,zC,zD,zE,zF,zG,zH,zI,zJ,zK,zL,zM,zN,zO,zP,↓reduceIte,reduceCtorEq,hw,loopKS_normal]
    first | (refine ⟨l.length - (i + 1),_,by omega,.seq (s := packDSm l (i + 1) 20) ?_ (packDSm_to l (i + 1) 20),i + 1,1,by omega,rfl,by omega,rfl⟩; simp only [go_sem,zA,zB,zC,zD,zE,zF,zG,zH,zI,zJ,zK,zL,zM,zN,zO,zP,↓reduceIte,reduceCtorEq,packDSm,hnx]; done) | (refine ⟨l.length - (i + 1),_,by omega,.seq (s := packDSm l (i + 1) 21) ?_ (packDSm_to l (i + 1) 21),i + 1,1,by omega,rfl,by omega,rfl⟩; simp only [go_sem,zA,zB,zC,zD,zE,zF,zG,zH,zI,zJ,zK,zL,zM,zN,zO,zP,↓reduceIte,reduceCtorEq,packDSm,hnx]; done) | (refine ⟨l.length - (i + 1),_,by omega,.seq (s := packDSm l (i + 1) 22) ?_ (packDSm_to l (i + 1) 22),i + 1,1,by omega,rfl,by omega,rfl⟩; simp only [go_sem,zA,zB,zC,zD,zE,zF,zG,zH,zI,zJ,zK,zL,zM,zN,zO,zP,↓reduceIte,reduceCtorEq,packDSm,hnx]; done) | (refine ⟨l.length - (i + 1),_,by omega,.seq (s := packDSm l (i + 1) 23) ?_ (packDSm_to l (i + 1) 23),i + 1,1,by omega,rfl,by omega,rfl⟩; simp only [go_sem,zA,zB,zC,zD,zE,zF,zG,zH,zI,zJ,zK,zL,zM,zN,zO,zP,↓reduceIte,reduceCtorEq,packDSm,hnx]; done) | (refine ⟨l.length - (i + 1),_,by omega,.seq (s := packDSm l (i + 1) 24) ?_ (packDSm_to l (i + 1) 24),i + 1,1,by omega,rfl,by omega,rfl⟩; simp only [go_sem,zA,zB,zC,zD,zE,zF,zG,zH,zI,zJ,zK,zL,zM,zN,zO,zP,↓reduceIte,reduceCtorEq,packDSm,hnx]; done) | (refine ⟨l.length - (i + 1),_,by omega,.seq (s := packDSm l (i + 1) 25) ?_ (packDSm_to l (i + 1) 25),i + 1,1,by omega,rfl,by omega,rfl⟩; simp only [go_sem,zA,zB,zC,zD,zE,zF,zG,zH,zI,zJ,zK,zL,zM,zN,zO,zP,↓reduceIte,reduceCtorEq,packDSm,hnx]; done) | (refine ⟨l.length - (i + 1),_,by omega,.seq (s := packDSm l (i + 1) 26) ?_ (packDSm_to l (i + 1) 26),i + 1,1,by omega,rfl,by omega,rfl⟩; simp only [go_sem,zA,zB,zC,zD,zE,zF,zG,zH,zI,zJ,zK,zL,zM,zN,zO,zP,↓reduceIte,reduceCtorEq,packDSm,hnx]; done) | (refine ⟨l.length - (i + 1),_,by omega,.seq (s := packDSm l (i + 1) 27) ?_ (packDSm_to l (i + 1) 27),i + 1,1,by omega,rfl,by omega,rfl⟩; simp only [go_sem,zA,zB,zC,zD,zE,zF,zG,zH,zI,zJ,zK,zL,zM,zN,zO,zP,↓reduceIte,reduceCtorEq,packDSm,hnx]; done) | (refine ⟨l.length - (i + 1),_,by omega,.seq (s := packDSm l (i + 1) 28) ?_ (packDSm_to l (i + 1) 28),i + 1,1,by omega,rfl,by omega,rfl⟩; simp only [go_sem,zA,zB,zC,zD,zE,zF,zG,zH,zI,zJ,zK,zL,zM,zN,zO,zP,↓reduceIte,reduceCtorEq,packDSm,hnx]; done) | (refine ⟨l.length - (i + 1),_,by omega,.seq (s := packDSm l (i + 1) 29) ?_ (packDSm_to l (i + 1) 29),i + 1,1,by omega,rfl,by omega,rfl⟩; simp only [go_sem,zA,zB,zC,zD,zE,zF,zG,zH,zI,zJ,zK,zL,zM,zN,zO,zP,↓reduceIte,reduceCtorEq,packDSm,hnx]; done) | (refine ⟨l.length - (i + 1),_,by omega,.seq (s := packDSm l (i + 1) 30) ?_ (packDSm_to l (i + 1) 30),i + 1,1,by omega,rfl,by omega,rfl⟩; simp only [go_sem,zA,zB,zC,zD,zE,zF,zG,zH,zI,zJ,zK,zL,zM,zN,zO,zP,↓reduceIte,reduceCtorEq,packDSm,hnx]; done) | (refine ⟨l.length - (i + 1),_,by omega,.seq (s := packDSm l (i + 1) 31) ?_ (packDSm_to l (i + 1) 31),i + 1,1,by omega,rfl,by omega,rfl⟩; simp only [go_sem,zA,zB,zC,zD,zE,zF,zG,zH,zI,zJ,zK,zL,zM,zN,zO,zP,↓reduceIte,reduceCtorEq,packDSm,hnx]; done) | (refine ⟨l.length - (i + 1),_,by omega,.seq (s := packDSm l (i + 1) 32) ?_ (packDSm_to l (i + 1) 32),i + 1,1,by omega,rfl,by omega,rfl⟩; simp only [go_sem,zA,zB,zC,zD,zE,zF,zG,zH,zI,zJ,zK,zL,zM,zN,zO,zP,↓reduceIte,reduceCtorEq,packDSm,hnx]; done) | (refine ⟨l.length - (i + 1),_,by omega,.seq (s := packDSm l (i + 1) 33) ?_ (packDSm_to l (i + 1) 33),i + 1,1,by omega,rfl,by omega,rfl⟩; simp only [go_sem,zA,zB,zC,zD,zE,zF,zG,zH,zI,zJ,zK,zL,zM,zN,zO,zP,↓reduceIte,reduceCtorEq,packDSm,hnx]; done) | (refine ⟨l.length - (i + 1),_,by omega,.seq (s := packDSm l (i + 1) 34) ?_ (packDSm_to l (i + 1) 34),i + 1,1,by omega,rfl,by omega,rfl⟩; simp only [go_sem,zA,zB,zC,zD,zE,zF,zG,zH,zI,zJ,zK,zL,zM,zN,zO,zP,↓reduceIte,reduceCtorEq,packDSm,hnx]; done) | (refine ⟨l.length - (i + 1),_,by omega,.seq (s := packDSm l (i + 1) 35) ?_ (packDSm_to l (i + 1) 35),i + 1,1,by omega,rfl,by omega,rfl⟩; simp only [go_sem,zA,zB,zC,zD,zE,zF,zG,zH,zI,zJ,zK,zL,zM,zN,zO,zP,↓reduceIte,reduceCtorEq,packDSm,hnx]; done) | (refine ⟨l.length - (i + 1),_,by omega,.seq (s := packDSm l (i + 1) 36) ?_ (packDSm_to l (i + 1) 36),i + 1,1,by omega,rfl,by omega,rfl⟩; simp only [go_sem,zA,zB,zC,zD,zE,zF,zG,zH,zI,zJ,zK,zL,zM,zN,zO,zP,↓reduceIte,reduceCtorEq,packDSm,hnx]; done) | (refine ⟨l.length - (i + 1),_,by omega,.seq (s := packDSm l (i + 1) 37) ?_ (packDSm_to l (i + 1) 37),i + 1,1,by omega,rfl,by omega,rfl⟩; simp only [go_sem,zA,zB,zC,zD,zE,zF,zG,zH,zI,zJ,zK,zL,zM,zN,zO,zP,↓reduceIte,reduceCtorEq,packDSm,hnx]; done) | (refine ⟨l.length - (i + 1),_,by omega,.seq (s := packDSm l (i + 1) 38) ?_ (packDSm_to l (i + 1) 38),i + 1,1,by omega,rfl,by omega,rfl⟩; simp only [go_sem,zA,zB,zC,zD,zE,zF,zG,zH,zI,zJ,zK,zL,zM,zN,zO,zP,↓reduceIte,reduceCtorEq,packDSm,hnx]; done) | (refine ⟨l.length - (i + 1),_,by omega,.seq (s := packDSm l (i + 1) 39) ?_ (packDSm_to l (i + 1) 39),i + 1,1,by omega,rfl,by omega,rfl⟩; simp only [go_sem,zA,zB,zC,zD,zE,zF,zG,zH,zI,zJ,zK,zL,zM,zN,zO,zP,↓reduceIte,reduceCtorEq,packDSm,hnx]; done) | (refine ⟨l.length - (i + 1),_,by omega,.seq (s := packDSm l (i + 1) 40) ?_ (packDSm_to l (i + 1) 40),i + 1,1,by omega,rfl,by omega,rfl⟩; simp only [go_sem,zA,zB,zC,zD,zE,zF,zG,zH,zI,zJ,zK,zL,zM,zN,zO,zP,↓reduceIte,reduceCtorEq,packDSm,hnx]; done) | (refine ⟨l.length - (i + 1),_,by omega,.seq (s := packDSm l (i + 1) 41) ?_ (packDSm_to l (i + 1) 41),i + 1,1,by omega,rfl,by omega,rfl⟩; simp only [go_sem,zA,zB,zC,zD,zE,zF,zG,zH,zI,zJ,zK,zL,zM,zN,zO,zP,↓reduceIte,reduceCtorEq,packDSm,hnx]; done) | (refine ⟨l.length - (i + 1),_,by omega,.seq (s := packDSm l (i + 1) 42) ?_ (packDSm_to l (i + 1) 42),i + 1,1,by omega,rfl,by omega,rfl⟩; simp only [go_sem,zA,zB,zC,zD,zE,zF,zG,zH,zI,zJ,zK,zL,zM,zN,zO,zP,↓reduceIte,reduceCtorEq,packDSm,hnx]; done) | (refine ⟨l.length - (i + 1),_,by omega,.seq (s := packDSm l (i + 1) 43) ?_ (packDSm_to l (i + 1) 43),i + 1,1,by omega,rfl,by omega,rfl⟩; simp only [go_sem,zA,zB,zC,zD,zE,zF,zG,zH,zI,zJ,zK,zL,zM,zN,zO,zP,↓reduceIte,reduceCtorEq,packDSm,hnx]; done) | (refine ⟨l.length - (i + 1),_,by omega,.seq (s := packDSm l (i + 1) 44) ?_ (packDSm_to l (i + 1) 44),i + 1,1,by omega,rfl,by omega,rfl⟩; simp only [go_sem,zA,zB,zC,zD,zE,zF,zG,zH,zI,zJ,zK,zL,zM,zN,zO,zP,↓reduceIte,reduceCtorEq,packDSm,hnx]; done) | (refine ⟨l.length - (i + 1),_,by omega,.seq (s := packDSm l (i + 1) 45) ?_ (packDSm_to l (i + 1) 45),i + 1,1,by omega,rfl,by omega,rfl⟩; simp only [go_sem,zA,zB,zC,zD,zE,zF,zG,zH,zI,zJ,zK,zL,zM,zN,zO,zP,↓reduceIte,reduceCtorEq,packDSm,hnx]; done)
  | succ v =>
    have hi0 : i ≠ 0 := fun e => by have := hv.2 e; omega
    simp only [go_sem,zA,zB,zC,zD,zE,zF,zG,zH,zI,zJ,zK,zL,zM,zN,zO,zP,↓reduceIte,reduceCtorEq,packDSt,la,f1,f2,f0,yCa,r1,Trb.cells,hrl,hrl2]
    refine ⟨⟨by omega,by omega⟩,?_⟩
    simp only [go_sem,zA,zB,zC,zD,zE,zF,zG,zH,zI,zJ,zK,zL,zM,zN,zO,zP,↓reduceIte,reduceCtorEq,hw,loopKS_normal]
    refine ⟨l.length - (i + 1),packDSt l (i + 1) (v + 2),by omega,.weak ?_,i + 1,v + 2,by omega,rfl,by omega,rfl⟩
    simp only [go_sem,zA,zB,zC,zD,zE,zF,zG,zH,zI,zJ,zK,zL,zM,zN,zO,zP,↓reduceIte,reduceCtorEq,packDSt,hnx]
def packRSt (l : List Trb) (i : Nat) : Nat → St
  | 0 => ⟨40,[(5,.lit (.slice none 0 0)),(6,trbsPV l),(7,PI i)],[],20,0⟩
  | v + 1 => ⟨40,[(5,.own 90 v),(6,trbsPV l),(7,PI i)],[(90,.arr 5 1 (rowsB (packL (l.take i))) v false)],120,0⟩
def packRI (l : List Trb) (m : Nat) (st : St) : Prop := ∃ (i v : Nat),i ≤ l.length ∧ m = l.length - i ∧ (v = 0 ↔ i = 0) ∧ st = packRSt l i v
def packRSm (l : List Trb) (i b : Nat) : St := ⟨40,[(5,.own b 0),(6,trbsPV l),(7,PI i)],[(b,.arr 5 1 (rowsB (packL (l.take i))) 0 false)],20,0⟩
theorem packRSm_to (l : List Trb) (i b : Nat) : WeakS (packRSm l i b) (packRSt l i 1) := own_renamed (by simp [PV.sw,refsIn]) (Nat.zero_le _) (Nat.zero_le _) (by simp)
theorem packR_calls (l0 : List Trb) (mask : Int) (hbig : l0.length < 1000000) : PureCalls Tryz.prog 73 [trbsPV l0,PI mask] (bytesPV (packV mask l0)) := by
  refine PureCalls.of tabOK mixed Tryz.func73 rfl rfl (by decide +kernel) (by simp [Tryz.ntmps73]) ?_
  have hbig : (listV mask l0).length < 1000000 := Nat.lt_of_le_of_lt (listV_len _ _) (by omega)
  have cL := listR_calls l0 mask (by omega)
  simp only [go_sem,zA,zB,zC,zD,zE,zF,zG,zH,zI,zJ,zK,zL,zM,zN,zO,zP,↓reduceIte,reduceCtorEq,Tryz.ntmps73,Tryz.results73]
  rw [packV]
  generalize listV mask l0 = l at hbig cL
  have la := trbRows_len l
  (refine CallA.pure (cL) (by simp only [go_sem,zA,zB,zC,zD,zE,zF,zG,zH,zI,zJ,zK,zL,zM,zN,zO,zP,↓reduceIte,reduceCtorEq,la] <;> first | rfl | decide) ?_; simp only [go_sem,zA,zB,zC,zD,zE,zF,zG,zH,zI,zJ,zK,zL,zM,zN,zO,zP,↓reduceIte,reduceCtorEq,la])
  refine wpA_loopS (packRI l) ⟨_,_,.weak ?_,0,0,by omega,rfl,by simp,rfl⟩ ?_
  · simp only [go_sem,zA,zB,zC,zD,zE,zF,zG,zH,zI,zJ,zK,zL,zM,zN,zO,zP,↓reduceIte,reduceCtorEq,packRSt,yCb,la]
  rintro m st ⟨i,v,hi,rfl,hv,rfl⟩
  by_cases hc : i < l.length
  rotate_left 1
  · have f1 : decide ((i : Int) < (l.length : Int)) = false := decide_eq_false (by omega)
    have hall : packL (l.take i) = packL l := by rw [List.take_of_length_le (by omega)]
    cases v with
    | zero =>
      have hn : l = [] := List.eq_nil_of_length_eq_zero (by have := hv.1 rfl; omega)
      simp only [go_sem,zA,zB,zC,zD,zE,zF,zG,zH,zI,zJ,zK,zL,zM,zN,zO,zP,↓reduceIte,reduceCtorEq,packRSt,la,f1,Tryz.ntmps73,Tryz.results73]
      rw [hn]; rfl
    | succ v =>
      simp only [go_sem,zA,zB,zC,zD,zE,zF,zG,zH,zI,zJ,zK,zL,zM,zN,zO,zP,↓reduceIte,reduceCtorEq,packRSt,la,f1,hall,Tryz.ntmps73,Tryz.results73]
  have f1 : decide ((i : Int) < (l.length : Int)) = true := decide_eq_true (by omega)
  have f2 : (i : Int) < (l.length : Int) := by omega
  have f0 : (0 : Int) ≤ (i : Int) := by omega
  have hw := wrapIN (i := i) (by omega)
  have r1 := trbRows_get hc
  have hnx := packL_snoc hc
  generalize l[i] = t at r1 hnx
  have hrl : (rowsB (packL (l.take i))).length = 3 * i := by rw [rowsB_length,packL_len]; simp; omega
  have hrl2 : (packL (l.take i)).length = 3 * i := by rw [packL_len]; simp; omega
  cases v with
  | zero =>
    have h0 : i = 0 := hv.1 rfl
    have hnx : rowsB (packL (l.take (i + 1))) = [[.lit (.int .u8 (IntKind.wrap .u8 (t.id.fdiv (2 ^ min 8 64))))],[.lit (.int .u8 (IntKind.wrap .u8 t.id))],[.lit (.int .u8 (IntKind.wrap .u8 t.st))]] := by rw [hnx,h0]; rfl
    simp only [go_sem,zA,zB,zC,zD,zE,zF,zG,zH,zI,zJ,zK,zL,zM,zN,zO,zP,↓reduceIte,reduceCtorEq,packRSt,la,f1,f2,f0,yCa,r1,Trb.cells]
    refine endD_intro (by decide +kernel) ?_
    simp only [go_sem,zA,zB,zC,zD,zE,zF,zG,zH,zI,zJ,zK,zL,zM,zN,zO,zP,↓reduceIte,reduceCtorEq,hw,loopKS_normal]
    first | (refine ⟨l.length - (i + 1),_,by omega,.seq (s := packRSm l (i + 1) 20) ?_ (packRSm_to l (i + 1) 20),i + 1,1,by omega,rfl,by omega,rfl⟩; simp only [go_sem,zA,zB,zC,zD,zE,zF,zG,zH,zI,zJ,zK,zL,zM,zN,zO,zP,↓reduceIte,reduceCtorEq,packRSm,hnx]; done) | (refine ⟨l.length - (i + 1),_,by omega,.seq (s := packRSm l (i + 1) 21) ?_ (packRSm_to l (i + 1) 21),i + 1,1,by omega,rfl,by omega,rfl⟩; simp only [go_sem,zA,zB,zC,zD,zE,zF,zG,zH,zI,zJ,zK,zL,zM,zN,zO,zP,↓reduceIte,reduceCtorEq,packRSm,hnx]; done) | (refine ⟨l.length - (i + 1),_,by omega,.seq (s := packRSm l (i + 1) 22) ?_ (packRSm_to l (i + 1) 22),i + 1,1,by omega,rfl,by omega,rfl⟩; simp only [go_sem,zA,zB,zC,zD,zE,zF,zG,zH,zI,zJ,zK,zL,zM,zN,zO,zP,↓reduceIte,reduceCtorEq,packRSm,hnx]; done) | (refine ⟨l.length - (i + 1),_,by omega,.seq (s := packRSm l (i + 1) 23) ?_ (packRSm_to l (i + 1) 23),i + 1,1,by omega,rfl,by omega,rfl⟩; simp only [go_sem,zA,zB,zC,zD,zE,zF,zG,zH,zI,zJ,zK,zL,zM,zN,zO,zP,↓reduceIte,reduceCtorEq,packRSm,hnx]; done) | (refine ⟨l.length - (i + 1),_,by omega,.seq (s := packRSm l (i + 1) 24) ?_ (packRSm_to l (i + 1) 24),i + 1,1,by omega,rfl,by omega,rfl⟩; simp only [go_sem,zA,zB,zC,zD,zE,zF,zG,zH,zI,zJ,zK,zL,zM,zN,zO,zP,↓reduceIte,reduceCtorEq,packRSm,hnx]; done) | (refine ⟨l.length - (i + 1),_,by omega,.seq (s := packRSm l (i + 1) 25) ?_ (packRSm_to l (i + 1) 25),i + 1,1,by omega,rfl,by omega,rfl⟩; simp only [go_sem,zA,zB,zC,zD,zE,zF,zG,zH,zI,zJ,zK,zL,zM,zN,zO,zP,↓reduceIte,reduceCtorEq,packRSm,hnx]; done) | (refine ⟨l.length - (i + 1),_,by omega,.seq (s := packRSm l (i + 1) 26) ?_ (packRSm_to l (i + 1) 26),i + 1,1,by omega,rfl,by omega,rfl⟩; simp only [go_sem,zA,zB,zC,zD,zE,zF,zG,zH,zI,zJ,zK,zL,zM,zN,zO,zP,↓reduceIte,reduceCtorEq,packRSm,hnx]; done) | (refine ⟨l.length - (i + 1),_,by omega,.seq (s := packRSm l (i + 1) 27) ?_ (packRSm_to l (i + 1) 27),i + 1,1,by omega,rfl,by omega,rfl⟩; simp only [go_sem,zA,zB,zC,zD,zE,zF,zG,zH,zI,zJ,zK,zL,zM,zN,zO,zP,↓reduceIte,reduceCtorEq,packRSm,hnx]; done) | (refine ⟨l.length - (i + 1),_,by omega,.seq (s := packRSm l (i + 1) 28) ?_ (packRSm_to l (i + 1) 28),i + 1,1,by omega,rfl,by omega,rfl⟩; simp only [go_sem,zA,zB,zC,zD,zE,zF,zG,zH,zI,zJ,zK,zL,zM,zN,zO,zP,↓reduceIte,reduceCtorEq,packRSm,hnx]; done) | (refine ⟨l.length - (i + 1),_,by omega,.seq (s := packRSm l (i + 1) 29) ?_ (packRSm_to l (i + 1) 29),i + 1,1,by omega,rfl,by omega,rfl⟩; simp only [go_sem,zA,zB,zC,zD,zE,zF,zG,zH,zI,zJ,zK,zL,zM,zN,zO,zP,↓reduceIte,reduceCtorEq,packRSm,hnx]; done) | (refine ⟨l.length - (i + 1),_,by omega,.seq (s := packRSm l (i + 1) 30) ?_ (packRSm_to l (i + 1) 30),i + 1,1,by omega,rfl,by omega,rfl⟩; simp only [go_sem,zA,zB,zC,zD,zE,zF,zG,zH,zI,zJ,zK,zL,zM,zN,zO,zP,↓reduceIte,reduceCtorEq,packRSm,hnx]; done) | (refine ⟨l.length - (i + 1),_,by omega,.seq (s := packRSm l (i + 1) 31) ?_ (packRSm_to l (i + 1) 31),i + 1,1,by omega,rfl,by omega,rfl⟩; simp only [go_sem,zA,zB,zC,zD,zE,zF,zG,zH,zI,zJ,zK,zL,zM,zN,zO,zP,↓reduceIte,reduceCtorEq,packRSm,hnx]; done) | (refine ⟨l.length - (i + 1),_,by omega,.seq (s := packRSm l (i + 1) 32) ?_ (packRSm_to l (i + 1) 32),i + 1,1,by omega,rfl,by omega,rfl⟩; simp only [go_sem,zA,zB,zC,zD,zE,zF,zG,zH,zI,zJ,zK,zL,zM,zN,zO,zP,↓reduceIte,reduceCtorEq,packRSm,hnx]; done) | (refine ⟨l.length - (i + 1),_,by omega,.seq (s := packRSm l (i + 1) 33) ?_ (packRSm_to l (i + 1) 33),i + 1,1,by omega,rfl,by omega,rfl⟩; simp only [go_sem,zA,zB,zC,zD,zE,zF,zG,zH,zI,zJ,zK,zL,zM,zN,zO,zP,↓reduceIte,reduceCtorEq,packRSm,hnx]; done) | (refine ⟨l.length - (i + 1),_,by omega,.seq (s := packRSm l (i + 1) 34) ?_ (packRSm_to l (i + 1) 34),i + 1,1,by omega,rfl,by omega,rfl⟩; simp only [go_sem,zA,zB,zC,zD,zE,zF,zG,zH,zI,zJ,zK,zL,zM,zN,zO,zP,↓reduceIte,reduceCtorEq,packRSm,hnx]; done) | (refine ⟨l.length - (i + 1),_,by omega,.seq (s := packRSm l (i + 1) 35) ?_ (packRSm_to l (i + 1) 35),i + 1,1,by omega,rfl,by omega,rfl⟩; simp only [go_sem,zA,zB,zC,zD,zE,zF,zG,zH,zI,zJ,zK,zL,zM,zN,zO,zP,↓reduceIte,reduceCtorEq,packRSm,hnx]; done) | (refine ⟨l.length - (i + 1),_,by omega,.seq (s := packRSm l (i + 1) 36) ?_ (packRSm_to l (i + 1) 36),i + 1,1,by omega,rfl,by omega,rfl⟩; simp only [go_sem,zA,zB,zC,zD,zE,zF,zG,zH,zI,zJ,zK,zL,zM,zN,zO,zP,↓reduceIte,reduceCtorEq,packRSm,hnx]; done) | (refine ⟨l.length - (i + 1),_,by omega,.seq (s := packRSm l (i + 1) 37) ?_ (packRSm_to l (i + 1) 37),i + 1,1,by omega,rfl,by omega,rfl⟩; simp only [go_sem,zA,zB,zC,zD,zE,zF,zG,zH,zI,zJ,zK,zL,zM,zN,zO,zP,↓reduceIte,reduceCtorEq,packRSm,hnx]; done) | (refine ⟨l.length - (i + 1),_,by omega,.seq (s := packRSm l (i + 1) 38) ?_ (packRSm_to l (i + 1) 38),i + 1,1,by omega,rfl,by omega,rfl⟩; simp only [go_sem,zA,zB,zC,zD,zE,zF,zG,zH,zI,zJ,zK,zL,zM,zN,zO,zP,↓reduceIte,reduceCtorEq,packRSm,hnx]; done) | (refine ⟨l.length - (i + 1),_,by omega,.seq (s := packRSm l (i + 1) 39) ?_ (packRSm_to l (i + 1) 39),i + 1,1,by omega,rfl,by omega,rfl⟩; simp only [go_sem,zA,zB,zC,zD,zE,zF,zG,zH,zI,zJ,zK,zL,zM,zN,zO,zP,↓reduceIte,reduceCtorEq,packRSm,hnx]; done) | (refine ⟨l.length - (i + 1),_,by omega,.seq (s := packRSm l (i + 1) 40) ?_ (packRSm_to l (i + 1) 40),i + 1,1,by omega,rfl,by omega,rfl⟩; simp only [go_sem,zA,zB,zC,zD,zE,zF,zG,zH,zI,zJ,zK,zL,zM,zN,zO,zP,↓reduceIte,reduceCtorEq,packRSm,hnx]; done) | (refine ⟨l.length - (i + 1),_,by omega,.seq (s := packRSm l (i + 1) 41) ?_ (packRSm_to l (i + 1) 41),i + 1,1,by omega,rfl,by omega,rfl⟩; simp only [go_sem,zA,zB,zC,zD,zE,zF,zG,zH,zI,zJ,zK,zL,zM,zN,zO,zP,↓reduceIte,reduceCtorEq,packRSm,hnx]; done) | (refine ⟨l.length - (i + 1),_,by omega,.seq (s := packRSm l (i + 1) 42) ?_ (packRSm_to l (i + 1) 42),i + 1,1,by omega,rfl,by omega,rfl⟩; simp only [go_sem,zA,zB,zC,zD,zE,zF,zG,zH,zI,zJ,zK,zL,zM,zN,zO,zP,↓reduceIte,reduceCtorEq,packRSm,hnx]; done) | (refine ⟨l.length - (i + 1),_,by omega,.seq (s := packRSm l (i + 1) 43) ?_ (packRSm_to l (i + 1) 43),i + 1,1,by omega,rfl,by omega,rfl⟩; simp only [go_sem,zA,zB,zC,zD,zE,zF,zG,zH,zI,zJ,zK,zL,zM,zN,zO,zP,↓reduceIte,reduceCtorEq,packRSm,hnx]; done) | (refine ⟨l.length - (i + 1),_,by omega,.seq (s := packRSm l (i + 1) 44) ?_ (packRSm_to l (i + 1) 44),i + 1,1,by omega,rfl,by omega,rfl⟩; simp only [go_sem,zA,zB,zC,zD,zE,zF,zG,zH,zI,zJ,zK,zL,zM,zN,zO,zP,↓reduceIte,reduceCtorEq,packRSm,hnx]; done) | (refine ⟨l.length - (i + 1),_,by omega,.seq (s := packRSm l (i + 1) 45) ?_ (packRSm_to l (i + 1) 45),i + 1,1,by omega,rfl,by omega,rfl⟩; simp only [go_sem,zA,zB,zC,zD,zE,zF,zG,zH,zI,zJ,zK,zL,zM,zN,zO,zP,↓reduceIte,reduceCtorEq,packRSm,hnx]; done)
  | succ v =>
    have hi0 : i ≠ 0 := fun e => by have := hv.2 e; omega
    simp only [go_sem,zA,zB,zC,zD,zE,zF,zG,zH,zI,zJ,zK,zL,zM,zN,zO,zP,↓reduceIte,reduceCtorEq,packRSt,la,f1,f2,f0,yCa,r1,Trb.cells,hrl,hrl2]
    refine ⟨⟨by omega,by omega⟩,?_⟩
    refine endD_intro (by decide +kernel) ?_
    simp only [go_sem,zA,zB,zC,zD,zE,zF,zG,zH,zI,zJ,zK,zL,zM,zN,zO,zP,↓reduceIte,reduceCtorEq,hw,loopKS_normal]
    refine ⟨l.length - (i + 1),packRSt l (i + 1) (v + 2),by omega,.weak ?_,i + 1,v + 2,by omega,rfl,by omega,rfl⟩
    simp only [go_sem,zA,zB,zC,zD,zE,zF,zG,zH,zI,zJ,zK,zL,zM,zN,zO,zP,↓reduceIte,reduceCtorEq,packRSt,hnx]
end Go.Proofs.YtcdmhigmgpflbaaGreat.Pe
