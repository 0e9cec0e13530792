import Derived.Test.YtcdmhigmgpflbaaGreatDT3
set_option maxRecDepth 20000
set_option maxHeartbeats 4000000
set_option linter.unusedSimpArgs false
set_option linter.unusedVariables false
open Nat renaming reduceAdd → zA,reduceSub → zB,reduceMul → zC,reduceLT → zD,reduceLeDiff → zE,reduceEqDiff → zF,reduceBEq → zG
open Int renaming reduceToNat → zH,reduceLT → zI,reduceLE → zJ,reduceEq → zK,reduceNe → zL,reduceAdd → zM,reduceSub → zN,reduceMul → zO,reduceNeg → zP,toNat_natCast → yCa
open List renaming getElem?_eq_getElem → yBh
namespace Go.Proofs.YtcdmhigmgpflbaaGreat.Pe
open Go.Pe Go.RowKit
def listV (mask : Int) (l : List Trb) : List Trb := l.filter fun t => hasV t.st mask
def idxSt (l : List Trb) (mask : Int) (i : Nat) : St := ⟨19,[(0,.own 1 1),(1,.fn (.func 137) [] [.ptr 0 0]),(7,PI l.length),(8,PI i)],[(1,.arr 102 4 (trbRows l) 1 false),(0,.box 3 [PI mask])],30,3⟩
def idxI (l : List Trb) (mask : Int) (m : Nat) (st : St) : Prop := ∃ i : Nat,i ≤ l.length ∧ m = l.length - i ∧ listV mask (l.take i) = l.take i ∧ st = idxSt l mask i
def delSt (mask : Int) (r : List (List PV)) (i j : Nat) : St := ⟨42,[(0,.own 1 1),(1,.fn (.func 137) [] [.ptr 0 0]),(5,PI i),(6,PI j)],[(1,.arr 102 4 r 1 false),(0,.box 3 [PI mask])],100,3⟩
def delI (l : List Trb) (mask : Int) (m : Nat) (st : St) : Prop := ∃ (i j : Nat) (r : List (List PV)),i < j ∧ j ≤ l.length ∧ m = l.length - j ∧ r.length = l.length ∧ r.take i = trbRows (listV mask (l.take j)) ∧ r.drop j = trbRows (l.drop j) ∧ (∀ x ∈ r,x.length = 4) ∧ st = delSt mask r i j
theorem listV_snoc (mask : Int) {l : List Trb} {i : Nat} (h : i < l.length) : listV mask (l.take (i + 1)) = listV mask (l.take i) ++ (if hasV l[i].st mask then [l[i]] else []) := by
  rw [List.take_succ_eq_append_getElem h,listV,List.filter_append]
  congr 1
  simp [List.filter_cons]
theorem listD_calls (l : List Trb) (mask : Int) (hbig : l.length < 1000000) : PureCalls Tryz.prog 134 [trbsPV l,PI mask] (trbsPV (listV mask l)) := by
  refine PureCalls.of tabOK mixed Tryz.func134 rfl rfl (by decide +kernel) (by simp [Tryz.ntmps134]) ?_
  have la := trbRows_len l
  simp only [go_sem,zA,zB,zC,zD,zE,zF,zG,zH,zI,zJ,zK,zL,zM,zN,zO,zP,↓reduceIte,reduceCtorEq,Tryz.ntmps134,Tryz.results134,la]
  refine CallA.into tabOK mixed Tryz.func139 rfl rfl (by decide +kernel) (by simp [Tryz.ntmps139]) ?_
  simp only [go_sem,zA,zB,zC,zD,zE,zF,zG,zH,zI,zJ,zK,zL,zM,zN,zO,zP,↓reduceIte,reduceCtorEq,Tryz.ntmps139,Tryz.results139,la]
  intro b hb
  cases b with
  | true =>
    have hn : l = [] := by
      have := hb rfl
      cases l with
      | nil => rfl
      | cons _ _ => simp [trbRows] at this
    simp only [go_sem,zA,zB,zC,zD,zE,zF,zG,zH,zI,zJ,zK,zL,zM,zN,zO,zP,↓reduceIte,reduceCtorEq,Tryz.ntmps139,Tryz.results139,la]
    refine CallA.into tabOK mixed Tryz.func138 rfl rfl (by decide +kernel) (by simp [Tryz.ntmps138]) ?_
    simp only [go_sem,zA,zB,zC,zD,zE,zF,zG,zH,zI,zJ,zK,zL,zM,zN,zO,zP,↓reduceIte,reduceCtorEq,Tryz.ntmps138,Tryz.results138]
    refine CallA.into tabOK mixed Tryz.func140 rfl rfl (by decide +kernel) (by simp [Tryz.ntmps140]) ?_
    simp only [go_sem,zA,zB,zC,zD,zE,zF,zG,zH,zI,zJ,zK,zL,zM,zN,zO,zP,↓reduceIte,reduceCtorEq,Tryz.ntmps140,Tryz.results140]
    refine wpA_loop (fun _ st => st = ⟨19,[(7,PI 0),(8,PI 0)],[(0,.box 3 [PI mask])],30,1⟩) ⟨0,_,?_,rfl⟩ ?_
    · simp only [go_sem,zA,zB,zC,zD,zE,zF,zG,zH,zI,zJ,zK,zL,zM,zN,zO,zP,↓reduceIte,reduceCtorEq]
    rintro m st rfl
    simp only [go_sem,zA,zB,zC,zD,zE,zF,zG,zH,zI,zJ,zK,zL,zM,zN,zO,zP,↓reduceIte,reduceCtorEq,Tryz.ntmps137,Tryz.results137,Tryz.ntmps140,Tryz.results140,Tryz.ntmps138,Tryz.results138,Trb.cells,Tryz.ntmps134,Tryz.results134]
    rw [hn]; rfl
  | false =>
    simp only [go_sem,zA,zB,zC,zD,zE,zF,zG,zH,zI,zJ,zK,zL,zM,zN,zO,zP,↓reduceIte,reduceCtorEq,Tryz.ntmps139,Tryz.results139,la]
    refine ⟨⟨by omega,by omega⟩,?_⟩
    refine CallA.into tabOK mixed Tryz.func138 rfl rfl (by decide +kernel) (by simp [Tryz.ntmps138]) ?_
    simp only [go_sem,zA,zB,zC,zD,zE,zF,zG,zH,zI,zJ,zK,zL,zM,zN,zO,zP,↓reduceIte,reduceCtorEq,Tryz.ntmps138,Tryz.results138]
    refine CallA.into tabOK mixed Tryz.func140 rfl rfl (by decide +kernel) (by simp [Tryz.ntmps140]) ?_
    simp only [go_sem,zA,zB,zC,zD,zE,zF,zG,zH,zI,zJ,zK,zL,zM,zN,zO,zP,↓reduceIte,reduceCtorEq,Tryz.ntmps140,Tryz.results140]
    refine wpA_loop (idxI l mask) ⟨_,_,?_,0,by omega,rfl,rfl,rfl⟩ ?_
    · simp only [go_sem,zA,zB,zC,zD,zE,zF,zG,zH,zI,zJ,zK,zL,zM,zN,zO,zP,↓reduceIte,reduceCtorEq,idxSt,Int.natCast_zero,la]
    rintro m st ⟨i,hi,rfl,hall,rfl⟩
    by_cases hc : i < l.length
    rotate_left 1
    · have f1 : decide ((i : Int) < (l.length : Int)) = false := decide_eq_false (by omega)
      have hfl : listV mask l = l := by rw [List.take_of_length_le (by omega)] at hall; exact hall
      simp only [go_sem,zA,zB,zC,zD,zE,zF,zG,zH,zI,zJ,zK,zL,zM,zN,zO,zP,↓reduceIte,reduceCtorEq,idxSt,f1,hfl,Tryz.ntmps137,Tryz.results137,Tryz.ntmps140,Tryz.results140,Tryz.ntmps138,Tryz.results138,Trb.cells,Tryz.ntmps134,Tryz.results134]
    have f1 : decide ((i : Int) < (l.length : Int)) = true := decide_eq_true (by omega)
    have f2 : (i : Int) < (l.length : Int) := by omega
    have f0 : (0 : Int) ≤ (i : Int) := by omega
    have hw := wrapIN (i := i) (by omega)
    have r1 := trbRows_get hc
    have hsn := listV_snoc mask hc
    simp only [go_sem,zA,zB,zC,zD,zE,zF,zG,zH,zI,zJ,zK,zL,zM,zN,zO,zP,↓reduceIte,reduceCtorEq,idxSt,f1,f2,f0,yCa,la,hc,r1,Trb.cells]
    refine CallA.into tabOK mixed Tryz.func137 rfl rfl (by decide +kernel) (by simp [Tryz.ntmps137]) ?_
    simp only [go_sem,zA,zB,zC,zD,zE,zF,zG,zH,zI,zJ,zK,zL,zM,zN,zO,zP,↓reduceIte,reduceCtorEq,Tryz.ntmps137,Tryz.results137,Tryz.ntmps140,Tryz.results140,Tryz.ntmps138,Tryz.results138,Trb.cells]
    cases g1 : decide (bitsA .and .i64 l[i].st mask = 0) with
    | false =>
      simp only [go_sem,zA,zB,zC,zD,zE,zF,zG,zH,zI,zJ,zK,zL,zM,zN,zO,zP,↓reduceIte,reduceCtorEq,hw,Tryz.ntmps137,Tryz.results137,Tryz.ntmps140,Tryz.results140,Tryz.ntmps138,Tryz.results138,Trb.cells]
      refine ⟨l.length - (i + 1),_,by omega,?_,i + 1,by omega,rfl,?_,rfl⟩
      · simp only [go_sem,zA,zB,zC,zD,zE,zF,zG,zH,zI,zJ,zK,zL,zM,zN,zO,zP,↓reduceIte,reduceCtorEq,idxSt]
      · rw [hsn,hall,hasV,g1,List.take_succ_eq_append_getElem hc]; rfl
    | true =>
    simp only [go_sem,zA,zB,zC,zD,zE,zF,zG,zH,zI,zJ,zK,zL,zM,zN,zO,zP,↓reduceIte,reduceCtorEq,hw,Tryz.ntmps137,Tryz.results137,Tryz.ntmps140,Tryz.results140,Tryz.ntmps138,Tryz.results138,Trb.cells]
    have hni : listV mask (l.take (i + 1)) = l.take i := by rw [hsn,hall,hasV,g1]; simp
    refine wpA_loop (delI l mask) ⟨_,_,?_,i,i + 1,trbRows l,by omega,by omega,rfl,la,by rw [hni]; simp [trbRows],by simp [trbRows],by intro x hx; simp only [trbRows,List.mem_map] at hx; obtain ⟨t,_,rfl⟩ := hx; rfl,rfl⟩ ?_
    · simp only [go_sem,zA,zB,zC,zD,zE,zF,zG,zH,zI,zJ,zK,zL,zM,zN,zO,zP,↓reduceIte,reduceCtorEq,delSt]
    clear hni g1 hsn r1 hw f0 f2 f1 hc hall hi i
    rintro m st ⟨i,j,r,hij,hj,rfl,hrl,h1,h2,h4,rfl⟩
    by_cases hc : j < l.length
    rotate_left 1
    · have f1 : decide ((j : Int) < (l.length : Int)) = false := decide_eq_false (by omega)
      have hfl : listV mask (l.take j) = listV mask l := by rw [List.take_of_length_le (by omega)]
      simp only [go_sem,zA,zB,zC,zD,zE,zF,zG,zH,zI,zJ,zK,zL,zM,zN,zO,zP,↓reduceIte,reduceCtorEq,delSt,hrl,f1,Tryz.ntmps137,Tryz.results137,Tryz.ntmps140,Tryz.results140,Tryz.ntmps138,Tryz.results138,Trb.cells,Tryz.ntmps134,Tryz.results134]
      have e1 : (List.take i r ++ List.replicate (l.length - i) [PV.lit (Value.int IntKind.i64 0),PV.lit (Value.int IntKind.i64 0),PV.lit (Value.int IntKind.i64 0),PV.lit (Value.int IntKind.i64 0)] ++ List.drop (i + (List.replicate (l.length - i) [PV.lit (Value.int IntKind.i64 0),PV.lit (Value.int IntKind.i64 0),PV.lit (Value.int IntKind.i64 0),PV.lit (Value.int IntKind.i64 0)]).length) r).take i = trbRows (listV mask l) := by
        rw [List.append_assoc,List.take_append_of_le_length (by simp; omega),List.take_take,Nat.min_self,h1,hfl]
      simp only [yCa]
      refine ⟨⟨by omega,by omega⟩,by omega,⟨by omega,?_⟩,e1.symm⟩
      simp only [List.length_append,List.length_take]
      omega
    have f1 : decide ((j : Int) < (l.length : Int)) = true := decide_eq_true (by omega)
    have f2 : (j : Int) < (l.length : Int) := by omega
    have f2i : (i : Int) < (l.length : Int) := by omega
    have hil : i < l.length := by omega
    have f0 : (0 : Int) ≤ (j : Int) := by omega
    have f0i : (0 : Int) ≤ (i : Int) := by omega
    have hwj := wrapIN (i := j) (by omega)
    have hwi := wrapIN (i := i) (by omega)
    have r1 : r.getD j [] = l[j].cells := by
      have e : (r.drop j)[0]? = (trbRows (l.drop j))[0]? := by rw [h2]
      simp only [List.getElem?_drop,trbRows,List.getElem?_map,Nat.add_zero,yBh hc,Option.map_some] at e
      rw [List.getD_eq_getElem?_getD,e]; rfl
    have hd4 : (r.getD i []).drop 4 = [] := by
      have : (r.getD i []).length = 4 := by
        rw [List.getD_eq_getElem?_getD,yBh (by omega)]
        exact h4 _ (List.getElem_mem _)
      exact List.drop_of_length_le (by omega)
    have hsn := listV_snoc mask hc
    have hdr : r.drop (j + 1) = trbRows (l.drop (j + 1)) := by
      rw [← List.drop_drop,h2]
      simp [trbRows]
    generalize l[j] = t at r1 hsn
    simp only [go_sem,zA,zB,zC,zD,zE,zF,zG,zH,zI,zJ,zK,zL,zM,zN,zO,zP,↓reduceIte,reduceCtorEq,delSt,hrl,f1,f2,f0,yCa,hc,r1,Trb.cells]
    refine CallA.into tabOK mixed Tryz.func137 rfl rfl (by decide +kernel) (by simp [Tryz.ntmps137]) ?_
    simp only [go_sem,zA,zB,zC,zD,zE,zF,zG,zH,zI,zJ,zK,zL,zM,zN,zO,zP,↓reduceIte,reduceCtorEq,Tryz.ntmps137,Tryz.results137,Tryz.ntmps140,Tryz.results140,Tryz.ntmps138,Tryz.results138,Trb.cells]
    cases g1 : decide (bitsA .and .i64 t.st mask = 0) with
    | true =>
      simp only [go_sem,zA,zB,zC,zD,zE,zF,zG,zH,zI,zJ,zK,zL,zM,zN,zO,zP,↓reduceIte,reduceCtorEq,hwj,Tryz.ntmps137,Tryz.results137,Tryz.ntmps140,Tryz.results140,Tryz.ntmps138,Tryz.results138,Trb.cells]
      refine ⟨l.length - (j + 1),_,by omega,?_,i,j + 1,r,by omega,by omega,rfl,hrl,?_,hdr,h4,rfl⟩
      · simp only [go_sem,zA,zB,zC,zD,zE,zF,zG,zH,zI,zJ,zK,zL,zM,zN,zO,zP,↓reduceIte,reduceCtorEq,delSt]
      · rw [h1,hsn,hasV,g1]; simp
    | false =>
      simp only [go_sem,zA,zB,zC,zD,zE,zF,zG,zH,zI,zJ,zK,zL,zM,zN,zO,zP,↓reduceIte,reduceCtorEq,hrl,hwj,hwi,f2i,f0i,hil,hd4,List.take_zero,List.nil_append,List.append_nil,yCa,Tryz.ntmps137,Tryz.results137,Tryz.ntmps140,Tryz.results140,Tryz.ntmps138,Tryz.results138,Trb.cells]
      refine ⟨l.length - (j + 1),_,by omega,?_,i + 1,j + 1,r.set i t.cells,by omega,by omega,rfl,by rw [List.length_set]; exact hrl,?_,?_,?_,rfl⟩
      · simp only [go_sem,zA,zB,zC,zD,zE,zF,zG,zH,zI,zJ,zK,zL,zM,zN,zO,zP,↓reduceIte,reduceCtorEq,delSt,Trb.cells]
      · have hp : hasV t.st mask = true := by rw [hasV,g1]; rfl
        rw [hsn,if_pos hp,trbRows,List.map_append,← trbRows,← h1,List.take_succ_eq_append_getElem (by rw [List.length_set]; omega)]
        congr 1
        · rw [List.take_set_of_le (Nat.le_refl _)]
        · simp
      · rw [List.drop_set_of_lt (by omega)]; exact hdr
      · intro x hx
        rcases List.mem_or_eq_of_mem_set hx with h | rfl
        · exact h4 x h
        · rfl
end Go.Proofs.YtcdmhigmgpflbaaGreat.Pe
