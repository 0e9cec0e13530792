import Derived.Test.YtcdmhigmgpflbaaDT2
import Derived.Test.YtcdmhigmgpflbaaPeU
import Derived.Test.YtcdmhigmgpflbaaDT7
namespace Go.Proofs.Ytcdmhigmgpflbaa.Pe
open Go.Pe Go.RowKit
set_option maxRecDepth 20000
set_option maxHeartbeats 4000000
set_option linter.unusedSimpArgs false
set_option linter.unusedVariables false

/-- A trouble behind a ride. -/
def riddenV (t : Trb) : Trb :=
  if hasV (setV t.st 8) 1 then ⟨t.id,setV t.st 8,t.sc,0⟩
  else if hasV (dropV (setV t.st 8) 2) 4 then
    (if IntKind.wrap .i64 (t.ca + 1) = 3 then ⟨t.id,dropV (dropV (setV t.st 8) 2) 4,t.sc,0⟩ else ⟨t.id,dropV (setV t.st 8) 2,t.sc,IntKind.wrap .i64 (t.ca + 1)⟩)
  else (if t.ca = 3 then ⟨t.id,dropV (dropV (setV t.st 8) 2) 4,t.sc,0⟩ else ⟨t.id,dropV (setV t.st 8) 2,t.sc,t.ca⟩)
def cycL (l : List Trb) : List Trb := l.map riddenV
end Go.Proofs.Ytcdmhigmgpflbaa.Pe


namespace Go.Proofs.Ytcdmhigmgpflbaa.Pe
open Go.Pe Go.RowKit
open Nat renaming reduceAdd → zA,reduceSub → zB,reduceMul → zC,reduceLT → zD,reduceLeDiff → zE,reduceEqDiff → zF,reduceBEq → zG
open Int renaming reduceToNat → zH,reduceLT → zI,reduceLE → zJ,reduceEq → zK,reduceNe → zL,reduceAdd → zM,reduceSub → zN,reduceMul → zO,reduceNeg → zP
set_option maxRecDepth 20000
set_option maxHeartbeats 4000000
set_option linter.unusedSimpArgs false
set_option linter.unusedVariables false

/-- Rows of which the first ones were made anew. -/
abbrev midRows (f : Trb → Trb) (l : List Trb) (i : Nat) : List (List PV) := trbRows ((l.take i).map f ++ l.drop i)
theorem mid_len (f : Trb → Trb) (l : List Trb) (i : Nat) : (midRows f l i).length = l.length := by simp [midRows]; omega
theorem mid_get (f : Trb → Trb) {l : List Trb} {i : Nat} (h : i < l.length) : (midRows f l i).getD i [] = l[i].cells := by
  simp only [midRows,trbRows,List.getD_eq_getElem?_getD,List.getElem?_map]
  rw [List.getElem?_append_right (by simp; omega)]
  simp [Nat.min_eq_left (Nat.le_of_lt h),h]
theorem mid_next (f : Trb → Trb) {l : List Trb} {i : Nat} (h : i < l.length) : midRows f l (i + 1) = (midRows f l i).set i (f l[i]).cells := by
  unfold midRows trbRows
  rw [← List.map_set]
  congr 1
  rw [List.take_succ_eq_append_getElem h,List.map_append,List.append_assoc,List.set_append,if_neg (by simp; omega)]
  congr 1
  rw [show i - ((l.take i).map f).length = 0 by simp; omega,List.drop_eq_getElem_cons h]
  rfl
theorem set_getD {rows : List (List PV)} {i : Nat} (h : i < rows.length) (x : List PV) : (rows.set i x).getD i [] = x := by
  simp [List.getD_eq_getElem?_getD,h]
def cycDSt (l : List Trb) (i : Nat) : St := ⟨19,[(3,.own 0 1),(8,PI l.length),(9,PI i)],[(0,.arr 161 4 (midRows riddenV l i) 1 false)],20,0⟩
def cycDI (l : List Trb) (m : Nat) (st : St) : Prop := ∃ i : Nat,i ≤ l.length ∧ m = l.length - i ∧ st = cycDSt l i
theorem cycD_calls (l : List Trb) (hbig : l.length < 1000000) : PureCalls Try.prog 71 [trbsPV l] (trbsPV (cycL l)) := by
  refine PureCalls.of tabOK mixed Try.func71 rfl rfl (by decide +kernel) (by simp [Try.ntmps71]) ?_
  have la := trbRows_len l
  simp only [go_sem,zA,zB,zC,zD,zE,zF,zG,zH,zI,zJ,zK,zL,zM,zN,zO,zP,↓reduceIte,reduceCtorEq,Try.ntmps71,Try.results71,la]
  refine CallA.into tabOK mixed Try.func114 rfl rfl (by decide +kernel) (by simp [Try.ntmps114]) ?_
  simp only [go_sem,zA,zB,zC,zD,zE,zF,zG,zH,zI,zJ,zK,zL,zM,zN,zO,zP,↓reduceIte,reduceCtorEq,Try.ntmps114,Try.results114,la]
  intro b hb
  cases b with
  | true =>
    have hn : l = [] := by
      have := hb rfl
      cases l with
      | nil => rfl
      | cons _ _ => simp [trbRows] at this
    simp only [go_sem,zA,zB,zC,zD,zE,zF,zG,zH,zI,zJ,zK,zL,zM,zN,zO,zP,↓reduceIte,reduceCtorEq,Try.ntmps114,Try.results114,la]
    refine wpA_loop (fun _ st => st = ⟨19,[(3,.lit (.slice none 0 0)),(8,PI 0),(9,PI 0)],[],20,0⟩) ⟨0,_,?_,rfl⟩ ?_
    · simp only [go_sem,zA,zB,zC,zD,zE,zF,zG,zH,zI,zJ,zK,zL,zM,zN,zO,zP,↓reduceIte,reduceCtorEq]
    rintro m st rfl
    simp only [go_sem,zA,zB,zC,zD,zE,zF,zG,zH,zI,zJ,zK,zL,zM,zN,zO,zP,↓reduceIte,reduceCtorEq,Try.ntmps71,Try.results71]
    rw [hn]; rfl
  | false =>
    simp only [go_sem,zA,zB,zC,zD,zE,zF,zG,zH,zI,zJ,zK,zL,zM,zN,zO,zP,↓reduceIte,reduceCtorEq,Try.ntmps114,Try.results114,la]
    refine ⟨⟨by omega,by omega⟩,?_⟩
    refine wpA_loop (cycDI l) ⟨_,_,?_,0,by omega,rfl,rfl⟩ ?_
    · simp only [go_sem,zA,zB,zC,zD,zE,zF,zG,zH,zI,zJ,zK,zL,zM,zN,zO,zP,↓reduceIte,reduceCtorEq,cycDSt,Int.natCast_zero]
      rfl
    rintro m st ⟨i,hi,rfl,rfl⟩
    have hlen := mid_len riddenV l i
    by_cases hc : i < l.length
    rotate_left 1
    · have f1 : decide ((i : Int) < (l.length : Int)) = false := decide_eq_false (by omega)
      have hall : midRows riddenV l i = trbRows (cycL l) := by
        rw [midRows,List.take_of_length_le (by omega),List.drop_of_length_le (by omega),List.append_nil]; rfl
      simp only [go_sem,zA,zB,zC,zD,zE,zF,zG,zH,zI,zJ,zK,zL,zM,zN,zO,zP,↓reduceIte,reduceCtorEq,cycDSt,f1,hall,Try.ntmps71,Try.results71]
    have f1 : decide ((i : Int) < (l.length : Int)) = true := decide_eq_true (by omega)
    have f2 : (i : Int) < (l.length : Int) := by omega
    have f0 : (0 : Int) ≤ (i : Int) := by omega
    have hw := wrapIN (i := i) (by omega)
    have hget := mid_get riddenV hc
    have hnx := mid_next riddenV hc
    have hset := fun x => set_getD (rows := midRows riddenV l i) (i := i) (by rw [hlen]; exact hc) x
    generalize l[i] = t at hget hnx
    obtain ⟨rows,hrows⟩ : ∃ rows,rows = midRows riddenV l i := ⟨_,rfl⟩
    rw [← hrows] at hlen hget hnx hset
    simp only [go_sem,zA,zB,zC,zD,zE,zF,zG,zH,zI,zJ,zK,zL,zM,zN,zO,zP,↓reduceIte,reduceCtorEq,cycDSt,f1,f2,f0,Int.toNat_natCast,← hrows,hlen]
    clear hrows
    refine CallA.into tabOK mixed Try.func117 rfl rfl (by decide +kernel) (by simp [Try.ntmps117]) ?_
    simp only [go_sem,zA,zB,zC,zD,zE,zF,zG,zH,zI,zJ,zK,zL,zM,zN,zO,zP,↓reduceIte,reduceCtorEq,Try.ntmps117,Try.results117,Try.ntmps143,Try.results143,Try.ntmps142,Try.results142,Try.ntmps141,Try.results141,Try.ntmps71,Try.results71,hlen,hget,hset,List.set_set,List.length_set,hc,Trb.cells,hw]
    refine CallA.into tabOK mixed Try.func143 rfl rfl (by decide +kernel) (by simp [Try.ntmps143]) ?_
    simp only [go_sem,zA,zB,zC,zD,zE,zF,zG,zH,zI,zJ,zK,zL,zM,zN,zO,zP,↓reduceIte,reduceCtorEq,Try.ntmps117,Try.results117,Try.ntmps143,Try.results143,Try.ntmps142,Try.results142,Try.ntmps141,Try.results141,Try.ntmps71,Try.results71,hlen,hget,hset,List.set_set,List.length_set,hc,Trb.cells,hw]
    refine CallA.into tabOK mixed Try.func142 rfl rfl (by decide +kernel) (by simp [Try.ntmps142]) ?_
    simp only [go_sem,zA,zB,zC,zD,zE,zF,zG,zH,zI,zJ,zK,zL,zM,zN,zO,zP,↓reduceIte,reduceCtorEq,Try.ntmps117,Try.results117,Try.ntmps143,Try.results143,Try.ntmps142,Try.results142,Try.ntmps141,Try.results141,Try.ntmps71,Try.results71,hlen,hget,hset,List.set_set,List.length_set,hc,Trb.cells,hw]
    cases g1 : decide (bitsA .and .i64 (setV t.st 8) 1 = 0) with
    | false =>
      have hr : riddenV t = ⟨t.id,setV t.st 8,t.sc,0⟩ := by simp [riddenV,hasV,g1]
      simp only [go_sem,zA,zB,zC,zD,zE,zF,zG,zH,zI,zJ,zK,zL,zM,zN,zO,zP,↓reduceIte,reduceCtorEq,Try.ntmps117,Try.results117,Try.ntmps143,Try.results143,Try.ntmps142,Try.results142,Try.ntmps141,Try.results141,Try.ntmps71,Try.results71,hlen,hget,hset,List.set_set,List.length_set,hc,Trb.cells,hw]
      refine ⟨l.length - (i + 1),_,by omega,?_,i + 1,by omega,rfl,rfl⟩
      simp only [go_sem,zA,zB,zC,zD,zE,zF,zG,zH,zI,zJ,zK,zL,zM,zN,zO,zP,↓reduceIte,reduceCtorEq,cycDSt,hnx,hr,Trb.cells]
    | true =>
    simp only [go_sem,zA,zB,zC,zD,zE,zF,zG,zH,zI,zJ,zK,zL,zM,zN,zO,zP,↓reduceIte,reduceCtorEq,Try.ntmps117,Try.results117,Try.ntmps143,Try.results143,Try.ntmps142,Try.results142,Try.ntmps141,Try.results141,Try.ntmps71,Try.results71,hlen,hget,hset,List.set_set,List.length_set,hc,Trb.cells,hw]
    refine CallA.into tabOK mixed Try.func141 rfl rfl (by decide +kernel) (by simp [Try.ntmps141]) ?_
    simp only [go_sem,zA,zB,zC,zD,zE,zF,zG,zH,zI,zJ,zK,zL,zM,zN,zO,zP,↓reduceIte,reduceCtorEq,Try.ntmps117,Try.results117,Try.ntmps143,Try.results143,Try.ntmps142,Try.results142,Try.ntmps141,Try.results141,Try.ntmps71,Try.results71,hlen,hget,hset,List.set_set,List.length_set,hc,Trb.cells,hw]
    refine CallA.into tabOK mixed Try.func142 rfl rfl (by decide +kernel) (by simp [Try.ntmps142]) ?_
    simp only [go_sem,zA,zB,zC,zD,zE,zF,zG,zH,zI,zJ,zK,zL,zM,zN,zO,zP,↓reduceIte,reduceCtorEq,Try.ntmps117,Try.results117,Try.ntmps143,Try.results143,Try.ntmps142,Try.results142,Try.ntmps141,Try.results141,Try.ntmps71,Try.results71,hlen,hget,hset,List.set_set,List.length_set,hc,Trb.cells,hw]
    cases g2 : decide (bitsA .and .i64 (dropV (setV t.st 8) 2) 4 = 0) with
    | false =>
      by_cases h3 : IntKind.wrap .i64 (t.ca + 1) = 3
      · have g3 : decide (IntKind.wrap .i64 (t.ca + 1) = 3) = true := decide_eq_true h3
        have hr : riddenV t = ⟨t.id,dropV (dropV (setV t.st 8) 2) 4,t.sc,0⟩ := by simp [riddenV,hasV,g1,g2,h3]
        simp only [go_sem,zA,zB,zC,zD,zE,zF,zG,zH,zI,zJ,zK,zL,zM,zN,zO,zP,↓reduceIte,reduceCtorEq,g3,Try.ntmps117,Try.results117,Try.ntmps143,Try.results143,Try.ntmps142,Try.results142,Try.ntmps141,Try.results141,Try.ntmps71,Try.results71,hlen,hget,hset,List.set_set,List.length_set,hc,Trb.cells,hw]
        refine CallA.into tabOK mixed Try.func141 rfl rfl (by decide +kernel) (by simp [Try.ntmps141]) ?_
        simp only [go_sem,zA,zB,zC,zD,zE,zF,zG,zH,zI,zJ,zK,zL,zM,zN,zO,zP,↓reduceIte,reduceCtorEq,Try.ntmps117,Try.results117,Try.ntmps143,Try.results143,Try.ntmps142,Try.results142,Try.ntmps141,Try.results141,Try.ntmps71,Try.results71,hlen,hget,hset,List.set_set,List.length_set,hc,Trb.cells,hw]
        refine ⟨l.length - (i + 1),_,by omega,?_,i + 1,by omega,rfl,rfl⟩
        simp only [go_sem,zA,zB,zC,zD,zE,zF,zG,zH,zI,zJ,zK,zL,zM,zN,zO,zP,↓reduceIte,reduceCtorEq,cycDSt,hnx,hr,Trb.cells]
      · have g3 : decide (IntKind.wrap .i64 (t.ca + 1) = 3) = false := decide_eq_false h3
        have hr : riddenV t = ⟨t.id,dropV (setV t.st 8) 2,t.sc,IntKind.wrap .i64 (t.ca + 1)⟩ := by simp [riddenV,hasV,g1,g2,h3]
        simp only [go_sem,zA,zB,zC,zD,zE,zF,zG,zH,zI,zJ,zK,zL,zM,zN,zO,zP,↓reduceIte,reduceCtorEq,g3,Try.ntmps117,Try.results117,Try.ntmps143,Try.results143,Try.ntmps142,Try.results142,Try.ntmps141,Try.results141,Try.ntmps71,Try.results71,hlen,hget,hset,List.set_set,List.length_set,hc,Trb.cells,hw]
        refine ⟨l.length - (i + 1),_,by omega,?_,i + 1,by omega,rfl,rfl⟩
        simp only [go_sem,zA,zB,zC,zD,zE,zF,zG,zH,zI,zJ,zK,zL,zM,zN,zO,zP,↓reduceIte,reduceCtorEq,cycDSt,hnx,hr,Trb.cells]
    | true =>
      by_cases h3 : t.ca = 3
      · have g3 : decide (t.ca = 3) = true := decide_eq_true h3
        have hr : riddenV t = ⟨t.id,dropV (dropV (setV t.st 8) 2) 4,t.sc,0⟩ := by simp [riddenV,hasV,g1,g2,h3]
        simp only [go_sem,zA,zB,zC,zD,zE,zF,zG,zH,zI,zJ,zK,zL,zM,zN,zO,zP,↓reduceIte,reduceCtorEq,g3,Try.ntmps117,Try.results117,Try.ntmps143,Try.results143,Try.ntmps142,Try.results142,Try.ntmps141,Try.results141,Try.ntmps71,Try.results71,hlen,hget,hset,List.set_set,List.length_set,hc,Trb.cells,hw]
        refine CallA.into tabOK mixed Try.func141 rfl rfl (by decide +kernel) (by simp [Try.ntmps141]) ?_
        simp only [go_sem,zA,zB,zC,zD,zE,zF,zG,zH,zI,zJ,zK,zL,zM,zN,zO,zP,↓reduceIte,reduceCtorEq,Try.ntmps117,Try.results117,Try.ntmps143,Try.results143,Try.ntmps142,Try.results142,Try.ntmps141,Try.results141,Try.ntmps71,Try.results71,hlen,hget,hset,List.set_set,List.length_set,hc,Trb.cells,hw]
        refine ⟨l.length - (i + 1),_,by omega,?_,i + 1,by omega,rfl,rfl⟩
        simp only [go_sem,zA,zB,zC,zD,zE,zF,zG,zH,zI,zJ,zK,zL,zM,zN,zO,zP,↓reduceIte,reduceCtorEq,cycDSt,hnx,hr,Trb.cells]
      · have g3 : decide (t.ca = 3) = false := decide_eq_false h3
        have hr : riddenV t = ⟨t.id,dropV (setV t.st 8) 2,t.sc,t.ca⟩ := by simp [riddenV,hasV,g1,g2,h3]
        simp only [go_sem,zA,zB,zC,zD,zE,zF,zG,zH,zI,zJ,zK,zL,zM,zN,zO,zP,↓reduceIte,reduceCtorEq,g3,Try.ntmps117,Try.results117,Try.ntmps143,Try.results143,Try.ntmps142,Try.results142,Try.ntmps141,Try.results141,Try.ntmps71,Try.results71,hlen,hget,hset,List.set_set,List.length_set,hc,Trb.cells,hw]
        refine ⟨l.length - (i + 1),_,by omega,?_,i + 1,by omega,rfl,rfl⟩
        simp only [go_sem,zA,zB,zC,zD,zE,zF,zG,zH,zI,zJ,zK,zL,zM,zN,zO,zP,↓reduceIte,reduceCtorEq,cycDSt,hnx,hr,Trb.cells]
end Go.Proofs.Ytcdmhigmgpflbaa.Pe


namespace Go.Proofs.Ytcdmhigmgpflbaa.Pe
open Go.Pe Go.RowKit
set_option maxRecDepth 20000
set_option maxHeartbeats 4000000
set_option linter.unusedSimpArgs false
set_option linter.unusedVariables false

def scT (sc : Int) (f : Bool) : Int := if f = true then (if 4 < sc + 2 then 4 else sc + 2) else (if -4 > sc - 1 then -4 else sc - 1)
/-- A trouble behind a test. -/
def testedV (t : Trb) (f : Bool) : Trb :=
  if scT t.sc f = -4 then ⟨t.id,dropV (dropV t.st 8) 1,scT t.sc f,t.ca⟩
  else if scT t.sc f = 4 ∧ hasV (dropV t.st 8) 1 = false then ⟨t.id,setV (if hasV (dropV t.st 8) 2 = true then setV (dropV t.st 8) 4 else dropV t.st 8) 3,scT t.sc f,0⟩
  else ⟨t.id,dropV t.st 8,scT t.sc f,t.ca⟩
theorem okR_bounds {t : Trb} (h : t.okR = true) : 0 ≤ t.id ∧ t.id ≤ 65535 ∧ 0 ≤ t.st ∧ t.st ≤ 15 ∧ -4 ≤ t.sc ∧ t.sc ≤ 4 ∧ 0 ≤ t.ca ∧ t.ca ≤ 2 := by
  simp only [Trb.okR,Bool.and_eq_true,Bool.not_eq_true',decide_eq_false_iff_not] at h
  omega
end Go.Proofs.Ytcdmhigmgpflbaa.Pe


namespace Go.Proofs.Ytcdmhigmgpflbaa.Pe
open Go.Pe Go.RowKit
set_option maxRecDepth 20000
set_option maxHeartbeats 4000000
set_option linter.unusedSimpArgs false
set_option linter.unusedVariables false

def atV : List Trb → Int → Nat
  | [],_ => 0
  | t :: r,id => if t.id < id then atV r id + 1 else 0
theorem atV_le : ∀ (l : List Trb) (id : Int),atV l id ≤ l.length
  | [],_ => Nat.le_refl _
  | t :: r,id => by
    have := atV_le r id
    unfold atV
    split <;> simp <;> omega
theorem atV_lt : ∀ (l : List Trb) (id : Int) (j : Nat) (t : Trb),j < atV l id → l[j]? = some t → t.id < id
  | [],_,j,t,h,_ => by simp [atV] at h
  | u :: r,id,j,t,h,hg => by
    unfold atV at h
    split at h
    · rename_i hu
      cases j with
      | zero => cases hg; exact hu
      | succ j => exact atV_lt r id j t (by omega) hg
    · omega
theorem atV_ge : ∀ (l : List Trb) (id : Int) (t : Trb),l[atV l id]? = some t → ¬ t.id < id
  | [],_,t,hg => by simp [atV] at hg
  | u :: r,id,t,hg => by
    unfold atV at hg
    split at hg
    · exact atV_ge r id t hg
    · rename_i hu
      cases hg
      exact hu
def freshT (id : Int) : Trb := ⟨id,8,0,0⟩
theorem fresh_okR {id : Int} (h : 0 ≤ id ∧ id ≤ 65535) : (freshT id).okR = true := by
  have e : (freshT id).okR = (!decide (id < 0) && !decide (id > 65535) && !decide ((8 : Int) < 0) && !decide ((8 : Int) > 15) && !(hasV 8 1 && !hasV 8 2) && !decide ((0 : Int) < -4) && !decide ((0 : Int) > 4) && !decide ((0 : Int) < 0) && !decide ((0 : Int) > 2) && !(decide ((0 : Int) > 0) && !hasV 8 4)) := rfl
  have e0 : (!false && !false && !decide ((8 : Int) < 0) && !decide ((8 : Int) > 15) && !(hasV 8 1 && !hasV 8 2) && !decide ((0 : Int) < -4) && !decide ((0 : Int) > 4) && !decide ((0 : Int) < 0) && !decide ((0 : Int) > 2) && !(decide ((0 : Int) > 0) && !hasV 8 4)) = true := by decide +kernel
  rw [e,decide_eq_false (show ¬ id < 0 by omega),decide_eq_false (show ¬ id > 65535 by omega)]
  exact e0
def isV (l : List Trb) (id : Int) : Bool := match l[atV l id]? with | some t => decide (t.id = id) | none => false
/-- Troubles behind a report. -/
def reportV (l : List Trb) (id : Int) (f : Bool) : List Trb :=
  if id < 0 ∨ id > 65535 ∨ (isV l id = false ∧ 16 ≤ l.length) then l
  else match l[atV l id]? with
    | some t => if t.id = id then l.take (atV l id) ++ (testedV t f :: l.drop (atV l id + 1)) else l.take (atV l id) ++ (testedV (freshT id) f :: l.drop (atV l id))
    | none => l ++ [testedV (freshT id) f]
theorem okFrom_mem : ∀ {l : List Trb} {p : Option Int},okFrom p l = true → ∀ t ∈ l,t.okR = true
  | [],_,_,t,h => by simp at h
  | u :: r,p,h,t,ht => by
    simp only [okFrom,Bool.and_eq_true] at h
    rcases List.mem_cons.1 ht with rfl | ht
    · exact h.1.1
    · exact okFrom_mem h.2 t ht
theorem rightL_mem {l : List Trb} (h : rightL l = true) : ∀ t ∈ l,t.okR = true := by
  simp only [rightL,Bool.and_eq_true] at h
  exact okFrom_mem h.2
theorem rightL_len {l : List Trb} (h : rightL l = true) : l.length ≤ 16 := by
  simp only [rightL,Bool.and_eq_true,Bool.not_eq_true',decide_eq_false_iff_not] at h
  omega
end Go.Proofs.Ytcdmhigmgpflbaa.Pe

