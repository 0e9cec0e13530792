import Derived.Test.YtcdmhigmgpflbaaTSe
namespace Go.Proofs.Ytcdmhigmgpflbaa.Pe
open Go.Pe Go.RowKit
open Nat renaming reduceAdd → zA,reduceSub → zB,reduceMul → zC,reduceLT → zD,reduceLeDiff → zE,reduceEqDiff → zF,reduceBEq → zG
open Int renaming reduceToNat → zH,reduceLT → zI,reduceLE → zJ,reduceEq → zK,reduceNe → zL,reduceAdd → zM,reduceSub → zN,reduceMul → zO,reduceNeg → zP
set_option maxRecDepth 20000
set_option maxHeartbeats 4000000
set_option linter.unusedSimpArgs false
set_option linter.unusedVariables false
/-- Fates there and back of a try. -/
structure Way22 where
  there : List Int
  back : List Int
def Way22.row (w : Way22) : List PV := [intsPV w.there,intsPV w.back]
abbrev wayRows (l : List Way22) : List (List PV) := l.map Way22.row
abbrev waysPV (l : List Way22) : PV := .im 2 (wayRows l)
theorem wayRows_getD {l : List Way22} {i : Nat} (h : i < l.length) : (wayRows l).getD i [] = [intsPV l[i].there,intsPV l[i].back] := by
  simp [wayRows,List.getD_eq_getElem?_getD,h,Way22.row]
theorem wayRows_len (l : List Way22) : (wayRows l).length = l.length := by simp [wayRows]
/-! ### too many ways,or fates -/
def greatW (w : Way22) : Bool := decide (w.there.length > 40) || decide (w.back.length > 40)
def great22V (l : List Way22) : Bool := l.any greatW || decide (l.length > 6)
def greatSt (l : List Way22) (i : Nat) : St := ⟨29,[(0,waysPV l),(2,PB false),(3,PI i)],[],20,0⟩
def greatI (l : List Way22) (m : Nat) (st : St) : Prop := ∃ i : Nat,i ≤ l.length ∧ m = l.length - i ∧ (l.take i).any greatW = false ∧ st = greatSt l i
theorem any_take {α} (l : List α) (p : α → Bool) {i : Nat} (h : i < l.length) : (l.take (i + 1)).any p = ((l.take i).any p || p l[i]) := by
  rw [List.take_succ_eq_append_getElem h,List.any_append]; simp
theorem any_of {α} {l : List α} {p : α → Bool} {i : Nat} (h : i < l.length) (hp : p l[i] = true) : l.any p = true := List.any_eq_true.2 ⟨l[i],List.getElem_mem h,hp⟩
theorem great22_calls (l : List Way22) (hl : l.length ≤ 9223372036854775807) : PureCalls Try.prog 67 [waysPV l] (PB (great22V l)) := by
  refine PureCalls.of tabOK mixed Try.func67 rfl rfl (by decide +kernel) (by simp [Try.ntmps67]) ?_
  simp only [go_sem,zA,zB,zC,zD,zE,zF,zG,zH,zI,zJ,zK,zL,zM,zN,zO,zP,↓reduceIte,reduceCtorEq,Try.ntmps67,Try.results67]
  refine wpA_loop (greatI l) ⟨l.length,_,?_,0,by omega,rfl,rfl,rfl⟩ ?_
  · simp only [go_sem,zA,zB,zC,zD,zE,zF,zG,zH,zI,zJ,zK,zL,zM,zN,zO,zP,↓reduceIte,reduceCtorEq,greatSt,Int.natCast_zero]
  rintro mm st ⟨i,hi,rfl,hg,rfl⟩
  by_cases hc : i < l.length
  · have f1 : decide ((i : Int) < (l.length : Int)) = true := decide_eq_true (by omega)
    have f2 := wayRows_getD hc
    have hw : IntKind.wrap .i64 ((i : Int) + 1) = ((i + 1 : Nat) : Int) := by rw [wrapI64_eq]; omega
    have f3 : (i : Int) < (l.length : Int) := by omega
    have f4 : (0 : Int) ≤ (i : Int) := by omega
    have hn := any_take l greatW hc
    rw [hg,Bool.false_or] at hn
    simp only [go_sem,zA,zB,zC,zD,zE,zF,zG,zH,zI,zJ,zK,zL,zM,zN,zO,zP,↓reduceIte,reduceCtorEq,greatSt,wayRows_len,f1,List.length_map,f3,f4,Int.toNat_natCast,f2]
    by_cases h1 : l[i].there.length > 40
    · have g1 : decide ((l[i].there.length : Int) > 40) = true := decide_eq_true (by omega)
      have e : great22V l = true := by rw [great22V,any_of hc (p := greatW) (by simp [greatW,h1])]; rfl
      simp only [go_sem,zA,zB,zC,zD,zE,zF,zG,zH,zI,zJ,zK,zL,zM,zN,zO,zP,↓reduceIte,reduceCtorEq,g1,e,Try.ntmps67,Try.results67]
    have g1 : decide ((l[i].there.length : Int) > 40) = false := decide_eq_false (by omega)
    by_cases h2 : l[i].back.length > 40
    · have g2 : decide ((l[i].back.length : Int) > 40) = true := decide_eq_true (by omega)
      have e : great22V l = true := by rw [great22V,any_of hc (p := greatW) (by simp [greatW,h2])]; rfl
      simp only [go_sem,zA,zB,zC,zD,zE,zF,zG,zH,zI,zJ,zK,zL,zM,zN,zO,zP,↓reduceIte,reduceCtorEq,g1,g2,e,f3,f4,List.length_map,f2,Int.toNat_natCast,Try.ntmps67,Try.results67]
    have g2 : decide ((l[i].back.length : Int) > 40) = false := decide_eq_false (by omega)
    simp only [go_sem,zA,zB,zC,zD,zE,zF,zG,zH,zI,zJ,zK,zL,zM,zN,zO,zP,↓reduceIte,reduceCtorEq,g1,g2,f3,f4,List.length_map,f2,Int.toNat_natCast]
    refine ⟨l.length - (i + 1),_,by omega,?_,i + 1,by omega,rfl,by rw [hn]; simp [greatW,h1,h2],rfl⟩
    simp only [go_sem,zA,zB,zC,zD,zE,zF,zG,zH,zI,zJ,zK,zL,zM,zN,zO,zP,↓reduceIte,reduceCtorEq,greatSt,hw]
  · have f1 : decide ((i : Int) < (l.length : Int)) = false := decide_eq_false (by omega)
    obtain rfl : i = l.length := by omega
    rw [List.take_length] at hg
    have e : great22V l = decide ((l.length : Int) > 6) := by
      rw [great22V,hg,Bool.false_or]
      exact decide_eq_decide.2 (by omega)
    simp only [go_sem,zA,zB,zC,zD,zE,zF,zG,zH,zI,zJ,zK,zL,zM,zN,zO,zP,↓reduceIte,reduceCtorEq,greatSt,wayRows_len,f1,e,List.length_map,Try.ntmps67,Try.results67]
/-! ### a question asked again -/
end Go.Proofs.Ytcdmhigmgpflbaa.Pe

