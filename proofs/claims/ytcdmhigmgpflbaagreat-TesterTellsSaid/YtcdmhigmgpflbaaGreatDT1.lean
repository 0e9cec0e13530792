import Derived.Test.YtcdmhigmgpflbaaGreatTab1
import Derived.Test.YtcdmhigmgpflbaaGreatPeB
set_option maxRecDepth 20000
set_option maxHeartbeats 4000000
set_option linter.unusedSimpArgs false
set_option linter.unusedVariables false
open Nat renaming reduceAdd → zA,reduceSub → zB,reduceMul → zC,reduceLT → zD,reduceLeDiff → zE,reduceEqDiff → zF,reduceBEq → zG
open Int renaming reduceToNat → zH,reduceLT → zI,reduceLE → zJ,reduceEq → zK,reduceNe → zL,reduceAdd → zM,reduceSub → zN,reduceMul → zO,reduceNeg → zP
namespace Go.Proofs.YtcdmhigmgpflbaaGreat.Pe
open Go.Pe Go.RowKit
structure Trb where
  id : Int
  st : Int
  sc : Int
  ca : Int
  deriving DecidableEq
def Trb.cells (t : Trb) : List PV := [PI t.id,PI t.st,PI t.sc,PI t.ca]
def Trb.pv (t : Trb) : PV := .agg t.cells
abbrev trbRows (l : List Trb) : List (List PV) := l.map Trb.cells
abbrev trbsPV (l : List Trb) : PV := .im 4 (trbRows l)
theorem trbRows_get {l : List Trb} {i : Nat} (h : i < l.length) : (trbRows l).getD i [] = l[i].cells := by
  simp [trbRows,List.getD_eq_getElem?_getD,h]
theorem trbRows_len (l : List Trb) : (trbRows l).length = l.length := by simp
theorem wrapI64 {x : Int} (h : -9223372036854775808 ≤ x ∧ x ≤ 9223372036854775807) : IntKind.wrap .i64 x = x := by
  rw [IntKind.wrap_i64]; omega
theorem wrapIN {i : Nat} (h : i < 9223372036854775807) : IntKind.wrap .i64 ((i : Int) + 1) = ((i + 1 : Nat) : Int) := by rw [wrapI64 (by omega)]; omega
def hasV (st bit : Int) : Bool := !decide (bitsA .and .i64 st bit = 0)
theorem hasR_calls (t : Trb) (bit : Int) : PureCalls Tryz.prog 75 [t.pv,PI bit] (PB (hasV t.st bit)) := by
  refine PureCalls.of tabOK mixed Tryz.func75 rfl rfl (by decide +kernel) (by simp [Tryz.ntmps75]) ?_
  simp only [go_sem,zA,zB,zC,zD,zE,zF,zG,zH,zI,zJ,zK,zL,zM,zN,zO,zP,↓reduceIte,reduceCtorEq,Tryz.ntmps75,Tryz.results75,Trb.pv,Trb.cells,hasV]
theorem clear_calls (l : List Trb) : PureCalls Tryz.prog 123 [trbsPV l] (trbsPV []) := by
  refine PureCalls.of tabOK mixed Tryz.func123 rfl rfl (by decide +kernel) (by simp [Tryz.ntmps123]) ?_
  simp only [go_sem,zA,zB,zC,zD,zE,zF,zG,zH,zI,zJ,zK,zL,zM,zN,zO,zP,↓reduceIte,reduceCtorEq,Tryz.ntmps123,Tryz.results123]
theorem eqTrb (t u : Trb) : (decide (t.id = u.id) && (decide (t.st = u.st) && (decide (t.sc = u.sc) && decide (t.ca = u.ca)))) = decide (t = u) := by
  obtain ⟨a,b,c,d⟩ := t
  obtain ⟨a',b',c',d'⟩ := u
  rw [Bool.eq_iff_iff]
  simp
def same21St (a b : List Trb) (i : Nat) : St := ⟨26,[(0,trbsPV a),(1,trbsPV b),(5,PI i)],[],20,0⟩
def same21I (a b : List Trb) (m : Nat) (st : St) : Prop := ∃ i : Nat,i ≤ a.length ∧ m = a.length - i ∧ decide (a.drop i = b.drop i) = decide (a = b) ∧ st = same21St a b i
theorem same21_calls (a b : List Trb) (ha : a.length < 1000000) : PureCalls Tryz.prog 47 [trbsPV a,trbsPV b] (PB (decide (a = b))) := by
  refine PureCalls.of tabOK mixed Tryz.func47 rfl rfl (by decide +kernel) (by simp [Tryz.ntmps47]) ?_
  have la := trbRows_len a
  have lb := trbRows_len b
  by_cases hl : a.length = b.length
  rotate_left 1
  · have f : decide ((a.length : Int) = (b.length : Int)) = false := decide_eq_false (by omega)
    have g : decide (a = b) = false := decide_eq_false (fun e => hl (by rw [e]))
    simp only [go_sem,zA,zB,zC,zD,zE,zF,zG,zH,zI,zJ,zK,zL,zM,zN,zO,zP,↓reduceIte,reduceCtorEq,Tryz.ntmps47,Tryz.results47,la,lb,f,g]
  have f : decide ((a.length : Int) = (b.length : Int)) = true := decide_eq_true (by omega)
  simp only [go_sem,zA,zB,zC,zD,zE,zF,zG,zH,zI,zJ,zK,zL,zM,zN,zO,zP,↓reduceIte,reduceCtorEq,Tryz.ntmps47,Tryz.results47,la,lb,f]
  refine wpA_loop (same21I a b) ⟨_,_,?_,0,by omega,rfl,rfl,rfl⟩ ?_
  · simp only [go_sem,zA,zB,zC,zD,zE,zF,zG,zH,zI,zJ,zK,zL,zM,zN,zO,zP,↓reduceIte,reduceCtorEq,same21St,Int.natCast_zero]
  rintro m st ⟨i,hi,rfl,hd,rfl⟩
  by_cases hc : i < a.length
  rotate_left 1
  · have f1 : decide ((i : Int) < (a.length : Int)) = false := decide_eq_false (by omega)
    have g : decide (a = b) = true := by
      rw [← hd,List.drop_of_length_le (by omega),List.drop_of_length_le (by omega)]
      rfl
    simp only [go_sem,zA,zB,zC,zD,zE,zF,zG,zH,zI,zJ,zK,zL,zM,zN,zO,zP,↓reduceIte,reduceCtorEq,same21St,la,lb,f1,g,Tryz.ntmps47,Tryz.results47]
  have f1 : decide ((i : Int) < (a.length : Int)) = true := decide_eq_true (by omega)
  have f2 : (i : Int) < (a.length : Int) := by omega
  have f3 : (i : Int) < (b.length : Int) := by omega
  have f0 : (0 : Int) ≤ (i : Int) := by omega
  have hw := wrapIN (i := i) (by omega)
  have r1 := trbRows_get hc
  have r2 := trbRows_get (l := b) (i := i) (by omega)
  have hb : i < b.length := by omega
  have hda : a.drop i = a[i] :: a.drop (i + 1) := by rw [List.drop_eq_getElem_cons hc]
  have hdb : b.drop i = b[i] :: b.drop (i + 1) := by rw [List.drop_eq_getElem_cons hb]
  generalize a[i] = t at r1 hda
  generalize b[i] = u at r2 hdb
  rw [hda,hdb] at hd
  simp only [go_sem,zA,zB,zC,zD,zE,zF,zG,zH,zI,zJ,zK,zL,zM,zN,zO,zP,↓reduceIte,reduceCtorEq,same21St,la,lb,f1,f2,f3,f0,Int.toNat_natCast,r1,r2,Trb.cells,eqTrb]
  refine endD_intro (by decide +kernel) ?_
  by_cases h : t = u
  · have g : decide (t = u) = true := decide_eq_true h
    simp only [go_sem,zA,zB,zC,zD,zE,zF,zG,zH,zI,zJ,zK,zL,zM,zN,zO,zP,↓reduceIte,reduceCtorEq,g,hw]
    refine ⟨a.length - (i + 1),_,by omega,?_,i + 1,by omega,rfl,?_,rfl⟩
    · simp only [go_sem,zA,zB,zC,zD,zE,zF,zG,zH,zI,zJ,zK,zL,zM,zN,zO,zP,↓reduceIte,reduceCtorEq,same21St]
    · rw [← hd]
      simp [h]
  · have g : decide (t = u) = false := decide_eq_false h
    have g2 : decide (a = b) = false := by rw [← hd]; simp [h]
    simp only [go_sem,zA,zB,zC,zD,zE,zF,zG,zH,zI,zJ,zK,zL,zM,zN,zO,zP,↓reduceIte,reduceCtorEq,g,hw,g2,Tryz.ntmps47,Tryz.results47]
end Go.Proofs.YtcdmhigmgpflbaaGreat.Pe
