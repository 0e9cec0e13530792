import Derived.Test.YtcdmhigmgpflbaaGreatDT1
set_option maxRecDepth 20000
set_option maxHeartbeats 4000000
set_option linter.unusedSimpArgs false
set_option linter.unusedVariables false
open Nat renaming reduceAdd → zA,reduceSub → zB,reduceMul → zC,reduceLT → zD,reduceLeDiff → zE,reduceEqDiff → zF,reduceBEq → zG
open Int renaming reduceToNat → zH,reduceLT → zI,reduceLE → zJ,reduceEq → zK,reduceNe → zL,reduceAdd → zM,reduceSub → zN,reduceMul → zO,reduceNeg → zP,toNat_natCast → yCa
open List renaming getElem?_eq_getElem → yBh
namespace Go.Proofs.YtcdmhigmgpflbaaGreat.Pe
open Go.Pe Go.RowKit
def Trb.okR (t : Trb) : Bool := !decide (t.id < 0) && !decide (t.id > 65535) && !decide (t.st < 0) && !decide (t.st > 15) && !(hasV t.st 1 && !hasV t.st 2) && !decide (t.sc < -4) && !decide (t.sc > 4) && !decide (t.ca < 0) && !decide (t.ca > 2) && !(decide (t.ca > 0) && !hasV t.st 4)
def ordR (p : Option Int) (id : Int) : Bool := match p with | none => true | some q => !decide (id ≤ q)
def okFrom : Option Int → List Trb → Bool
  | _,[] => true
  | p,t :: r => t.okR && ordR p t.id && okFrom (some t.id) r
def rightL (l : List Trb) : Bool := !decide (l.length > 16) && okFrom none l
def prevR (l : List Trb) (i : Nat) (p : Option Int) : Prop := (i = 0 ∧ p = none) ∨ (0 < i ∧ ∃ q,l[i - 1]? = some q ∧ p = some q.id)
def right21St (l : List Trb) (i : Nat) : St := ⟨90,[(0,trbsPV l),(3,PI i)],[],20,0⟩
def right21I (l : List Trb) (m : Nat) (st : St) : Prop := ∃ (i : Nat) (p : Option Int),i ≤ l.length ∧ m = l.length - i ∧ prevR l i p ∧ okFrom p (l.drop i) = okFrom none l ∧ st = right21St l i
theorem prevR_next {l : List Trb} {i : Nat} {t : Trb} (h : l[i]? = some t) : prevR l (i + 1) (some t.id) := .inr ⟨by omega,t,by simpa using h,rfl⟩
theorem rightR21_calls (l : List Trb) : PureCalls Tryz.prog 52 [trbsPV l] (PB (rightL l)) := by
  refine PureCalls.of tabOK mixed Tryz.func52 rfl rfl (by decide +kernel) (by simp [Tryz.ntmps52]) ?_
  have la := trbRows_len l
  by_cases hl : l.length > 16
  · have f : decide ((l.length : Int) > 16) = true := decide_eq_true (by omega)
    have g : rightL l = false := by rw [rightL,decide_eq_true hl]; rfl
    simp only [go_sem,zA,zB,zC,zD,zE,zF,zG,zH,zI,zJ,zK,zL,zM,zN,zO,zP,↓reduceIte,reduceCtorEq,Tryz.ntmps52,Tryz.results52,la,f,g]
  have f : decide ((l.length : Int) > 16) = false := decide_eq_false (by omega)
  have g : rightL l = okFrom none l := by rw [rightL,decide_eq_false hl]; rfl
  rw [g]
  simp only [go_sem,zA,zB,zC,zD,zE,zF,zG,zH,zI,zJ,zK,zL,zM,zN,zO,zP,↓reduceIte,reduceCtorEq,Tryz.ntmps52,Tryz.results52,la,f]
  refine wpA_loop (right21I l) ⟨_,_,?_,0,none,by omega,rfl,.inl ⟨rfl,rfl⟩,rfl,rfl⟩ ?_
  · simp only [go_sem,zA,zB,zC,zD,zE,zF,zG,zH,zI,zJ,zK,zL,zM,zN,zO,zP,↓reduceIte,reduceCtorEq,right21St,Int.natCast_zero]
  rintro m st ⟨i,p,hi,rfl,hp,hd,rfl⟩
  by_cases hc : i < l.length
  rotate_left 1
  · have f1 : decide ((i : Int) < (l.length : Int)) = false := decide_eq_false (by omega)
    have g : okFrom none l = true := by
      rw [← hd,List.drop_of_length_le (by omega)]
      cases p <;> rfl
    simp only [go_sem,zA,zB,zC,zD,zE,zF,zG,zH,zI,zJ,zK,zL,zM,zN,zO,zP,↓reduceIte,reduceCtorEq,right21St,la,f1,g,Tryz.ntmps52,Tryz.results52]
  have f1 : decide ((i : Int) < (l.length : Int)) = true := decide_eq_true (by omega)
  have f2 : (i : Int) < (l.length : Int) := by omega
  have f0 : (0 : Int) ≤ (i : Int) := by omega
  have hw := wrapIN (i := i) (by omega)
  have r1 := trbRows_get hc
  have hda : l.drop i = l[i] :: l.drop (i + 1) := by rw [List.drop_eq_getElem_cons hc]
  have hge : l[i]? = some l[i] := yBh hc
  have hnx := prevR_next hge
  have hge : l[i]? = some l[i] := yBh hc
  generalize l[i] = t at r1 hda hnx hge
  rw [hda] at hd
  have fin : t.okR = true → ordR p t.id = true → ∀ st',Weak st' (right21St l (i + 1)) → ∃ m' s'',m' < l.length - i ∧ Weak st' s'' ∧ right21I l m' s'' := by
    intro h1 h2 st' h
    refine ⟨l.length - (i + 1),_,by omega,h,i + 1,some t.id,by omega,rfl,hnx,?_,rfl⟩
    rw [← hd,okFrom,h1,h2]
    rfl
  have bad : t.okR = false ∨ ordR p t.id = false → okFrom none l = false := by
    intro h
    rw [← hd,okFrom]
    rcases h with h | h <;> simp [h]
  have c1 := hasR_calls t 1
  have c2 := hasR_calls t 2
  have c4 := hasR_calls t 4
  have ord : (i = 0 ∧ p = none ∧ decide ((i : Int) > 0) = false) ∨ ∃ q : Trb,ordR p t.id = !decide (t.id ≤ q.id) ∧ decide ((i : Int) > 0) = true ∧ IntKind.wrap .i64 ((i : Int) - 1) = ((i - 1 : Nat) : Int) ∧ (trbRows l).getD (i - 1) [] = q.cells ∧ ((i - 1 : Nat) : Int) < (l.length : Int) ∧ (0 : Int) ≤ ((i - 1 : Nat) : Int) := by
    rcases hp with ⟨rfl,rfl⟩ | ⟨h0,q,hq,rfl⟩
    · exact .inl ⟨rfl,rfl,rfl⟩
    · refine .inr ⟨q,rfl,decide_eq_true (by omega),?_,?_,by omega,by omega⟩
      · rw [wrapI64 (by omega)]; omega
      · simp [trbRows,List.getD_eq_getElem?_getD,hq]
  clear hp hda hge hnx
  rcases ord with ⟨hi0,rfl,g0⟩ | ⟨q,ho,g0,w1,r2,b1,b2⟩
  · have ho : ordR none t.id = true := rfl
    simp only [go_sem,zA,zB,zC,zD,zE,zF,zG,zH,zI,zJ,zK,zL,zM,zN,zO,zP,↓reduceIte,reduceCtorEq,right21St,la,f1,f2,f0,yCa,r1,Trb.cells,g0]
    repeat' (first | (refine wantK_splitN (fun h => ?_) (fun h => ?_) <;> simp only [go_sem,zA,zB,zC,zD,zE,zF,zG,zH,zI,zJ,zK,zL,zM,zN,zO,zP,↓reduceIte,reduceCtorEq,f2,f0,la,yCa,r1,Trb.cells,g0,h]) | (refine wantK_split (fun h => ?_) (fun h => ?_) <;> simp only [go_sem,zA,zB,zC,zD,zE,zF,zG,zH,zI,zJ,zK,zL,zM,zN,zO,zP,↓reduceIte,reduceCtorEq,f2,f0,la,yCa,r1,Trb.cells,g0,h]) | (refine condK_splitN (fun h => ?_) (fun h => ?_) <;> simp only [go_sem,zA,zB,zC,zD,zE,zF,zG,zH,zI,zJ,zK,zL,zM,zN,zO,zP,↓reduceIte,reduceCtorEq,f2,f0,la,yCa,r1,Trb.cells,g0,h]) | (refine condK_split (fun h => ?_) (fun h => ?_) <;> simp only [go_sem,zA,zB,zC,zD,zE,zF,zG,zH,zI,zJ,zK,zL,zM,zN,zO,zP,↓reduceIte,reduceCtorEq,f2,f0,la,yCa,r1,Trb.cells,g0,h]) | (refine drawK_splitN (fun h => ?_) (fun h => ?_) <;> simp only [go_sem,zA,zB,zC,zD,zE,zF,zG,zH,zI,zJ,zK,zL,zM,zN,zO,zP,↓reduceIte,reduceCtorEq,f2,f0,la,yCa,r1,Trb.cells,g0,h]) | (refine drawK_split (fun h => ?_) (fun h => ?_) <;> simp only [go_sem,zA,zB,zC,zD,zE,zF,zG,zH,zI,zJ,zK,zL,zM,zN,zO,zP,↓reduceIte,reduceCtorEq,f2,f0,la,yCa,r1,Trb.cells,g0,h]))
    all_goals (try (refine endD_intro (by decide +kernel) ?_; have gb : okFrom none l = false := bad (by clear bad fin hd; simp_all [Trb.okR]); simp only [go_sem,zA,zB,zC,zD,zE,zF,zG,zH,zI,zJ,zK,zL,zM,zN,zO,zP,↓reduceIte,reduceCtorEq,gb,Tryz.ntmps52,Tryz.results52]; done))
    (refine callD_pure (c1) (by simp only [go_sem,zA,zB,zC,zD,zE,zF,zG,zH,zI,zJ,zK,zL,zM,zN,zO,zP,↓reduceIte,reduceCtorEq,Trb.pv,Trb.cells] <;> first | rfl | decide) ?_; simp only [go_sem,zA,zB,zC,zD,zE,zF,zG,zH,zI,zJ,zK,zL,zM,zN,zO,zP,↓reduceIte,reduceCtorEq,Trb.pv,Trb.cells])
    cases h1 : hasV t.st 1 with
    | true =>
      simp only [go_sem,zA,zB,zC,zD,zE,zF,zG,zH,zI,zJ,zK,zL,zM,zN,zO,zP,↓reduceIte,reduceCtorEq,Trb.cells]
      (refine callD_pure (c2) (by simp only [go_sem,zA,zB,zC,zD,zE,zF,zG,zH,zI,zJ,zK,zL,zM,zN,zO,zP,↓reduceIte,reduceCtorEq,Trb.pv,Trb.cells] <;> first | rfl | decide) ?_; simp only [go_sem,zA,zB,zC,zD,zE,zF,zG,zH,zI,zJ,zK,zL,zM,zN,zO,zP,↓reduceIte,reduceCtorEq,Trb.pv,Trb.cells])
      cases h2 : hasV t.st 2 with
      | false =>
        simp only [go_sem,zA,zB,zC,zD,zE,zF,zG,zH,zI,zJ,zK,zL,zM,zN,zO,zP,↓reduceIte,reduceCtorEq,Trb.cells]
        (refine endD_intro (by decide +kernel) ?_; have gb : okFrom none l = false := bad (by clear bad fin hd; simp_all [Trb.okR]); simp only [go_sem,zA,zB,zC,zD,zE,zF,zG,zH,zI,zJ,zK,zL,zM,zN,zO,zP,↓reduceIte,reduceCtorEq,gb,Tryz.ntmps52,Tryz.results52]; done)
      | true =>
        simp only [go_sem,zA,zB,zC,zD,zE,zF,zG,zH,zI,zJ,zK,zL,zM,zN,zO,zP,↓reduceIte,reduceCtorEq,Trb.cells]
        repeat' (first | (refine wantK_splitN (fun h => ?_) (fun h => ?_) <;> simp only [go_sem,zA,zB,zC,zD,zE,zF,zG,zH,zI,zJ,zK,zL,zM,zN,zO,zP,↓reduceIte,reduceCtorEq,Trb.cells,h]) | (refine wantK_split (fun h => ?_) (fun h => ?_) <;> simp only [go_sem,zA,zB,zC,zD,zE,zF,zG,zH,zI,zJ,zK,zL,zM,zN,zO,zP,↓reduceIte,reduceCtorEq,Trb.cells,h]) | (refine condK_splitN (fun h => ?_) (fun h => ?_) <;> simp only [go_sem,zA,zB,zC,zD,zE,zF,zG,zH,zI,zJ,zK,zL,zM,zN,zO,zP,↓reduceIte,reduceCtorEq,Trb.cells,h]) | (refine condK_split (fun h => ?_) (fun h => ?_) <;> simp only [go_sem,zA,zB,zC,zD,zE,zF,zG,zH,zI,zJ,zK,zL,zM,zN,zO,zP,↓reduceIte,reduceCtorEq,Trb.cells,h]) | (refine drawK_splitN (fun h => ?_) (fun h => ?_) <;> simp only [go_sem,zA,zB,zC,zD,zE,zF,zG,zH,zI,zJ,zK,zL,zM,zN,zO,zP,↓reduceIte,reduceCtorEq,Trb.cells,h]) | (refine drawK_split (fun h => ?_) (fun h => ?_) <;> simp only [go_sem,zA,zB,zC,zD,zE,zF,zG,zH,zI,zJ,zK,zL,zM,zN,zO,zP,↓reduceIte,reduceCtorEq,Trb.cells,h]))
        all_goals (try (refine endD_intro (by decide +kernel) ?_; have gb : okFrom none l = false := bad (by clear bad fin hd; simp_all [Trb.okR]); simp only [go_sem,zA,zB,zC,zD,zE,zF,zG,zH,zI,zJ,zK,zL,zM,zN,zO,zP,↓reduceIte,reduceCtorEq,gb,Tryz.ntmps52,Tryz.results52]; done))
        all_goals (try (refine endD_intro (by decide +kernel) ?_; simp only [go_sem,zA,zB,zC,zD,zE,zF,zG,zH,zI,zJ,zK,zL,zM,zN,zO,zP,↓reduceIte,reduceCtorEq,hw]; refine fin (by clear bad fin hd; simp_all [Trb.okR]) (by clear bad fin hd; simp_all) _ ?_; simp only [go_sem,zA,zB,zC,zD,zE,zF,zG,zH,zI,zJ,zK,zL,zM,zN,zO,zP,↓reduceIte,reduceCtorEq,right21St]; done))
        all_goals ((refine callD_pure (c4) (by simp only [go_sem,zA,zB,zC,zD,zE,zF,zG,zH,zI,zJ,zK,zL,zM,zN,zO,zP,↓reduceIte,reduceCtorEq,Trb.pv,Trb.cells] <;> first | rfl | decide) ?_; simp only [go_sem,zA,zB,zC,zD,zE,zF,zG,zH,zI,zJ,zK,zL,zM,zN,zO,zP,↓reduceIte,reduceCtorEq,Trb.pv,Trb.cells]))
        all_goals (cases h4 : hasV t.st 4 <;> simp only [go_sem,zA,zB,zC,zD,zE,zF,zG,zH,zI,zJ,zK,zL,zM,zN,zO,zP,↓reduceIte,reduceCtorEq,Trb.cells] <;> first | (refine endD_intro (by decide +kernel) ?_; have gb : okFrom none l = false := bad (by clear bad fin hd; simp_all [Trb.okR]); simp only [go_sem,zA,zB,zC,zD,zE,zF,zG,zH,zI,zJ,zK,zL,zM,zN,zO,zP,↓reduceIte,reduceCtorEq,gb,Tryz.ntmps52,Tryz.results52]; done) | (refine endD_intro (by decide +kernel) ?_; simp only [go_sem,zA,zB,zC,zD,zE,zF,zG,zH,zI,zJ,zK,zL,zM,zN,zO,zP,↓reduceIte,reduceCtorEq,hw]; refine fin (by clear bad fin hd; simp_all [Trb.okR]) (by clear bad fin hd; simp_all) _ ?_; simp only [go_sem,zA,zB,zC,zD,zE,zF,zG,zH,zI,zJ,zK,zL,zM,zN,zO,zP,↓reduceIte,reduceCtorEq,right21St]; done))
    | false =>
      simp only [go_sem,zA,zB,zC,zD,zE,zF,zG,zH,zI,zJ,zK,zL,zM,zN,zO,zP,↓reduceIte,reduceCtorEq,Trb.cells]
      repeat' (first | (refine wantK_splitN (fun h => ?_) (fun h => ?_) <;> simp only [go_sem,zA,zB,zC,zD,zE,zF,zG,zH,zI,zJ,zK,zL,zM,zN,zO,zP,↓reduceIte,reduceCtorEq,Trb.cells,h]) | (refine wantK_split (fun h => ?_) (fun h => ?_) <;> simp only [go_sem,zA,zB,zC,zD,zE,zF,zG,zH,zI,zJ,zK,zL,zM,zN,zO,zP,↓reduceIte,reduceCtorEq,Trb.cells,h]) | (refine condK_splitN (fun h => ?_) (fun h => ?_) <;> simp only [go_sem,zA,zB,zC,zD,zE,zF,zG,zH,zI,zJ,zK,zL,zM,zN,zO,zP,↓reduceIte,reduceCtorEq,Trb.cells,h]) | (refine condK_split (fun h => ?_) (fun h => ?_) <;> simp only [go_sem,zA,zB,zC,zD,zE,zF,zG,zH,zI,zJ,zK,zL,zM,zN,zO,zP,↓reduceIte,reduceCtorEq,Trb.cells,h]) | (refine drawK_splitN (fun h => ?_) (fun h => ?_) <;> simp only [go_sem,zA,zB,zC,zD,zE,zF,zG,zH,zI,zJ,zK,zL,zM,zN,zO,zP,↓reduceIte,reduceCtorEq,Trb.cells,h]) | (refine drawK_split (fun h => ?_) (fun h => ?_) <;> simp only [go_sem,zA,zB,zC,zD,zE,zF,zG,zH,zI,zJ,zK,zL,zM,zN,zO,zP,↓reduceIte,reduceCtorEq,Trb.cells,h]))
      all_goals (try (refine endD_intro (by decide +kernel) ?_; have gb : okFrom none l = false := bad (by clear bad fin hd; simp_all [Trb.okR]); simp only [go_sem,zA,zB,zC,zD,zE,zF,zG,zH,zI,zJ,zK,zL,zM,zN,zO,zP,↓reduceIte,reduceCtorEq,gb,Tryz.ntmps52,Tryz.results52]; done))
      all_goals (try (refine endD_intro (by decide +kernel) ?_; simp only [go_sem,zA,zB,zC,zD,zE,zF,zG,zH,zI,zJ,zK,zL,zM,zN,zO,zP,↓reduceIte,reduceCtorEq,hw]; refine fin (by clear bad fin hd; simp_all [Trb.okR]) (by clear bad fin hd; simp_all) _ ?_; simp only [go_sem,zA,zB,zC,zD,zE,zF,zG,zH,zI,zJ,zK,zL,zM,zN,zO,zP,↓reduceIte,reduceCtorEq,right21St]; done))
      all_goals ((refine callD_pure (c4) (by simp only [go_sem,zA,zB,zC,zD,zE,zF,zG,zH,zI,zJ,zK,zL,zM,zN,zO,zP,↓reduceIte,reduceCtorEq,Trb.pv,Trb.cells] <;> first | rfl | decide) ?_; simp only [go_sem,zA,zB,zC,zD,zE,zF,zG,zH,zI,zJ,zK,zL,zM,zN,zO,zP,↓reduceIte,reduceCtorEq,Trb.pv,Trb.cells]))
      all_goals (cases h4 : hasV t.st 4 <;> simp only [go_sem,zA,zB,zC,zD,zE,zF,zG,zH,zI,zJ,zK,zL,zM,zN,zO,zP,↓reduceIte,reduceCtorEq,Trb.cells] <;> first | (refine endD_intro (by decide +kernel) ?_; have gb : okFrom none l = false := bad (by clear bad fin hd; simp_all [Trb.okR]); simp only [go_sem,zA,zB,zC,zD,zE,zF,zG,zH,zI,zJ,zK,zL,zM,zN,zO,zP,↓reduceIte,reduceCtorEq,gb,Tryz.ntmps52,Tryz.results52]; done) | (refine endD_intro (by decide +kernel) ?_; simp only [go_sem,zA,zB,zC,zD,zE,zF,zG,zH,zI,zJ,zK,zL,zM,zN,zO,zP,↓reduceIte,reduceCtorEq,hw]; refine fin (by clear bad fin hd; simp_all [Trb.okR]) (by clear bad fin hd; simp_all) _ ?_; simp only [go_sem,zA,zB,zC,zD,zE,zF,zG,zH,zI,zJ,zK,zL,zM,zN,zO,zP,↓reduceIte,reduceCtorEq,right21St]; done))
  · simp only [go_sem,zA,zB,zC,zD,zE,zF,zG,zH,zI,zJ,zK,zL,zM,zN,zO,zP,↓reduceIte,reduceCtorEq,right21St,la,f1,f2,f0,yCa,r1,Trb.cells,g0,w1,r2,b1,b2]
    repeat' (first | (refine wantK_splitN (fun h => ?_) (fun h => ?_) <;> simp only [go_sem,zA,zB,zC,zD,zE,zF,zG,zH,zI,zJ,zK,zL,zM,zN,zO,zP,↓reduceIte,reduceCtorEq,f2,f0,la,yCa,r1,Trb.cells,g0,w1,r2,b1,b2,h]) | (refine wantK_split (fun h => ?_) (fun h => ?_) <;> simp only [go_sem,zA,zB,zC,zD,zE,zF,zG,zH,zI,zJ,zK,zL,zM,zN,zO,zP,↓reduceIte,reduceCtorEq,f2,f0,la,yCa,r1,Trb.cells,g0,w1,r2,b1,b2,h]) | (refine condK_splitN (fun h => ?_) (fun h => ?_) <;> simp only [go_sem,zA,zB,zC,zD,zE,zF,zG,zH,zI,zJ,zK,zL,zM,zN,zO,zP,↓reduceIte,reduceCtorEq,f2,f0,la,yCa,r1,Trb.cells,g0,w1,r2,b1,b2,h]) | (refine condK_split (fun h => ?_) (fun h => ?_) <;> simp only [go_sem,zA,zB,zC,zD,zE,zF,zG,zH,zI,zJ,zK,zL,zM,zN,zO,zP,↓reduceIte,reduceCtorEq,f2,f0,la,yCa,r1,Trb.cells,g0,w1,r2,b1,b2,h]) | (refine drawK_splitN (fun h => ?_) (fun h => ?_) <;> simp only [go_sem,zA,zB,zC,zD,zE,zF,zG,zH,zI,zJ,zK,zL,zM,zN,zO,zP,↓reduceIte,reduceCtorEq,f2,f0,la,yCa,r1,Trb.cells,g0,w1,r2,b1,b2,h]) | (refine drawK_split (fun h => ?_) (fun h => ?_) <;> simp only [go_sem,zA,zB,zC,zD,zE,zF,zG,zH,zI,zJ,zK,zL,zM,zN,zO,zP,↓reduceIte,reduceCtorEq,f2,f0,la,yCa,r1,Trb.cells,g0,w1,r2,b1,b2,h]))
    all_goals (try (refine endD_intro (by decide +kernel) ?_; have gb : okFrom none l = false := bad (by clear bad fin hd; simp_all [Trb.okR]); simp only [go_sem,zA,zB,zC,zD,zE,zF,zG,zH,zI,zJ,zK,zL,zM,zN,zO,zP,↓reduceIte,reduceCtorEq,gb,Tryz.ntmps52,Tryz.results52]; done))
    (refine callD_pure (c1) (by simp only [go_sem,zA,zB,zC,zD,zE,zF,zG,zH,zI,zJ,zK,zL,zM,zN,zO,zP,↓reduceIte,reduceCtorEq,Trb.pv,Trb.cells] <;> first | rfl | decide) ?_; simp only [go_sem,zA,zB,zC,zD,zE,zF,zG,zH,zI,zJ,zK,zL,zM,zN,zO,zP,↓reduceIte,reduceCtorEq,Trb.pv,Trb.cells])
    cases h1 : hasV t.st 1 with
    | true =>
      simp only [go_sem,zA,zB,zC,zD,zE,zF,zG,zH,zI,zJ,zK,zL,zM,zN,zO,zP,↓reduceIte,reduceCtorEq,Trb.cells]
      (refine callD_pure (c2) (by simp only [go_sem,zA,zB,zC,zD,zE,zF,zG,zH,zI,zJ,zK,zL,zM,zN,zO,zP,↓reduceIte,reduceCtorEq,Trb.pv,Trb.cells] <;> first | rfl | decide) ?_; simp only [go_sem,zA,zB,zC,zD,zE,zF,zG,zH,zI,zJ,zK,zL,zM,zN,zO,zP,↓reduceIte,reduceCtorEq,Trb.pv,Trb.cells])
      cases h2 : hasV t.st 2 with
      | false =>
        simp only [go_sem,zA,zB,zC,zD,zE,zF,zG,zH,zI,zJ,zK,zL,zM,zN,zO,zP,↓reduceIte,reduceCtorEq,Trb.cells]
        (refine endD_intro (by decide +kernel) ?_; have gb : okFrom none l = false := bad (by clear bad fin hd; simp_all [Trb.okR]); simp only [go_sem,zA,zB,zC,zD,zE,zF,zG,zH,zI,zJ,zK,zL,zM,zN,zO,zP,↓reduceIte,reduceCtorEq,gb,Tryz.ntmps52,Tryz.results52]; done)
      | true =>
        simp only [go_sem,zA,zB,zC,zD,zE,zF,zG,zH,zI,zJ,zK,zL,zM,zN,zO,zP,↓reduceIte,reduceCtorEq,Trb.cells]
        repeat' (first | (refine wantK_splitN (fun h => ?_) (fun h => ?_) <;> simp only [go_sem,zA,zB,zC,zD,zE,zF,zG,zH,zI,zJ,zK,zL,zM,zN,zO,zP,↓reduceIte,reduceCtorEq,Trb.cells,h]) | (refine wantK_split (fun h => ?_) (fun h => ?_) <;> simp only [go_sem,zA,zB,zC,zD,zE,zF,zG,zH,zI,zJ,zK,zL,zM,zN,zO,zP,↓reduceIte,reduceCtorEq,Trb.cells,h]) | (refine condK_splitN (fun h => ?_) (fun h => ?_) <;> simp only [go_sem,zA,zB,zC,zD,zE,zF,zG,zH,zI,zJ,zK,zL,zM,zN,zO,zP,↓reduceIte,reduceCtorEq,Trb.cells,h]) | (refine condK_split (fun h => ?_) (fun h => ?_) <;> simp only [go_sem,zA,zB,zC,zD,zE,zF,zG,zH,zI,zJ,zK,zL,zM,zN,zO,zP,↓reduceIte,reduceCtorEq,Trb.cells,h]) | (refine drawK_splitN (fun h => ?_) (fun h => ?_) <;> simp only [go_sem,zA,zB,zC,zD,zE,zF,zG,zH,zI,zJ,zK,zL,zM,zN,zO,zP,↓reduceIte,reduceCtorEq,Trb.cells,h]) | (refine drawK_split (fun h => ?_) (fun h => ?_) <;> simp only [go_sem,zA,zB,zC,zD,zE,zF,zG,zH,zI,zJ,zK,zL,zM,zN,zO,zP,↓reduceIte,reduceCtorEq,Trb.cells,h]))
        all_goals (try (refine endD_intro (by decide +kernel) ?_; have gb : okFrom none l = false := bad (by clear bad fin hd; simp_all [Trb.okR]); simp only [go_sem,zA,zB,zC,zD,zE,zF,zG,zH,zI,zJ,zK,zL,zM,zN,zO,zP,↓reduceIte,reduceCtorEq,gb,Tryz.ntmps52,Tryz.results52]; done))
        all_goals (try (refine endD_intro (by decide +kernel) ?_; simp only [go_sem,zA,zB,zC,zD,zE,zF,zG,zH,zI,zJ,zK,zL,zM,zN,zO,zP,↓reduceIte,reduceCtorEq,hw]; refine fin (by clear bad fin hd; simp_all [Trb.okR]) (by clear bad fin hd; simp_all) _ ?_; simp only [go_sem,zA,zB,zC,zD,zE,zF,zG,zH,zI,zJ,zK,zL,zM,zN,zO,zP,↓reduceIte,reduceCtorEq,right21St]; done))
        all_goals ((refine callD_pure (c4) (by simp only [go_sem,zA,zB,zC,zD,zE,zF,zG,zH,zI,zJ,zK,zL,zM,zN,zO,zP,↓reduceIte,reduceCtorEq,Trb.pv,Trb.cells] <;> first | rfl | decide) ?_; simp only [go_sem,zA,zB,zC,zD,zE,zF,zG,zH,zI,zJ,zK,zL,zM,zN,zO,zP,↓reduceIte,reduceCtorEq,Trb.pv,Trb.cells]))
        all_goals (cases h4 : hasV t.st 4 <;> simp only [go_sem,zA,zB,zC,zD,zE,zF,zG,zH,zI,zJ,zK,zL,zM,zN,zO,zP,↓reduceIte,reduceCtorEq,Trb.cells] <;> first | (refine endD_intro (by decide +kernel) ?_; have gb : okFrom none l = false := bad (by clear bad fin hd; simp_all [Trb.okR]); simp only [go_sem,zA,zB,zC,zD,zE,zF,zG,zH,zI,zJ,zK,zL,zM,zN,zO,zP,↓reduceIte,reduceCtorEq,gb,Tryz.ntmps52,Tryz.results52]; done) | (refine endD_intro (by decide +kernel) ?_; simp only [go_sem,zA,zB,zC,zD,zE,zF,zG,zH,zI,zJ,zK,zL,zM,zN,zO,zP,↓reduceIte,reduceCtorEq,hw]; refine fin (by clear bad fin hd; simp_all [Trb.okR]) (by clear bad fin hd; simp_all) _ ?_; simp only [go_sem,zA,zB,zC,zD,zE,zF,zG,zH,zI,zJ,zK,zL,zM,zN,zO,zP,↓reduceIte,reduceCtorEq,right21St]; done))
    | false =>
      simp only [go_sem,zA,zB,zC,zD,zE,zF,zG,zH,zI,zJ,zK,zL,zM,zN,zO,zP,↓reduceIte,reduceCtorEq,Trb.cells]
      repeat' (first | (refine wantK_splitN (fun h => ?_) (fun h => ?_) <;> simp only [go_sem,zA,zB,zC,zD,zE,zF,zG,zH,zI,zJ,zK,zL,zM,zN,zO,zP,↓reduceIte,reduceCtorEq,Trb.cells,h]) | (refine wantK_split (fun h => ?_) (fun h => ?_) <;> simp only [go_sem,zA,zB,zC,zD,zE,zF,zG,zH,zI,zJ,zK,zL,zM,zN,zO,zP,↓reduceIte,reduceCtorEq,Trb.cells,h]) | (refine condK_splitN (fun h => ?_) (fun h => ?_) <;> simp only [go_sem,zA,zB,zC,zD,zE,zF,zG,zH,zI,zJ,zK,zL,zM,zN,zO,zP,↓reduceIte,reduceCtorEq,Trb.cells,h]) | (refine condK_split (fun h => ?_) (fun h => ?_) <;> simp only [go_sem,zA,zB,zC,zD,zE,zF,zG,zH,zI,zJ,zK,zL,zM,zN,zO,zP,↓reduceIte,reduceCtorEq,Trb.cells,h]) | (refine drawK_splitN (fun h => ?_) (fun h => ?_) <;> simp only [go_sem,zA,zB,zC,zD,zE,zF,zG,zH,zI,zJ,zK,zL,zM,zN,zO,zP,↓reduceIte,reduceCtorEq,Trb.cells,h]) | (refine drawK_split (fun h => ?_) (fun h => ?_) <;> simp only [go_sem,zA,zB,zC,zD,zE,zF,zG,zH,zI,zJ,zK,zL,zM,zN,zO,zP,↓reduceIte,reduceCtorEq,Trb.cells,h]))
      all_goals (try (refine endD_intro (by decide +kernel) ?_; have gb : okFrom none l = false := bad (by clear bad fin hd; simp_all [Trb.okR]); simp only [go_sem,zA,zB,zC,zD,zE,zF,zG,zH,zI,zJ,zK,zL,zM,zN,zO,zP,↓reduceIte,reduceCtorEq,gb,Tryz.ntmps52,Tryz.results52]; done))
      all_goals (try (refine endD_intro (by decide +kernel) ?_; simp only [go_sem,zA,zB,zC,zD,zE,zF,zG,zH,zI,zJ,zK,zL,zM,zN,zO,zP,↓reduceIte,reduceCtorEq,hw]; refine fin (by clear bad fin hd; simp_all [Trb.okR]) (by clear bad fin hd; simp_all) _ ?_; simp only [go_sem,zA,zB,zC,zD,zE,zF,zG,zH,zI,zJ,zK,zL,zM,zN,zO,zP,↓reduceIte,reduceCtorEq,right21St]; done))
      all_goals ((refine callD_pure (c4) (by simp only [go_sem,zA,zB,zC,zD,zE,zF,zG,zH,zI,zJ,zK,zL,zM,zN,zO,zP,↓reduceIte,reduceCtorEq,Trb.pv,Trb.cells] <;> first | rfl | decide) ?_; simp only [go_sem,zA,zB,zC,zD,zE,zF,zG,zH,zI,zJ,zK,zL,zM,zN,zO,zP,↓reduceIte,reduceCtorEq,Trb.pv,Trb.cells]))
      all_goals (cases h4 : hasV t.st 4 <;> simp only [go_sem,zA,zB,zC,zD,zE,zF,zG,zH,zI,zJ,zK,zL,zM,zN,zO,zP,↓reduceIte,reduceCtorEq,Trb.cells] <;> first | (refine endD_intro (by decide +kernel) ?_; have gb : okFrom none l = false := bad (by clear bad fin hd; simp_all [Trb.okR]); simp only [go_sem,zA,zB,zC,zD,zE,zF,zG,zH,zI,zJ,zK,zL,zM,zN,zO,zP,↓reduceIte,reduceCtorEq,gb,Tryz.ntmps52,Tryz.results52]; done) | (refine endD_intro (by decide +kernel) ?_; simp only [go_sem,zA,zB,zC,zD,zE,zF,zG,zH,zI,zJ,zK,zL,zM,zN,zO,zP,↓reduceIte,reduceCtorEq,hw]; refine fin (by clear bad fin hd; simp_all [Trb.okR]) (by clear bad fin hd; simp_all) _ ?_; simp only [go_sem,zA,zB,zC,zD,zE,zF,zG,zH,zI,zJ,zK,zL,zM,zN,zO,zP,↓reduceIte,reduceCtorEq,right21St]; done))
end Go.Proofs.YtcdmhigmgpflbaaGreat.Pe
