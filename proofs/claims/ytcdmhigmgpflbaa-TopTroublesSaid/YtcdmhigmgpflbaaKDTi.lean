import Derived.Test.YtcdmhigmgpflbaaKDT9
import Derived.Test.YtcdmhigmgpflbaaKDTe
import Derived.Test.YtcdmhigmgpflbaaDT3
namespace Go.Proofs.Ytcdmhigmgpflbaa.Pe
open Go.Pe Go.RowKit
open Nat renaming reduceAdd → zA,reduceSub → zB,reduceMul → zC,reduceLT → zD,reduceLeDiff → zE,reduceEqDiff → zF,reduceBEq → zG
open Int renaming reduceToNat → zH,reduceLT → zI,reduceLE → zJ,reduceEq → zK,reduceNe → zL,reduceAdd → zM,reduceSub → zN,reduceMul → zO,reduceNeg → zP
set_option maxRecDepth 20000
set_option maxHeartbeats 4000000
set_option linter.unusedSimpArgs false
set_option linter.unusedVariables false

theorem repD_calls (l : List Trb) (id : Int) (f : Bool) (hr : rightL l = true) : PureCalls Try.prog 70 [trbsPV l,PI id,PB f] (trbsPV (reportV l id f)) := by
  refine PureCalls.of tabOK mixed Try.func70 rfl rfl (by decide +kernel) (by simp [Try.ntmps70]) ?_
  have la := trbRows_len l
  have hll := rightL_len hr
  have hmem := rightL_mem hr
  have hle := atV_le l id
  have cB := bs_calls l id hr
  have eid : decide (id.fdiv (2 ^ min 16 64) = 0) = (!decide (id < 0) && !decide (id > 65535)) := by
    show decide (id.fdiv 65536 = 0) = _
    rw [Int.fdiv_eq_ediv_of_nonneg _ (by decide),Bool.eq_iff_iff]
    simp
    omega
  simp only [go_sem,zA,zB,zC,zD,zE,zF,zG,zH,zI,zJ,zK,zL,zM,zN,zO,zP,↓reduceIte,reduceCtorEq,Try.ntmps70,Try.results70]
  (refine CallA.pure (cB) (by simp only [go_sem,zA,zB,zC,zD,zE,zF,zG,zH,zI,zJ,zK,zL,zM,zN,zO,zP,↓reduceIte,reduceCtorEq] <;> first | rfl | decide) ?_; simp only [go_sem,zA,zB,zC,zD,zE,zF,zG,zH,zI,zJ,zK,zL,zM,zN,zO,zP,↓reduceIte,reduceCtorEq])
  obtain ⟨i,ha⟩ : ∃ i,atV l id = i := ⟨_,rfl⟩
  have hrep : reportV l id f = (if id < 0 ∨ id > 65535 ∨ (isV l id = false ∧ 16 ≤ l.length) then l
    else match l[i]? with
      | some t => if t.id = id then l.take i ++ (testedV t f :: l.drop (i + 1)) else l.take i ++ (testedV (freshT id) f :: l.drop i)
      | none => l ++ [testedV (freshT id) f]) := by subst ha; rfl
  have his : isV l id = (match l[i]? with | some t => decide (t.id = id) | none => false) := by subst ha; rfl
  rw [ha] at hle ⊢
  clear cB ha
  by_cases hid : id < 0 ∨ id > 65535
  · have g : decide (id.fdiv (2 ^ min 16 64) = 0) = false := by
      rw [eid,Bool.eq_false_iff]
      simp; omega
    rw [if_pos (by rcases hid with h | h; exact .inl h; exact .inr (.inl h))] at hrep
    simp only [go_sem,zA,zB,zC,zD,zE,zF,zG,zH,zI,zJ,zK,zL,zM,zN,zO,zP,↓reduceIte,reduceCtorEq,g,hrep,Try.ntmps70,Try.results70]
  have g : decide (id.fdiv (2 ^ min 16 64) = 0) = true := by
    rw [eid]
    simp; omega
  clear eid
  have f0 : (0 : Int) ≤ (i : Int) := by omega
  have hset0 : ∀ (rows : List (List PV)) (a : Nat),a < rows.length → ∀ x,(rows.set a x).getD a [] = x := fun rows a h x => set_getD h x
  rcases Bool.eq_false_or_eq_true (isV l id) with hI | hI
  case' inr =>
    by_cases h4 : 16 ≤ l.length
    · have g4 : decide ((l.length : Int) ≥ 16) = true := decide_eq_true (by omega)
      rw [if_pos (.inr (.inr ⟨hI,h4⟩))] at hrep
      simp only [go_sem,zA,zB,zC,zD,zE,zF,zG,zH,zI,zJ,zK,zL,zM,zN,zO,zP,↓reduceIte,reduceCtorEq,g,g4,la,hI,hrep,Try.ntmps70,Try.results70]
    have g4 : decide ((l.length : Int) ≥ 16) = false := decide_eq_false (by omega)
    rw [if_neg (by omega)] at hrep
    obtain ⟨t,htf⟩ : ∃ t,t = freshT id := ⟨_,rfl⟩
    have ht : t.okR = true := by rw [htf]; exact fresh_okR (by omega)
    have htc : t.cells = [PI id,PI 8,PI 0,PI 0] := by rw [htf]; rfl
    rw [← htf] at hrep
    have hrep2 : reportV l id f = l.take i ++ testedV t f :: l.drop i := by
      rw [hrep]
      cases h : l[i]? with
      | none =>
        have : i = l.length := by have := List.getElem?_eq_none_iff.1 h; omega
        subst this
        simp
      | some u =>
        rw [his,h] at hI
        have hu : ¬ u.id = id := by simpa using hI
        simp only [if_neg hu]
    simp only [go_sem,zA,zB,zC,zD,zE,zF,zG,zH,zI,zJ,zK,zL,zM,zN,zO,zP,↓reduceIte,reduceCtorEq,g,g4,la,hI]
    refine CallA.into tabOK mixed Try.func114 rfl rfl (by decide +kernel) (by simp [Try.ntmps114]) ?_
    simp only [go_sem,zA,zB,zC,zD,zE,zF,zG,zH,zI,zJ,zK,zL,zM,zN,zO,zP,↓reduceIte,reduceCtorEq,Try.ntmps114,Try.results114,la]
    intro b hb
    cases b
    case' true =>
      have hn : l = [] := by
        have := hb rfl
        cases l with
        | nil => rfl
        | cons _ _ => simp [trbRows] at this
      have hi0 : ((i : Nat) : Int) = 0 := by rw [hn] at hle; simp at hle; omega
      have hii : i = 0 := by omega
      obtain ⟨rows,hrows⟩ : ∃ rows,rows = [[PI id,PI 8,PI 0,PI 0]] := ⟨_,rfl⟩
      have hlen : rows.length = 1 := by rw [hrows]; rfl
      have hget : rows.getD 0 [] = t.cells := by rw [hrows,htc]; rfl
      have hset := hset0 rows 0 (by omega)
      have hrow : (0 : Nat) < 1 := by omega
      have hfin : rows.set 0 (testedV t f).cells = trbRows (reportV l id f) := by rw [hrep2,hn,hrows]; simp [trbRows]
      simp only [go_sem,zA,zB,zC,zD,zE,zF,zG,zH,zI,zJ,zK,zL,zM,zN,zO,zP,↓reduceIte,reduceCtorEq,Try.ntmps114,Try.results114,la]
      refine CallA.into tabOK mixed Try.func115 rfl rfl (by decide +kernel) (by simp [Try.ntmps115]) ?_
      simp only [go_sem,zA,zB,zC,zD,zE,zF,zG,zH,zI,zJ,zK,zL,zM,zN,zO,zP,↓reduceIte,reduceCtorEq,Try.ntmps115,Try.results115,hi0,← hrows,hlen,Int.natCast_one,Int.cast_ofNat_Int]
      clear hrows
    case' false =>
      simp only [go_sem,zA,zB,zC,zD,zE,zF,zG,zH,zI,zJ,zK,zL,zM,zN,zO,zP,↓reduceIte,reduceCtorEq,Try.ntmps114,Try.results114,la]
      refine ⟨⟨by omega,by omega⟩,?_⟩
      by_cases hil : i < l.length
      case' pos =>
        obtain ⟨rows,hrows⟩ : ∃ rows,rows = (trbRows l).take i ++ [PI id,PI 8,PI 0,PI 0] :: (trbRows l).drop i := ⟨_,rfl⟩
        have hlen : rows.length = l.length + 1 := by rw [hrows]; simp; omega
        have hti : ((trbRows l).take i).length = i := by simp; omega
        have hget : rows.getD i [] = t.cells := by rw [hrows,htc,List.getD_eq_getElem?_getD,List.getElem?_append_right (by omega),hti]; simp
        have hrow : i < l.length + 1 := by omega
        have hset := hset0 rows i (by omega)
        have f2 : ((i : Nat) : Int) < ((l.length + 1 : Nat) : Int) := by omega
        have hfin : rows.set i (testedV t f).cells = trbRows (reportV l id f) := by
          rw [hrep2,hrows,List.set_append,if_neg (by omega),hti]
          simp [trbRows]
        refine insertA (x := [PI id,PI 8,PI 0,PI 0]) (rows := trbRows l) (i := i) rfl rfl (by decide) (by rw [la]; exact hil) (by rw [la]; omega) ?_
        rw [← hrows]
        clear hrows
        simp only [go_sem,zA,zB,zC,zD,zE,zF,zG,zH,zI,zJ,zK,zL,zM,zN,zO,zP,↓reduceIte,reduceCtorEq,hlen,f0,f2,Int.toNat_natCast]
      case' neg =>
        have hil : i = l.length := by omega
        have hilz : ((i : Nat) : Int) = (l.length : Int) := by omega
        obtain ⟨rows,hrows⟩ : ∃ rows,rows = trbRows l ++ [[PI id,PI 8,PI 0,PI 0]] := ⟨_,rfl⟩
        have hlen : rows.length = l.length + 1 := by rw [hrows]; simp
        have hget : rows.getD l.length [] = t.cells := by rw [hrows,htc,List.getD_eq_getElem?_getD,List.getElem?_append_right (by omega),la]; simp
        have hrow : l.length < l.length + 1 := by omega
        have hset := hset0 rows l.length (by omega)
        have f2 : ((l.length : Nat) : Int) < ((l.length + 1 : Nat) : Int) := by omega
        have f00 : (0 : Int) ≤ (l.length : Int) := by omega
        have hfin : rows.set l.length (testedV t f).cells = trbRows (reportV l id f) := by
          rw [hrep2,hil,hrows,List.set_append,if_neg (by omega),la]
          simp [trbRows]
        refine CallA.into tabOK mixed Try.func115 rfl rfl (by decide +kernel) (by simp [Try.ntmps115]) ?_
        simp only [go_sem,zA,zB,zC,zD,zE,zF,zG,zH,zI,zJ,zK,zL,zM,zN,zO,zP,↓reduceIte,reduceCtorEq,Try.ntmps115,Try.results115,la,hilz,← hrows,hlen,f00,f2,Int.toNat_natCast]
        refine ⟨Int.le_refl _,⟨by omega,by omega⟩,?_⟩
        clear hrows
  case' inl =>
    rw [if_neg (by rw [hI]; simp; omega)] at hrep
    simp only [go_sem,zA,zB,zC,zD,zE,zF,zG,zH,zI,zJ,zK,zL,zM,zN,zO,zP,↓reduceIte,reduceCtorEq,g,hI]
    refine CallA.into tabOK mixed Try.func114 rfl rfl (by decide +kernel) (by simp [Try.ntmps114]) ?_
    simp only [go_sem,zA,zB,zC,zD,zE,zF,zG,zH,zI,zJ,zK,zL,zM,zN,zO,zP,↓reduceIte,reduceCtorEq,Try.ntmps114,Try.results114,la]
    intro b hb
    obtain ⟨t,ht0⟩ : ∃ t0,l[i]? = some t0 := by
      cases h : l[i]? with
      | none => rw [his,h] at hI; cases hI
      | some t0 => exact ⟨t0,rfl⟩
    have hil : i < l.length := (List.getElem?_eq_some_iff.1 ht0).1
    have hti : t.id = id := by rw [his,ht0] at hI; simpa using hI
    have ht := hmem t (List.mem_of_getElem? ht0)
    rw [ht0] at hrep
    simp only [if_pos hti] at hrep
    cases b
    case true =>
      have hn : l = [] := by
        have := hb rfl
        cases l with
        | nil => rfl
        | cons _ _ => simp [trbRows] at this
      rw [hn] at hil
      simp at hil
    case' false =>
      obtain ⟨rows,hrows⟩ : ∃ rows,rows = trbRows l := ⟨_,rfl⟩
      have hlen : rows.length = l.length := by rw [hrows,la]
      have hget : rows.getD i [] = t.cells := by rw [hrows,trbRows_get hil]; congr 1; exact Option.some.inj ((List.getElem?_eq_getElem hil).symm.trans ht0)
      have hrow : i < l.length := hil
      have hset := hset0 rows i (by omega)
      have f2 : ((i : Nat) : Int) < (l.length : Int) := by omega
      have hfin : rows.set i (testedV t f).cells = trbRows (reportV l id f) := by
        rw [hrep,hrows,List.set_eq_take_append_cons_drop,if_pos (by rw [la]; exact hil)]
        simp [trbRows]
      simp only [go_sem,zA,zB,zC,zD,zE,zF,zG,zH,zI,zJ,zK,zL,zM,zN,zO,zP,↓reduceIte,reduceCtorEq,Try.ntmps114,Try.results114,← hrows,hlen,f0,f2,Int.toNat_natCast]
      refine ⟨⟨by omega,by omega⟩,?_⟩
      clear hrows
  all_goals
    obtain ⟨_,_,_,_,b5,b6,_,_⟩ := okR_bounds ht
    have w1 : IntKind.wrap .i64 (t.sc + 2) = t.sc + 2 := wrapI64 (by omega)
    have w2 : IntKind.wrap .i64 (t.sc + -1) = t.sc - 1 := by rw [wrapI64 (by omega)]; omega
    obtain ⟨sc,hsc⟩ : ∃ sc,scT t.sc f = sc := ⟨_,rfl⟩
    have hT : testedV t f = (if sc = -4 then ⟨t.id,dropV (dropV t.st 8) 1,sc,t.ca⟩
      else if sc = 4 ∧ hasV (dropV t.st 8) 1 = false then ⟨t.id,setV (if hasV (dropV t.st 8) 2 = true then setV (dropV t.st 8) 4 else dropV t.st 8) 3,sc,0⟩
      else ⟨t.id,dropV t.st 8,sc,t.ca⟩ : Trb) := by rw [testedV,hsc]
    have hcond : (if f = true then (if -4 > (if 4 < t.sc + 2 then 4 else t.sc + 2) then -4 else (if 4 < t.sc + 2 then 4 else t.sc + 2)) else (if -4 > (if 4 < t.sc - 1 then 4 else t.sc - 1) then -4 else (if 4 < t.sc - 1 then 4 else t.sc - 1))) = sc := by
      rw [← hsc,scT]
      cases f
      · simp only [Bool.false_eq_true,if_false]
        rw [if_neg (show ¬ (4 : Int) < t.sc - 1 by omega)]
      · simp only [if_true]
        split <;> split <;> omega
    generalize hTT : testedV t f = tt at hT hfin
    have e : (f = true ∧ (if -4 > (if 4 < t.sc + 2 then 4 else t.sc + 2) then -4 else (if 4 < t.sc + 2 then 4 else t.sc + 2)) = sc) ∨ (f = false ∧ (if -4 > (if 4 < t.sc - 1 then 4 else t.sc - 1) then -4 else (if 4 < t.sc - 1 then 4 else t.sc - 1)) = sc) := by
      cases f
      · exact .inr ⟨rfl,by simpa using hcond⟩
      · exact .inl ⟨rfl,by simpa using hcond⟩
    generalize reportV l id f = out at *
    clear hcond hsc hTT
    rcases e with ⟨hf,e⟩ | ⟨hf,e⟩
    case' inl =>
      subst hf
      refine CallA.into tabOK mixed Try.func116 rfl rfl (by decide +kernel) (by simp [Try.ntmps116]) ?_
      simp only [go_sem,zA,zB,zC,zD,zE,zF,zG,zH,zI,zJ,zK,zL,zM,zN,zO,zP,↓reduceIte,reduceCtorEq,Try.ntmps116,Try.results116,Try.ntmps143,Try.results143,Try.ntmps142,Try.results142,Try.ntmps141,Try.results141,hlen,hget,hset,List.set_set,List.length_set,hrow,Trb.cells]
      refine CallA.into tabOK mixed Try.func141 rfl rfl (by decide +kernel) (by simp [Try.ntmps141]) ?_
      simp only [go_sem,zA,zB,zC,zD,zE,zF,zG,zH,zI,zJ,zK,zL,zM,zN,zO,zP,↓reduceIte,reduceCtorEq,Try.ntmps116,Try.results116,Try.ntmps143,Try.results143,Try.ntmps142,Try.results142,Try.ntmps141,Try.results141,hlen,hget,hset,List.set_set,List.length_set,hrow,Trb.cells,w1,e]
    case' inr =>
      subst hf
      refine CallA.into tabOK mixed Try.func116 rfl rfl (by decide +kernel) (by simp [Try.ntmps116]) ?_
      simp only [go_sem,zA,zB,zC,zD,zE,zF,zG,zH,zI,zJ,zK,zL,zM,zN,zO,zP,↓reduceIte,reduceCtorEq,Try.ntmps116,Try.results116,Try.ntmps143,Try.results143,Try.ntmps142,Try.results142,Try.ntmps141,Try.results141,hlen,hget,hset,List.set_set,List.length_set,hrow,Trb.cells]
      refine CallA.into tabOK mixed Try.func141 rfl rfl (by decide +kernel) (by simp [Try.ntmps141]) ?_
      simp only [go_sem,zA,zB,zC,zD,zE,zF,zG,zH,zI,zJ,zK,zL,zM,zN,zO,zP,↓reduceIte,reduceCtorEq,Try.ntmps116,Try.results116,Try.ntmps143,Try.results143,Try.ntmps142,Try.results142,Try.ntmps141,Try.results141,hlen,hget,hset,List.set_set,List.length_set,hrow,Trb.cells,w2,e]
    all_goals
      refine endD_intro (by decide +kernel) ?_
      by_cases h5 : sc = -4
      · have g5 : decide (sc = -4) = true := decide_eq_true h5
        have hr : tt = ⟨t.id,dropV (dropV t.st 8) 1,sc,t.ca⟩ := by rw [hT,if_pos h5]
        simp only [go_sem,zA,zB,zC,zD,zE,zF,zG,zH,zI,zJ,zK,zL,zM,zN,zO,zP,↓reduceIte,reduceCtorEq,Try.ntmps116,Try.results116,Try.ntmps143,Try.results143,Try.ntmps142,Try.results142,Try.ntmps141,Try.results141,hlen,hget,hset,List.set_set,List.length_set,hrow,Trb.cells,g5]
        refine CallA.into tabOK mixed Try.func141 rfl rfl (by decide +kernel) (by simp [Try.ntmps141]) ?_
        simp only [go_sem,zA,zB,zC,zD,zE,zF,zG,zH,zI,zJ,zK,zL,zM,zN,zO,zP,↓reduceIte,reduceCtorEq,Try.ntmps116,Try.results116,Try.ntmps143,Try.results143,Try.ntmps142,Try.results142,Try.ntmps141,Try.results141,hlen,hget,hset,List.set_set,List.length_set,hrow,Trb.cells,Try.ntmps70,Try.results70]
        rw [← hfin,hr]
        rfl
      · have g5 : decide (sc = -4) = false := decide_eq_false h5
        rw [if_neg h5] at hT
        by_cases h4' : sc = 4
        · have g6 : decide (sc = 4) = true := decide_eq_true h4'
          simp only [go_sem,zA,zB,zC,zD,zE,zF,zG,zH,zI,zJ,zK,zL,zM,zN,zO,zP,↓reduceIte,reduceCtorEq,Try.ntmps116,Try.results116,Try.ntmps143,Try.results143,Try.ntmps142,Try.results142,Try.ntmps141,Try.results141,hlen,hget,hset,List.set_set,List.length_set,hrow,Trb.cells,g5,g6]
          refine CallA.into tabOK mixed Try.func142 rfl rfl (by decide +kernel) (by simp [Try.ntmps142]) ?_
          simp only [go_sem,zA,zB,zC,zD,zE,zF,zG,zH,zI,zJ,zK,zL,zM,zN,zO,zP,↓reduceIte,reduceCtorEq,Try.ntmps116,Try.results116,Try.ntmps143,Try.results143,Try.ntmps142,Try.results142,Try.ntmps141,Try.results141,hlen,hget,hset,List.set_set,List.length_set,hrow,Trb.cells]
          cases k1 : decide (bitsA .and .i64 (dropV t.st 8) 1 = 0) with
          | false =>
            have hr : tt = ⟨t.id,dropV t.st 8,sc,t.ca⟩ := by rw [hT,if_neg (by rw [hasV,k1]; simp)]
            simp only [go_sem,zA,zB,zC,zD,zE,zF,zG,zH,zI,zJ,zK,zL,zM,zN,zO,zP,↓reduceIte,reduceCtorEq,Try.ntmps116,Try.results116,Try.ntmps143,Try.results143,Try.ntmps142,Try.results142,Try.ntmps141,Try.results141,hlen,hget,hset,List.set_set,List.length_set,hrow,Trb.cells,k1,Try.ntmps70,Try.results70]
            rw [← hfin,hr]
            rfl
          | true =>
            have hp1 : sc = 4 ∧ hasV (dropV t.st 8) 1 = false := ⟨h4',by rw [hasV,k1]; rfl⟩
            rw [if_pos hp1] at hT
            simp only [go_sem,zA,zB,zC,zD,zE,zF,zG,zH,zI,zJ,zK,zL,zM,zN,zO,zP,↓reduceIte,reduceCtorEq,Try.ntmps116,Try.results116,Try.ntmps143,Try.results143,Try.ntmps142,Try.results142,Try.ntmps141,Try.results141,hlen,hget,hset,List.set_set,List.length_set,hrow,Trb.cells,k1]
            refine CallA.into tabOK mixed Try.func142 rfl rfl (by decide +kernel) (by simp [Try.ntmps142]) ?_
            simp only [go_sem,zA,zB,zC,zD,zE,zF,zG,zH,zI,zJ,zK,zL,zM,zN,zO,zP,↓reduceIte,reduceCtorEq,Try.ntmps116,Try.results116,Try.ntmps143,Try.results143,Try.ntmps142,Try.results142,Try.ntmps141,Try.results141,hlen,hget,hset,List.set_set,List.length_set,hrow,Trb.cells]
            cases k2 : decide (bitsA .and .i64 (dropV t.st 8) 2 = 0) with
            | false =>
              have hr : tt = ⟨t.id,setV (setV (dropV t.st 8) 4) 3,sc,0⟩ := by rw [hT,if_pos (by rw [hasV,k2]; rfl)]
              simp only [go_sem,zA,zB,zC,zD,zE,zF,zG,zH,zI,zJ,zK,zL,zM,zN,zO,zP,↓reduceIte,reduceCtorEq,Try.ntmps116,Try.results116,Try.ntmps143,Try.results143,Try.ntmps142,Try.results142,Try.ntmps141,Try.results141,hlen,hget,hset,List.set_set,List.length_set,hrow,Trb.cells,k2]
              refine CallA.into tabOK mixed Try.func143 rfl rfl (by decide +kernel) (by simp [Try.ntmps143]) ?_
              simp only [go_sem,zA,zB,zC,zD,zE,zF,zG,zH,zI,zJ,zK,zL,zM,zN,zO,zP,↓reduceIte,reduceCtorEq,Try.ntmps116,Try.results116,Try.ntmps143,Try.results143,Try.ntmps142,Try.results142,Try.ntmps141,Try.results141,hlen,hget,hset,List.set_set,List.length_set,hrow,Trb.cells]
              refine CallA.into tabOK mixed Try.func143 rfl rfl (by decide +kernel) (by simp [Try.ntmps143]) ?_
              simp only [go_sem,zA,zB,zC,zD,zE,zF,zG,zH,zI,zJ,zK,zL,zM,zN,zO,zP,↓reduceIte,reduceCtorEq,Try.ntmps116,Try.results116,Try.ntmps143,Try.results143,Try.ntmps142,Try.results142,Try.ntmps141,Try.results141,hlen,hget,hset,List.set_set,List.length_set,hrow,Trb.cells,Try.ntmps70,Try.results70]
              rw [← hfin,hr]
              rfl
            | true =>
              have hr : tt = ⟨t.id,setV (dropV t.st 8) 3,sc,0⟩ := by rw [hT,if_neg (by rw [hasV,k2]; simp)]
              simp only [go_sem,zA,zB,zC,zD,zE,zF,zG,zH,zI,zJ,zK,zL,zM,zN,zO,zP,↓reduceIte,reduceCtorEq,Try.ntmps116,Try.results116,Try.ntmps143,Try.results143,Try.ntmps142,Try.results142,Try.ntmps141,Try.results141,hlen,hget,hset,List.set_set,List.length_set,hrow,Trb.cells,k2]
              refine CallA.into tabOK mixed Try.func143 rfl rfl (by decide +kernel) (by simp [Try.ntmps143]) ?_
              simp only [go_sem,zA,zB,zC,zD,zE,zF,zG,zH,zI,zJ,zK,zL,zM,zN,zO,zP,↓reduceIte,reduceCtorEq,Try.ntmps116,Try.results116,Try.ntmps143,Try.results143,Try.ntmps142,Try.results142,Try.ntmps141,Try.results141,hlen,hget,hset,List.set_set,List.length_set,hrow,Trb.cells,Try.ntmps70,Try.results70]
              rw [← hfin,hr]
              rfl
        · have g6 : decide (sc = 4) = false := decide_eq_false h4'
          have hr : tt = ⟨t.id,dropV t.st 8,sc,t.ca⟩ := by rw [hT,if_neg (fun h => h4' h.1)]
          simp only [go_sem,zA,zB,zC,zD,zE,zF,zG,zH,zI,zJ,zK,zL,zM,zN,zO,zP,↓reduceIte,reduceCtorEq,Try.ntmps116,Try.results116,Try.ntmps143,Try.results143,Try.ntmps142,Try.results142,Try.ntmps141,Try.results141,hlen,hget,hset,List.set_set,List.length_set,hrow,Trb.cells,g5,g6,Try.ntmps70,Try.results70]
          rw [← hfin,hr]
          rfl
end Go.Proofs.Ytcdmhigmgpflbaa.Pe


namespace Go.Proofs.Ytcdmhigmgpflbaa.Pe
open Go.Pe Go.RowKit
set_option maxRecDepth 20000
set_option maxHeartbeats 4000000
set_option linter.unusedSimpArgs false
set_option linter.unusedVariables false

theorem repD_at {l l' : List Trb} {id : Int} {f : Bool} (h : reportV l id f = l') (hr : rightL l = true) : PureCalls Try.prog 70 [trbsPV l,PI id,PB f] (trbsPV l') := h ▸ repD_calls l id f hr
theorem report_len (l : List Trb) (id : Int) (f : Bool) : l.length ≤ (reportV l id f).length ∧ (reportV l id f).length ≤ l.length + 1 := by
  have hle := atV_le l id
  unfold reportV
  split
  · omega
  · split
    · rename_i t ht
      have := (List.getElem?_eq_some_iff.1 ht).1
      split <;> simp <;> omega
    · simp
end Go.Proofs.Ytcdmhigmgpflbaa.Pe


namespace Go.Proofs.Ytcdmhigmgpflbaa.Pe
open Go.Pe Go.RowKit
set_option maxRecDepth 20000
set_option maxHeartbeats 4000000
set_option linter.unusedSimpArgs false
set_option linter.unusedVariables false

/-! ### a report,one element after the other -/
def rep : List Trb → Int → Bool → List Trb
  | [],id,f => [testedV (freshT id) f]
  | t :: r,id,f => if t.id < id then t :: rep r id f else if t.id = id then testedV t f :: r else testedV (freshT id) f :: t :: r
theorem core_rep : ∀ (l : List Trb) (id : Int) (f : Bool),(match l[atV l id]? with
    | some t => if t.id = id then l.take (atV l id) ++ (testedV t f :: l.drop (atV l id + 1)) else l.take (atV l id) ++ (testedV (freshT id) f :: l.drop (atV l id))
    | none => l ++ [testedV (freshT id) f]) = rep l id f
  | [],id,f => rfl
  | t :: r,id,f => by
    have ih := core_rep r id f
    unfold atV rep
    by_cases h : t.id < id
    · rw [if_pos h,if_pos h,← ih]
      simp only [List.getElem?_cons_succ,List.take_succ_cons,List.drop_succ_cons]
      split
      · split <;> rfl
      · rfl
    · rw [if_neg h,if_neg h]
      simp only [List.getElem?_cons_zero,List.take_zero,List.nil_append,List.drop_succ_cons,List.drop_zero]
theorem reportV_rep {l : List Trb} {id : Int} {f : Bool} (h : 0 ≤ id ∧ id ≤ 65535) (h2 : isV l id = true ∨ l.length < 16) : reportV l id f = rep l id f := by
  rw [reportV,if_neg (by
    rintro (h' | h' | ⟨h',h''⟩)
    · omega
    · omega
    · rcases h2 with h2 | h2
      · rw [h2] at h'; cases h'
      · omega)]
  exact core_rep l id f
theorem reportV_or (l : List Trb) (id : Int) (f : Bool) : reportV l id f = l ∨ (0 ≤ id ∧ id ≤ 65535 ∧ (isV l id = true ∨ l.length < 16) ∧ reportV l id f = rep l id f) := by
  by_cases h : 0 ≤ id ∧ id ≤ 65535 ∧ (isV l id = true ∨ l.length < 16)
  · exact .inr ⟨h.1,h.2.1,h.2.2,reportV_rep ⟨h.1,h.2.1⟩ h.2.2⟩
  · left
    rw [reportV,if_pos]
    by_cases h1 : id < 0
    · exact .inl h1
    · by_cases h2 : id > 65535
      · exact .inr (.inl h2)
      · refine .inr (.inr ?_)
        cases hI : isV l id
        · refine ⟨rfl,?_⟩
          by_cases h3 : 16 ≤ l.length
          · exact h3
          · exact absurd ⟨by omega,by omega,.inr (by omega)⟩ h
        · exact absurd ⟨by omega,by omega,.inl hI⟩ h
/-! ### the rest of a trouble -/
def okS (st sc ca : Int) : Bool := !decide (st < 0) && !decide (st > 15) && !(hasV st 1 && !hasV st 2) && !decide (sc < -4) && !decide (sc > 4) && !decide (ca < 0) && !decide (ca > 2) && !(decide (ca > 0) && !hasV st 4)
theorem okR_eq (t : Trb) : t.okR = (!decide (t.id < 0) && !decide (t.id > 65535) && okS t.st t.sc t.ca) := by
  simp only [Trb.okR,okS,Bool.and_assoc]
theorem tested_id (t : Trb) (f : Bool) : (testedV t f).id = t.id := by unfold testedV; split; rfl; split <;> rfl
theorem ridden_id (t : Trb) : (riddenV t).id = t.id := by
  unfold riddenV
  split
  · rfl
  · split <;> split <;> rfl
theorem tested_of (t : Trb) (f : Bool) : (testedV t f).st = (testedV ⟨0,t.st,t.sc,t.ca⟩ f).st ∧ (testedV t f).sc = (testedV ⟨0,t.st,t.sc,t.ca⟩ f).sc ∧ (testedV t f).ca = (testedV ⟨0,t.st,t.sc,t.ca⟩ f).ca := by
  unfold testedV
  simp only
  split
  · exact ⟨rfl,rfl,rfl⟩
  · split <;> exact ⟨rfl,rfl,rfl⟩
theorem ridden_of (t : Trb) : (riddenV t).st = (riddenV ⟨0,t.st,t.sc,t.ca⟩).st ∧ (riddenV t).sc = (riddenV ⟨0,t.st,t.sc,t.ca⟩).sc ∧ (riddenV t).ca = (riddenV ⟨0,t.st,t.sc,t.ca⟩).ca := by
  unfold riddenV
  simp only
  split
  · exact ⟨rfl,rfl,rfl⟩
  · split <;> split <;> exact ⟨rfl,rfl,rfl⟩
theorem tested_all : ∀ n : Nat,n < 16 → ∀ s : Nat,s < 9 → ∀ c : Nat,c < 3 → ∀ f : Bool,okS n ((s : Int) - 4) c = true →
    okS (testedV ⟨0,n,(s : Int) - 4,c⟩ f).st (testedV ⟨0,n,(s : Int) - 4,c⟩ f).sc (testedV ⟨0,n,(s : Int) - 4,c⟩ f).ca = true ∧ hasV (testedV ⟨0,n,(s : Int) - 4,c⟩ f).st 8 = false := by decide +kernel
theorem ridden_all : ∀ n : Nat,n < 16 → ∀ s : Nat,s < 9 → ∀ c : Nat,c < 3 → okS n ((s : Int) - 4) c = true →
    okS (riddenV ⟨0,n,(s : Int) - 4,c⟩).st (riddenV ⟨0,n,(s : Int) - 4,c⟩).sc (riddenV ⟨0,n,(s : Int) - 4,c⟩).ca = true ∧ (riddenV ⟨0,n,(s : Int) - 4,c⟩).sc = (s : Int) - 4 := by decide +kernel
theorem ridden_all2 : ∀ n : Nat,n < 16 → ∀ s : Nat,s < 9 → ∀ c : Nat,c < 3 → okS n ((s : Int) - 4) c = true → hasV (riddenV ⟨0,n,(s : Int) - 4,c⟩).st 8 = true ∧ bitsA .and .i64 (riddenV ⟨0,n,(s : Int) - 4,c⟩).st 1 = bitsA .and .i64 (n : Int) 1 := by decide +kernel
theorem okR_small {t : Trb} (h : t.okR = true) : ∃ n s c : Nat,n < 16 ∧ s < 9 ∧ c < 3 ∧ t.st = n ∧ t.sc = (s : Int) - 4 ∧ t.ca = c := by
  obtain ⟨_,_,h3,h4,h5,h6,h7,h8⟩ := okR_bounds h
  exact ⟨t.st.toNat,(t.sc + 4).toNat,t.ca.toNat,by omega,by omega,by omega,by omega,by omega,by omega⟩
theorem okR_parts {t : Trb} (h : t.okR = true) : 0 ≤ t.id ∧ t.id ≤ 65535 ∧ okS t.st t.sc t.ca = true := by
  have hb := okR_bounds h
  rw [okR_eq] at h
  simp only [Bool.and_eq_true] at h
  exact ⟨hb.1,hb.2.1,h.2⟩
theorem okR_mk {t : Trb} (h1 : 0 ≤ t.id) (h2 : t.id ≤ 65535) (h3 : okS t.st t.sc t.ca = true) : t.okR = true := by
  rw [okR_eq,h3,decide_eq_false (show ¬ t.id < 0 by omega),decide_eq_false (show ¬ t.id > 65535 by omega)]
  rfl
theorem tested_okR {t : Trb} (f : Bool) (h : t.okR = true) : (testedV t f).okR = true ∧ hasV (testedV t f).st 8 = false := by
  obtain ⟨n,s,c,hn,hs,hc,e1,e2,e3⟩ := okR_small h
  obtain ⟨h1,h2,h3⟩ := okR_parts h
  obtain ⟨f1,f2,f3⟩ := tested_of t f
  rw [e1,e2,e3] at f1 f2 f3 h3
  have := tested_all n hn s hs c hc f h3
  refine ⟨okR_mk (by rw [tested_id]; exact h1) (by rw [tested_id]; exact h2) (by rw [f1,f2,f3]; exact this.1),by rw [f1]; exact this.2⟩
theorem ridden_okR {t : Trb} (h : t.okR = true) : (riddenV t).okR = true ∧ (riddenV t).sc = t.sc ∧ hasV (riddenV t).st 8 = true ∧ bitsA .and .i64 (riddenV t).st 1 = bitsA .and .i64 t.st 1 := by
  obtain ⟨n,s,c,hn,hs,hc,e1,e2,e3⟩ := okR_small h
  obtain ⟨h1,h2,h3⟩ := okR_parts h
  obtain ⟨f1,f2,f3⟩ := ridden_of t
  rw [e1,e2,e3] at f1 f2 f3 h3
  have := ridden_all n hn s hs c hc h3
  have this2 := ridden_all2 n hn s hs c hc h3
  refine ⟨okR_mk (by rw [ridden_id]; exact h1) (by rw [ridden_id]; exact h2) (by rw [f1,f2,f3]; exact this.1),by rw [f2,e2]; exact this.2,by rw [f1]; exact this2.1,by rw [f1,e1]; exact this2.2⟩
theorem rep_ok (id : Int) (f : Bool) (hid : 0 ≤ id ∧ id ≤ 65535) : ∀ (l : List Trb) (p : Option Int),okFrom p l = true → ordR p id = true → okFrom p (rep l id f) = true
  | [],p,_,hp => by
    simp only [rep,okFrom,(tested_okR f (fresh_okR hid)).1,tested_id,Bool.true_and,Bool.and_true]
    exact hp
  | t :: r,p,h,hp => by
    simp only [okFrom,Bool.and_eq_true] at h
    obtain ⟨⟨h1,h2⟩,h3⟩ := h
    unfold rep
    split
    · rename_i hlt
      simp only [okFrom,h1,h2,Bool.true_and]
      exact rep_ok id f hid r _ h3 (by simp [ordR]; exact hlt)
    · rename_i hlt
      split
      · rename_i he
        simp only [okFrom,(tested_okR f h1).1,tested_id,h2,h3,Bool.true_and]
      · rename_i he
        simp only [okFrom,(tested_okR f (fresh_okR hid)).1,tested_id,h1,h3,Bool.true_and,Bool.and_true]
        rw [Bool.and_eq_true]
        refine ⟨hp,?_⟩
        have e : (freshT id).id = id := rfl
        simp only [ordR,e,Bool.not_eq_true',decide_eq_false_iff_not]
        omega
theorem report_right {l : List Trb} (id : Int) (f : Bool) (h : rightL l = true) : rightL (reportV l id f) = true := by
  rcases reportV_or l id f with e | ⟨h1,h2,h3,e⟩
  · rw [e]; exact h
  · have hf := rep_ok id f ⟨h1,h2⟩ l none (rightL_from h) rfl
    have hl := rightL_len h
    have hlen : (reportV l id f).length ≤ 16 := by
      rcases h3 with h3 | h3
      · have : (reportV l id f).length = l.length := by
          rw [reportV,if_neg (by rw [h3]; simp; omega)]
          have hI : isV l id = true := h3
          unfold isV at hI
          split
          · rename_i t ht
            rw [ht] at hI
            have := (List.getElem?_eq_some_iff.1 ht).1
            rw [if_pos (by simpa using hI)]
            simp
            omega
          · rename_i ht
            rw [ht] at hI
            cases hI
        omega
      · have := (report_len l id f).2
        omega
    rw [rightL,decide_eq_false (by omega),e,hf]
    rfl
theorem cyc_ok : ∀ (l : List Trb) (p : Option Int),okFrom p l = true → okFrom p (cycL l) = true
  | [],_,_ => rfl
  | t :: r,p,h => by
    simp only [okFrom,Bool.and_eq_true] at h
    obtain ⟨⟨h1,h2⟩,h3⟩ := h
    have ih := cyc_ok r (some t.id) h3
    show okFrom p (riddenV t :: cycL r) = true
    simp only [okFrom,(ridden_okR h1).1,ridden_id,h2,ih,Bool.true_and]
theorem cyc_right {l : List Trb} (h : rightL l = true) : rightL (cycL l) = true := by
  have hl := rightL_len h
  have hf := cyc_ok l none (rightL_from h)
  rw [rightL,decide_eq_false (by simp [cycL]; omega),hf]
  rfl
end Go.Proofs.Ytcdmhigmgpflbaa.Pe

