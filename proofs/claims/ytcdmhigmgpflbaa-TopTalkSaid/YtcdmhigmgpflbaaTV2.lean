import Derived.Test.YtcdmhigmgpflbaaTV1
namespace Go.Proofs.Ytcdmhigmgpflbaa.Pe
open Go.Pe Go.RowKit
open Nat renaming reduceAdd → zA,reduceSub → zB,reduceMul → zC,reduceLT → zD,reduceLeDiff → zE,reduceEqDiff → zF,reduceBEq → zG
open Int renaming reduceToNat → zH,reduceLT → zI,reduceLE → zJ,reduceEq → zK,reduceNe → zL,reduceAdd → zM,reduceSub → zN,reduceMul → zO,reduceNeg → zP
set_option maxRecDepth 20000
set_option maxHeartbeats 4000000
set_option linter.unusedSimpArgs false
set_option linter.unusedVariables false
def tkSt (asked : List (List UInt8)) (f g : List Int) (s : Srv) (i : Nat) : St := ⟨157,[(2,bytessPV asked),(3,intsPV f),(4,intsPV g),(11,PB true),(12,.ptr 0 0),(13,PI i)],[(0,.box 25 s.cells)],200,0⟩
def tkI (asked : List (List UInt8)) (f g : List Int) (m : Nat) (x : St) : Prop := ∃ (i : Nat) (s : Srv),i ≤ asked.length ∧ m = asked.length - i ∧ RightS s ∧ x = tkSt asked f g s i
theorem topTalk_calls (S : UInt32) (its : List Itm) (asked : List (List UInt8)) (f g : List Int) : PureCalls Try.prog 10 [.lit (.int .u32 S.toNat),itmsPV its,bytessPV asked,intsPV f,intsPV g] (PB true) := by
  refine PureCalls.of tabOK mixed Try.func10 rfl rfl (by decide +kernel) (by simp [Try.ntmps10]) ?_
  have wS := wr32 S
  have hS := u32_wide S
  simp only [go_sem,zA,zB,zC,zD,zE,zF,zG,zH,zI,zJ,zK,zL,zM,zN,zO,zP,↓reduceIte,reduceCtorEq,Try.ntmps10,Try.results10]
  (refine CallA.pure (top23_calls) (by simp only [go_sem,zA,zB,zC,zD,zE,zF,zG,zH,zI,zJ,zK,zL,zM,zN,zO,zP,↓reduceIte,reduceCtorEq,Try.ntmps10,Try.results10] <;> first | rfl | decide) ?_; simp only [go_sem,zA,zB,zC,zD,zE,zF,zG,zH,zI,zJ,zK,zL,zM,zN,zO,zP,↓reduceIte,reduceCtorEq,Try.ntmps10,Try.results10])
  by_cases h1 : its.length > 6
  · have g1 : decide ((its.length : Int) > 6) = true := decide_eq_true (by omega)
    simp only [go_sem,zA,zB,zC,zD,zE,zF,zG,zH,zI,zJ,zK,zL,zM,zN,zO,zP,↓reduceIte,reduceCtorEq,List.length_map,g1,Try.ntmps10,Try.results10]
  have g1 : decide ((its.length : Int) > 6) = false := decide_eq_false (by omega)
  by_cases h2 : asked.length > 8
  · have g2 : decide ((asked.length : Int) > 8) = true := decide_eq_true (by omega)
    simp only [go_sem,zA,zB,zC,zD,zE,zF,zG,zH,zI,zJ,zK,zL,zM,zN,zO,zP,↓reduceIte,reduceCtorEq,List.length_map,g1,g2,Try.ntmps10,Try.results10]
  have g2 : decide ((asked.length : Int) > 8) = false := decide_eq_false (by omega)
  by_cases h3 : f.length > 60
  · have g3 : decide ((f.length : Int) > 60) = true := decide_eq_true (by omega)
    simp only [go_sem,zA,zB,zC,zD,zE,zF,zG,zH,zI,zJ,zK,zL,zM,zN,zO,zP,↓reduceIte,reduceCtorEq,List.length_map,g1,g2,g3,Try.ntmps10,Try.results10]
  have g3 : decide ((f.length : Int) > 60) = false := decide_eq_false (by omega)
  by_cases h4 : g.length > 60
  · have g4 : decide ((g.length : Int) > 60) = true := decide_eq_true (by omega)
    simp only [go_sem,zA,zB,zC,zD,zE,zF,zG,zH,zI,zJ,zK,zL,zM,zN,zO,zP,↓reduceIte,reduceCtorEq,List.length_map,g1,g2,g3,g4,Try.ntmps10,Try.results10]
  have g4 : decide ((g.length : Int) > 60) = false := decide_eq_false (by omega)
  have c0 := newD_at (secret := S.toNat) (draw := 1) (l := its) (s := freshS S.toNat 1 its) (newSrv_u32 S 1 _)
  have c1 := rightS22_calls (freshS S.toNat 1 its) (by show its.length ≤ _; omega)
  simp only [go_sem,zA,zB,zC,zD,zE,zF,zG,zH,zI,zJ,zK,zL,zM,zN,zO,zP,↓reduceIte,reduceCtorEq,List.length_map,g1,g2,g3,g4]
  (refine CallA.pure (c0) (by simp only [go_sem,zA,zB,zC,zD,zE,zF,zG,zH,zI,zJ,zK,zL,zM,zN,zO,zP,↓reduceIte,reduceCtorEq,wS] <;> first | rfl | decide) ?_; simp only [go_sem,zA,zB,zC,zD,zE,zF,zG,zH,zI,zJ,zK,zL,zM,zN,zO,zP,↓reduceIte,reduceCtorEq,Srv.pv,Srv.cells,freshS])
  cases hr : rightS (freshS S.toNat 1 its) with
  | false =>
    rw [hr] at c1
    (refine CallA.pure (c1) (by simp only [go_sem,zA,zB,zC,zD,zE,zF,zG,zH,zI,zJ,zK,zL,zM,zN,zO,zP,↓reduceIte,reduceCtorEq,Srv.pv,Srv.cells,freshS,Try.ntmps10,Try.results10] <;> first | rfl | decide) ?_; simp only [go_sem,zA,zB,zC,zD,zE,zF,zG,zH,zI,zJ,zK,zL,zM,zN,zO,zP,↓reduceIte,reduceCtorEq,Srv.pv,Srv.cells,freshS,Try.ntmps10,Try.results10])
  | true =>
  rw [hr] at c1
  have r0 := rightS_iff.1 hr
  (refine CallA.pure (c1) (by simp only [go_sem,zA,zB,zC,zD,zE,zF,zG,zH,zI,zJ,zK,zL,zM,zN,zO,zP,↓reduceIte,reduceCtorEq,Srv.pv,Srv.cells,freshS] <;> first | rfl | decide) ?_; simp only [go_sem,zA,zB,zC,zD,zE,zF,zG,zH,zI,zJ,zK,zL,zM,zN,zO,zP,↓reduceIte,reduceCtorEq,Srv.pv,Srv.cells,freshS])
  refine wpA_loop (tkI asked f g) ⟨asked.length,_,?_,0,freshS S.toNat 1 its,by omega,rfl,r0,rfl⟩ ?_
  · simp only [go_sem,zA,zB,zC,zD,zE,zF,zG,zH,zI,zJ,zK,zL,zM,zN,zO,zP,↓reduceIte,reduceCtorEq,tkSt,Srv.cells,freshS,refsIn,refsInL,Blk.refsIn,Int.natCast_zero]
  clear c0 c1 hr r0
  rintro mm st ⟨i,s,hi,rfl,hs,rfl⟩
  by_cases hc : i < asked.length
  · have f1 : decide ((i : Int) < (asked.length : Int)) = true := decide_eq_true (by omega)
    have f3 : (i : Int) < (asked.length : Int) := by omega
    have f4 : (0 : Int) ≤ (i : Int) := by omega
    have f6 := rowsBs_getD hc
    have hw1 := wrapIN (i := i) (by omega)
    obtain ⟨q,hq⟩ : ∃ q,asked[i] = q := ⟨_,rfl⟩
    rw [hq] at f6
    simp only [go_sem,zA,zB,zC,zD,zE,zF,zG,zH,zI,zJ,zK,zL,zM,zN,zO,zP,↓reduceIte,reduceCtorEq,tkSt,Srv.cells,List.length_map,f1,f3,f4,f6,Int.toNat_natCast,List.headD_cons,List.length_cons,List.length_nil,Nat.le_add_left,rowsB_length]
    by_cases e1 : q.length = 0
    · have k1 : decide ((q.length : Int) = 0) = true := decide_eq_true (by omega)
      simp only [go_sem,zA,zB,zC,zD,zE,zF,zG,zH,zI,zJ,zK,zL,zM,zN,zO,zP,↓reduceIte,reduceCtorEq,k1,Try.ntmps10,Try.results10]
    have k1 : decide ((q.length : Int) = 0) = false := decide_eq_false (by omega)
    by_cases e2 : q.length > 100
    · have k2 : decide ((q.length : Int) > 100) = true := decide_eq_true (by omega)
      simp only [go_sem,zA,zB,zC,zD,zE,zF,zG,zH,zI,zJ,zK,zL,zM,zN,zO,zP,↓reduceIte,reduceCtorEq,k1,k2,rowsB_length,Try.ntmps10,Try.results10]
    have k2 : decide ((q.length : Int) > 100) = false := decide_eq_false (by omega)
    simp only [go_sem,zA,zB,zC,zD,zE,zF,zG,zH,zI,zJ,zK,zL,zM,zN,zO,zP,↓reduceIte,reduceCtorEq,k1,k2,rowsB_length]
    have a1 := ask_calls s q hs.fits
    have r1 := ask_right hs q
    have t1 := talk_calls s q f g hs.fits
    have t2 := talk_calls s q [] [] hs.fits
    rw [talk_thru hs (by omega) (by omega)] at t2
    have any := talk_any s q f g
    generalize talkV s q f g = x at t1 any
    generalize askV s q = w at a1 r1 t2 any
    obtain ⟨w,a,on⟩ := w
    obtain ⟨x,b,p,ok⟩ := x
    simp only [Prod.mk.injEq] at any
    have sw := same_at (a := w) (b := w) (r := true) (by simp) r1.fits.items r1.fits.dtc
    have sb := Lk.sameB_calls a a
    rw [decide_eq_true rfl] at sb
    (refine CallA.pure (a1) (by simp only [go_sem,zA,zB,zC,zD,zE,zF,zG,zH,zI,zJ,zK,zL,zM,zN,zO,zP,↓reduceIte,reduceCtorEq,Srv.pv,Srv.cells] <;> first | rfl | decide) ?_; simp only [go_sem,zA,zB,zC,zD,zE,zF,zG,zH,zI,zJ,zK,zL,zM,zN,zO,zP,↓reduceIte,reduceCtorEq,Srv.pv,Srv.cells])
    (refine CallA.pure (t1) (by simp only [go_sem,zA,zB,zC,zD,zE,zF,zG,zH,zI,zJ,zK,zL,zM,zN,zO,zP,↓reduceIte,reduceCtorEq,Srv.pv,Srv.cells] <;> first | rfl | decide) ?_; simp only [go_sem,zA,zB,zC,zD,zE,zF,zG,zH,zI,zJ,zK,zL,zM,zN,zO,zP,↓reduceIte,reduceCtorEq,Srv.pv,Srv.cells])
    (refine CallA.pure (t2) (by simp only [go_sem,zA,zB,zC,zD,zE,zF,zG,zH,zI,zJ,zK,zL,zM,zN,zO,zP,↓reduceIte,reduceCtorEq,Srv.pv,Srv.cells,List.map_nil] <;> first | rfl | decide) ?_; simp only [go_sem,zA,zB,zC,zD,zE,zF,zG,zH,zI,zJ,zK,zL,zM,zN,zO,zP,↓reduceIte,reduceCtorEq,Srv.pv,Srv.cells,List.map_nil])
    have hfit := hs.fits
    rcases any with ⟨rfl,rfl,rfl,rfl⟩ | ⟨rfl,rfl,rfl,rfl⟩ | ⟨rfl,rfl,rfl,rfl⟩
    · by_cases he : x = w
      · subst he
        (refine CallA.pure (sw) (by simp only [go_sem,zA,zB,zC,zD,zE,zF,zG,zH,zI,zJ,zK,zL,zM,zN,zO,zP,↓reduceIte,reduceCtorEq,Srv.pv,Srv.cells] <;> first | rfl | decide) ?_; simp only [go_sem,zA,zB,zC,zD,zE,zF,zG,zH,zI,zJ,zK,zL,zM,zN,zO,zP,↓reduceIte,reduceCtorEq,Srv.pv,Srv.cells])
        cases on with
        | true =>
          (refine CallA.pure (sw) (by simp only [go_sem,zA,zB,zC,zD,zE,zF,zG,zH,zI,zJ,zK,zL,zM,zN,zO,zP,↓reduceIte,reduceCtorEq,Srv.pv,Srv.cells] <;> first | rfl | decide) ?_; simp only [go_sem,zA,zB,zC,zD,zE,zF,zG,zH,zI,zJ,zK,zL,zM,zN,zO,zP,↓reduceIte,reduceCtorEq,Srv.pv,Srv.cells])
          refine ⟨asked.length - (i + 1),_,by omega,?_,i + 1,x,by omega,rfl,r1,rfl⟩
          simp only [go_sem,zA,zB,zC,zD,zE,zF,zG,zH,zI,zJ,zK,zL,zM,zN,zO,zP,↓reduceIte,reduceCtorEq,tkSt,hw1,Srv.cells,refsIn,refsInL,Blk.refsIn]
        | false =>
          (refine CallA.pure (sw) (by simp only [go_sem,zA,zB,zC,zD,zE,zF,zG,zH,zI,zJ,zK,zL,zM,zN,zO,zP,↓reduceIte,reduceCtorEq,Srv.pv,Srv.cells] <;> first | rfl | decide) ?_; simp only [go_sem,zA,zB,zC,zD,zE,zF,zG,zH,zI,zJ,zK,zL,zM,zN,zO,zP,↓reduceIte,reduceCtorEq,Srv.pv,Srv.cells])
          (refine CallA.pure (sb) (by simp only [go_sem,zA,zB,zC,zD,zE,zF,zG,zH,zI,zJ,zK,zL,zM,zN,zO,zP,↓reduceIte,reduceCtorEq] <;> first | rfl | decide) ?_; simp only [go_sem,zA,zB,zC,zD,zE,zF,zG,zH,zI,zJ,zK,zL,zM,zN,zO,zP,↓reduceIte,reduceCtorEq])
          refine ⟨asked.length - (i + 1),_,by omega,?_,i + 1,x,by omega,rfl,r1,rfl⟩
          simp only [go_sem,zA,zB,zC,zD,zE,zF,zG,zH,zI,zJ,zK,zL,zM,zN,zO,zP,↓reduceIte,reduceCtorEq,tkSt,hw1,Srv.cells,refsIn,refsInL,Blk.refsIn]
      · have s1 := same_at (a := x) (b := w) (r := false) (by simp [he]) hfit.items hfit.dtc
        have s2 := same_at (a := x) (b := x) (r := true) (by simp) hfit.items hfit.dtc
        (refine CallA.pure (s1) (by simp only [go_sem,zA,zB,zC,zD,zE,zF,zG,zH,zI,zJ,zK,zL,zM,zN,zO,zP,↓reduceIte,reduceCtorEq,Srv.pv,Srv.cells] <;> first | rfl | decide) ?_; simp only [go_sem,zA,zB,zC,zD,zE,zF,zG,zH,zI,zJ,zK,zL,zM,zN,zO,zP,↓reduceIte,reduceCtorEq,Srv.pv,Srv.cells])
        (refine CallA.pure (s2) (by simp only [go_sem,zA,zB,zC,zD,zE,zF,zG,zH,zI,zJ,zK,zL,zM,zN,zO,zP,↓reduceIte,reduceCtorEq,Srv.pv,Srv.cells] <;> first | rfl | decide) ?_; simp only [go_sem,zA,zB,zC,zD,zE,zF,zG,zH,zI,zJ,zK,zL,zM,zN,zO,zP,↓reduceIte,reduceCtorEq,Srv.pv,Srv.cells])
        cases on with
        | true =>
          (refine CallA.pure (sw) (by simp only [go_sem,zA,zB,zC,zD,zE,zF,zG,zH,zI,zJ,zK,zL,zM,zN,zO,zP,↓reduceIte,reduceCtorEq,Srv.pv,Srv.cells] <;> first | rfl | decide) ?_; simp only [go_sem,zA,zB,zC,zD,zE,zF,zG,zH,zI,zJ,zK,zL,zM,zN,zO,zP,↓reduceIte,reduceCtorEq,Srv.pv,Srv.cells])
          refine ⟨asked.length - (i + 1),_,by omega,?_,i + 1,w,by omega,rfl,r1,rfl⟩
          simp only [go_sem,zA,zB,zC,zD,zE,zF,zG,zH,zI,zJ,zK,zL,zM,zN,zO,zP,↓reduceIte,reduceCtorEq,tkSt,hw1,Srv.cells,refsIn,refsInL,Blk.refsIn]
        | false =>
          (refine CallA.pure (sw) (by simp only [go_sem,zA,zB,zC,zD,zE,zF,zG,zH,zI,zJ,zK,zL,zM,zN,zO,zP,↓reduceIte,reduceCtorEq,Srv.pv,Srv.cells] <;> first | rfl | decide) ?_; simp only [go_sem,zA,zB,zC,zD,zE,zF,zG,zH,zI,zJ,zK,zL,zM,zN,zO,zP,↓reduceIte,reduceCtorEq,Srv.pv,Srv.cells])
          (refine CallA.pure (sb) (by simp only [go_sem,zA,zB,zC,zD,zE,zF,zG,zH,zI,zJ,zK,zL,zM,zN,zO,zP,↓reduceIte,reduceCtorEq] <;> first | rfl | decide) ?_; simp only [go_sem,zA,zB,zC,zD,zE,zF,zG,zH,zI,zJ,zK,zL,zM,zN,zO,zP,↓reduceIte,reduceCtorEq])
          refine ⟨asked.length - (i + 1),_,by omega,?_,i + 1,w,by omega,rfl,r1,rfl⟩
          simp only [go_sem,zA,zB,zC,zD,zE,zF,zG,zH,zI,zJ,zK,zL,zM,zN,zO,zP,↓reduceIte,reduceCtorEq,tkSt,hw1,Srv.cells,refsIn,refsInL,Blk.refsIn]
    · (refine CallA.pure (sw) (by simp only [go_sem,zA,zB,zC,zD,zE,zF,zG,zH,zI,zJ,zK,zL,zM,zN,zO,zP,↓reduceIte,reduceCtorEq,Srv.pv,Srv.cells] <;> first | rfl | decide) ?_; simp only [go_sem,zA,zB,zC,zD,zE,zF,zG,zH,zI,zJ,zK,zL,zM,zN,zO,zP,↓reduceIte,reduceCtorEq,Srv.pv,Srv.cells])
      (refine CallA.pure (sw) (by simp only [go_sem,zA,zB,zC,zD,zE,zF,zG,zH,zI,zJ,zK,zL,zM,zN,zO,zP,↓reduceIte,reduceCtorEq,Srv.pv,Srv.cells] <;> first | rfl | decide) ?_; simp only [go_sem,zA,zB,zC,zD,zE,zF,zG,zH,zI,zJ,zK,zL,zM,zN,zO,zP,↓reduceIte,reduceCtorEq,Srv.pv,Srv.cells])
      cases p with
      | true =>
        simp only [go_sem,zA,zB,zC,zD,zE,zF,zG,zH,zI,zJ,zK,zL,zM,zN,zO,zP,↓reduceIte,reduceCtorEq]
        (refine CallA.pure (sw) (by simp only [go_sem,zA,zB,zC,zD,zE,zF,zG,zH,zI,zJ,zK,zL,zM,zN,zO,zP,↓reduceIte,reduceCtorEq,Srv.pv,Srv.cells] <;> first | rfl | decide) ?_; simp only [go_sem,zA,zB,zC,zD,zE,zF,zG,zH,zI,zJ,zK,zL,zM,zN,zO,zP,↓reduceIte,reduceCtorEq,Srv.pv,Srv.cells])
        refine ⟨asked.length - (i + 1),_,by omega,?_,i + 1,x,by omega,rfl,r1,rfl⟩
        simp only [go_sem,zA,zB,zC,zD,zE,zF,zG,zH,zI,zJ,zK,zL,zM,zN,zO,zP,↓reduceIte,reduceCtorEq,tkSt,hw1,Srv.cells,refsIn,refsInL,Blk.refsIn]
      | false =>
        simp only [go_sem,zA,zB,zC,zD,zE,zF,zG,zH,zI,zJ,zK,zL,zM,zN,zO,zP,↓reduceIte,reduceCtorEq]
        (refine CallA.pure (sb) (by simp only [go_sem,zA,zB,zC,zD,zE,zF,zG,zH,zI,zJ,zK,zL,zM,zN,zO,zP,↓reduceIte,reduceCtorEq,Srv.pv,Srv.cells] <;> first | rfl | decide) ?_; simp only [go_sem,zA,zB,zC,zD,zE,zF,zG,zH,zI,zJ,zK,zL,zM,zN,zO,zP,↓reduceIte,reduceCtorEq,Srv.pv,Srv.cells])
        (refine CallA.pure (sw) (by simp only [go_sem,zA,zB,zC,zD,zE,zF,zG,zH,zI,zJ,zK,zL,zM,zN,zO,zP,↓reduceIte,reduceCtorEq,Srv.pv,Srv.cells] <;> first | rfl | decide) ?_; simp only [go_sem,zA,zB,zC,zD,zE,zF,zG,zH,zI,zJ,zK,zL,zM,zN,zO,zP,↓reduceIte,reduceCtorEq,Srv.pv,Srv.cells])
        (refine CallA.pure (sb) (by simp only [go_sem,zA,zB,zC,zD,zE,zF,zG,zH,zI,zJ,zK,zL,zM,zN,zO,zP,↓reduceIte,reduceCtorEq] <;> first | rfl | decide) ?_; simp only [go_sem,zA,zB,zC,zD,zE,zF,zG,zH,zI,zJ,zK,zL,zM,zN,zO,zP,↓reduceIte,reduceCtorEq])
        refine ⟨asked.length - (i + 1),_,by omega,?_,i + 1,x,by omega,rfl,r1,rfl⟩
        simp only [go_sem,zA,zB,zC,zD,zE,zF,zG,zH,zI,zJ,zK,zL,zM,zN,zO,zP,↓reduceIte,reduceCtorEq,tkSt,hw1,Srv.cells,refsIn,refsInL,Blk.refsIn]
    · (refine CallA.pure (sw) (by simp only [go_sem,zA,zB,zC,zD,zE,zF,zG,zH,zI,zJ,zK,zL,zM,zN,zO,zP,↓reduceIte,reduceCtorEq,Srv.pv,Srv.cells] <;> first | rfl | decide) ?_; simp only [go_sem,zA,zB,zC,zD,zE,zF,zG,zH,zI,zJ,zK,zL,zM,zN,zO,zP,↓reduceIte,reduceCtorEq,Srv.pv,Srv.cells])
      cases on with
      | true =>
        (refine CallA.pure (sw) (by simp only [go_sem,zA,zB,zC,zD,zE,zF,zG,zH,zI,zJ,zK,zL,zM,zN,zO,zP,↓reduceIte,reduceCtorEq,Srv.pv,Srv.cells] <;> first | rfl | decide) ?_; simp only [go_sem,zA,zB,zC,zD,zE,zF,zG,zH,zI,zJ,zK,zL,zM,zN,zO,zP,↓reduceIte,reduceCtorEq,Srv.pv,Srv.cells])
        refine ⟨asked.length - (i + 1),_,by omega,?_,i + 1,x,by omega,rfl,r1,rfl⟩
        simp only [go_sem,zA,zB,zC,zD,zE,zF,zG,zH,zI,zJ,zK,zL,zM,zN,zO,zP,↓reduceIte,reduceCtorEq,tkSt,hw1,Srv.cells,refsIn,refsInL,Blk.refsIn]
      | false =>
        (refine CallA.pure (sw) (by simp only [go_sem,zA,zB,zC,zD,zE,zF,zG,zH,zI,zJ,zK,zL,zM,zN,zO,zP,↓reduceIte,reduceCtorEq,Srv.pv,Srv.cells] <;> first | rfl | decide) ?_; simp only [go_sem,zA,zB,zC,zD,zE,zF,zG,zH,zI,zJ,zK,zL,zM,zN,zO,zP,↓reduceIte,reduceCtorEq,Srv.pv,Srv.cells])
        (refine CallA.pure (sb) (by simp only [go_sem,zA,zB,zC,zD,zE,zF,zG,zH,zI,zJ,zK,zL,zM,zN,zO,zP,↓reduceIte,reduceCtorEq] <;> first | rfl | decide) ?_; simp only [go_sem,zA,zB,zC,zD,zE,zF,zG,zH,zI,zJ,zK,zL,zM,zN,zO,zP,↓reduceIte,reduceCtorEq])
        refine ⟨asked.length - (i + 1),_,by omega,?_,i + 1,x,by omega,rfl,r1,rfl⟩
        simp only [go_sem,zA,zB,zC,zD,zE,zF,zG,zH,zI,zJ,zK,zL,zM,zN,zO,zP,↓reduceIte,reduceCtorEq,tkSt,hw1,Srv.cells,refsIn,refsInL,Blk.refsIn]
  · have f1 : decide ((i : Int) < (asked.length : Int)) = false := decide_eq_false (by omega)
    simp only [go_sem,zA,zB,zC,zD,zE,zF,zG,zH,zI,zJ,zK,zL,zM,zN,zO,zP,↓reduceIte,reduceCtorEq,tkSt,Srv.cells,List.length_map,f1,Try.ntmps10,Try.results10]
end Go.Proofs.Ytcdmhigmgpflbaa.Pe

