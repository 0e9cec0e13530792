import Derived.Test.YtcdmhigmgpflbaaTV1
import Derived.Test.YtcdmhigmgpflbaaDLd
namespace Go.Proofs.Ytcdmhigmgpflbaa.Pe
open Go.Pe Go.RowKit
open Nat renaming reduceAdd → zA,reduceSub → zB,reduceMul → zC,reduceLT → zD,reduceLeDiff → zE,reduceEqDiff → zF,reduceBEq → zG
open Int renaming reduceToNat → zH,reduceLT → zI,reduceLE → zJ,reduceEq → zK,reduceNe → zL,reduceAdd → zM,reduceSub → zN,reduceMul → zO,reduceNeg → zP
set_option maxRecDepth 20000
set_option maxHeartbeats 4000000
set_option linter.unusedSimpArgs false
set_option linter.unusedVariables false
theorem ask_dtc (s : Srv) (q : List UInt8) : (askV s q).1.dtc = s.dtc ∨ s.ses = 2 := by
  cases q with
  | nil => exact .inl rfl
  | cons c r =>
    unfold askV
    have h1 : ({ s with quiet := 0 } : Srv).dtc = s.dtc := rfl
    have h2 : ({ s with quiet := 0 } : Srv).ses = s.ses := rfl
    rw [← h1,← h2]
    clear h1 h2
    generalize ({ s with quiet := 0 } : Srv) = t
    simp only
    split
    · unfold sesA; repeat' split
      all_goals exact .inl rfl
    split
    · unfold unlA seedA keyA; repeat' split
      all_goals exact .inl rfl
    split
    · unfold readA; repeat' split
      all_goals exact .inl rfl
    split
    · unfold writeA; repeat' split
      all_goals exact .inl rfl
    split
    · unfold forgetA; repeat' split
      all_goals first | exact .inl rfl | (rename_i h; exact .inr h)
    split
    · unfold maskA; repeat' split
      all_goals exact .inl rfl
    split
    · unfold hereA; repeat' split
      all_goals exact .inl rfl
    split
    · unfold handA; repeat' split
      all_goals exact .inl rfl
    · exact .inl rfl
theorem itmRows_getD {l : List Itm} {i : Nat} (h : i < l.length) : (itmRows l).getD i [] = [PI l[i].id,PB l[i].wr,bytesPV l[i].data] := by
  simp [itmRows,List.getD_eq_getElem?_getD,h,Itm.cells]
def hutSt (asked : List (List UInt8)) (s : Srv) (i : Nat) : St := ⟨146,[(3,bytessPV asked),(9,PB true),(10,.ptr 0 0),(11,PI i)],[(0,.box 25 s.cells)],200,0⟩
def hutI (asked : List (List UInt8)) (m : Nat) (x : St) : Prop := ∃ (i : Nat) (s : Srv),i ≤ asked.length ∧ m = asked.length - i ∧ RightS s ∧ s.op = false ∧ x = hutSt asked s i
def hinSt (asked : List (List UInt8)) (s t : Srv) (i k : Nat) : St := ⟨146,[(3,bytessPV asked),(9,PB true),(10,.ptr 0 0),(11,PI i),(13,.ptr 200 0),(16,PI k)],[(200,.box 25 t.cells),(0,.box 25 s.cells)],300,0⟩
def hinI (asked : List (List UInt8)) (s t : Srv) (i : Nat) (m : Nat) (x : St) : Prop := ∃ k : Nat,k ≤ s.items.length ∧ m = s.items.length - k ∧ x = hinSt asked s t i k
theorem topShut_calls (S : UInt32) (its : List Itm) (dtc : List Trb) (asked : List (List UInt8)) : PureCalls Try.prog 19 [.lit (.int .u32 S.toNat),itmsPV its,trbsPV dtc,bytessPV asked] (PB true) := by
  refine PureCalls.of tabOK mixed Try.func19 rfl rfl (by decide +kernel) (by simp [Try.ntmps19]) ?_
  have wS := wr32 S
  have hS := u32_wide S
  simp only [go_sem,zA,zB,zC,zD,zE,zF,zG,zH,zI,zJ,zK,zL,zM,zN,zO,zP,↓reduceIte,reduceCtorEq,Try.ntmps19,Try.results19]
  (refine CallA.pure (top23_calls) (by simp only [go_sem,zA,zB,zC,zD,zE,zF,zG,zH,zI,zJ,zK,zL,zM,zN,zO,zP,↓reduceIte,reduceCtorEq,Try.ntmps19,Try.results19] <;> first | rfl | decide) ?_; simp only [go_sem,zA,zB,zC,zD,zE,zF,zG,zH,zI,zJ,zK,zL,zM,zN,zO,zP,↓reduceIte,reduceCtorEq,Try.ntmps19,Try.results19])
  by_cases h1 : its.length > 6
  · have g1 : decide ((its.length : Int) > 6) = true := decide_eq_true (by omega)
    simp only [go_sem,zA,zB,zC,zD,zE,zF,zG,zH,zI,zJ,zK,zL,zM,zN,zO,zP,↓reduceIte,reduceCtorEq,List.length_map,g1,Try.ntmps19,Try.results19]
  have g1 : decide ((its.length : Int) > 6) = false := decide_eq_false (by omega)
  by_cases h2 : asked.length > 20
  · have g2 : decide ((asked.length : Int) > 20) = true := decide_eq_true (by omega)
    simp only [go_sem,zA,zB,zC,zD,zE,zF,zG,zH,zI,zJ,zK,zL,zM,zN,zO,zP,↓reduceIte,reduceCtorEq,List.length_map,g1,g2,Try.ntmps19,Try.results19]
  have g2 : decide ((asked.length : Int) > 20) = false := decide_eq_false (by omega)
  by_cases h3 : dtc.length > 16
  · have g3 : decide ((dtc.length : Int) > 16) = true := decide_eq_true (by omega)
    simp only [go_sem,zA,zB,zC,zD,zE,zF,zG,zH,zI,zJ,zK,zL,zM,zN,zO,zP,↓reduceIte,reduceCtorEq,List.length_map,g1,g2,g3,Try.ntmps19,Try.results19]
  have g3 : decide ((dtc.length : Int) > 16) = false := decide_eq_false (by omega)
  have c0 := newD_at (secret := S.toNat) (draw := 1) (l := its) (s := freshS S.toNat 1 its) (newSrv_u32 S 1 _)
  have c1 := rightS22_calls { freshS S.toNat 1 its with dtc := dtc } (by show its.length ≤ _; omega)
  simp only [go_sem,zA,zB,zC,zD,zE,zF,zG,zH,zI,zJ,zK,zL,zM,zN,zO,zP,↓reduceIte,reduceCtorEq,List.length_map,g1,g2,g3]
  (refine CallA.pure (c0) (by simp only [go_sem,zA,zB,zC,zD,zE,zF,zG,zH,zI,zJ,zK,zL,zM,zN,zO,zP,↓reduceIte,reduceCtorEq,wS] <;> first | rfl | decide) ?_; simp only [go_sem,zA,zB,zC,zD,zE,zF,zG,zH,zI,zJ,zK,zL,zM,zN,zO,zP,↓reduceIte,reduceCtorEq,Srv.pv,Srv.cells,freshS])
  cases hr : rightS { freshS S.toNat 1 its with dtc := dtc } with
  | false =>
    rw [hr] at c1
    (refine CallA.pure (c1) (by simp only [go_sem,zA,zB,zC,zD,zE,zF,zG,zH,zI,zJ,zK,zL,zM,zN,zO,zP,↓reduceIte,reduceCtorEq,Srv.pv,Srv.cells,freshS,Try.ntmps19,Try.results19] <;> first | rfl | decide) ?_; simp only [go_sem,zA,zB,zC,zD,zE,zF,zG,zH,zI,zJ,zK,zL,zM,zN,zO,zP,↓reduceIte,reduceCtorEq,Srv.pv,Srv.cells,freshS,Try.ntmps19,Try.results19])
  | true =>
  rw [hr] at c1
  have r0 := rightS_iff.1 hr
  (refine CallA.pure (c1) (by simp only [go_sem,zA,zB,zC,zD,zE,zF,zG,zH,zI,zJ,zK,zL,zM,zN,zO,zP,↓reduceIte,reduceCtorEq,Srv.pv,Srv.cells,freshS] <;> first | rfl | decide) ?_; simp only [go_sem,zA,zB,zC,zD,zE,zF,zG,zH,zI,zJ,zK,zL,zM,zN,zO,zP,↓reduceIte,reduceCtorEq,Srv.pv,Srv.cells,freshS])
  refine wpA_loop (hutI asked) ⟨asked.length,_,?_,0,{ freshS S.toNat 1 its with dtc := dtc },by omega,rfl,r0,rfl,rfl⟩ ?_
  · simp only [go_sem,zA,zB,zC,zD,zE,zF,zG,zH,zI,zJ,zK,zL,zM,zN,zO,zP,↓reduceIte,reduceCtorEq,hutSt,Srv.cells,freshS,refsIn,refsInL,Blk.refsIn,Int.natCast_zero]
  clear c0 c1 hr r0
  rintro mm st ⟨i,s,hi,rfl,hs,hop,rfl⟩
  by_cases hc : i < asked.length
  · have f1 : decide ((i : Int) < (asked.length : Int)) = true := decide_eq_true (by omega)
    have f3 : (i : Int) < (asked.length : Int) := by omega
    have f4 : (0 : Int) ≤ (i : Int) := by omega
    have f6 := rowsBs_getD hc
    have hw1 := wrapIN (i := i) (by omega)
    obtain ⟨q,hq⟩ : ∃ q,asked[i] = q := ⟨_,rfl⟩
    rw [hq] at f6
    simp only [go_sem,zA,zB,zC,zD,zE,zF,zG,zH,zI,zJ,zK,zL,zM,zN,zO,zP,↓reduceIte,reduceCtorEq,hutSt,Srv.cells,List.length_map,f1,f3,f4,f6,Int.toNat_natCast,List.headD_cons,List.length_cons,List.length_nil,Nat.le_add_left,rowsB_length]
    by_cases e1 : q.length > 100
    · have k1 : decide ((q.length : Int) > 100) = true := decide_eq_true (by omega)
      simp only [go_sem,zA,zB,zC,zD,zE,zF,zG,zH,zI,zJ,zK,zL,zM,zN,zO,zP,↓reduceIte,reduceCtorEq,k1,Try.ntmps19,Try.results19]
    have k1 : decide ((q.length : Int) > 100) = false := decide_eq_false (by omega)
    by_cases e2 : q.length ≥ 2
    · obtain ⟨c,d,r,hcd⟩ : ∃ c d r,q = c :: d :: r := by
        match q,e2 with
        | c :: d :: r,_ => exact ⟨c,d,r,rfl⟩
      have k2 : decide ((q.length : Int) ≥ 2) = true := decide_eq_true (by omega)
      have z0 : (rowsB q).getD 0 [] = [.lit (.int .u8 c.toNat)] := by rw [hcd]; rfl
      have z1 : (rowsB q).getD 1 [] = [.lit (.int .u8 d.toNat)] := by rw [hcd]; rfl
      have i0 : (0 : Int) < (q.length : Int) := by omega
      have i1 : (1 : Int) < (q.length : Int) := by omega
      by_cases hc39 : (c.toNat : Int) = 39
      · have k3 : decide ((c.toNat : Int) = 39) = true := decide_eq_true hc39
        by_cases hd1 : (d.toNat : Int) = 1
        · have k4 : decide ((d.toNat : Int) = 1) = true := decide_eq_true hd1
          have hk : NoKey s q := fun k h => by
            rw [hcd] at h
            obtain ⟨_,h⟩ := List.cons.inj h
            obtain ⟨h,_⟩ := List.cons.inj h
            rw [h] at hd1
            exact absurd hd1 (by decide)
          simp only [go_sem,zA,zB,zC,zD,zE,zF,zG,zH,zI,zJ,zK,zL,zM,zN,zO,zP,↓reduceIte,reduceCtorEq,k1,k2,k3,k4,z0,z1,i0,i1,rowsB_length,List.headD_cons,List.length_cons,List.length_nil,Nat.le_add_left,Bool.not_true]
          have a1 := ask_calls s (q) hs.fits
          have sh := ask_shut hop hk
          have hdt := ask_dtc s (q)
          have r1 := ask_right hs (q)
          generalize askV s (q) = w at a1 sh hdt r1
          obtain ⟨t,a,on⟩ := w
          obtain ⟨to,h2,ti⟩ := sh
          simp only at to h2 ti hdt
          subst h2
          have lti : decide ((s.items.length : Int) = (s.items.length : Int)) = true := decide_eq_true rfl
          have hsil := hs.fits.items
          (refine CallA.pure (a1) (by simp only [go_sem,zA,zB,zC,zD,zE,zF,zG,zH,zI,zJ,zK,zL,zM,zN,zO,zP,↓reduceIte,reduceCtorEq,Srv.pv,Srv.cells] <;> first | rfl | decide) ?_; simp only [go_sem,zA,zB,zC,zD,zE,zF,zG,zH,zI,zJ,zK,zL,zM,zN,zO,zP,↓reduceIte,reduceCtorEq,Srv.pv,Srv.cells])
          have hgo : decide ((t.dtc.length : Int) = (s.dtc.length : Int)) = true ∨ (decide ((t.dtc.length : Int) = (s.dtc.length : Int)) = false ∧ decide (s.ses = 2) = true) := by
            by_cases he : (t.dtc.length : Int) = (s.dtc.length : Int)
            · exact .inl (decide_eq_true he)
            · rcases hdt with e | e
              · exact absurd (by rw [e]) he
              · exact .inr ⟨decide_eq_false he,decide_eq_true e⟩
          rcases hgo with k3 | ⟨k3,k4⟩
          · simp only [go_sem,zA,zB,zC,zD,zE,zF,zG,zH,zI,zJ,zK,zL,zM,zN,zO,zP,↓reduceIte,reduceCtorEq,to,ti,List.length_map,lti,k3,Bool.not_true]
            refine wpA_loop (hinI asked s t i) ⟨s.items.length,_,?_,0,by omega,rfl,rfl⟩ ?_
            · simp only [go_sem,zA,zB,zC,zD,zE,zF,zG,zH,zI,zJ,zK,zL,zM,zN,zO,zP,↓reduceIte,reduceCtorEq,hinSt,Srv.cells,to,ti,Int.natCast_zero,refsIn,refsInL,Blk.refsIn]
            rintro mm st ⟨k,hk3,rfl,rfl⟩
            by_cases hkc : k < s.items.length
            · have m1 : decide ((k : Int) < (s.items.length : Int)) = true := decide_eq_true (by omega)
              have m2 : (0 : Int) ≤ (k : Int) ∧ (k : Int) < (s.items.length : Int) := by omega
              have m3 := itmRows_getD hkc
              have hwk := wrapIN (i := k) (by omega)
              generalize s.items[k] = it at m3
              have sb := Lk.sameB_calls it.data it.data
              rw [decide_eq_true rfl] at sb
              have m4 : decide (it.id = it.id) = true := decide_eq_true rfl
              simp only [go_sem,zA,zB,zC,zD,zE,zF,zG,zH,zI,zJ,zK,zL,zM,zN,zO,zP,↓reduceIte,reduceCtorEq,hinSt,Srv.cells,to,ti,List.length_map,m1,m2.1,m2.2,m3,m4,Int.toNat_natCast,List.headD_cons,List.length_cons,List.length_nil,Nat.le_add_left,List.drop_succ_cons,List.drop_zero,Bool.not_true]
              (refine callD_pure (sb) (by simp only [go_sem,zA,zB,zC,zD,zE,zF,zG,zH,zI,zJ,zK,zL,zM,zN,zO,zP,↓reduceIte,reduceCtorEq] <;> first | rfl | decide) ?_; simp only [go_sem,zA,zB,zC,zD,zE,zF,zG,zH,zI,zJ,zK,zL,zM,zN,zO,zP,↓reduceIte,reduceCtorEq])
              refine endD_intro (by decide +kernel) ?_
              simp only [go_sem,zA,zB,zC,zD,zE,zF,zG,zH,zI,zJ,zK,zL,zM,zN,zO,zP,↓reduceIte,reduceCtorEq]
              refine ⟨s.items.length - (k + 1),_,by omega,?_,k + 1,by omega,rfl,rfl⟩
              simp only [go_sem,zA,zB,zC,zD,zE,zF,zG,zH,zI,zJ,zK,zL,zM,zN,zO,zP,↓reduceIte,reduceCtorEq,hinSt,Srv.cells,to,ti,hwk,refsIn,refsInL,Blk.refsIn]
            · have m1 : decide ((k : Int) < (s.items.length : Int)) = false := decide_eq_false (by omega)
              simp only [go_sem,zA,zB,zC,zD,zE,zF,zG,zH,zI,zJ,zK,zL,zM,zN,zO,zP,↓reduceIte,reduceCtorEq,hinSt,Srv.cells,List.length_map,m1]
              refine ⟨asked.length - (i + 1),_,by omega,?_,i + 1,t,by omega,rfl,r1,to,rfl⟩
              simp only [go_sem,zA,zB,zC,zD,zE,zF,zG,zH,zI,zJ,zK,zL,zM,zN,zO,zP,↓reduceIte,reduceCtorEq,hutSt,Srv.cells,hw1,to,ti,refsIn,refsInL,Blk.refsIn]
          · simp only [go_sem,zA,zB,zC,zD,zE,zF,zG,zH,zI,zJ,zK,zL,zM,zN,zO,zP,↓reduceIte,reduceCtorEq,to,ti,List.length_map,lti,k3,k4,Bool.not_true,Bool.not_false]
            refine wpA_loop (hinI asked s t i) ⟨s.items.length,_,?_,0,by omega,rfl,rfl⟩ ?_
            · simp only [go_sem,zA,zB,zC,zD,zE,zF,zG,zH,zI,zJ,zK,zL,zM,zN,zO,zP,↓reduceIte,reduceCtorEq,hinSt,Srv.cells,to,ti,Int.natCast_zero,refsIn,refsInL,Blk.refsIn]
            rintro mm st ⟨k,hk3,rfl,rfl⟩
            by_cases hkc : k < s.items.length
            · have m1 : decide ((k : Int) < (s.items.length : Int)) = true := decide_eq_true (by omega)
              have m2 : (0 : Int) ≤ (k : Int) ∧ (k : Int) < (s.items.length : Int) := by omega
              have m3 := itmRows_getD hkc
              have hwk := wrapIN (i := k) (by omega)
              generalize s.items[k] = it at m3
              have sb := Lk.sameB_calls it.data it.data
              rw [decide_eq_true rfl] at sb
              have m4 : decide (it.id = it.id) = true := decide_eq_true rfl
              simp only [go_sem,zA,zB,zC,zD,zE,zF,zG,zH,zI,zJ,zK,zL,zM,zN,zO,zP,↓reduceIte,reduceCtorEq,hinSt,Srv.cells,to,ti,List.length_map,m1,m2.1,m2.2,m3,m4,Int.toNat_natCast,List.headD_cons,List.length_cons,List.length_nil,Nat.le_add_left,List.drop_succ_cons,List.drop_zero,Bool.not_true]
              (refine callD_pure (sb) (by simp only [go_sem,zA,zB,zC,zD,zE,zF,zG,zH,zI,zJ,zK,zL,zM,zN,zO,zP,↓reduceIte,reduceCtorEq] <;> first | rfl | decide) ?_; simp only [go_sem,zA,zB,zC,zD,zE,zF,zG,zH,zI,zJ,zK,zL,zM,zN,zO,zP,↓reduceIte,reduceCtorEq])
              refine endD_intro (by decide +kernel) ?_
              simp only [go_sem,zA,zB,zC,zD,zE,zF,zG,zH,zI,zJ,zK,zL,zM,zN,zO,zP,↓reduceIte,reduceCtorEq]
              refine ⟨s.items.length - (k + 1),_,by omega,?_,k + 1,by omega,rfl,rfl⟩
              simp only [go_sem,zA,zB,zC,zD,zE,zF,zG,zH,zI,zJ,zK,zL,zM,zN,zO,zP,↓reduceIte,reduceCtorEq,hinSt,Srv.cells,to,ti,hwk,refsIn,refsInL,Blk.refsIn]
            · have m1 : decide ((k : Int) < (s.items.length : Int)) = false := decide_eq_false (by omega)
              simp only [go_sem,zA,zB,zC,zD,zE,zF,zG,zH,zI,zJ,zK,zL,zM,zN,zO,zP,↓reduceIte,reduceCtorEq,hinSt,Srv.cells,List.length_map,m1]
              refine ⟨asked.length - (i + 1),_,by omega,?_,i + 1,t,by omega,rfl,r1,to,rfl⟩
              simp only [go_sem,zA,zB,zC,zD,zE,zF,zG,zH,zI,zJ,zK,zL,zM,zN,zO,zP,↓reduceIte,reduceCtorEq,hutSt,Srv.cells,hw1,to,ti,refsIn,refsInL,Blk.refsIn]
        · have k4 : decide ((d.toNat : Int) = 1) = false := decide_eq_false hd1
          simp only [go_sem,zA,zB,zC,zD,zE,zF,zG,zH,zI,zJ,zK,zL,zM,zN,zO,zP,↓reduceIte,reduceCtorEq,k1,k2,k3,k4,z0,z1,i0,i1,rowsB_length,List.headD_cons,List.length_cons,List.length_nil,Nat.le_add_left,Bool.not_false,Try.ntmps19,Try.results19]
      · have k3 : decide ((c.toNat : Int) = 39) = false := decide_eq_false hc39
        have hk : NoKey s q := fun k h => by
          rw [hcd] at h
          obtain ⟨h,_⟩ := List.cons.inj h
          rw [h] at hc39
          exact absurd rfl hc39
        simp only [go_sem,zA,zB,zC,zD,zE,zF,zG,zH,zI,zJ,zK,zL,zM,zN,zO,zP,↓reduceIte,reduceCtorEq,k1,k2,k3,z0,z1,i0,i1,rowsB_length,List.headD_cons,List.length_cons,List.length_nil,Nat.le_add_left]
        have a1 := ask_calls s (q) hs.fits
        have sh := ask_shut hop hk
        have hdt := ask_dtc s (q)
        have r1 := ask_right hs (q)
        generalize askV s (q) = w at a1 sh hdt r1
        obtain ⟨t,a,on⟩ := w
        obtain ⟨to,h2,ti⟩ := sh
        simp only at to h2 ti hdt
        subst h2
        have lti : decide ((s.items.length : Int) = (s.items.length : Int)) = true := decide_eq_true rfl
        have hsil := hs.fits.items
        (refine CallA.pure (a1) (by simp only [go_sem,zA,zB,zC,zD,zE,zF,zG,zH,zI,zJ,zK,zL,zM,zN,zO,zP,↓reduceIte,reduceCtorEq,Srv.pv,Srv.cells] <;> first | rfl | decide) ?_; simp only [go_sem,zA,zB,zC,zD,zE,zF,zG,zH,zI,zJ,zK,zL,zM,zN,zO,zP,↓reduceIte,reduceCtorEq,Srv.pv,Srv.cells])
        have hgo : decide ((t.dtc.length : Int) = (s.dtc.length : Int)) = true ∨ (decide ((t.dtc.length : Int) = (s.dtc.length : Int)) = false ∧ decide (s.ses = 2) = true) := by
          by_cases he : (t.dtc.length : Int) = (s.dtc.length : Int)
          · exact .inl (decide_eq_true he)
          · rcases hdt with e | e
            · exact absurd (by rw [e]) he
            · exact .inr ⟨decide_eq_false he,decide_eq_true e⟩
        rcases hgo with k3 | ⟨k3,k4⟩
        · simp only [go_sem,zA,zB,zC,zD,zE,zF,zG,zH,zI,zJ,zK,zL,zM,zN,zO,zP,↓reduceIte,reduceCtorEq,to,ti,List.length_map,lti,k3,Bool.not_true]
          refine wpA_loop (hinI asked s t i) ⟨s.items.length,_,?_,0,by omega,rfl,rfl⟩ ?_
          · simp only [go_sem,zA,zB,zC,zD,zE,zF,zG,zH,zI,zJ,zK,zL,zM,zN,zO,zP,↓reduceIte,reduceCtorEq,hinSt,Srv.cells,to,ti,Int.natCast_zero,refsIn,refsInL,Blk.refsIn]
          rintro mm st ⟨k,hk3,rfl,rfl⟩
          by_cases hkc : k < s.items.length
          · have m1 : decide ((k : Int) < (s.items.length : Int)) = true := decide_eq_true (by omega)
            have m2 : (0 : Int) ≤ (k : Int) ∧ (k : Int) < (s.items.length : Int) := by omega
            have m3 := itmRows_getD hkc
            have hwk := wrapIN (i := k) (by omega)
            generalize s.items[k] = it at m3
            have sb := Lk.sameB_calls it.data it.data
            rw [decide_eq_true rfl] at sb
            have m4 : decide (it.id = it.id) = true := decide_eq_true rfl
            simp only [go_sem,zA,zB,zC,zD,zE,zF,zG,zH,zI,zJ,zK,zL,zM,zN,zO,zP,↓reduceIte,reduceCtorEq,hinSt,Srv.cells,to,ti,List.length_map,m1,m2.1,m2.2,m3,m4,Int.toNat_natCast,List.headD_cons,List.length_cons,List.length_nil,Nat.le_add_left,List.drop_succ_cons,List.drop_zero,Bool.not_true]
            (refine callD_pure (sb) (by simp only [go_sem,zA,zB,zC,zD,zE,zF,zG,zH,zI,zJ,zK,zL,zM,zN,zO,zP,↓reduceIte,reduceCtorEq] <;> first | rfl | decide) ?_; simp only [go_sem,zA,zB,zC,zD,zE,zF,zG,zH,zI,zJ,zK,zL,zM,zN,zO,zP,↓reduceIte,reduceCtorEq])
            refine endD_intro (by decide +kernel) ?_
            simp only [go_sem,zA,zB,zC,zD,zE,zF,zG,zH,zI,zJ,zK,zL,zM,zN,zO,zP,↓reduceIte,reduceCtorEq]
            refine ⟨s.items.length - (k + 1),_,by omega,?_,k + 1,by omega,rfl,rfl⟩
            simp only [go_sem,zA,zB,zC,zD,zE,zF,zG,zH,zI,zJ,zK,zL,zM,zN,zO,zP,↓reduceIte,reduceCtorEq,hinSt,Srv.cells,to,ti,hwk,refsIn,refsInL,Blk.refsIn]
          · have m1 : decide ((k : Int) < (s.items.length : Int)) = false := decide_eq_false (by omega)
            simp only [go_sem,zA,zB,zC,zD,zE,zF,zG,zH,zI,zJ,zK,zL,zM,zN,zO,zP,↓reduceIte,reduceCtorEq,hinSt,Srv.cells,List.length_map,m1]
            refine ⟨asked.length - (i + 1),_,by omega,?_,i + 1,t,by omega,rfl,r1,to,rfl⟩
            simp only [go_sem,zA,zB,zC,zD,zE,zF,zG,zH,zI,zJ,zK,zL,zM,zN,zO,zP,↓reduceIte,reduceCtorEq,hutSt,Srv.cells,hw1,to,ti,refsIn,refsInL,Blk.refsIn]
        · simp only [go_sem,zA,zB,zC,zD,zE,zF,zG,zH,zI,zJ,zK,zL,zM,zN,zO,zP,↓reduceIte,reduceCtorEq,to,ti,List.length_map,lti,k3,k4,Bool.not_true,Bool.not_false]
          refine wpA_loop (hinI asked s t i) ⟨s.items.length,_,?_,0,by omega,rfl,rfl⟩ ?_
          · simp only [go_sem,zA,zB,zC,zD,zE,zF,zG,zH,zI,zJ,zK,zL,zM,zN,zO,zP,↓reduceIte,reduceCtorEq,hinSt,Srv.cells,to,ti,Int.natCast_zero,refsIn,refsInL,Blk.refsIn]
          rintro mm st ⟨k,hk3,rfl,rfl⟩
          by_cases hkc : k < s.items.length
          · have m1 : decide ((k : Int) < (s.items.length : Int)) = true := decide_eq_true (by omega)
            have m2 : (0 : Int) ≤ (k : Int) ∧ (k : Int) < (s.items.length : Int) := by omega
            have m3 := itmRows_getD hkc
            have hwk := wrapIN (i := k) (by omega)
            generalize s.items[k] = it at m3
            have sb := Lk.sameB_calls it.data it.data
            rw [decide_eq_true rfl] at sb
            have m4 : decide (it.id = it.id) = true := decide_eq_true rfl
            simp only [go_sem,zA,zB,zC,zD,zE,zF,zG,zH,zI,zJ,zK,zL,zM,zN,zO,zP,↓reduceIte,reduceCtorEq,hinSt,Srv.cells,to,ti,List.length_map,m1,m2.1,m2.2,m3,m4,Int.toNat_natCast,List.headD_cons,List.length_cons,List.length_nil,Nat.le_add_left,List.drop_succ_cons,List.drop_zero,Bool.not_true]
            (refine callD_pure (sb) (by simp only [go_sem,zA,zB,zC,zD,zE,zF,zG,zH,zI,zJ,zK,zL,zM,zN,zO,zP,↓reduceIte,reduceCtorEq] <;> first | rfl | decide) ?_; simp only [go_sem,zA,zB,zC,zD,zE,zF,zG,zH,zI,zJ,zK,zL,zM,zN,zO,zP,↓reduceIte,reduceCtorEq])
            refine endD_intro (by decide +kernel) ?_
            simp only [go_sem,zA,zB,zC,zD,zE,zF,zG,zH,zI,zJ,zK,zL,zM,zN,zO,zP,↓reduceIte,reduceCtorEq]
            refine ⟨s.items.length - (k + 1),_,by omega,?_,k + 1,by omega,rfl,rfl⟩
            simp only [go_sem,zA,zB,zC,zD,zE,zF,zG,zH,zI,zJ,zK,zL,zM,zN,zO,zP,↓reduceIte,reduceCtorEq,hinSt,Srv.cells,to,ti,hwk,refsIn,refsInL,Blk.refsIn]
          · have m1 : decide ((k : Int) < (s.items.length : Int)) = false := decide_eq_false (by omega)
            simp only [go_sem,zA,zB,zC,zD,zE,zF,zG,zH,zI,zJ,zK,zL,zM,zN,zO,zP,↓reduceIte,reduceCtorEq,hinSt,Srv.cells,List.length_map,m1]
            refine ⟨asked.length - (i + 1),_,by omega,?_,i + 1,t,by omega,rfl,r1,to,rfl⟩
            simp only [go_sem,zA,zB,zC,zD,zE,zF,zG,zH,zI,zJ,zK,zL,zM,zN,zO,zP,↓reduceIte,reduceCtorEq,hutSt,Srv.cells,hw1,to,ti,refsIn,refsInL,Blk.refsIn]
    · have k2 : decide ((q.length : Int) ≥ 2) = false := decide_eq_false (by omega)
      have hk : NoKey s q := fun k h => by rw [h] at e2; simp at e2
      simp only [go_sem,zA,zB,zC,zD,zE,zF,zG,zH,zI,zJ,zK,zL,zM,zN,zO,zP,↓reduceIte,reduceCtorEq,k1,k2,rowsB_length]
      have a1 := ask_calls s (q) hs.fits
      have sh := ask_shut hop hk
      have hdt := ask_dtc s (q)
      have r1 := ask_right hs (q)
      generalize askV s (q) = w at a1 sh hdt r1
      obtain ⟨t,a,on⟩ := w
      obtain ⟨to,h2,ti⟩ := sh
      simp only at to h2 ti hdt
      subst h2
      have lti : decide ((s.items.length : Int) = (s.items.length : Int)) = true := decide_eq_true rfl
      have hsil := hs.fits.items
      (refine CallA.pure (a1) (by simp only [go_sem,zA,zB,zC,zD,zE,zF,zG,zH,zI,zJ,zK,zL,zM,zN,zO,zP,↓reduceIte,reduceCtorEq,Srv.pv,Srv.cells] <;> first | rfl | decide) ?_; simp only [go_sem,zA,zB,zC,zD,zE,zF,zG,zH,zI,zJ,zK,zL,zM,zN,zO,zP,↓reduceIte,reduceCtorEq,Srv.pv,Srv.cells])
      have hgo : decide ((t.dtc.length : Int) = (s.dtc.length : Int)) = true ∨ (decide ((t.dtc.length : Int) = (s.dtc.length : Int)) = false ∧ decide (s.ses = 2) = true) := by
        by_cases he : (t.dtc.length : Int) = (s.dtc.length : Int)
        · exact .inl (decide_eq_true he)
        · rcases hdt with e | e
          · exact absurd (by rw [e]) he
          · exact .inr ⟨decide_eq_false he,decide_eq_true e⟩
      rcases hgo with k3 | ⟨k3,k4⟩
      · simp only [go_sem,zA,zB,zC,zD,zE,zF,zG,zH,zI,zJ,zK,zL,zM,zN,zO,zP,↓reduceIte,reduceCtorEq,to,ti,List.length_map,lti,k3,Bool.not_true]
        refine wpA_loop (hinI asked s t i) ⟨s.items.length,_,?_,0,by omega,rfl,rfl⟩ ?_
        · simp only [go_sem,zA,zB,zC,zD,zE,zF,zG,zH,zI,zJ,zK,zL,zM,zN,zO,zP,↓reduceIte,reduceCtorEq,hinSt,Srv.cells,to,ti,Int.natCast_zero,refsIn,refsInL,Blk.refsIn]
        rintro mm st ⟨k,hk3,rfl,rfl⟩
        by_cases hkc : k < s.items.length
        · have m1 : decide ((k : Int) < (s.items.length : Int)) = true := decide_eq_true (by omega)
          have m2 : (0 : Int) ≤ (k : Int) ∧ (k : Int) < (s.items.length : Int) := by omega
          have m3 := itmRows_getD hkc
          have hwk := wrapIN (i := k) (by omega)
          generalize s.items[k] = it at m3
          have sb := Lk.sameB_calls it.data it.data
          rw [decide_eq_true rfl] at sb
          have m4 : decide (it.id = it.id) = true := decide_eq_true rfl
          simp only [go_sem,zA,zB,zC,zD,zE,zF,zG,zH,zI,zJ,zK,zL,zM,zN,zO,zP,↓reduceIte,reduceCtorEq,hinSt,Srv.cells,to,ti,List.length_map,m1,m2.1,m2.2,m3,m4,Int.toNat_natCast,List.headD_cons,List.length_cons,List.length_nil,Nat.le_add_left,List.drop_succ_cons,List.drop_zero,Bool.not_true]
          (refine callD_pure (sb) (by simp only [go_sem,zA,zB,zC,zD,zE,zF,zG,zH,zI,zJ,zK,zL,zM,zN,zO,zP,↓reduceIte,reduceCtorEq] <;> first | rfl | decide) ?_; simp only [go_sem,zA,zB,zC,zD,zE,zF,zG,zH,zI,zJ,zK,zL,zM,zN,zO,zP,↓reduceIte,reduceCtorEq])
          refine endD_intro (by decide +kernel) ?_
          simp only [go_sem,zA,zB,zC,zD,zE,zF,zG,zH,zI,zJ,zK,zL,zM,zN,zO,zP,↓reduceIte,reduceCtorEq]
          refine ⟨s.items.length - (k + 1),_,by omega,?_,k + 1,by omega,rfl,rfl⟩
          simp only [go_sem,zA,zB,zC,zD,zE,zF,zG,zH,zI,zJ,zK,zL,zM,zN,zO,zP,↓reduceIte,reduceCtorEq,hinSt,Srv.cells,to,ti,hwk,refsIn,refsInL,Blk.refsIn]
        · have m1 : decide ((k : Int) < (s.items.length : Int)) = false := decide_eq_false (by omega)
          simp only [go_sem,zA,zB,zC,zD,zE,zF,zG,zH,zI,zJ,zK,zL,zM,zN,zO,zP,↓reduceIte,reduceCtorEq,hinSt,Srv.cells,List.length_map,m1]
          refine ⟨asked.length - (i + 1),_,by omega,?_,i + 1,t,by omega,rfl,r1,to,rfl⟩
          simp only [go_sem,zA,zB,zC,zD,zE,zF,zG,zH,zI,zJ,zK,zL,zM,zN,zO,zP,↓reduceIte,reduceCtorEq,hutSt,Srv.cells,hw1,to,ti,refsIn,refsInL,Blk.refsIn]
      · simp only [go_sem,zA,zB,zC,zD,zE,zF,zG,zH,zI,zJ,zK,zL,zM,zN,zO,zP,↓reduceIte,reduceCtorEq,to,ti,List.length_map,lti,k3,k4,Bool.not_true,Bool.not_false]
        refine wpA_loop (hinI asked s t i) ⟨s.items.length,_,?_,0,by omega,rfl,rfl⟩ ?_
        · simp only [go_sem,zA,zB,zC,zD,zE,zF,zG,zH,zI,zJ,zK,zL,zM,zN,zO,zP,↓reduceIte,reduceCtorEq,hinSt,Srv.cells,to,ti,Int.natCast_zero,refsIn,refsInL,Blk.refsIn]
        rintro mm st ⟨k,hk3,rfl,rfl⟩
        by_cases hkc : k < s.items.length
        · have m1 : decide ((k : Int) < (s.items.length : Int)) = true := decide_eq_true (by omega)
          have m2 : (0 : Int) ≤ (k : Int) ∧ (k : Int) < (s.items.length : Int) := by omega
          have m3 := itmRows_getD hkc
          have hwk := wrapIN (i := k) (by omega)
          generalize s.items[k] = it at m3
          have sb := Lk.sameB_calls it.data it.data
          rw [decide_eq_true rfl] at sb
          have m4 : decide (it.id = it.id) = true := decide_eq_true rfl
          simp only [go_sem,zA,zB,zC,zD,zE,zF,zG,zH,zI,zJ,zK,zL,zM,zN,zO,zP,↓reduceIte,reduceCtorEq,hinSt,Srv.cells,to,ti,List.length_map,m1,m2.1,m2.2,m3,m4,Int.toNat_natCast,List.headD_cons,List.length_cons,List.length_nil,Nat.le_add_left,List.drop_succ_cons,List.drop_zero,Bool.not_true]
          (refine callD_pure (sb) (by simp only [go_sem,zA,zB,zC,zD,zE,zF,zG,zH,zI,zJ,zK,zL,zM,zN,zO,zP,↓reduceIte,reduceCtorEq] <;> first | rfl | decide) ?_; simp only [go_sem,zA,zB,zC,zD,zE,zF,zG,zH,zI,zJ,zK,zL,zM,zN,zO,zP,↓reduceIte,reduceCtorEq])
          refine endD_intro (by decide +kernel) ?_
          simp only [go_sem,zA,zB,zC,zD,zE,zF,zG,zH,zI,zJ,zK,zL,zM,zN,zO,zP,↓reduceIte,reduceCtorEq]
          refine ⟨s.items.length - (k + 1),_,by omega,?_,k + 1,by omega,rfl,rfl⟩
          simp only [go_sem,zA,zB,zC,zD,zE,zF,zG,zH,zI,zJ,zK,zL,zM,zN,zO,zP,↓reduceIte,reduceCtorEq,hinSt,Srv.cells,to,ti,hwk,refsIn,refsInL,Blk.refsIn]
        · have m1 : decide ((k : Int) < (s.items.length : Int)) = false := decide_eq_false (by omega)
          simp only [go_sem,zA,zB,zC,zD,zE,zF,zG,zH,zI,zJ,zK,zL,zM,zN,zO,zP,↓reduceIte,reduceCtorEq,hinSt,Srv.cells,List.length_map,m1]
          refine ⟨asked.length - (i + 1),_,by omega,?_,i + 1,t,by omega,rfl,r1,to,rfl⟩
          simp only [go_sem,zA,zB,zC,zD,zE,zF,zG,zH,zI,zJ,zK,zL,zM,zN,zO,zP,↓reduceIte,reduceCtorEq,hutSt,Srv.cells,hw1,to,ti,refsIn,refsInL,Blk.refsIn]
  · have f1 : decide ((i : Int) < (asked.length : Int)) = false := decide_eq_false (by omega)
    simp only [go_sem,zA,zB,zC,zD,zE,zF,zG,zH,zI,zJ,zK,zL,zM,zN,zO,zP,↓reduceIte,reduceCtorEq,hutSt,Srv.cells,List.length_map,f1,Try.ntmps19,Try.results19]
end Go.Proofs.Ytcdmhigmgpflbaa.Pe

