import Derived.Test.YtcdmhigmgpflbaaTU3
namespace Go.Proofs.Ytcdmhigmgpflbaa.Pe
open Go.Pe Go.RowKit
open Nat renaming reduceAdd → zA,reduceSub → zB,reduceMul → zC,reduceLT → zD,reduceLeDiff → zE,reduceEqDiff → zF,reduceBEq → zG
open Int renaming reduceToNat → zH,reduceLT → zI,reduceLE → zJ,reduceEq → zK,reduceNe → zL,reduceAdd → zM,reduceSub → zN,reduceMul → zO,reduceNeg → zP
set_option maxRecDepth 20000
set_option maxHeartbeats 4000000
set_option linter.unusedSimpArgs false
set_option linter.unusedVariables false
theorem open22_calls (S : UInt32) (was : List UInt8) (h1 : 1 ≤ was.length) (h2 : was.length ≤ 64) : PureCalls Try.prog 69 [PI S.toNat,PI 1,PI 2,itmsPV [⟨513,true,was⟩]] (.tup [(openS S.toNat 1 2 [⟨513,true,was⟩]).pv,PB true]) := by
  refine PureCalls.of tabOK mixed Try.func69 rfl rfl (by decide +kernel) (by simp [Try.ntmps69]) ?_
  have hS := u32_wide S
  have c0 := newD_at (secret := S.toNat) (draw := 1) (l := [⟨513,true,was⟩]) (s := freshS S.toNat 1 [⟨513,true,was⟩]) (newSrv_u32 S 1 _)
  have r0 : RightS (freshS S.toNat 1 [⟨513,true,was⟩]) := fresh_right hS (by decide) (by
    show (okIt ⟨513,true,was⟩ && (true && true)) = true
    rw [Bool.and_true,Bool.and_true,okIt_iff]; exact ⟨by simp only; omega,by simp only; omega⟩) (by simp)
  generalize (S.toNat : Int) = s at hS c0 r0
  have q1 := session_calls 2
  rw [show sesQ 2 = [0x10,2] from ses_one 2] at q1
  have e1 := talk_ses r0 (n := 2) (by decide)
  have t1 := talk_at e1 r0
  have r1 := right_to e1 r0
  have q2 := seed_calls
  have e2 := talk_seed r1 (by decide : (0 : Int) ≤ 2) (by decide : (2 : Int) ≠ 1) rfl
  have t2 := talk_at e2 r1
  have r2 := right_to e2 r1
  have k1 := keyFor_at (keyFor_four (n := 1) (by decide) s)
  have e3 := talk_good r2 (by decide : (0 : Int) ≤ 2) (by decide : (2 : Int) ≠ 1) (by decide : (1 : Int) ≥ 0)
  have t3 := talk_at e3 r2
  simp only [go_sem,zA,zB,zC,zD,zE,zF,zG,zH,zI,zJ,zK,zL,zM,zN,zO,zP,↓reduceIte,reduceCtorEq,Try.ntmps69,Try.results69,Srv.pv,Srv.cells,openS]
  (refine CallA.pure (c0) (by simp only [go_sem,zA,zB,zC,zD,zE,zF,zG,zH,zI,zJ,zK,zL,zM,zN,zO,zP,↓reduceIte,reduceCtorEq] <;> first | rfl | decide) ?_; simp only [go_sem,zA,zB,zC,zD,zE,zF,zG,zH,zI,zJ,zK,zL,zM,zN,zO,zP,↓reduceIte,reduceCtorEq,Srv.pv,Srv.cells,freshS])
  (refine callD_pure (q1) (by simp only [go_sem,zA,zB,zC,zD,zE,zF,zG,zH,zI,zJ,zK,zL,zM,zN,zO,zP,↓reduceIte,reduceCtorEq] <;> first | rfl | decide) ?_; simp only [go_sem,zA,zB,zC,zD,zE,zF,zG,zH,zI,zJ,zK,zL,zM,zN,zO,zP,↓reduceIte,reduceCtorEq])
  (refine callD_pure (t1) (by simp only [go_sem,zA,zB,zC,zD,zE,zF,zG,zH,zI,zJ,zK,zL,zM,zN,zO,zP,↓reduceIte,reduceCtorEq,Srv.pv,Srv.cells,freshS,List.map_nil] <;> first | rfl | decide) ?_; simp only [go_sem,zA,zB,zC,zD,zE,zF,zG,zH,zI,zJ,zK,zL,zM,zN,zO,zP,↓reduceIte,reduceCtorEq,Srv.pv,Srv.cells,freshS,List.map_nil])
  refine endD_intro (by decide +kernel) ?_
  simp only [go_sem,zA,zB,zC,zD,zE,zF,zG,zH,zI,zJ,zK,zL,zM,zN,zO,zP,↓reduceIte,reduceCtorEq]
  (refine callD_pure (q2) (by simp only [go_sem,zA,zB,zC,zD,zE,zF,zG,zH,zI,zJ,zK,zL,zM,zN,zO,zP,↓reduceIte,reduceCtorEq] <;> first | rfl | decide) ?_; simp only [go_sem,zA,zB,zC,zD,zE,zF,zG,zH,zI,zJ,zK,zL,zM,zN,zO,zP,↓reduceIte,reduceCtorEq])
  (refine callD_pure (t2) (by simp only [go_sem,zA,zB,zC,zD,zE,zF,zG,zH,zI,zJ,zK,zL,zM,zN,zO,zP,↓reduceIte,reduceCtorEq,Srv.pv,Srv.cells,freshS,List.map_nil] <;> first | rfl | decide) ?_; simp only [go_sem,zA,zB,zC,zD,zE,zF,zG,zH,zI,zJ,zK,zL,zM,zN,zO,zP,↓reduceIte,reduceCtorEq,Srv.pv,Srv.cells,freshS,List.map_nil])
  refine endD_intro (by decide +kernel) ?_
  simp only [go_sem,zA,zB,zC,zD,zE,zF,zG,zH,zI,zJ,zK,zL,zM,zN,zO,zP,↓reduceIte,reduceCtorEq]
  (refine CallA.pure (k1) (by simp only [go_sem,zA,zB,zC,zD,zE,zF,zG,zH,zI,zJ,zK,zL,zM,zN,zO,zP,↓reduceIte,reduceCtorEq] <;> first | rfl | decide) ?_; simp only [go_sem,zA,zB,zC,zD,zE,zF,zG,zH,zI,zJ,zK,zL,zM,zN,zO,zP,↓reduceIte,reduceCtorEq])
  (refine CallA.pure (t3) (by simp only [go_sem,zA,zB,zC,zD,zE,zF,zG,zH,zI,zJ,zK,zL,zM,zN,zO,zP,↓reduceIte,reduceCtorEq,Srv.pv,Srv.cells,freshS,List.map_nil] <;> first | rfl | decide) ?_; simp only [go_sem,zA,zB,zC,zD,zE,zF,zG,zH,zI,zJ,zK,zL,zM,zN,zO,zP,↓reduceIte,reduceCtorEq,Srv.pv,Srv.cells,freshS,List.map_nil])
  refine endD_intro (by decide +kernel) ?_
  have u2 : ((UInt8.toNat 2 : Nat) : Int) = 2 := rfl
  simp only [go_sem,zA,zB,zC,zD,zE,zF,zG,zH,zI,zJ,zK,zL,zM,zN,zO,zP,↓reduceIte,reduceCtorEq,u2,Try.ntmps69,Try.results69]
theorem openS_one {S : Int} (hS : 0 ≤ S ∧ S ≤ 4294967295) {was : List UInt8} (h1 : 1 ≤ was.length) (h2 : was.length ≤ 64) : OneS (openS S 1 2 [⟨513,true,was⟩]) 513 was := by
  refine ⟨⟨?_,(by decide : (1 : Int) ≤ 2 ∧ (2 : Int) ≤ 3),(by decide : (-1 : Int) ≤ -1 ∧ (-1 : Int) ≤ 4294967295),(by decide : (0 : Int) ≤ 0 ∧ (0 : Int) ≤ 12),(by decide : (0 : Int) ≤ 0 ∧ (0 : Int) ≤ 51),(by decide +kernel : 0 ≤ nextDraw 1 ∧ nextDraw 1 ≤ 4294967295),hS,by simp [openS],rfl⟩,(by decide : (2 : Int) ≠ 1),rfl,rfl⟩
  show (okIt ⟨513,true,was⟩ && (true && true)) = true
  rw [Bool.and_true,Bool.and_true,okIt_iff]; exact ⟨by simp only; omega,by simp only; omega⟩
theorem wr_talk {v : Srv} {was b : List UInt8} (h : OneS v 513 was) (ho : v.op = true) (hb : b.length = was.length) (f g : List Int) :
    ∃ (w : Srv) (now e : List UInt8) (came : Bool),talkV v (0x2E :: 2 :: 1 :: b) f g = (w,e,false,came) ∧ OneS w 513 now ∧ w.op = true ∧ (now = b ∨ (now = was ∧ came = false)) := by
  obtain ⟨w,e,p1,p2,p3,p4⟩ := one_write h (x := 2) (y := 1) (by decide) b
  rw [if_pos ⟨ho,hb⟩] at p2
  rcases talk_any v (0x2E :: 2 :: 1 :: b) f g with e1 | e1 | e1
  · exact ⟨v,was,_,_,e1,h,ho,.inr ⟨rfl,rfl⟩⟩
  · rw [p1] at e1
    exact ⟨w,b,_,_,e1,p2,p3.trans ho,.inl rfl⟩
  · rw [p1] at e1
    exact ⟨w,b,_,_,e1,p2,p3.trans ho,.inl rfl⟩
theorem write513 (b : List UInt8) : writeQ 513 b = 0x2E :: 2 :: 1 :: b := rfl
def wrSt (was : List UInt8) (texts : List (List UInt8)) (ways : List Way22) (st : List UInt8) (s : Srv) (i : Nat) : St := ⟨165,[(1,bytesPV was),(2,bytessPV texts),(3,waysPV ways),(9,PB true),(10,.ptr 1 0),(12,.lit (.string ⟨st.toArray⟩)),(13,PI i)],[(1,.box 25 s.cells)],200,0⟩
def wrI (was : List UInt8) (texts : List (List UInt8)) (ways : List Way22) (m : Nat) (x : St) : Prop := ∃ (i : Nat) (s : Srv) (st : List UInt8),i ≤ texts.length ∧ m = texts.length - i ∧ OneS s 513 st ∧ s.op = true ∧ st.length = was.length ∧ x = wrSt was texts ways st s i
def mxSt (was : List UInt8) (texts : List (List UInt8)) (ways : List Way22) (st : List UInt8) (s : Srv) (i : Nat) (x : List UInt8) (k : Nat) : St := ⟨165,[(1,bytesPV was),(2,bytessPV texts),(3,waysPV ways),(9,PB true),(10,.ptr 1 0),(12,.lit (.string ⟨st.toArray⟩)),(13,PI i),(14,.own 200 1),(15,PI k)],[(200,.arr 5 1 (rowsB x) 1 false),(1,.box 25 s.cells)],300,0⟩
def mxI (was : List UInt8) (texts : List (List UInt8)) (ways : List Way22) (st : List UInt8) (s : Srv) (i : Nat) (m : Nat) (q : St) : Prop := ∃ (k : Nat) (x : List UInt8),k ≤ was.length ∧ m = was.length - k ∧ x.length = was.length ∧ q = mxSt was texts ways st s i x k
theorem rowBs_getD {l : List (List UInt8)} {i : Nat} (h : i < l.length) : (l.map rowBs).getD i [] = [bytesPV l[i]] := by
  simp [List.getD_eq_getElem?_getD,h,rowBs]
theorem rowsB_set (x : List UInt8) (k : Nat) (c : UInt8) : (rowsB x).set k [.lit (.int .u8 c.toNat)] = rowsB (x.set k c) := by
  simp [rowsB,List.map_set,rowB]
theorem topWritten_calls (S : UInt32) (was : List UInt8) (texts : List (List UInt8)) (ways : List Way22) (hw : ways.length ≤ 9223372036854775807) : PureCalls Try.prog 23 [.lit (.int .u32 S.toNat),bytesPV was,bytessPV texts,waysPV ways] (PB true) := by
  refine PureCalls.of tabOK mixed Try.func23 rfl rfl (by decide +kernel) (by simp [Try.ntmps23]) ?_
  have wS := wr32 S
  have hS := u32_wide S
  simp only [go_sem,zA,zB,zC,zD,zE,zF,zG,zH,zI,zJ,zK,zL,zM,zN,zO,zP,↓reduceIte,reduceCtorEq,Try.ntmps23,Try.results23]
  (refine CallA.pure (top22_calls) (by simp only [go_sem,zA,zB,zC,zD,zE,zF,zG,zH,zI,zJ,zK,zL,zM,zN,zO,zP,↓reduceIte,reduceCtorEq,Try.ntmps23,Try.results23] <;> first | rfl | decide) ?_; simp only [go_sem,zA,zB,zC,zD,zE,zF,zG,zH,zI,zJ,zK,zL,zM,zN,zO,zP,↓reduceIte,reduceCtorEq,Try.ntmps23,Try.results23])
  by_cases h1 : was.length < 1
  · have g1 : decide ((was.length : Int) < 1) = true := decide_eq_true (by omega)
    simp only [go_sem,zA,zB,zC,zD,zE,zF,zG,zH,zI,zJ,zK,zL,zM,zN,zO,zP,↓reduceIte,reduceCtorEq,rowsB_length,g1,Try.ntmps23,Try.results23]
  have g1 : decide ((was.length : Int) < 1) = false := decide_eq_false (by omega)
  by_cases h2 : was.length > 64
  · have g2 : decide ((was.length : Int) > 64) = true := decide_eq_true (by omega)
    simp only [go_sem,zA,zB,zC,zD,zE,zF,zG,zH,zI,zJ,zK,zL,zM,zN,zO,zP,↓reduceIte,reduceCtorEq,rowsB_length,g1,g2,Try.ntmps23,Try.results23]
  have g2 : decide ((was.length : Int) > 64) = false := decide_eq_false (by omega)
  by_cases h3 : texts.length > 6
  · have g3 : decide ((texts.length : Int) > 6) = true := decide_eq_true (by omega)
    simp only [go_sem,zA,zB,zC,zD,zE,zF,zG,zH,zI,zJ,zK,zL,zM,zN,zO,zP,↓reduceIte,reduceCtorEq,rowsB_length,g1,g2,g3,List.length_map,Try.ntmps23,Try.results23]
  have g3 : decide ((texts.length : Int) > 6) = false := decide_eq_false (by omega)
  cases ga : great22V ways with
  | true =>
    simp only [go_sem,zA,zB,zC,zD,zE,zF,zG,zH,zI,zJ,zK,zL,zM,zN,zO,zP,↓reduceIte,reduceCtorEq,rowsB_length,g1,g2,g3,List.length_map,Try.ntmps23,Try.results23]
    (refine CallA.pure (great22_at hw ga) (by simp only [go_sem,zA,zB,zC,zD,zE,zF,zG,zH,zI,zJ,zK,zL,zM,zN,zO,zP,↓reduceIte,reduceCtorEq,Try.ntmps23,Try.results23] <;> first | rfl | decide) ?_; simp only [go_sem,zA,zB,zC,zD,zE,zF,zG,zH,zI,zJ,zK,zL,zM,zN,zO,zP,↓reduceIte,reduceCtorEq,Try.ntmps23,Try.results23])
  | false =>
  by_cases h4 : ways.length < texts.length
  · have g4 : decide ((ways.length : Int) < (texts.length : Int)) = true := decide_eq_true (by omega)
    simp only [go_sem,zA,zB,zC,zD,zE,zF,zG,zH,zI,zJ,zK,zL,zM,zN,zO,zP,↓reduceIte,reduceCtorEq,rowsB_length,g1,g2,g3,List.length_map,Try.ntmps23,Try.results23]
    (refine CallA.pure (great22_at hw ga) (by simp only [go_sem,zA,zB,zC,zD,zE,zF,zG,zH,zI,zJ,zK,zL,zM,zN,zO,zP,↓reduceIte,reduceCtorEq,List.length_map,g4,Try.ntmps23,Try.results23] <;> first | rfl | decide) ?_; simp only [go_sem,zA,zB,zC,zD,zE,zF,zG,zH,zI,zJ,zK,zL,zM,zN,zO,zP,↓reduceIte,reduceCtorEq,List.length_map,g4,Try.ntmps23,Try.results23])
  have g4 : decide ((ways.length : Int) < (texts.length : Int)) = false := decide_eq_false (by omega)
  simp only [go_sem,zA,zB,zC,zD,zE,zF,zG,zH,zI,zJ,zK,zL,zM,zN,zO,zP,↓reduceIte,reduceCtorEq,rowsB_length,g1,g2,g3,List.length_map,Try.ntmps23,Try.results23]
  (refine CallA.pure (great22_at hw ga) (by simp only [go_sem,zA,zB,zC,zD,zE,zF,zG,zH,zI,zJ,zK,zL,zM,zN,zO,zP,↓reduceIte,reduceCtorEq,List.length_map,g4,Try.ntmps23,Try.results23] <;> first | rfl | decide) ?_; simp only [go_sem,zA,zB,zC,zD,zE,zF,zG,zH,zI,zJ,zK,zL,zM,zN,zO,zP,↓reduceIte,reduceCtorEq,List.length_map,g4,Try.ntmps23,Try.results23])
  have c1 := open22_calls S was (by omega) (by omega)
  (refine CallA.pure (c1) (by simp only [go_sem,zA,zB,zC,zD,zE,zF,zG,zH,zI,zJ,zK,zL,zM,zN,zO,zP,↓reduceIte,reduceCtorEq,wS,List.map_cons,List.map_nil,Itm.cells] <;> first | rfl | decide) ?_; simp only [go_sem,zA,zB,zC,zD,zE,zF,zG,zH,zI,zJ,zK,zL,zM,zN,zO,zP,↓reduceIte,reduceCtorEq,Srv.pv,Srv.cells,wS])
  have ho := openS_one hS (by omega) (by omega : was.length ≤ 64)
  have hop : (openS S.toNat 1 2 [⟨513,true,was⟩]).op = true := rfl
  generalize openS S.toNat 1 2 [⟨513,true,was⟩] = s0 at ho hop
  refine wpA_loop (wrI was texts ways) ⟨texts.length,_,?_,0,s0,was,by omega,rfl,ho,hop,rfl,rfl⟩ ?_
  · simp only [go_sem,zA,zB,zC,zD,zE,zF,zG,zH,zI,zJ,zK,zL,zM,zN,zO,zP,↓reduceIte,reduceCtorEq,wrSt,Srv.cells,refsIn,refsInL,Blk.refsIn,Int.natCast_zero]
  clear c1 ho hop
  rintro mm st ⟨i,s,now,hi,rfl,ho,hop,hnow,rfl⟩
  by_cases hc : i < texts.length
  · have f1 : decide ((i : Int) < (texts.length : Int)) = true := decide_eq_true (by omega)
    have f3 : (i : Int) < (texts.length : Int) := by omega
    have f4 : (0 : Int) ≤ (i : Int) := by omega
    have f5 : (i : Int) < (ways.length : Int) := by omega
    have hw1 := wrapIN (i := i) (by omega)
    have f2 := wayRows_getD (l := ways) (i := i) (by omega)
    have f6 := rowBs_getD hc
    simp only [go_sem,zA,zB,zC,zD,zE,zF,zG,zH,zI,zJ,zK,zL,zM,zN,zO,zP,↓reduceIte,reduceCtorEq,wrSt,Srv.cells,List.length_map,f1]
    refine ⟨⟨by omega,by omega⟩,?_⟩
    refine wpA_loop (mxI was texts ways now s i) ⟨was.length,_,?_,0,was,by omega,rfl,rfl,rfl⟩ ?_
    · simp only [go_sem,zA,zB,zC,zD,zE,zF,zG,zH,zI,zJ,zK,zL,zM,zN,zO,zP,↓reduceIte,reduceCtorEq,mxSt,Srv.cells,refsIn,refsInL,Blk.refsIn,Int.natCast_zero]
    rintro mm st ⟨k,x,hk,rfl,hx,rfl⟩
    have lx : (rowsB x).length = was.length := by rw [rowsB_length,hx]
    by_cases hk2 : k < was.length ∧ k < texts[i].length
    · have g5 : decide ((k : Int) < (was.length : Int)) = true := decide_eq_true (by omega)
      have g6 : decide ((k : Int) < (texts[i].length : Int)) = true := decide_eq_true (by omega)
      have g7 : (0 : Int) ≤ (k : Int) := by omega
      have g8 : (k : Int) < (was.length : Int) := by omega
      have g9 : (k : Int) < (texts[i].length : Int) := by omega
      have hw2 := wrapIN (i := k) (by omega)
      have gx : (rowsB x).getD k [] = [.lit (.int .u8 (x.getD k 0).toNat)] := rowsB_getD (by omega)
      have gt : (rowsB texts[i]).getD k [] = [.lit (.int .u8 (texts[i].getD k 0).toNat)] := rowsB_getD (by omega)
      simp only [go_sem,zA,zB,zC,zD,zE,zF,zG,zH,zI,zJ,zK,zL,zM,zN,zO,zP,↓reduceIte,reduceCtorEq,mxSt,Srv.cells,List.length_map,g5,g6,g7,g8,g9,f3,f4,f6,lx,Int.toNat_natCast,List.length_cons,List.length_nil,Nat.le_add_left,List.headD_cons,rowsB_length,gx,gt,hx,List.cons_append,List.nil_append,List.drop_succ_cons,List.drop_zero,rowsB_set]
      refine ⟨by omega,?_⟩
      refine ⟨was.length - (k + 1),_,by omega,?_,k + 1,x.set k (texts[i].getD k 0),by omega,rfl,by rw [List.length_set,hx],rfl⟩
      simp only [go_sem,zA,zB,zC,zD,zE,zF,zG,zH,zI,zJ,zK,zL,zM,zN,zO,zP,↓reduceIte,reduceCtorEq,mxSt,hw2,Srv.cells,refsIn,refsInL,Blk.refsIn]
    · by_cases hk3 : k < was.length
      · have g5 : decide ((k : Int) < (was.length : Int)) = true := decide_eq_true (by omega)
        have g6 : decide ((k : Int) < (texts[i].length : Int)) = false := decide_eq_false (by omega)
        simp only [go_sem,zA,zB,zC,zD,zE,zF,zG,zH,zI,zJ,zK,zL,zM,zN,zO,zP,↓reduceIte,reduceCtorEq,mxSt,Srv.cells,List.length_map,g5,g6,f3,f4,f6,lx,Int.toNat_natCast,List.length_cons,List.length_nil,Nat.le_add_left,List.headD_cons,rowsB_length,hx]
        obtain ⟨w,nw,e,came,e1,ow,wop,hnw⟩ := wr_talk ho hop (hx.trans hnow.symm) ways[i].there ways[i].back
        have q4 := write_calls 513 x (by omega)
        rw [write513] at q4
        have t4 := talk_at e1 ho.r
        have q5 := read_calls 513
        rw [show readQ 513 = [0x22,2,1] from rfl] at q5
        have e2 := talk_thru ow.r (q := [0x22,2,1]) (by simp) (by simp)
        rw [one_read ow (by decide)] at e2
        have t5 := talk_at e2 ow.r
        (refine callD_pure (q4) (by simp only [go_sem,zA,zB,zC,zD,zE,zF,zG,zH,zI,zJ,zK,zL,zM,zN,zO,zP,↓reduceIte,reduceCtorEq] <;> first | rfl | decide) ?_; simp only [go_sem,zA,zB,zC,zD,zE,zF,zG,zH,zI,zJ,zK,zL,zM,zN,zO,zP,↓reduceIte,reduceCtorEq,List.length_map,f5,f4,f2,Int.toNat_natCast,List.headD_cons,List.length_cons,List.length_nil,Nat.le_add_left,List.drop_succ_cons,List.drop_zero,and_self,true_and])
        (refine callD_pure (t4) (by simp only [go_sem,zA,zB,zC,zD,zE,zF,zG,zH,zI,zJ,zK,zL,zM,zN,zO,zP,↓reduceIte,reduceCtorEq,Srv.pv,Srv.cells,List.map_nil,List.length_map,f5,f4,f2,Int.toNat_natCast,List.headD_cons,List.length_cons,List.length_nil,Nat.le_add_left,List.drop_succ_cons,List.drop_zero,and_self,true_and] <;> first | rfl | decide) ?_; simp only [go_sem,zA,zB,zC,zD,zE,zF,zG,zH,zI,zJ,zK,zL,zM,zN,zO,zP,↓reduceIte,reduceCtorEq,Srv.pv,Srv.cells,List.map_nil,List.length_map,f5,f4,f2,Int.toNat_natCast,List.headD_cons,List.length_cons,List.length_nil,Nat.le_add_left,List.drop_succ_cons,List.drop_zero,and_self,true_and])
        refine endD_intro (by decide +kernel) ?_
        simp only [go_sem,zA,zB,zC,zD,zE,zF,zG,zH,zI,zJ,zK,zL,zM,zN,zO,zP,↓reduceIte,reduceCtorEq]
        (refine callD_pure (q5) (by simp only [go_sem,zA,zB,zC,zD,zE,zF,zG,zH,zI,zJ,zK,zL,zM,zN,zO,zP,↓reduceIte,reduceCtorEq] <;> first | rfl | decide) ?_; simp only [go_sem,zA,zB,zC,zD,zE,zF,zG,zH,zI,zJ,zK,zL,zM,zN,zO,zP,↓reduceIte,reduceCtorEq])
        (refine callD_pure (t5) (by simp only [go_sem,zA,zB,zC,zD,zE,zF,zG,zH,zI,zJ,zK,zL,zM,zN,zO,zP,↓reduceIte,reduceCtorEq,Srv.pv,Srv.cells,List.map_nil] <;> first | rfl | decide) ?_; simp only [go_sem,zA,zB,zC,zD,zE,zF,zG,zH,zI,zJ,zK,zL,zM,zN,zO,zP,↓reduceIte,reduceCtorEq,Srv.pv,Srv.cells,List.map_nil])
        refine endD_intro (by decide +kernel) ?_
        have hnl : nw.length = was.length := by rcases hnw with h | ⟨h,_⟩ <;> rw [h] <;> assumption
        have gl : decide (((nw.length + 1 + 1 + 1 : Nat) : Int) = IntKind.wrap .i64 (3 + (was.length : Int))) = true := decide_eq_true (by rw [wrapI64_eq]; omega)
        have z0 : (3 : Int) ≤ ((nw.length + 1 + 1 + 1 : Nat) : Int) := by omega
        have hd3 : ∀ l : List UInt8,List.drop 3 (rowsB (98 :: 2 :: 1 :: l)) = rowsB l := fun _ => rfl
        have ht3 : ∀ l : List UInt8,List.take 3 (rowsB (98 :: 2 :: 1 :: l)) = rowsB [98,2,1] := fun _ => rfl
        simp only [go_sem,zA,zB,zC,zD,zE,zF,zG,zH,zI,zJ,zK,zL,zM,zN,zO,zP,↓reduceIte,reduceCtorEq,gl,z0,rowsB_length,List.length_cons,hd3,ht3,Int.toNat_natCast,Nat.reduceSub,Nat.sub_zero,List.take_length]
        refine ⟨by omega,?_⟩
        rcases hnw with rfl | ⟨rfl,rfl⟩
        · cases came with
          | true =>
            simp only [go_sem,zA,zB,zC,zD,zE,zF,zG,zH,zI,zJ,zK,zL,zM,zN,zO,zP,↓reduceIte,reduceCtorEq,decide_true,Bool.not_true]
            refine ⟨texts.length - (i + 1),_,by omega,?_,i + 1,w,nw,by omega,rfl,ow,wop,hnl,rfl⟩
            simp only [go_sem,zA,zB,zC,zD,zE,zF,zG,zH,zI,zJ,zK,zL,zM,zN,zO,zP,↓reduceIte,reduceCtorEq,wrSt,hw1,Srv.cells,refsIn,refsInL,Blk.refsIn]
          | false =>
            simp only [go_sem,zA,zB,zC,zD,zE,zF,zG,zH,zI,zJ,zK,zL,zM,zN,zO,zP,↓reduceIte,reduceCtorEq,decide_true,Bool.not_true]
            refine ⟨texts.length - (i + 1),_,by omega,?_,i + 1,w,nw,by omega,rfl,ow,wop,hnl,rfl⟩
            simp only [go_sem,zA,zB,zC,zD,zE,zF,zG,zH,zI,zJ,zK,zL,zM,zN,zO,zP,↓reduceIte,reduceCtorEq,wrSt,hw1,Srv.cells,refsIn,refsInL,Blk.refsIn]
        · by_cases he : nw = x
          · subst he
            simp only [go_sem,zA,zB,zC,zD,zE,zF,zG,zH,zI,zJ,zK,zL,zM,zN,zO,zP,↓reduceIte,reduceCtorEq,decide_true,Bool.not_true]
            refine ⟨texts.length - (i + 1),_,by omega,?_,i + 1,w,nw,by omega,rfl,ow,wop,hnl,rfl⟩
            simp only [go_sem,zA,zB,zC,zD,zE,zF,zG,zH,zI,zJ,zK,zL,zM,zN,zO,zP,↓reduceIte,reduceCtorEq,wrSt,hw1,Srv.cells,refsIn,refsInL,Blk.refsIn]
          · have ge : decide (nw = x) = false := decide_eq_false he
            simp only [go_sem,zA,zB,zC,zD,zE,zF,zG,zH,zI,zJ,zK,zL,zM,zN,zO,zP,↓reduceIte,reduceCtorEq,decide_true,Bool.not_true,ge]
            refine ⟨texts.length - (i + 1),_,by omega,?_,i + 1,w,nw,by omega,rfl,ow,wop,hnl,rfl⟩
            simp only [go_sem,zA,zB,zC,zD,zE,zF,zG,zH,zI,zJ,zK,zL,zM,zN,zO,zP,↓reduceIte,reduceCtorEq,wrSt,hw1,Srv.cells,refsIn,refsInL,Blk.refsIn]
      · have g5 : decide ((k : Int) < (was.length : Int)) = false := decide_eq_false (by omega)
        simp only [go_sem,zA,zB,zC,zD,zE,zF,zG,zH,zI,zJ,zK,zL,zM,zN,zO,zP,↓reduceIte,reduceCtorEq,mxSt,Srv.cells,List.length_map,g5,f3,f4,f6,lx,Int.toNat_natCast,List.length_cons,List.length_nil,Nat.le_add_left,List.headD_cons,rowsB_length,hx]
        obtain ⟨w,nw,e,came,e1,ow,wop,hnw⟩ := wr_talk ho hop (hx.trans hnow.symm) ways[i].there ways[i].back
        have q4 := write_calls 513 x (by omega)
        rw [write513] at q4
        have t4 := talk_at e1 ho.r
        have q5 := read_calls 513
        rw [show readQ 513 = [0x22,2,1] from rfl] at q5
        have e2 := talk_thru ow.r (q := [0x22,2,1]) (by simp) (by simp)
        rw [one_read ow (by decide)] at e2
        have t5 := talk_at e2 ow.r
        (refine callD_pure (q4) (by simp only [go_sem,zA,zB,zC,zD,zE,zF,zG,zH,zI,zJ,zK,zL,zM,zN,zO,zP,↓reduceIte,reduceCtorEq] <;> first | rfl | decide) ?_; simp only [go_sem,zA,zB,zC,zD,zE,zF,zG,zH,zI,zJ,zK,zL,zM,zN,zO,zP,↓reduceIte,reduceCtorEq,List.length_map,f5,f4,f2,Int.toNat_natCast,List.headD_cons,List.length_cons,List.length_nil,Nat.le_add_left,List.drop_succ_cons,List.drop_zero,and_self,true_and])
        (refine callD_pure (t4) (by simp only [go_sem,zA,zB,zC,zD,zE,zF,zG,zH,zI,zJ,zK,zL,zM,zN,zO,zP,↓reduceIte,reduceCtorEq,Srv.pv,Srv.cells,List.map_nil,List.length_map,f5,f4,f2,Int.toNat_natCast,List.headD_cons,List.length_cons,List.length_nil,Nat.le_add_left,List.drop_succ_cons,List.drop_zero,and_self,true_and] <;> first | rfl | decide) ?_; simp only [go_sem,zA,zB,zC,zD,zE,zF,zG,zH,zI,zJ,zK,zL,zM,zN,zO,zP,↓reduceIte,reduceCtorEq,Srv.pv,Srv.cells,List.map_nil,List.length_map,f5,f4,f2,Int.toNat_natCast,List.headD_cons,List.length_cons,List.length_nil,Nat.le_add_left,List.drop_succ_cons,List.drop_zero,and_self,true_and])
        refine endD_intro (by decide +kernel) ?_
        simp only [go_sem,zA,zB,zC,zD,zE,zF,zG,zH,zI,zJ,zK,zL,zM,zN,zO,zP,↓reduceIte,reduceCtorEq]
        (refine callD_pure (q5) (by simp only [go_sem,zA,zB,zC,zD,zE,zF,zG,zH,zI,zJ,zK,zL,zM,zN,zO,zP,↓reduceIte,reduceCtorEq] <;> first | rfl | decide) ?_; simp only [go_sem,zA,zB,zC,zD,zE,zF,zG,zH,zI,zJ,zK,zL,zM,zN,zO,zP,↓reduceIte,reduceCtorEq])
        (refine callD_pure (t5) (by simp only [go_sem,zA,zB,zC,zD,zE,zF,zG,zH,zI,zJ,zK,zL,zM,zN,zO,zP,↓reduceIte,reduceCtorEq,Srv.pv,Srv.cells,List.map_nil] <;> first | rfl | decide) ?_; simp only [go_sem,zA,zB,zC,zD,zE,zF,zG,zH,zI,zJ,zK,zL,zM,zN,zO,zP,↓reduceIte,reduceCtorEq,Srv.pv,Srv.cells,List.map_nil])
        refine endD_intro (by decide +kernel) ?_
        have hnl : nw.length = was.length := by rcases hnw with h | ⟨h,_⟩ <;> rw [h] <;> assumption
        have gl : decide (((nw.length + 1 + 1 + 1 : Nat) : Int) = IntKind.wrap .i64 (3 + (was.length : Int))) = true := decide_eq_true (by rw [wrapI64_eq]; omega)
        have z0 : (3 : Int) ≤ ((nw.length + 1 + 1 + 1 : Nat) : Int) := by omega
        have hd3 : ∀ l : List UInt8,List.drop 3 (rowsB (98 :: 2 :: 1 :: l)) = rowsB l := fun _ => rfl
        have ht3 : ∀ l : List UInt8,List.take 3 (rowsB (98 :: 2 :: 1 :: l)) = rowsB [98,2,1] := fun _ => rfl
        simp only [go_sem,zA,zB,zC,zD,zE,zF,zG,zH,zI,zJ,zK,zL,zM,zN,zO,zP,↓reduceIte,reduceCtorEq,gl,z0,rowsB_length,List.length_cons,hd3,ht3,Int.toNat_natCast,Nat.reduceSub,Nat.sub_zero,List.take_length]
        refine ⟨by omega,?_⟩
        rcases hnw with rfl | ⟨rfl,rfl⟩
        · cases came with
          | true =>
            simp only [go_sem,zA,zB,zC,zD,zE,zF,zG,zH,zI,zJ,zK,zL,zM,zN,zO,zP,↓reduceIte,reduceCtorEq,decide_true,Bool.not_true]
            refine ⟨texts.length - (i + 1),_,by omega,?_,i + 1,w,nw,by omega,rfl,ow,wop,hnl,rfl⟩
            simp only [go_sem,zA,zB,zC,zD,zE,zF,zG,zH,zI,zJ,zK,zL,zM,zN,zO,zP,↓reduceIte,reduceCtorEq,wrSt,hw1,Srv.cells,refsIn,refsInL,Blk.refsIn]
          | false =>
            simp only [go_sem,zA,zB,zC,zD,zE,zF,zG,zH,zI,zJ,zK,zL,zM,zN,zO,zP,↓reduceIte,reduceCtorEq,decide_true,Bool.not_true]
            refine ⟨texts.length - (i + 1),_,by omega,?_,i + 1,w,nw,by omega,rfl,ow,wop,hnl,rfl⟩
            simp only [go_sem,zA,zB,zC,zD,zE,zF,zG,zH,zI,zJ,zK,zL,zM,zN,zO,zP,↓reduceIte,reduceCtorEq,wrSt,hw1,Srv.cells,refsIn,refsInL,Blk.refsIn]
        · by_cases he : nw = x
          · subst he
            simp only [go_sem,zA,zB,zC,zD,zE,zF,zG,zH,zI,zJ,zK,zL,zM,zN,zO,zP,↓reduceIte,reduceCtorEq,decide_true,Bool.not_true]
            refine ⟨texts.length - (i + 1),_,by omega,?_,i + 1,w,nw,by omega,rfl,ow,wop,hnl,rfl⟩
            simp only [go_sem,zA,zB,zC,zD,zE,zF,zG,zH,zI,zJ,zK,zL,zM,zN,zO,zP,↓reduceIte,reduceCtorEq,wrSt,hw1,Srv.cells,refsIn,refsInL,Blk.refsIn]
          · have ge : decide (nw = x) = false := decide_eq_false he
            simp only [go_sem,zA,zB,zC,zD,zE,zF,zG,zH,zI,zJ,zK,zL,zM,zN,zO,zP,↓reduceIte,reduceCtorEq,decide_true,Bool.not_true,ge]
            refine ⟨texts.length - (i + 1),_,by omega,?_,i + 1,w,nw,by omega,rfl,ow,wop,hnl,rfl⟩
            simp only [go_sem,zA,zB,zC,zD,zE,zF,zG,zH,zI,zJ,zK,zL,zM,zN,zO,zP,↓reduceIte,reduceCtorEq,wrSt,hw1,Srv.cells,refsIn,refsInL,Blk.refsIn]
  · have f1 : decide ((i : Int) < (texts.length : Int)) = false := decide_eq_false (by omega)
    simp only [go_sem,zA,zB,zC,zD,zE,zF,zG,zH,zI,zJ,zK,zL,zM,zN,zO,zP,↓reduceIte,reduceCtorEq,wrSt,Srv.cells,List.length_map,f1,Try.ntmps23,Try.results23]
end Go.Proofs.Ytcdmhigmgpflbaa.Pe

