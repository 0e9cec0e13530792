import Derived.Test.YtcdmhigmgpflbaaTSb
import Derived.Test.YtcdmhigmgpflbaaDL2
namespace Go.Proofs.Ytcdmhigmgpflbaa.Pe
open Go.Pe Go.RowKit
open Nat renaming reduceAdd → zA,reduceSub → zB,reduceMul → zC,reduceLT → zD,reduceLeDiff → zE,reduceEqDiff → zF,reduceBEq → zG
open Int renaming reduceToNat → zH,reduceLT → zI,reduceLE → zJ,reduceEq → zK,reduceNe → zL,reduceAdd → zM,reduceSub → zN,reduceMul → zO,reduceNeg → zP
set_option maxRecDepth 20000
set_option maxHeartbeats 4000000
set_option linter.unusedSimpArgs false
set_option linter.unusedVariables false
theorem hand_yes {v : Srv} (hr : RightS v) {c : UInt8} (hc : isH c) (r : List UInt8) (hl : r.length ≤ 4000) (h3 : v.ses = 3) (ho : v.op = true) : talkV v (c :: r) [] [] = ({ v with quiet := 0 },[],true,true) := by
  rw [talk_thru hr (by simp) (by simp; omega),askV_hand v r hc]
  unfold handA
  rw [if_neg (fun h => h h3),if_neg (by show ¬ v.op = false; rw [ho]; decide)]
theorem hand_no {v : Srv} (hr : RightS v) {c : UInt8} (hc : isH c) (r : List UInt8) (hl : r.length ≤ 4000) (hn : ¬ (v.ses = 3 ∧ v.op = true)) : ∃ w : UInt8,talkV v (c :: r) [] [] = ({ v with quiet := 0 },[0x7F,c,w],false,true) := by
  have e : u8of (c.toNat : Int) = c := by rw [← UInt8.toNat_inj]; have := u8of_val (c.toNat : Int); have := c.toNat_lt; omega
  rw [talk_thru hr (by simp) (by simp; omega),askV_hand v r hc]
  unfold handA denyA denyV
  rw [e]
  by_cases h3 : v.ses = 3
  · rw [if_neg (fun h => h h3),if_pos (by show v.op = false; cases h : v.op; rfl; exact absurd ⟨h3,h⟩ hn)]
    exact ⟨_,rfl⟩
  · rw [if_pos h3]
    exact ⟨_,rfl⟩
theorem hB : isH 0x34 := .inl rfl
theorem hK : isH 0x36 := .inr (.inl rfl)
theorem hE : isH 0x37 := .inr (.inr rfl)
theorem testerHands_calls (S D : UInt32) (ss : UInt8) (op : Bool) (V : UInt32) (N : UInt16) (b : List UInt8) : PureCalls Try.prog 18 [.lit (.int .u32 S.toNat),.lit (.int .u32 D.toNat),.lit (.int .u8 ss.toNat),PB op,.lit (.int .u32 V.toNat),.lit (.int .u16 N.toNat),bytesPV b] (PB true) := by
  refine PureCalls.of tabOK mixed Try.func18 rfl rfl (by decide +kernel) (by simp [Try.ntmps18]) ?_
  have wS := wr32 S
  have wD := wr32 D
  have wv := wr32 V
  have wn := wr16 N
  have hS := u32_wide S
  have hD := u32_wide D
  have w0 : IntKind.wrap .i64 0 = 0 := by decide
  have z0 : decide ((0 : Int) = 0) = true := rfl
  have gd0 : ∀ a b : UInt8,(rowsB [0x7F,a,b]).getD 0 [] = [.lit (.int .u8 127)] := fun _ _ => rfl
  simp only [go_sem,zA,zB,zC,zD,zE,zF,zG,zH,zI,zJ,zK,zL,zM,zN,zO,zP,↓reduceIte,reduceCtorEq,Try.ntmps18,Try.results18]
  (refine CallA.pure (h23_calls) (by simp only [go_sem,zA,zB,zC,zD,zE,zF,zG,zH,zI,zJ,zK,zL,zM,zN,zO,zP,↓reduceIte,reduceCtorEq,rowsB_length] <;> first | rfl | decide) ?_; simp only [go_sem,zA,zB,zC,zD,zE,zF,zG,zH,zI,zJ,zK,zL,zM,zN,zO,zP,↓reduceIte,reduceCtorEq,rowsB_length])
  cases g0 : decide ((b.length : Int) > 100) with
  | true => simp only [go_sem,zA,zB,zC,zD,zE,zF,zG,zH,zI,zJ,zK,zL,zM,zN,zO,zP,↓reduceIte,reduceCtorEq,rowsB_length,g0,Try.ntmps18,Try.results18]
  | false =>
  have h0 := of_decide_eq_false g0
  have c0 := newD_at (newSrv_u32 S D [])
  have qB : PureCalls Try.prog 57 [PI V.toNat,PI N.toNat] (bytesPV (0x34 :: (bytesN V.toNat 4 ++ bytesN N.toNat 4))) := begin_calls V.toNat N.toNat
  have qK : PureCalls Try.prog 56 [PI N.toNat,bytesPV b] (bytesPV (0x36 :: (bytesN N.toNat 2 ++ b))) := block_calls N.toNat b (by omega)
  have qE : PureCalls Try.prog 58 [] (bytesPV [0x37]) := end_calls
  have lB : (bytesN (V.toNat : Int) 4 ++ bytesN (N.toNat : Int) 4).length ≤ 4000 := by simp [bytesN_len]
  have lK : (bytesN (N.toNat : Int) 2 ++ b).length ≤ 4000 := by simp [bytesN_len]; omega
  generalize bytesN (V.toNat : Int) 4 ++ bytesN (N.toNat : Int) 4 = rB at qB lB
  generalize bytesN (N.toNat : Int) 2 ++ b = rK at qK lK
  generalize (S.toNat : Int) = s at wS hS c0
  generalize (D.toNat : Int) = d at wD hD c0
  generalize (V.toNat : Int) = v at wv qB
  generalize (N.toNat : Int) = n at wn qB qK
  have r0 : RightS (freshS s d []) := fresh_right hS hD rfl (by simp)
  obtain ⟨m,hm,hm3⟩ : ∃ m : Int,(ss.toNat : Int).tmod 3 = m ∧ (m = 0 ∨ m = 1 ∨ m = 2) := ⟨_,rfl,by rw [Int.tmod_eq_emod_of_nonneg (by omega)]; omega⟩
  have wm : IntKind.wrap .i64 m = m := by rw [wrapI64_eq]; omega
  have w1 : IntKind.wrap .u8 m = m := by rw [IntKind.wrap_u8]; omega
  simp only [go_sem,zA,zB,zC,zD,zE,zF,zG,zH,zI,zJ,zK,zL,zM,zN,zO,zP,↓reduceIte,reduceCtorEq,rowsB_length,g0,wS,wD]
  rcases hm3 with rfl | rfl | rfl
  · have wp : IntKind.wrap .i64 1 = 1 := by decide
    have q1 := session_calls 1
    rw [show sesQ 1 = [0x10,1] from ses_one 1] at q1
    have e1 := talk_ses r0 (n := 1) (by decide)
    have t1 := talk_at e1 r0
    have r1 := right_to e1 r0
    have nN : ((((1 : UInt8)).toNat : Nat) : Int) = 1 := rfl
    (refine CallA.pure (c0) (by simp only [go_sem,zA,zB,zC,zD,zE,zF,zG,zH,zI,zJ,zK,zL,zM,zN,zO,zP,↓reduceIte,reduceCtorEq,Srv.pv,Srv.cells,freshS,List.map_nil,hm,wm,w1,wp] <;> first | rfl | decide) ?_; simp only [go_sem,zA,zB,zC,zD,zE,zF,zG,zH,zI,zJ,zK,zL,zM,zN,zO,zP,↓reduceIte,reduceCtorEq,Srv.pv,Srv.cells,freshS,List.map_nil,hm,wm,w1,wp])
    (refine callD_pure (q1) (by simp only [go_sem,zA,zB,zC,zD,zE,zF,zG,zH,zI,zJ,zK,zL,zM,zN,zO,zP,↓reduceIte,reduceCtorEq] <;> first | rfl | decide) ?_; simp only [go_sem,zA,zB,zC,zD,zE,zF,zG,zH,zI,zJ,zK,zL,zM,zN,zO,zP,↓reduceIte,reduceCtorEq])
    (refine callD_pure (t1) (by simp only [go_sem,zA,zB,zC,zD,zE,zF,zG,zH,zI,zJ,zK,zL,zM,zN,zO,zP,↓reduceIte,reduceCtorEq,Srv.pv,Srv.cells,freshS,List.map_nil] <;> first | rfl | decide) ?_; simp only [go_sem,zA,zB,zC,zD,zE,zF,zG,zH,zI,zJ,zK,zL,zM,zN,zO,zP,↓reduceIte,reduceCtorEq,Srv.pv,Srv.cells,freshS,List.map_nil])
    refine endD_intro (by decide +kernel) ?_
    have hr := r1
    have hn : ¬ ((((1 : UInt8).toNat : Nat) : Int) = 3 ∧ false = true) := by decide
    cases op with
    | false =>
      simp only [go_sem,zA,zB,zC,zD,zE,zF,zG,zH,zI,zJ,zK,zL,zM,zN,zO,zP,↓reduceIte,reduceCtorEq]
      obtain ⟨x1,y1⟩ := hand_no hr hB rB lB hn
      obtain ⟨x2,y2⟩ := hand_no hr hK rK lK hn
      obtain ⟨x3,y3⟩ := hand_no hr hE [] (by simp) hn
      have a1 := talk_at y1 hr
      have a2 := talk_at y2 hr
      have a3 := talk_at y3 hr
      (refine callD_pure (qB) (by simp only [go_sem,zA,zB,zC,zD,zE,zF,zG,zH,zI,zJ,zK,zL,zM,zN,zO,zP,↓reduceIte,reduceCtorEq,wn,wv] <;> first | rfl | decide) ?_; simp only [go_sem,zA,zB,zC,zD,zE,zF,zG,zH,zI,zJ,zK,zL,zM,zN,zO,zP,↓reduceIte,reduceCtorEq,wn,wv])
      (refine callD_pure (a1) (by simp only [go_sem,zA,zB,zC,zD,zE,zF,zG,zH,zI,zJ,zK,zL,zM,zN,zO,zP,↓reduceIte,reduceCtorEq,Srv.pv,Srv.cells,List.map_nil,freshS] <;> first | rfl | decide) ?_; simp only [go_sem,zA,zB,zC,zD,zE,zF,zG,zH,zI,zJ,zK,zL,zM,zN,zO,zP,↓reduceIte,reduceCtorEq,Srv.pv,Srv.cells,List.map_nil,freshS])
      refine endD_intro (by decide +kernel) ?_
      simp only [go_sem,zA,zB,zC,zD,zE,zF,zG,zH,zI,zJ,zK,zL,zM,zN,zO,zP,↓reduceIte,reduceCtorEq,wn]
      (refine callD_pure (qK) (by simp only [go_sem,zA,zB,zC,zD,zE,zF,zG,zH,zI,zJ,zK,zL,zM,zN,zO,zP,↓reduceIte,reduceCtorEq] <;> first | rfl | decide) ?_; simp only [go_sem,zA,zB,zC,zD,zE,zF,zG,zH,zI,zJ,zK,zL,zM,zN,zO,zP,↓reduceIte,reduceCtorEq])
      (refine callD_pure (a2) (by simp only [go_sem,zA,zB,zC,zD,zE,zF,zG,zH,zI,zJ,zK,zL,zM,zN,zO,zP,↓reduceIte,reduceCtorEq,Srv.pv,Srv.cells,List.map_nil,freshS] <;> first | rfl | decide) ?_; simp only [go_sem,zA,zB,zC,zD,zE,zF,zG,zH,zI,zJ,zK,zL,zM,zN,zO,zP,↓reduceIte,reduceCtorEq,Srv.pv,Srv.cells,List.map_nil,freshS])
      refine endD_intro (by decide +kernel) ?_
      simp only [go_sem,zA,zB,zC,zD,zE,zF,zG,zH,zI,zJ,zK,zL,zM,zN,zO,zP,↓reduceIte,reduceCtorEq]
      (refine callD_pure (qE) (by simp only [go_sem,zA,zB,zC,zD,zE,zF,zG,zH,zI,zJ,zK,zL,zM,zN,zO,zP,↓reduceIte,reduceCtorEq] <;> first | rfl | decide) ?_; simp only [go_sem,zA,zB,zC,zD,zE,zF,zG,zH,zI,zJ,zK,zL,zM,zN,zO,zP,↓reduceIte,reduceCtorEq])
      (refine callD_pure (a3) (by simp only [go_sem,zA,zB,zC,zD,zE,zF,zG,zH,zI,zJ,zK,zL,zM,zN,zO,zP,↓reduceIte,reduceCtorEq,Srv.pv,Srv.cells,List.map_nil,freshS] <;> first | rfl | decide) ?_; simp only [go_sem,zA,zB,zC,zD,zE,zF,zG,zH,zI,zJ,zK,zL,zM,zN,zO,zP,↓reduceIte,reduceCtorEq,Srv.pv,Srv.cells,List.map_nil,freshS])
      refine endD_intro (by decide +kernel) ?_
      simp only [go_sem,zA,zB,zC,zD,zE,zF,zG,zH,zI,zJ,zK,zL,zM,zN,zO,zP,↓reduceIte,reduceCtorEq,gd0,rowsB_length,List.length_cons,List.length_nil,bne_self_eq_false,w0,z0,Int.natCast_zero,Try.ntmps18,Try.results18]
    | true =>
      simp only [go_sem,zA,zB,zC,zD,zE,zF,zG,zH,zI,zJ,zK,zL,zM,zN,zO,zP,↓reduceIte,reduceCtorEq]
      obtain ⟨x1,y1⟩ := hand_no hr hB rB lB hn
      obtain ⟨x2,y2⟩ := hand_no hr hK rK lK hn
      obtain ⟨x3,y3⟩ := hand_no hr hE [] (by simp) hn
      have a1 := talk_at y1 hr
      have a2 := talk_at y2 hr
      have a3 := talk_at y3 hr
      (refine callD_pure (qB) (by simp only [go_sem,zA,zB,zC,zD,zE,zF,zG,zH,zI,zJ,zK,zL,zM,zN,zO,zP,↓reduceIte,reduceCtorEq,wn,wv] <;> first | rfl | decide) ?_; simp only [go_sem,zA,zB,zC,zD,zE,zF,zG,zH,zI,zJ,zK,zL,zM,zN,zO,zP,↓reduceIte,reduceCtorEq,wn,wv])
      (refine callD_pure (a1) (by simp only [go_sem,zA,zB,zC,zD,zE,zF,zG,zH,zI,zJ,zK,zL,zM,zN,zO,zP,↓reduceIte,reduceCtorEq,Srv.pv,Srv.cells,List.map_nil,freshS] <;> first | rfl | decide) ?_; simp only [go_sem,zA,zB,zC,zD,zE,zF,zG,zH,zI,zJ,zK,zL,zM,zN,zO,zP,↓reduceIte,reduceCtorEq,Srv.pv,Srv.cells,List.map_nil,freshS])
      refine endD_intro (by decide +kernel) ?_
      simp only [go_sem,zA,zB,zC,zD,zE,zF,zG,zH,zI,zJ,zK,zL,zM,zN,zO,zP,↓reduceIte,reduceCtorEq,wn]
      (refine callD_pure (qK) (by simp only [go_sem,zA,zB,zC,zD,zE,zF,zG,zH,zI,zJ,zK,zL,zM,zN,zO,zP,↓reduceIte,reduceCtorEq] <;> first | rfl | decide) ?_; simp only [go_sem,zA,zB,zC,zD,zE,zF,zG,zH,zI,zJ,zK,zL,zM,zN,zO,zP,↓reduceIte,reduceCtorEq])
      (refine callD_pure (a2) (by simp only [go_sem,zA,zB,zC,zD,zE,zF,zG,zH,zI,zJ,zK,zL,zM,zN,zO,zP,↓reduceIte,reduceCtorEq,Srv.pv,Srv.cells,List.map_nil,freshS] <;> first | rfl | decide) ?_; simp only [go_sem,zA,zB,zC,zD,zE,zF,zG,zH,zI,zJ,zK,zL,zM,zN,zO,zP,↓reduceIte,reduceCtorEq,Srv.pv,Srv.cells,List.map_nil,freshS])
      refine endD_intro (by decide +kernel) ?_
      simp only [go_sem,zA,zB,zC,zD,zE,zF,zG,zH,zI,zJ,zK,zL,zM,zN,zO,zP,↓reduceIte,reduceCtorEq]
      (refine callD_pure (qE) (by simp only [go_sem,zA,zB,zC,zD,zE,zF,zG,zH,zI,zJ,zK,zL,zM,zN,zO,zP,↓reduceIte,reduceCtorEq] <;> first | rfl | decide) ?_; simp only [go_sem,zA,zB,zC,zD,zE,zF,zG,zH,zI,zJ,zK,zL,zM,zN,zO,zP,↓reduceIte,reduceCtorEq])
      (refine callD_pure (a3) (by simp only [go_sem,zA,zB,zC,zD,zE,zF,zG,zH,zI,zJ,zK,zL,zM,zN,zO,zP,↓reduceIte,reduceCtorEq,Srv.pv,Srv.cells,List.map_nil,freshS] <;> first | rfl | decide) ?_; simp only [go_sem,zA,zB,zC,zD,zE,zF,zG,zH,zI,zJ,zK,zL,zM,zN,zO,zP,↓reduceIte,reduceCtorEq,Srv.pv,Srv.cells,List.map_nil,freshS])
      refine endD_intro (by decide +kernel) ?_
      simp only [go_sem,zA,zB,zC,zD,zE,zF,zG,zH,zI,zJ,zK,zL,zM,zN,zO,zP,↓reduceIte,reduceCtorEq,gd0,rowsB_length,List.length_cons,List.length_nil,bne_self_eq_false,w0,z0,Int.natCast_zero,Try.ntmps18,Try.results18]
  · have wp : IntKind.wrap .i64 2 = 2 := by decide
    have q1 := session_calls 2
    rw [show sesQ 2 = [0x10,2] from ses_one 2] at q1
    have e1 := talk_ses r0 (n := 2) (by decide)
    have t1 := talk_at e1 r0
    have r1 := right_to e1 r0
    have nN : ((((2 : UInt8)).toNat : Nat) : Int) = 2 := rfl
    (refine CallA.pure (c0) (by simp only [go_sem,zA,zB,zC,zD,zE,zF,zG,zH,zI,zJ,zK,zL,zM,zN,zO,zP,↓reduceIte,reduceCtorEq,Srv.pv,Srv.cells,freshS,List.map_nil,hm,wm,w1,wp] <;> first | rfl | decide) ?_; simp only [go_sem,zA,zB,zC,zD,zE,zF,zG,zH,zI,zJ,zK,zL,zM,zN,zO,zP,↓reduceIte,reduceCtorEq,Srv.pv,Srv.cells,freshS,List.map_nil,hm,wm,w1,wp])
    (refine callD_pure (q1) (by simp only [go_sem,zA,zB,zC,zD,zE,zF,zG,zH,zI,zJ,zK,zL,zM,zN,zO,zP,↓reduceIte,reduceCtorEq] <;> first | rfl | decide) ?_; simp only [go_sem,zA,zB,zC,zD,zE,zF,zG,zH,zI,zJ,zK,zL,zM,zN,zO,zP,↓reduceIte,reduceCtorEq])
    (refine callD_pure (t1) (by simp only [go_sem,zA,zB,zC,zD,zE,zF,zG,zH,zI,zJ,zK,zL,zM,zN,zO,zP,↓reduceIte,reduceCtorEq,Srv.pv,Srv.cells,freshS,List.map_nil] <;> first | rfl | decide) ?_; simp only [go_sem,zA,zB,zC,zD,zE,zF,zG,zH,zI,zJ,zK,zL,zM,zN,zO,zP,↓reduceIte,reduceCtorEq,Srv.pv,Srv.cells,freshS,List.map_nil])
    refine endD_intro (by decide +kernel) ?_
    cases op with
    | false =>
      have hr := r1
      have hn : ¬ ((((2 : UInt8).toNat : Nat) : Int) = 3 ∧ false = true) := by decide
      simp only [go_sem,zA,zB,zC,zD,zE,zF,zG,zH,zI,zJ,zK,zL,zM,zN,zO,zP,↓reduceIte,reduceCtorEq]
      obtain ⟨x1,y1⟩ := hand_no hr hB rB lB hn
      obtain ⟨x2,y2⟩ := hand_no hr hK rK lK hn
      obtain ⟨x3,y3⟩ := hand_no hr hE [] (by simp) hn
      have a1 := talk_at y1 hr
      have a2 := talk_at y2 hr
      have a3 := talk_at y3 hr
      (refine callD_pure (qB) (by simp only [go_sem,zA,zB,zC,zD,zE,zF,zG,zH,zI,zJ,zK,zL,zM,zN,zO,zP,↓reduceIte,reduceCtorEq,wn,wv] <;> first | rfl | decide) ?_; simp only [go_sem,zA,zB,zC,zD,zE,zF,zG,zH,zI,zJ,zK,zL,zM,zN,zO,zP,↓reduceIte,reduceCtorEq,wn,wv])
      (refine callD_pure (a1) (by simp only [go_sem,zA,zB,zC,zD,zE,zF,zG,zH,zI,zJ,zK,zL,zM,zN,zO,zP,↓reduceIte,reduceCtorEq,Srv.pv,Srv.cells,List.map_nil,freshS] <;> first | rfl | decide) ?_; simp only [go_sem,zA,zB,zC,zD,zE,zF,zG,zH,zI,zJ,zK,zL,zM,zN,zO,zP,↓reduceIte,reduceCtorEq,Srv.pv,Srv.cells,List.map_nil,freshS])
      refine endD_intro (by decide +kernel) ?_
      simp only [go_sem,zA,zB,zC,zD,zE,zF,zG,zH,zI,zJ,zK,zL,zM,zN,zO,zP,↓reduceIte,reduceCtorEq,wn]
      (refine callD_pure (qK) (by simp only [go_sem,zA,zB,zC,zD,zE,zF,zG,zH,zI,zJ,zK,zL,zM,zN,zO,zP,↓reduceIte,reduceCtorEq] <;> first | rfl | decide) ?_; simp only [go_sem,zA,zB,zC,zD,zE,zF,zG,zH,zI,zJ,zK,zL,zM,zN,zO,zP,↓reduceIte,reduceCtorEq])
      (refine callD_pure (a2) (by simp only [go_sem,zA,zB,zC,zD,zE,zF,zG,zH,zI,zJ,zK,zL,zM,zN,zO,zP,↓reduceIte,reduceCtorEq,Srv.pv,Srv.cells,List.map_nil,freshS] <;> first | rfl | decide) ?_; simp only [go_sem,zA,zB,zC,zD,zE,zF,zG,zH,zI,zJ,zK,zL,zM,zN,zO,zP,↓reduceIte,reduceCtorEq,Srv.pv,Srv.cells,List.map_nil,freshS])
      refine endD_intro (by decide +kernel) ?_
      simp only [go_sem,zA,zB,zC,zD,zE,zF,zG,zH,zI,zJ,zK,zL,zM,zN,zO,zP,↓reduceIte,reduceCtorEq]
      (refine callD_pure (qE) (by simp only [go_sem,zA,zB,zC,zD,zE,zF,zG,zH,zI,zJ,zK,zL,zM,zN,zO,zP,↓reduceIte,reduceCtorEq] <;> first | rfl | decide) ?_; simp only [go_sem,zA,zB,zC,zD,zE,zF,zG,zH,zI,zJ,zK,zL,zM,zN,zO,zP,↓reduceIte,reduceCtorEq])
      (refine callD_pure (a3) (by simp only [go_sem,zA,zB,zC,zD,zE,zF,zG,zH,zI,zJ,zK,zL,zM,zN,zO,zP,↓reduceIte,reduceCtorEq,Srv.pv,Srv.cells,List.map_nil,freshS] <;> first | rfl | decide) ?_; simp only [go_sem,zA,zB,zC,zD,zE,zF,zG,zH,zI,zJ,zK,zL,zM,zN,zO,zP,↓reduceIte,reduceCtorEq,Srv.pv,Srv.cells,List.map_nil,freshS])
      refine endD_intro (by decide +kernel) ?_
      simp only [go_sem,zA,zB,zC,zD,zE,zF,zG,zH,zI,zJ,zK,zL,zM,zN,zO,zP,↓reduceIte,reduceCtorEq,gd0,rowsB_length,List.length_cons,List.length_nil,bne_self_eq_false,w0,z0,Int.natCast_zero,Try.ntmps18,Try.results18]
    | true =>
      have n2 : ((((2 : UInt8)).toNat : Nat) : Int) ≠ 1 := by decide
      have e3 := talk_seed r1 (by decide : (0 : Int) ≤ 2) n2 rfl
      have t3 := talk_at e3 r1
      have r3 := right_to e3 r1
      have k1 := keyFor_at (keyFor_four hD s)
      have e6 := talk_good r3 (by decide : (0 : Int) ≤ 2) n2 hD.1
      have t6 := talk_at e6 r3
      have hr := right_to e6 r3
      have q2 := seed_calls
      simp only [go_sem,zA,zB,zC,zD,zE,zF,zG,zH,zI,zJ,zK,zL,zM,zN,zO,zP,↓reduceIte,reduceCtorEq]
      (refine callD_pure (q2) (by simp only [go_sem,zA,zB,zC,zD,zE,zF,zG,zH,zI,zJ,zK,zL,zM,zN,zO,zP,↓reduceIte,reduceCtorEq] <;> first | rfl | decide) ?_; simp only [go_sem,zA,zB,zC,zD,zE,zF,zG,zH,zI,zJ,zK,zL,zM,zN,zO,zP,↓reduceIte,reduceCtorEq])
      (refine callD_pure (t3) (by simp only [go_sem,zA,zB,zC,zD,zE,zF,zG,zH,zI,zJ,zK,zL,zM,zN,zO,zP,↓reduceIte,reduceCtorEq,Srv.pv,Srv.cells,freshS,List.map_nil] <;> first | rfl | decide) ?_; simp only [go_sem,zA,zB,zC,zD,zE,zF,zG,zH,zI,zJ,zK,zL,zM,zN,zO,zP,↓reduceIte,reduceCtorEq,Srv.pv,Srv.cells,freshS,List.map_nil])
      refine endD_intro (by decide +kernel) ?_
      simp only [go_sem,zA,zB,zC,zD,zE,zF,zG,zH,zI,zJ,zK,zL,zM,zN,zO,zP,↓reduceIte,reduceCtorEq,wS]
      (refine CallA.pure (k1) (by simp only [go_sem,zA,zB,zC,zD,zE,zF,zG,zH,zI,zJ,zK,zL,zM,zN,zO,zP,↓reduceIte,reduceCtorEq,Srv.pv,Srv.cells,freshS,List.map_nil] <;> first | rfl | decide) ?_; simp only [go_sem,zA,zB,zC,zD,zE,zF,zG,zH,zI,zJ,zK,zL,zM,zN,zO,zP,↓reduceIte,reduceCtorEq,Srv.pv,Srv.cells,freshS,List.map_nil])
      (refine CallA.pure (t6) (by simp only [go_sem,zA,zB,zC,zD,zE,zF,zG,zH,zI,zJ,zK,zL,zM,zN,zO,zP,↓reduceIte,reduceCtorEq,Srv.pv,Srv.cells,freshS,List.map_nil,wn,wv] <;> first | rfl | decide) ?_; simp only [go_sem,zA,zB,zC,zD,zE,zF,zG,zH,zI,zJ,zK,zL,zM,zN,zO,zP,↓reduceIte,reduceCtorEq,Srv.pv,Srv.cells,freshS,List.map_nil,wn,wv])
      have hn : ¬ ((((2 : UInt8).toNat : Nat) : Int) = 3 ∧ true = true) := by decide
      obtain ⟨x1,y1⟩ := hand_no hr hB rB lB hn
      obtain ⟨x2,y2⟩ := hand_no hr hK rK lK hn
      obtain ⟨x3,y3⟩ := hand_no hr hE [] (by simp) hn
      have a1 := talk_at y1 hr
      have a2 := talk_at y2 hr
      have a3 := talk_at y3 hr
      (refine callD_pure (qB) (by simp only [go_sem,zA,zB,zC,zD,zE,zF,zG,zH,zI,zJ,zK,zL,zM,zN,zO,zP,↓reduceIte,reduceCtorEq,wn,wv] <;> first | rfl | decide) ?_; simp only [go_sem,zA,zB,zC,zD,zE,zF,zG,zH,zI,zJ,zK,zL,zM,zN,zO,zP,↓reduceIte,reduceCtorEq,wn,wv])
      (refine callD_pure (a1) (by simp only [go_sem,zA,zB,zC,zD,zE,zF,zG,zH,zI,zJ,zK,zL,zM,zN,zO,zP,↓reduceIte,reduceCtorEq,Srv.pv,Srv.cells,List.map_nil,freshS] <;> first | rfl | decide) ?_; simp only [go_sem,zA,zB,zC,zD,zE,zF,zG,zH,zI,zJ,zK,zL,zM,zN,zO,zP,↓reduceIte,reduceCtorEq,Srv.pv,Srv.cells,List.map_nil,freshS])
      refine endD_intro (by decide +kernel) ?_
      simp only [go_sem,zA,zB,zC,zD,zE,zF,zG,zH,zI,zJ,zK,zL,zM,zN,zO,zP,↓reduceIte,reduceCtorEq,wn]
      (refine callD_pure (qK) (by simp only [go_sem,zA,zB,zC,zD,zE,zF,zG,zH,zI,zJ,zK,zL,zM,zN,zO,zP,↓reduceIte,reduceCtorEq] <;> first | rfl | decide) ?_; simp only [go_sem,zA,zB,zC,zD,zE,zF,zG,zH,zI,zJ,zK,zL,zM,zN,zO,zP,↓reduceIte,reduceCtorEq])
      (refine callD_pure (a2) (by simp only [go_sem,zA,zB,zC,zD,zE,zF,zG,zH,zI,zJ,zK,zL,zM,zN,zO,zP,↓reduceIte,reduceCtorEq,Srv.pv,Srv.cells,List.map_nil,freshS] <;> first | rfl | decide) ?_; simp only [go_sem,zA,zB,zC,zD,zE,zF,zG,zH,zI,zJ,zK,zL,zM,zN,zO,zP,↓reduceIte,reduceCtorEq,Srv.pv,Srv.cells,List.map_nil,freshS])
      refine endD_intro (by decide +kernel) ?_
      simp only [go_sem,zA,zB,zC,zD,zE,zF,zG,zH,zI,zJ,zK,zL,zM,zN,zO,zP,↓reduceIte,reduceCtorEq]
      (refine callD_pure (qE) (by simp only [go_sem,zA,zB,zC,zD,zE,zF,zG,zH,zI,zJ,zK,zL,zM,zN,zO,zP,↓reduceIte,reduceCtorEq] <;> first | rfl | decide) ?_; simp only [go_sem,zA,zB,zC,zD,zE,zF,zG,zH,zI,zJ,zK,zL,zM,zN,zO,zP,↓reduceIte,reduceCtorEq])
      (refine callD_pure (a3) (by simp only [go_sem,zA,zB,zC,zD,zE,zF,zG,zH,zI,zJ,zK,zL,zM,zN,zO,zP,↓reduceIte,reduceCtorEq,Srv.pv,Srv.cells,List.map_nil,freshS] <;> first | rfl | decide) ?_; simp only [go_sem,zA,zB,zC,zD,zE,zF,zG,zH,zI,zJ,zK,zL,zM,zN,zO,zP,↓reduceIte,reduceCtorEq,Srv.pv,Srv.cells,List.map_nil,freshS])
      refine endD_intro (by decide +kernel) ?_
      simp only [go_sem,zA,zB,zC,zD,zE,zF,zG,zH,zI,zJ,zK,zL,zM,zN,zO,zP,↓reduceIte,reduceCtorEq,gd0,rowsB_length,List.length_cons,List.length_nil,bne_self_eq_false,w0,z0,Int.natCast_zero,Try.ntmps18,Try.results18]
  · have wp : IntKind.wrap .i64 3 = 3 := by decide
    have q1 := session_calls 3
    rw [show sesQ 3 = [0x10,3] from ses_one 3] at q1
    have e1 := talk_ses r0 (n := 3) (by decide)
    have t1 := talk_at e1 r0
    have r1 := right_to e1 r0
    have nN : ((((3 : UInt8)).toNat : Nat) : Int) = 3 := rfl
    (refine CallA.pure (c0) (by simp only [go_sem,zA,zB,zC,zD,zE,zF,zG,zH,zI,zJ,zK,zL,zM,zN,zO,zP,↓reduceIte,reduceCtorEq,Srv.pv,Srv.cells,freshS,List.map_nil,hm,wm,w1,wp] <;> first | rfl | decide) ?_; simp only [go_sem,zA,zB,zC,zD,zE,zF,zG,zH,zI,zJ,zK,zL,zM,zN,zO,zP,↓reduceIte,reduceCtorEq,Srv.pv,Srv.cells,freshS,List.map_nil,hm,wm,w1,wp])
    (refine callD_pure (q1) (by simp only [go_sem,zA,zB,zC,zD,zE,zF,zG,zH,zI,zJ,zK,zL,zM,zN,zO,zP,↓reduceIte,reduceCtorEq] <;> first | rfl | decide) ?_; simp only [go_sem,zA,zB,zC,zD,zE,zF,zG,zH,zI,zJ,zK,zL,zM,zN,zO,zP,↓reduceIte,reduceCtorEq])
    (refine callD_pure (t1) (by simp only [go_sem,zA,zB,zC,zD,zE,zF,zG,zH,zI,zJ,zK,zL,zM,zN,zO,zP,↓reduceIte,reduceCtorEq,Srv.pv,Srv.cells,freshS,List.map_nil] <;> first | rfl | decide) ?_; simp only [go_sem,zA,zB,zC,zD,zE,zF,zG,zH,zI,zJ,zK,zL,zM,zN,zO,zP,↓reduceIte,reduceCtorEq,Srv.pv,Srv.cells,freshS,List.map_nil])
    refine endD_intro (by decide +kernel) ?_
    cases op with
    | false =>
      have hr := r1
      have hn : ¬ ((((3 : UInt8).toNat : Nat) : Int) = 3 ∧ false = true) := by decide
      simp only [go_sem,zA,zB,zC,zD,zE,zF,zG,zH,zI,zJ,zK,zL,zM,zN,zO,zP,↓reduceIte,reduceCtorEq]
      obtain ⟨x1,y1⟩ := hand_no hr hB rB lB hn
      obtain ⟨x2,y2⟩ := hand_no hr hK rK lK hn
      obtain ⟨x3,y3⟩ := hand_no hr hE [] (by simp) hn
      have a1 := talk_at y1 hr
      have a2 := talk_at y2 hr
      have a3 := talk_at y3 hr
      (refine callD_pure (qB) (by simp only [go_sem,zA,zB,zC,zD,zE,zF,zG,zH,zI,zJ,zK,zL,zM,zN,zO,zP,↓reduceIte,reduceCtorEq,wn,wv] <;> first | rfl | decide) ?_; simp only [go_sem,zA,zB,zC,zD,zE,zF,zG,zH,zI,zJ,zK,zL,zM,zN,zO,zP,↓reduceIte,reduceCtorEq,wn,wv])
      (refine callD_pure (a1) (by simp only [go_sem,zA,zB,zC,zD,zE,zF,zG,zH,zI,zJ,zK,zL,zM,zN,zO,zP,↓reduceIte,reduceCtorEq,Srv.pv,Srv.cells,List.map_nil,freshS] <;> first | rfl | decide) ?_; simp only [go_sem,zA,zB,zC,zD,zE,zF,zG,zH,zI,zJ,zK,zL,zM,zN,zO,zP,↓reduceIte,reduceCtorEq,Srv.pv,Srv.cells,List.map_nil,freshS])
      refine endD_intro (by decide +kernel) ?_
      simp only [go_sem,zA,zB,zC,zD,zE,zF,zG,zH,zI,zJ,zK,zL,zM,zN,zO,zP,↓reduceIte,reduceCtorEq,wn]
      (refine callD_pure (qK) (by simp only [go_sem,zA,zB,zC,zD,zE,zF,zG,zH,zI,zJ,zK,zL,zM,zN,zO,zP,↓reduceIte,reduceCtorEq] <;> first | rfl | decide) ?_; simp only [go_sem,zA,zB,zC,zD,zE,zF,zG,zH,zI,zJ,zK,zL,zM,zN,zO,zP,↓reduceIte,reduceCtorEq])
      (refine callD_pure (a2) (by simp only [go_sem,zA,zB,zC,zD,zE,zF,zG,zH,zI,zJ,zK,zL,zM,zN,zO,zP,↓reduceIte,reduceCtorEq,Srv.pv,Srv.cells,List.map_nil,freshS] <;> first | rfl | decide) ?_; simp only [go_sem,zA,zB,zC,zD,zE,zF,zG,zH,zI,zJ,zK,zL,zM,zN,zO,zP,↓reduceIte,reduceCtorEq,Srv.pv,Srv.cells,List.map_nil,freshS])
      refine endD_intro (by decide +kernel) ?_
      simp only [go_sem,zA,zB,zC,zD,zE,zF,zG,zH,zI,zJ,zK,zL,zM,zN,zO,zP,↓reduceIte,reduceCtorEq]
      (refine callD_pure (qE) (by simp only [go_sem,zA,zB,zC,zD,zE,zF,zG,zH,zI,zJ,zK,zL,zM,zN,zO,zP,↓reduceIte,reduceCtorEq] <;> first | rfl | decide) ?_; simp only [go_sem,zA,zB,zC,zD,zE,zF,zG,zH,zI,zJ,zK,zL,zM,zN,zO,zP,↓reduceIte,reduceCtorEq])
      (refine callD_pure (a3) (by simp only [go_sem,zA,zB,zC,zD,zE,zF,zG,zH,zI,zJ,zK,zL,zM,zN,zO,zP,↓reduceIte,reduceCtorEq,Srv.pv,Srv.cells,List.map_nil,freshS] <;> first | rfl | decide) ?_; simp only [go_sem,zA,zB,zC,zD,zE,zF,zG,zH,zI,zJ,zK,zL,zM,zN,zO,zP,↓reduceIte,reduceCtorEq,Srv.pv,Srv.cells,List.map_nil,freshS])
      refine endD_intro (by decide +kernel) ?_
      simp only [go_sem,zA,zB,zC,zD,zE,zF,zG,zH,zI,zJ,zK,zL,zM,zN,zO,zP,↓reduceIte,reduceCtorEq,gd0,rowsB_length,List.length_cons,List.length_nil,bne_self_eq_false,w0,z0,Int.natCast_zero,Try.ntmps18,Try.results18]
    | true =>
      have n2 : ((((3 : UInt8)).toNat : Nat) : Int) ≠ 1 := by decide
      have e3 := talk_seed r1 (by decide : (0 : Int) ≤ 2) n2 rfl
      have t3 := talk_at e3 r1
      have r3 := right_to e3 r1
      have k1 := keyFor_at (keyFor_four hD s)
      have e6 := talk_good r3 (by decide : (0 : Int) ≤ 2) n2 hD.1
      have t6 := talk_at e6 r3
      have hr := right_to e6 r3
      have q2 := seed_calls
      simp only [go_sem,zA,zB,zC,zD,zE,zF,zG,zH,zI,zJ,zK,zL,zM,zN,zO,zP,↓reduceIte,reduceCtorEq]
      (refine callD_pure (q2) (by simp only [go_sem,zA,zB,zC,zD,zE,zF,zG,zH,zI,zJ,zK,zL,zM,zN,zO,zP,↓reduceIte,reduceCtorEq] <;> first | rfl | decide) ?_; simp only [go_sem,zA,zB,zC,zD,zE,zF,zG,zH,zI,zJ,zK,zL,zM,zN,zO,zP,↓reduceIte,reduceCtorEq])
      (refine callD_pure (t3) (by simp only [go_sem,zA,zB,zC,zD,zE,zF,zG,zH,zI,zJ,zK,zL,zM,zN,zO,zP,↓reduceIte,reduceCtorEq,Srv.pv,Srv.cells,freshS,List.map_nil] <;> first | rfl | decide) ?_; simp only [go_sem,zA,zB,zC,zD,zE,zF,zG,zH,zI,zJ,zK,zL,zM,zN,zO,zP,↓reduceIte,reduceCtorEq,Srv.pv,Srv.cells,freshS,List.map_nil])
      refine endD_intro (by decide +kernel) ?_
      simp only [go_sem,zA,zB,zC,zD,zE,zF,zG,zH,zI,zJ,zK,zL,zM,zN,zO,zP,↓reduceIte,reduceCtorEq,wS]
      (refine CallA.pure (k1) (by simp only [go_sem,zA,zB,zC,zD,zE,zF,zG,zH,zI,zJ,zK,zL,zM,zN,zO,zP,↓reduceIte,reduceCtorEq,Srv.pv,Srv.cells,freshS,List.map_nil] <;> first | rfl | decide) ?_; simp only [go_sem,zA,zB,zC,zD,zE,zF,zG,zH,zI,zJ,zK,zL,zM,zN,zO,zP,↓reduceIte,reduceCtorEq,Srv.pv,Srv.cells,freshS,List.map_nil])
      (refine CallA.pure (t6) (by simp only [go_sem,zA,zB,zC,zD,zE,zF,zG,zH,zI,zJ,zK,zL,zM,zN,zO,zP,↓reduceIte,reduceCtorEq,Srv.pv,Srv.cells,freshS,List.map_nil,wn,wv] <;> first | rfl | decide) ?_; simp only [go_sem,zA,zB,zC,zD,zE,zF,zG,zH,zI,zJ,zK,zL,zM,zN,zO,zP,↓reduceIte,reduceCtorEq,Srv.pv,Srv.cells,freshS,List.map_nil,wn,wv])
      have h3 : (((3 : UInt8).toNat : Nat) : Int) = 3 := rfl
      have ho : true = true := rfl
      have a1 := talk_at (hand_yes hr hB rB lB h3 ho) hr
      have a2 := talk_at (hand_yes hr hK rK lK h3 ho) hr
      have a3 := talk_at (hand_yes hr hE [] (by simp) h3 ho) hr
      (refine callD_pure (qB) (by simp only [go_sem,zA,zB,zC,zD,zE,zF,zG,zH,zI,zJ,zK,zL,zM,zN,zO,zP,↓reduceIte,reduceCtorEq,wn,wv] <;> first | rfl | decide) ?_; simp only [go_sem,zA,zB,zC,zD,zE,zF,zG,zH,zI,zJ,zK,zL,zM,zN,zO,zP,↓reduceIte,reduceCtorEq,wn,wv])
      (refine callD_pure (a1) (by simp only [go_sem,zA,zB,zC,zD,zE,zF,zG,zH,zI,zJ,zK,zL,zM,zN,zO,zP,↓reduceIte,reduceCtorEq,Srv.pv,Srv.cells,List.map_nil,freshS] <;> first | rfl | decide) ?_; simp only [go_sem,zA,zB,zC,zD,zE,zF,zG,zH,zI,zJ,zK,zL,zM,zN,zO,zP,↓reduceIte,reduceCtorEq,Srv.pv,Srv.cells,List.map_nil,freshS])
      refine endD_intro (by decide +kernel) ?_
      simp only [go_sem,zA,zB,zC,zD,zE,zF,zG,zH,zI,zJ,zK,zL,zM,zN,zO,zP,↓reduceIte,reduceCtorEq,wn]
      (refine callD_pure (qK) (by simp only [go_sem,zA,zB,zC,zD,zE,zF,zG,zH,zI,zJ,zK,zL,zM,zN,zO,zP,↓reduceIte,reduceCtorEq] <;> first | rfl | decide) ?_; simp only [go_sem,zA,zB,zC,zD,zE,zF,zG,zH,zI,zJ,zK,zL,zM,zN,zO,zP,↓reduceIte,reduceCtorEq])
      (refine callD_pure (a2) (by simp only [go_sem,zA,zB,zC,zD,zE,zF,zG,zH,zI,zJ,zK,zL,zM,zN,zO,zP,↓reduceIte,reduceCtorEq,Srv.pv,Srv.cells,List.map_nil,freshS] <;> first | rfl | decide) ?_; simp only [go_sem,zA,zB,zC,zD,zE,zF,zG,zH,zI,zJ,zK,zL,zM,zN,zO,zP,↓reduceIte,reduceCtorEq,Srv.pv,Srv.cells,List.map_nil,freshS])
      refine endD_intro (by decide +kernel) ?_
      simp only [go_sem,zA,zB,zC,zD,zE,zF,zG,zH,zI,zJ,zK,zL,zM,zN,zO,zP,↓reduceIte,reduceCtorEq]
      (refine callD_pure (qE) (by simp only [go_sem,zA,zB,zC,zD,zE,zF,zG,zH,zI,zJ,zK,zL,zM,zN,zO,zP,↓reduceIte,reduceCtorEq] <;> first | rfl | decide) ?_; simp only [go_sem,zA,zB,zC,zD,zE,zF,zG,zH,zI,zJ,zK,zL,zM,zN,zO,zP,↓reduceIte,reduceCtorEq])
      (refine callD_pure (a3) (by simp only [go_sem,zA,zB,zC,zD,zE,zF,zG,zH,zI,zJ,zK,zL,zM,zN,zO,zP,↓reduceIte,reduceCtorEq,Srv.pv,Srv.cells,List.map_nil,freshS] <;> first | rfl | decide) ?_; simp only [go_sem,zA,zB,zC,zD,zE,zF,zG,zH,zI,zJ,zK,zL,zM,zN,zO,zP,↓reduceIte,reduceCtorEq,Srv.pv,Srv.cells,List.map_nil,freshS])
      refine endD_intro (by decide +kernel) ?_
      simp only [go_sem,zA,zB,zC,zD,zE,zF,zG,zH,zI,zJ,zK,zL,zM,zN,zO,zP,↓reduceIte,reduceCtorEq,rowsB_nil,List.length_nil,bne_self_eq_false,w0,z0,Int.natCast_zero,Try.ntmps18,Try.results18]
end Go.Proofs.Ytcdmhigmgpflbaa.Pe

