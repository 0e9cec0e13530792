import Derived.Test.YtcdmhigmgpflbaaTU3
import Derived.Test.YtcdmhigmgpflbaaDL9
namespace Go.Proofs.Ytcdmhigmgpflbaa.Pe
open Go.Pe Go.RowKit
open Nat renaming reduceAdd → zA,reduceSub → zB,reduceMul → zC,reduceLT → zD,reduceLeDiff → zE,reduceEqDiff → zF,reduceBEq → zG
open Int renaming reduceToNat → zH,reduceLT → zI,reduceLE → zJ,reduceEq → zK,reduceNe → zL,reduceAdd → zM,reduceSub → zN,reduceMul → zO,reduceNeg → zP
set_option maxRecDepth 20000
set_option maxHeartbeats 4000000
set_option linter.unusedSimpArgs false
set_option linter.unusedVariables false
theorem ba_app (a b : List UInt8) : (⟨a.toArray⟩ : ByteArray) ++ ⟨b.toArray⟩ = ⟨(a ++ b).toArray⟩ := by
  refine ByteArray.ext ?_
  simp
theorem u16Rows_getD {l : List UInt16} {i : Nat} (h : i < l.length) : (l.map rowU16).getD i [] = [.lit (.int .u16 l[i].toNat)] := by
  simp [List.getD_eq_getElem?_getD,h,rowU16]
theorem bools_getD {l : List Bool} {i : Nat} (h : i < l.length) : (l.map rowBo).getD i [] = [PB l[i]] := by
  simp [List.getD_eq_getElem?_getD,h,rowBo]
theorem ask_trb {s : Srv} (m : UInt8) : askV s [0x19,m] = ({ s with quiet := 0 },0x59 :: m :: packV m.toNat s.dtc,false) := rfl
theorem ask_clr {s : Srv} (h : s.ses = 2) : askV s clearQ = ({ s with quiet := 0,dtc := [] },[0x54],false) := by
  have e : askV s clearQ = forgetA { s with quiet := 0 } [] := rfl
  rw [e,forgetA,if_pos h]
  rfl
theorem ask_clr_no {s : Srv} (h : s.ses ≠ 2) : askV s clearQ = ({ s with quiet := 0 },[0x7f,0x14,0x22],false) := by
  have e : askV s clearQ = forgetA { s with quiet := 0 } [] := rfl
  rw [e,forgetA,if_neg h]
  rfl
theorem trbl_one (m : UInt8) : trblQ (m.toNat : Int) = [0x19,m] := by
  unfold trblQ
  rw [bytesN1]
  congr 2
  rw [← UInt8.toNat_inj]; have := u8of_val (m.toNat : Int); have := m.toNat_lt; omega
/-- A server with troubles. -/
def trbS (n : Int) (l : List Trb) : Srv := ⟨n,false,-1,0,0,5,5,[],l⟩
theorem trbS_right {n : Int} {l : List Trb} (h : 1 ≤ n ∧ n ≤ 3) (hl : rightL l = true) : RightS (trbS n l) :=
  ⟨rfl,h,(by decide : (-1 : Int) ≤ -1 ∧ (-1 : Int) ≤ 4294967295),(by decide : (0 : Int) ≤ 0 ∧ (0 : Int) ≤ 12),(by decide : (0 : Int) ≤ 0 ∧ (0 : Int) ≤ 51),(by decide : (0 : Int) ≤ 5 ∧ (5 : Int) ≤ 4294967295),(by decide : (0 : Int) ≤ 5 ∧ (5 : Int) ≤ 4294967295),(by decide : (0 : Nat) ≤ 16),hl⟩
def tbSt (ids : List UInt16) (fl rd : List Bool) (mk ss : UInt8) (v : PV) (i : Nat) : St := ⟨176,[(0,u16sPV ids),(1,boolsPV fl),(2,boolsPV rd),(3,.lit (.int .u8 mk.toNat)),(4,.lit (.int .u8 ss.toNat)),(11,PB true),(12,v),(13,PI i)],[],200,0⟩
def tbI (ids : List UInt16) (fl rd : List Bool) (mk ss : UInt8) (m : Nat) (x : St) : Prop := ∃ (i : Nat) (L : List Trb) (v : PV),i ≤ ids.length ∧ m = ids.length - i ∧ rightL L = true ∧ ((v = .lit (.slice none 0 0) ∧ L = []) ∨ v = trbsPV L) ∧ x = tbSt ids fl rd mk ss v i
theorem topTroubles_calls (ids : List UInt16) (fl rd : List Bool) (mk ss : UInt8) : PureCalls Try.prog 25 [u16sPV ids,boolsPV fl,boolsPV rd,.lit (.int .u8 mk.toNat),.lit (.int .u8 ss.toNat)] (PB true) := by
  refine PureCalls.of tabOK mixed Try.func25 rfl rfl (by decide +kernel) (by simp [Try.ntmps25]) ?_
  simp only [go_sem,zA,zB,zC,zD,zE,zF,zG,zH,zI,zJ,zK,zL,zM,zN,zO,zP,↓reduceIte,reduceCtorEq,Try.ntmps25,Try.results25]
  (refine CallA.pure (top22_calls) (by simp only [go_sem,zA,zB,zC,zD,zE,zF,zG,zH,zI,zJ,zK,zL,zM,zN,zO,zP,↓reduceIte,reduceCtorEq,Try.ntmps25,Try.results25] <;> first | rfl | decide) ?_; simp only [go_sem,zA,zB,zC,zD,zE,zF,zG,zH,zI,zJ,zK,zL,zM,zN,zO,zP,↓reduceIte,reduceCtorEq,Try.ntmps25,Try.results25])
  by_cases h1 : ids.length > 40
  · have g1 : decide ((ids.length : Int) > 40) = true := decide_eq_true (by omega)
    simp only [go_sem,zA,zB,zC,zD,zE,zF,zG,zH,zI,zJ,zK,zL,zM,zN,zO,zP,↓reduceIte,reduceCtorEq,List.length_map,g1,Try.ntmps25,Try.results25]
  have g1 : decide ((ids.length : Int) > 40) = false := decide_eq_false (by omega)
  by_cases h2 : fl.length < ids.length
  · have g2 : decide ((fl.length : Int) < (ids.length : Int)) = true := decide_eq_true (by omega)
    simp only [go_sem,zA,zB,zC,zD,zE,zF,zG,zH,zI,zJ,zK,zL,zM,zN,zO,zP,↓reduceIte,reduceCtorEq,List.length_map,g1,g2,Try.ntmps25,Try.results25]
  have g2 : decide ((fl.length : Int) < (ids.length : Int)) = false := decide_eq_false (by omega)
  by_cases h3 : rd.length < ids.length
  · have g3 : decide ((rd.length : Int) < (ids.length : Int)) = true := decide_eq_true (by omega)
    simp only [go_sem,zA,zB,zC,zD,zE,zF,zG,zH,zI,zJ,zK,zL,zM,zN,zO,zP,↓reduceIte,reduceCtorEq,List.length_map,g1,g2,g3,Try.ntmps25,Try.results25]
  have g3 : decide ((rd.length : Int) < (ids.length : Int)) = false := decide_eq_false (by omega)
  simp only [go_sem,zA,zB,zC,zD,zE,zF,zG,zH,zI,zJ,zK,zL,zM,zN,zO,zP,↓reduceIte,reduceCtorEq,List.length_map,g1,g2,g3]
  refine wpA_loop (tbI ids fl rd mk ss) ⟨ids.length,_,?_,0,[],_,by omega,rfl,rfl,.inl ⟨rfl,rfl⟩,rfl⟩ ?_
  · simp only [go_sem,zA,zB,zC,zD,zE,zF,zG,zH,zI,zJ,zK,zL,zM,zN,zO,zP,↓reduceIte,reduceCtorEq,tbSt,refsIn,refsInL,Blk.refsIn,Int.natCast_zero]
  rintro mm st ⟨i,L,v,hi,rfl,hL,hv,rfl⟩
  by_cases hc : i < ids.length
  · have f1 : decide ((i : Int) < (ids.length : Int)) = true := decide_eq_true (by omega)
    have f3 : (i : Int) < (ids.length : Int) := by omega
    have f4 : (0 : Int) ≤ (i : Int) := by omega
    have f5 : (i : Int) < (fl.length : Int) := by omega
    have f6 : (i : Int) < (rd.length : Int) := by omega
    have f7 := u16Rows_getD hc
    have f8 := bools_getD (l := fl) (i := i) (by omega)
    have f9 := bools_getD (l := rd) (i := i) (by omega)
    have hw1 := wrapIN (i := i) (by omega)
    have w16 := wr16 ids[i]
    have c1 := repD_calls L ids[i].toNat fl[i] hL
    have hL1 := report_right ids[i].toNat fl[i] hL
    rcases hv with ⟨rfl,rfl⟩ | rfl
    · simp only [go_sem,zA,zB,zC,zD,zE,zF,zG,zH,zI,zJ,zK,zL,zM,zN,zO,zP,↓reduceIte,reduceCtorEq,tbSt,List.length_map,f1,f3,f4,f5,f6,f7,f8,Int.toNat_natCast,List.headD_cons,List.length_cons,List.length_nil,Nat.le_add_left,List.drop_succ_cons,List.drop_zero,and_self,true_and,w16]
      (refine callD_pure (c1) (by simp only [go_sem,zA,zB,zC,zD,zE,zF,zG,zH,zI,zJ,zK,zL,zM,zN,zO,zP,↓reduceIte,reduceCtorEq] <;> first | rfl | decide) ?_; simp only [go_sem,zA,zB,zC,zD,zE,zF,zG,zH,zI,zJ,zK,zL,zM,zN,zO,zP,↓reduceIte,reduceCtorEq])
      refine endD_intro (by decide +kernel) ?_
      simp only [go_sem,zA,zB,zC,zD,zE,zF,zG,zH,zI,zJ,zK,zL,zM,zN,zO,zP,↓reduceIte,reduceCtorEq,List.length_map,f3,f4,f6,f9,Int.toNat_natCast,List.headD_cons,List.length_cons,List.length_nil,Nat.le_add_left]
      generalize reportV [] ids[i].toNat fl[i] = R at hL1
      generalize rd[i] = rr
      cases rr with
      | true =>
        have c2 := cycD_calls R (by have := rightL_len hL1; omega)
        simp only [go_sem,zA,zB,zC,zD,zE,zF,zG,zH,zI,zJ,zK,zL,zM,zN,zO,zP,↓reduceIte,reduceCtorEq]
        (refine CallA.pure (c2) (by simp only [go_sem,zA,zB,zC,zD,zE,zF,zG,zH,zI,zJ,zK,zL,zM,zN,zO,zP,↓reduceIte,reduceCtorEq] <;> first | rfl | decide) ?_; simp only [go_sem,zA,zB,zC,zD,zE,zF,zG,zH,zI,zJ,zK,zL,zM,zN,zO,zP,↓reduceIte,reduceCtorEq])
        refine ⟨ids.length - (i + 1),_,by omega,?_,i + 1,cycL R,_,by omega,rfl,cyc_right hL1,.inr rfl,rfl⟩
        simp only [go_sem,zA,zB,zC,zD,zE,zF,zG,zH,zI,zJ,zK,zL,zM,zN,zO,zP,↓reduceIte,reduceCtorEq,tbSt,hw1,refsIn,refsInL,Blk.refsIn]
      | false =>
        simp only [go_sem,zA,zB,zC,zD,zE,zF,zG,zH,zI,zJ,zK,zL,zM,zN,zO,zP,↓reduceIte,reduceCtorEq]
        refine ⟨ids.length - (i + 1),_,by omega,?_,i + 1,R,_,by omega,rfl,hL1,.inr rfl,rfl⟩
        simp only [go_sem,zA,zB,zC,zD,zE,zF,zG,zH,zI,zJ,zK,zL,zM,zN,zO,zP,↓reduceIte,reduceCtorEq,tbSt,hw1,refsIn,refsInL,Blk.refsIn]
    · simp only [go_sem,zA,zB,zC,zD,zE,zF,zG,zH,zI,zJ,zK,zL,zM,zN,zO,zP,↓reduceIte,reduceCtorEq,tbSt,List.length_map,f1,f3,f4,f5,f6,f7,f8,Int.toNat_natCast,List.headD_cons,List.length_cons,List.length_nil,Nat.le_add_left,List.drop_succ_cons,List.drop_zero,and_self,true_and,w16]
      (refine callD_pure (c1) (by simp only [go_sem,zA,zB,zC,zD,zE,zF,zG,zH,zI,zJ,zK,zL,zM,zN,zO,zP,↓reduceIte,reduceCtorEq] <;> first | rfl | decide) ?_; simp only [go_sem,zA,zB,zC,zD,zE,zF,zG,zH,zI,zJ,zK,zL,zM,zN,zO,zP,↓reduceIte,reduceCtorEq])
      refine endD_intro (by decide +kernel) ?_
      simp only [go_sem,zA,zB,zC,zD,zE,zF,zG,zH,zI,zJ,zK,zL,zM,zN,zO,zP,↓reduceIte,reduceCtorEq,List.length_map,f3,f4,f6,f9,Int.toNat_natCast,List.headD_cons,List.length_cons,List.length_nil,Nat.le_add_left]
      generalize reportV L ids[i].toNat fl[i] = R at hL1
      generalize rd[i] = rr
      cases rr with
      | true =>
        have c2 := cycD_calls R (by have := rightL_len hL1; omega)
        simp only [go_sem,zA,zB,zC,zD,zE,zF,zG,zH,zI,zJ,zK,zL,zM,zN,zO,zP,↓reduceIte,reduceCtorEq]
        (refine CallA.pure (c2) (by simp only [go_sem,zA,zB,zC,zD,zE,zF,zG,zH,zI,zJ,zK,zL,zM,zN,zO,zP,↓reduceIte,reduceCtorEq] <;> first | rfl | decide) ?_; simp only [go_sem,zA,zB,zC,zD,zE,zF,zG,zH,zI,zJ,zK,zL,zM,zN,zO,zP,↓reduceIte,reduceCtorEq])
        refine ⟨ids.length - (i + 1),_,by omega,?_,i + 1,cycL R,_,by omega,rfl,cyc_right hL1,.inr rfl,rfl⟩
        simp only [go_sem,zA,zB,zC,zD,zE,zF,zG,zH,zI,zJ,zK,zL,zM,zN,zO,zP,↓reduceIte,reduceCtorEq,tbSt,hw1,refsIn,refsInL,Blk.refsIn]
      | false =>
        simp only [go_sem,zA,zB,zC,zD,zE,zF,zG,zH,zI,zJ,zK,zL,zM,zN,zO,zP,↓reduceIte,reduceCtorEq]
        refine ⟨ids.length - (i + 1),_,by omega,?_,i + 1,R,_,by omega,rfl,hL1,.inr rfl,rfl⟩
        simp only [go_sem,zA,zB,zC,zD,zE,zF,zG,zH,zI,zJ,zK,zL,zM,zN,zO,zP,↓reduceIte,reduceCtorEq,tbSt,hw1,refsIn,refsInL,Blk.refsIn]
  · have f1 : decide ((i : Int) < (ids.length : Int)) = false := decide_eq_false (by omega)
    obtain ⟨m,hm⟩ : ∃ m : Int,(ss.toNat : Int).tmod 3 = m := ⟨_,rfl⟩
    have hm0 : m = 0 ∨ m = 1 ∨ m = 2 := by
      rw [Int.tmod_eq_emod_of_nonneg (by omega)] at hm; omega
    have wk : IntKind.wrap .i64 (mk.toNat : Int) = (mk.toNat : Int) := by have := mk.toNat_lt; rw [wrapI64_eq]; omega
    have c0 := newD_at (secret := 5) (draw := 5) (l := []) (s := trbS 1 []) (by decide +kernel)
    have q2 := troubles_calls mk.toNat
    rw [trbl_one] at q2
    have q3 := clearQ_calls
    have q4 := troubles_calls 255
    rw [show trblQ 255 = [0x19,255] from trbl_one 255] at q4
    have hll := rightL_len hL
    have hro : [[PV.lit (.int .u8 (mk.toNat : Int))]] = rowsB [mk] := rfl
    rcases hv with ⟨rfl,rfl⟩ | rfl
    · rcases hm0 with rfl | rfl | rfl
      · have r0 : RightS (trbS 1 []) := trbS_right (by decide) hL
        have hll : List.length (α := Trb) [] ≤ 16 := hll
        have q1 := session_calls 1
        rw [show sesQ 1 = [0x10,1] from ses_one 1] at q1
        have e1 : talkV (trbS 1 []) [0x10,1] [] [] = (trbS 1 [],[0x50,1],false,true) := talk_ses r0 (n := 1) (by decide)
        have t1 := talk_at e1 r0
        have r1 : RightS (trbS 1 []) := trbS_right (by decide) hL
        have e2 : talkV (trbS 1 []) [0x19,mk] [] [] = (trbS 1 [],0x59 :: mk :: packV mk.toNat [],false,true) := by
          rw [talk_thru r1 (by simp) (by simp),ask_trb]; rfl
        have t2 := talk_at e2 r1
        have w1 : IntKind.wrap .i64 0 = 0 := rfl
        have w2 : IntKind.wrap .i64 1 = 1 := rfl
        have c5 := rightS22_at (rightS_iff.2 r1) (Nat.zero_le _)
        have c6 := packD_calls [] mk.toNat (by omega)
        have hp6 := pack_lt (l := []) mk.toNat (by omega)
        simp only [go_sem,zA,zB,zC,zD,zE,zF,zG,zH,zI,zJ,zK,zL,zM,zN,zO,zP,↓reduceIte,reduceCtorEq,tbSt,List.length_map,f1]
        (refine CallA.pure (c0) (by simp only [go_sem,zA,zB,zC,zD,zE,zF,zG,zH,zI,zJ,zK,zL,zM,zN,zO,zP,↓reduceIte,reduceCtorEq] <;> first | rfl | decide) ?_; simp only [go_sem,zA,zB,zC,zD,zE,zF,zG,zH,zI,zJ,zK,zL,zM,zN,zO,zP,↓reduceIte,reduceCtorEq,Srv.pv,Srv.cells,trbS,List.map_nil,hm,w1,w2])
        (refine callD_pure (q1) (by simp only [go_sem,zA,zB,zC,zD,zE,zF,zG,zH,zI,zJ,zK,zL,zM,zN,zO,zP,↓reduceIte,reduceCtorEq] <;> first | rfl | decide) ?_; simp only [go_sem,zA,zB,zC,zD,zE,zF,zG,zH,zI,zJ,zK,zL,zM,zN,zO,zP,↓reduceIte,reduceCtorEq,Srv.pv,Srv.cells,trbS,List.map_nil])
        (refine callD_pure (t1) (by simp only [go_sem,zA,zB,zC,zD,zE,zF,zG,zH,zI,zJ,zK,zL,zM,zN,zO,zP,↓reduceIte,reduceCtorEq,Srv.pv,Srv.cells,trbS,List.map_nil] <;> first | rfl | decide) ?_; simp only [go_sem,zA,zB,zC,zD,zE,zF,zG,zH,zI,zJ,zK,zL,zM,zN,zO,zP,↓reduceIte,reduceCtorEq,Srv.pv,Srv.cells,trbS,List.map_nil])
        refine endD_intro (by decide +kernel) ?_
        simp only [go_sem,zA,zB,zC,zD,zE,zF,zG,zH,zI,zJ,zK,zL,zM,zN,zO,zP,↓reduceIte,reduceCtorEq,wk]
        (refine callD_pure (q2) (by simp only [go_sem,zA,zB,zC,zD,zE,zF,zG,zH,zI,zJ,zK,zL,zM,zN,zO,zP,↓reduceIte,reduceCtorEq] <;> first | rfl | decide) ?_; simp only [go_sem,zA,zB,zC,zD,zE,zF,zG,zH,zI,zJ,zK,zL,zM,zN,zO,zP,↓reduceIte,reduceCtorEq])
        (refine callD_pure (t2) (by simp only [go_sem,zA,zB,zC,zD,zE,zF,zG,zH,zI,zJ,zK,zL,zM,zN,zO,zP,↓reduceIte,reduceCtorEq,Srv.pv,Srv.cells,trbS,List.map_nil] <;> first | rfl | decide) ?_; simp only [go_sem,zA,zB,zC,zD,zE,zF,zG,zH,zI,zJ,zK,zL,zM,zN,zO,zP,↓reduceIte,reduceCtorEq,Srv.pv,Srv.cells,trbS,List.map_nil])
        refine endD_intro (by decide +kernel) ?_
        simp only [go_sem,zA,zB,zC,zD,zE,zF,zG,zH,zI,zJ,zK,zL,zM,zN,zO,zP,↓reduceIte,reduceCtorEq]
        (refine callD_pure (q3) (by simp only [go_sem,zA,zB,zC,zD,zE,zF,zG,zH,zI,zJ,zK,zL,zM,zN,zO,zP,↓reduceIte,reduceCtorEq] <;> first | rfl | decide) ?_; simp only [go_sem,zA,zB,zC,zD,zE,zF,zG,zH,zI,zJ,zK,zL,zM,zN,zO,zP,↓reduceIte,reduceCtorEq])
        have e3 : talkV (trbS 1 []) clearQ [] [] = (trbS 1 [],[0x7f,0x14,0x22],false,true) := by
          rw [talk_thru r1 (by simp [clearQ]) (by simp [clearQ]),ask_clr_no (by show (1 : Int) ≠ 2; decide)]; rfl
        have t3 := talk_at e3 r1
        have e4 : talkV (trbS 1 []) [0x19,255] [] [] = (trbS 1 [],0x59 :: 255 :: packV 255 [],false,true) := by
          rw [talk_thru r1 (by simp) (by simp),ask_trb]; rfl
        have t4 := talk_at e4 r1
        have c7 := packD_calls [] 255 (by omega)
        have hp7 := pack_lt (l := []) 255 (by omega)
        (refine callD_pure (t3) (by simp only [go_sem,zA,zB,zC,zD,zE,zF,zG,zH,zI,zJ,zK,zL,zM,zN,zO,zP,↓reduceIte,reduceCtorEq,Srv.pv,Srv.cells,trbS,List.map_nil] <;> first | rfl | decide) ?_; simp only [go_sem,zA,zB,zC,zD,zE,zF,zG,zH,zI,zJ,zK,zL,zM,zN,zO,zP,↓reduceIte,reduceCtorEq,Srv.pv,Srv.cells,trbS,List.map_nil])
        refine endD_intro (by decide +kernel) ?_
        simp only [go_sem,zA,zB,zC,zD,zE,zF,zG,zH,zI,zJ,zK,zL,zM,zN,zO,zP,↓reduceIte,reduceCtorEq]
        (refine callD_pure (q4) (by simp only [go_sem,zA,zB,zC,zD,zE,zF,zG,zH,zI,zJ,zK,zL,zM,zN,zO,zP,↓reduceIte,reduceCtorEq] <;> first | rfl | decide) ?_; simp only [go_sem,zA,zB,zC,zD,zE,zF,zG,zH,zI,zJ,zK,zL,zM,zN,zO,zP,↓reduceIte,reduceCtorEq])
        (refine callD_pure (t4) (by simp only [go_sem,zA,zB,zC,zD,zE,zF,zG,zH,zI,zJ,zK,zL,zM,zN,zO,zP,↓reduceIte,reduceCtorEq,Srv.pv,Srv.cells,trbS,List.map_nil] <;> first | rfl | decide) ?_; simp only [go_sem,zA,zB,zC,zD,zE,zF,zG,zH,zI,zJ,zK,zL,zM,zN,zO,zP,↓reduceIte,reduceCtorEq,Srv.pv,Srv.cells,trbS,List.map_nil])
        refine endD_intro (by decide +kernel) ?_
        simp only [go_sem,zA,zB,zC,zD,zE,zF,zG,zH,zI,zJ,zK,zL,zM,zN,zO,zP,↓reduceIte,reduceCtorEq]
        (refine callD_pure (c5) (by simp only [go_sem,zA,zB,zC,zD,zE,zF,zG,zH,zI,zJ,zK,zL,zM,zN,zO,zP,↓reduceIte,reduceCtorEq,Srv.pv,Srv.cells,trbS,List.map_nil] <;> first | rfl | decide) ?_; simp only [go_sem,zA,zB,zC,zD,zE,zF,zG,zH,zI,zJ,zK,zL,zM,zN,zO,zP,↓reduceIte,reduceCtorEq,hro,ba_app,List.cons_append,List.nil_append,List.length_cons,List.length_nil,bytes_size,wk])
        (refine callD_pure (c6) (by simp only [go_sem,zA,zB,zC,zD,zE,zF,zG,zH,zI,zJ,zK,zL,zM,zN,zO,zP,↓reduceIte,reduceCtorEq,Srv.pv,Srv.cells,trbS,List.map_nil] <;> first | rfl | decide) ?_; simp only [go_sem,zA,zB,zC,zD,zE,zF,zG,zH,zI,zJ,zK,zL,zM,zN,zO,zP,↓reduceIte,reduceCtorEq,hro,ba_app,List.cons_append,List.nil_append,List.length_cons,List.length_nil,bytes_size,wk,decide_true])
        refine ⟨by omega,?_⟩
        refine endD_intro (by decide +kernel) ?_
        simp only [go_sem,zA,zB,zC,zD,zE,zF,zG,zH,zI,zJ,zK,zL,zM,zN,zO,zP,↓reduceIte,reduceCtorEq]
        (refine callD_pure (c7) (by simp only [go_sem,zA,zB,zC,zD,zE,zF,zG,zH,zI,zJ,zK,zL,zM,zN,zO,zP,↓reduceIte,reduceCtorEq] <;> first | rfl | decide) ?_; simp only [go_sem,zA,zB,zC,zD,zE,zF,zG,zH,zI,zJ,zK,zL,zM,zN,zO,zP,↓reduceIte,reduceCtorEq,ba_app,List.cons_append,List.nil_append,List.length_cons,List.length_nil,bytes_size,decide_true])
        refine ⟨by omega,?_⟩
        refine endD_intro (by decide +kernel) ?_
        simp only [go_sem,zA,zB,zC,zD,zE,zF,zG,zH,zI,zJ,zK,zL,zM,zN,zO,zP,↓reduceIte,reduceCtorEq,Try.ntmps25,Try.results25]
      · have r0 : RightS (trbS 1 []) := trbS_right (by decide) hL
        have hll : List.length (α := Trb) [] ≤ 16 := hll
        have q1 := session_calls 2
        rw [show sesQ 2 = [0x10,2] from ses_one 2] at q1
        have e1 : talkV (trbS 1 []) [0x10,2] [] [] = (trbS 2 [],[0x50,2],false,true) := talk_ses r0 (n := 2) (by decide)
        have t1 := talk_at e1 r0
        have r1 : RightS (trbS 2 []) := trbS_right (by decide) hL
        have e2 : talkV (trbS 2 []) [0x19,mk] [] [] = (trbS 2 [],0x59 :: mk :: packV mk.toNat [],false,true) := by
          rw [talk_thru r1 (by simp) (by simp),ask_trb]; rfl
        have t2 := talk_at e2 r1
        have w1 : IntKind.wrap .i64 1 = 1 := rfl
        have w2 : IntKind.wrap .i64 2 = 2 := rfl
        have c5 := rightS22_at (rightS_iff.2 r1) (Nat.zero_le _)
        have c6 := packD_calls [] mk.toNat (by omega)
        have hp6 := pack_lt (l := []) mk.toNat (by omega)
        simp only [go_sem,zA,zB,zC,zD,zE,zF,zG,zH,zI,zJ,zK,zL,zM,zN,zO,zP,↓reduceIte,reduceCtorEq,tbSt,List.length_map,f1]
        (refine CallA.pure (c0) (by simp only [go_sem,zA,zB,zC,zD,zE,zF,zG,zH,zI,zJ,zK,zL,zM,zN,zO,zP,↓reduceIte,reduceCtorEq] <;> first | rfl | decide) ?_; simp only [go_sem,zA,zB,zC,zD,zE,zF,zG,zH,zI,zJ,zK,zL,zM,zN,zO,zP,↓reduceIte,reduceCtorEq,Srv.pv,Srv.cells,trbS,List.map_nil,hm,w1,w2])
        (refine callD_pure (q1) (by simp only [go_sem,zA,zB,zC,zD,zE,zF,zG,zH,zI,zJ,zK,zL,zM,zN,zO,zP,↓reduceIte,reduceCtorEq] <;> first | rfl | decide) ?_; simp only [go_sem,zA,zB,zC,zD,zE,zF,zG,zH,zI,zJ,zK,zL,zM,zN,zO,zP,↓reduceIte,reduceCtorEq,Srv.pv,Srv.cells,trbS,List.map_nil])
        (refine callD_pure (t1) (by simp only [go_sem,zA,zB,zC,zD,zE,zF,zG,zH,zI,zJ,zK,zL,zM,zN,zO,zP,↓reduceIte,reduceCtorEq,Srv.pv,Srv.cells,trbS,List.map_nil] <;> first | rfl | decide) ?_; simp only [go_sem,zA,zB,zC,zD,zE,zF,zG,zH,zI,zJ,zK,zL,zM,zN,zO,zP,↓reduceIte,reduceCtorEq,Srv.pv,Srv.cells,trbS,List.map_nil])
        refine endD_intro (by decide +kernel) ?_
        simp only [go_sem,zA,zB,zC,zD,zE,zF,zG,zH,zI,zJ,zK,zL,zM,zN,zO,zP,↓reduceIte,reduceCtorEq,wk]
        (refine callD_pure (q2) (by simp only [go_sem,zA,zB,zC,zD,zE,zF,zG,zH,zI,zJ,zK,zL,zM,zN,zO,zP,↓reduceIte,reduceCtorEq] <;> first | rfl | decide) ?_; simp only [go_sem,zA,zB,zC,zD,zE,zF,zG,zH,zI,zJ,zK,zL,zM,zN,zO,zP,↓reduceIte,reduceCtorEq])
        (refine callD_pure (t2) (by simp only [go_sem,zA,zB,zC,zD,zE,zF,zG,zH,zI,zJ,zK,zL,zM,zN,zO,zP,↓reduceIte,reduceCtorEq,Srv.pv,Srv.cells,trbS,List.map_nil] <;> first | rfl | decide) ?_; simp only [go_sem,zA,zB,zC,zD,zE,zF,zG,zH,zI,zJ,zK,zL,zM,zN,zO,zP,↓reduceIte,reduceCtorEq,Srv.pv,Srv.cells,trbS,List.map_nil])
        refine endD_intro (by decide +kernel) ?_
        simp only [go_sem,zA,zB,zC,zD,zE,zF,zG,zH,zI,zJ,zK,zL,zM,zN,zO,zP,↓reduceIte,reduceCtorEq]
        (refine callD_pure (q3) (by simp only [go_sem,zA,zB,zC,zD,zE,zF,zG,zH,zI,zJ,zK,zL,zM,zN,zO,zP,↓reduceIte,reduceCtorEq] <;> first | rfl | decide) ?_; simp only [go_sem,zA,zB,zC,zD,zE,zF,zG,zH,zI,zJ,zK,zL,zM,zN,zO,zP,↓reduceIte,reduceCtorEq])
        have e3 : talkV (trbS 2 []) clearQ [] [] = (trbS 2 [],[0x54],false,true) := by
          rw [talk_thru r1 (by simp [clearQ]) (by simp [clearQ]),ask_clr rfl]; rfl
        have t3 := talk_at e3 r1
        have r3 : RightS (trbS 2 []) := trbS_right (by decide) rfl
        have e4 : talkV (trbS 2 []) [0x19,255] [] [] = (trbS 2 [],[0x59,255],false,true) := by
          rw [talk_thru r3 (by simp) (by simp),ask_trb]; rfl
        have t4 := talk_at e4 r3
        (refine callD_pure (t3) (by simp only [go_sem,zA,zB,zC,zD,zE,zF,zG,zH,zI,zJ,zK,zL,zM,zN,zO,zP,↓reduceIte,reduceCtorEq,Srv.pv,Srv.cells,trbS,List.map_nil] <;> first | rfl | decide) ?_; simp only [go_sem,zA,zB,zC,zD,zE,zF,zG,zH,zI,zJ,zK,zL,zM,zN,zO,zP,↓reduceIte,reduceCtorEq,Srv.pv,Srv.cells,trbS,List.map_nil])
        refine endD_intro (by decide +kernel) ?_
        simp only [go_sem,zA,zB,zC,zD,zE,zF,zG,zH,zI,zJ,zK,zL,zM,zN,zO,zP,↓reduceIte,reduceCtorEq]
        (refine callD_pure (q4) (by simp only [go_sem,zA,zB,zC,zD,zE,zF,zG,zH,zI,zJ,zK,zL,zM,zN,zO,zP,↓reduceIte,reduceCtorEq] <;> first | rfl | decide) ?_; simp only [go_sem,zA,zB,zC,zD,zE,zF,zG,zH,zI,zJ,zK,zL,zM,zN,zO,zP,↓reduceIte,reduceCtorEq])
        (refine callD_pure (t4) (by simp only [go_sem,zA,zB,zC,zD,zE,zF,zG,zH,zI,zJ,zK,zL,zM,zN,zO,zP,↓reduceIte,reduceCtorEq,Srv.pv,Srv.cells,trbS,List.map_nil] <;> first | rfl | decide) ?_; simp only [go_sem,zA,zB,zC,zD,zE,zF,zG,zH,zI,zJ,zK,zL,zM,zN,zO,zP,↓reduceIte,reduceCtorEq,Srv.pv,Srv.cells,trbS,List.map_nil])
        refine endD_intro (by decide +kernel) ?_
        simp only [go_sem,zA,zB,zC,zD,zE,zF,zG,zH,zI,zJ,zK,zL,zM,zN,zO,zP,↓reduceIte,reduceCtorEq]
        (refine callD_pure (c5) (by simp only [go_sem,zA,zB,zC,zD,zE,zF,zG,zH,zI,zJ,zK,zL,zM,zN,zO,zP,↓reduceIte,reduceCtorEq,Srv.pv,Srv.cells,trbS,List.map_nil] <;> first | rfl | decide) ?_; simp only [go_sem,zA,zB,zC,zD,zE,zF,zG,zH,zI,zJ,zK,zL,zM,zN,zO,zP,↓reduceIte,reduceCtorEq,hro,ba_app,List.cons_append,List.nil_append,List.length_cons,List.length_nil,bytes_size,wk])
        (refine callD_pure (c6) (by simp only [go_sem,zA,zB,zC,zD,zE,zF,zG,zH,zI,zJ,zK,zL,zM,zN,zO,zP,↓reduceIte,reduceCtorEq,Srv.pv,Srv.cells,trbS,List.map_nil] <;> first | rfl | decide) ?_; simp only [go_sem,zA,zB,zC,zD,zE,zF,zG,zH,zI,zJ,zK,zL,zM,zN,zO,zP,↓reduceIte,reduceCtorEq,hro,ba_app,List.cons_append,List.nil_append,List.length_cons,List.length_nil,bytes_size,wk,decide_true])
        refine ⟨by omega,?_⟩
        refine endD_intro (by decide +kernel) ?_
        simp only [go_sem,zA,zB,zC,zD,zE,zF,zG,zH,zI,zJ,zK,zL,zM,zN,zO,zP,↓reduceIte,reduceCtorEq,Try.ntmps25,Try.results25]
      · have r0 : RightS (trbS 1 []) := trbS_right (by decide) hL
        have hll : List.length (α := Trb) [] ≤ 16 := hll
        have q1 := session_calls 3
        rw [show sesQ 3 = [0x10,3] from ses_one 3] at q1
        have e1 : talkV (trbS 1 []) [0x10,3] [] [] = (trbS 3 [],[0x50,3],false,true) := talk_ses r0 (n := 3) (by decide)
        have t1 := talk_at e1 r0
        have r1 : RightS (trbS 3 []) := trbS_right (by decide) hL
        have e2 : talkV (trbS 3 []) [0x19,mk] [] [] = (trbS 3 [],0x59 :: mk :: packV mk.toNat [],false,true) := by
          rw [talk_thru r1 (by simp) (by simp),ask_trb]; rfl
        have t2 := talk_at e2 r1
        have w1 : IntKind.wrap .i64 2 = 2 := rfl
        have w2 : IntKind.wrap .i64 3 = 3 := rfl
        have c5 := rightS22_at (rightS_iff.2 r1) (Nat.zero_le _)
        have c6 := packD_calls [] mk.toNat (by omega)
        have hp6 := pack_lt (l := []) mk.toNat (by omega)
        simp only [go_sem,zA,zB,zC,zD,zE,zF,zG,zH,zI,zJ,zK,zL,zM,zN,zO,zP,↓reduceIte,reduceCtorEq,tbSt,List.length_map,f1]
        (refine CallA.pure (c0) (by simp only [go_sem,zA,zB,zC,zD,zE,zF,zG,zH,zI,zJ,zK,zL,zM,zN,zO,zP,↓reduceIte,reduceCtorEq] <;> first | rfl | decide) ?_; simp only [go_sem,zA,zB,zC,zD,zE,zF,zG,zH,zI,zJ,zK,zL,zM,zN,zO,zP,↓reduceIte,reduceCtorEq,Srv.pv,Srv.cells,trbS,List.map_nil,hm,w1,w2])
        (refine callD_pure (q1) (by simp only [go_sem,zA,zB,zC,zD,zE,zF,zG,zH,zI,zJ,zK,zL,zM,zN,zO,zP,↓reduceIte,reduceCtorEq] <;> first | rfl | decide) ?_; simp only [go_sem,zA,zB,zC,zD,zE,zF,zG,zH,zI,zJ,zK,zL,zM,zN,zO,zP,↓reduceIte,reduceCtorEq,Srv.pv,Srv.cells,trbS,List.map_nil])
        (refine callD_pure (t1) (by simp only [go_sem,zA,zB,zC,zD,zE,zF,zG,zH,zI,zJ,zK,zL,zM,zN,zO,zP,↓reduceIte,reduceCtorEq,Srv.pv,Srv.cells,trbS,List.map_nil] <;> first | rfl | decide) ?_; simp only [go_sem,zA,zB,zC,zD,zE,zF,zG,zH,zI,zJ,zK,zL,zM,zN,zO,zP,↓reduceIte,reduceCtorEq,Srv.pv,Srv.cells,trbS,List.map_nil])
        refine endD_intro (by decide +kernel) ?_
        simp only [go_sem,zA,zB,zC,zD,zE,zF,zG,zH,zI,zJ,zK,zL,zM,zN,zO,zP,↓reduceIte,reduceCtorEq,wk]
        (refine callD_pure (q2) (by simp only [go_sem,zA,zB,zC,zD,zE,zF,zG,zH,zI,zJ,zK,zL,zM,zN,zO,zP,↓reduceIte,reduceCtorEq] <;> first | rfl | decide) ?_; simp only [go_sem,zA,zB,zC,zD,zE,zF,zG,zH,zI,zJ,zK,zL,zM,zN,zO,zP,↓reduceIte,reduceCtorEq])
        (refine callD_pure (t2) (by simp only [go_sem,zA,zB,zC,zD,zE,zF,zG,zH,zI,zJ,zK,zL,zM,zN,zO,zP,↓reduceIte,reduceCtorEq,Srv.pv,Srv.cells,trbS,List.map_nil] <;> first | rfl | decide) ?_; simp only [go_sem,zA,zB,zC,zD,zE,zF,zG,zH,zI,zJ,zK,zL,zM,zN,zO,zP,↓reduceIte,reduceCtorEq,Srv.pv,Srv.cells,trbS,List.map_nil])
        refine endD_intro (by decide +kernel) ?_
        simp only [go_sem,zA,zB,zC,zD,zE,zF,zG,zH,zI,zJ,zK,zL,zM,zN,zO,zP,↓reduceIte,reduceCtorEq]
        (refine callD_pure (q3) (by simp only [go_sem,zA,zB,zC,zD,zE,zF,zG,zH,zI,zJ,zK,zL,zM,zN,zO,zP,↓reduceIte,reduceCtorEq] <;> first | rfl | decide) ?_; simp only [go_sem,zA,zB,zC,zD,zE,zF,zG,zH,zI,zJ,zK,zL,zM,zN,zO,zP,↓reduceIte,reduceCtorEq])
        have e3 : talkV (trbS 3 []) clearQ [] [] = (trbS 3 [],[0x7f,0x14,0x22],false,true) := by
          rw [talk_thru r1 (by simp [clearQ]) (by simp [clearQ]),ask_clr_no (by show (3 : Int) ≠ 2; decide)]; rfl
        have t3 := talk_at e3 r1
        have e4 : talkV (trbS 3 []) [0x19,255] [] [] = (trbS 3 [],0x59 :: 255 :: packV 255 [],false,true) := by
          rw [talk_thru r1 (by simp) (by simp),ask_trb]; rfl
        have t4 := talk_at e4 r1
        have c7 := packD_calls [] 255 (by omega)
        have hp7 := pack_lt (l := []) 255 (by omega)
        (refine callD_pure (t3) (by simp only [go_sem,zA,zB,zC,zD,zE,zF,zG,zH,zI,zJ,zK,zL,zM,zN,zO,zP,↓reduceIte,reduceCtorEq,Srv.pv,Srv.cells,trbS,List.map_nil] <;> first | rfl | decide) ?_; simp only [go_sem,zA,zB,zC,zD,zE,zF,zG,zH,zI,zJ,zK,zL,zM,zN,zO,zP,↓reduceIte,reduceCtorEq,Srv.pv,Srv.cells,trbS,List.map_nil])
        refine endD_intro (by decide +kernel) ?_
        simp only [go_sem,zA,zB,zC,zD,zE,zF,zG,zH,zI,zJ,zK,zL,zM,zN,zO,zP,↓reduceIte,reduceCtorEq]
        (refine callD_pure (q4) (by simp only [go_sem,zA,zB,zC,zD,zE,zF,zG,zH,zI,zJ,zK,zL,zM,zN,zO,zP,↓reduceIte,reduceCtorEq] <;> first | rfl | decide) ?_; simp only [go_sem,zA,zB,zC,zD,zE,zF,zG,zH,zI,zJ,zK,zL,zM,zN,zO,zP,↓reduceIte,reduceCtorEq])
        (refine callD_pure (t4) (by simp only [go_sem,zA,zB,zC,zD,zE,zF,zG,zH,zI,zJ,zK,zL,zM,zN,zO,zP,↓reduceIte,reduceCtorEq,Srv.pv,Srv.cells,trbS,List.map_nil] <;> first | rfl | decide) ?_; simp only [go_sem,zA,zB,zC,zD,zE,zF,zG,zH,zI,zJ,zK,zL,zM,zN,zO,zP,↓reduceIte,reduceCtorEq,Srv.pv,Srv.cells,trbS,List.map_nil])
        refine endD_intro (by decide +kernel) ?_
        simp only [go_sem,zA,zB,zC,zD,zE,zF,zG,zH,zI,zJ,zK,zL,zM,zN,zO,zP,↓reduceIte,reduceCtorEq]
        (refine callD_pure (c5) (by simp only [go_sem,zA,zB,zC,zD,zE,zF,zG,zH,zI,zJ,zK,zL,zM,zN,zO,zP,↓reduceIte,reduceCtorEq,Srv.pv,Srv.cells,trbS,List.map_nil] <;> first | rfl | decide) ?_; simp only [go_sem,zA,zB,zC,zD,zE,zF,zG,zH,zI,zJ,zK,zL,zM,zN,zO,zP,↓reduceIte,reduceCtorEq,hro,ba_app,List.cons_append,List.nil_append,List.length_cons,List.length_nil,bytes_size,wk])
        (refine callD_pure (c6) (by simp only [go_sem,zA,zB,zC,zD,zE,zF,zG,zH,zI,zJ,zK,zL,zM,zN,zO,zP,↓reduceIte,reduceCtorEq,Srv.pv,Srv.cells,trbS,List.map_nil] <;> first | rfl | decide) ?_; simp only [go_sem,zA,zB,zC,zD,zE,zF,zG,zH,zI,zJ,zK,zL,zM,zN,zO,zP,↓reduceIte,reduceCtorEq,hro,ba_app,List.cons_append,List.nil_append,List.length_cons,List.length_nil,bytes_size,wk,decide_true])
        refine ⟨by omega,?_⟩
        refine endD_intro (by decide +kernel) ?_
        simp only [go_sem,zA,zB,zC,zD,zE,zF,zG,zH,zI,zJ,zK,zL,zM,zN,zO,zP,↓reduceIte,reduceCtorEq]
        (refine callD_pure (c7) (by simp only [go_sem,zA,zB,zC,zD,zE,zF,zG,zH,zI,zJ,zK,zL,zM,zN,zO,zP,↓reduceIte,reduceCtorEq] <;> first | rfl | decide) ?_; simp only [go_sem,zA,zB,zC,zD,zE,zF,zG,zH,zI,zJ,zK,zL,zM,zN,zO,zP,↓reduceIte,reduceCtorEq,ba_app,List.cons_append,List.nil_append,List.length_cons,List.length_nil,bytes_size,decide_true])
        refine ⟨by omega,?_⟩
        refine endD_intro (by decide +kernel) ?_
        simp only [go_sem,zA,zB,zC,zD,zE,zF,zG,zH,zI,zJ,zK,zL,zM,zN,zO,zP,↓reduceIte,reduceCtorEq,Try.ntmps25,Try.results25]
    · rcases hm0 with rfl | rfl | rfl
      · have r0 : RightS (trbS 1 L) := trbS_right (by decide) hL
        have hll : List.length (α := Trb) L ≤ 16 := hll
        have q1 := session_calls 1
        rw [show sesQ 1 = [0x10,1] from ses_one 1] at q1
        have e1 : talkV (trbS 1 L) [0x10,1] [] [] = (trbS 1 L,[0x50,1],false,true) := talk_ses r0 (n := 1) (by decide)
        have t1 := talk_at e1 r0
        have r1 : RightS (trbS 1 L) := trbS_right (by decide) hL
        have e2 : talkV (trbS 1 L) [0x19,mk] [] [] = (trbS 1 L,0x59 :: mk :: packV mk.toNat L,false,true) := by
          rw [talk_thru r1 (by simp) (by simp),ask_trb]; rfl
        have t2 := talk_at e2 r1
        have w1 : IntKind.wrap .i64 0 = 0 := rfl
        have w2 : IntKind.wrap .i64 1 = 1 := rfl
        have c5 := rightS22_at (rightS_iff.2 r1) (Nat.zero_le _)
        have c6 := packD_calls L mk.toNat (by omega)
        have hp6 := pack_lt (l := L) mk.toNat (by omega)
        simp only [go_sem,zA,zB,zC,zD,zE,zF,zG,zH,zI,zJ,zK,zL,zM,zN,zO,zP,↓reduceIte,reduceCtorEq,tbSt,List.length_map,f1]
        (refine CallA.pure (c0) (by simp only [go_sem,zA,zB,zC,zD,zE,zF,zG,zH,zI,zJ,zK,zL,zM,zN,zO,zP,↓reduceIte,reduceCtorEq] <;> first | rfl | decide) ?_; simp only [go_sem,zA,zB,zC,zD,zE,zF,zG,zH,zI,zJ,zK,zL,zM,zN,zO,zP,↓reduceIte,reduceCtorEq,Srv.pv,Srv.cells,trbS,List.map_nil,hm,w1,w2])
        (refine callD_pure (q1) (by simp only [go_sem,zA,zB,zC,zD,zE,zF,zG,zH,zI,zJ,zK,zL,zM,zN,zO,zP,↓reduceIte,reduceCtorEq] <;> first | rfl | decide) ?_; simp only [go_sem,zA,zB,zC,zD,zE,zF,zG,zH,zI,zJ,zK,zL,zM,zN,zO,zP,↓reduceIte,reduceCtorEq,Srv.pv,Srv.cells,trbS,List.map_nil])
        (refine callD_pure (t1) (by simp only [go_sem,zA,zB,zC,zD,zE,zF,zG,zH,zI,zJ,zK,zL,zM,zN,zO,zP,↓reduceIte,reduceCtorEq,Srv.pv,Srv.cells,trbS,List.map_nil] <;> first | rfl | decide) ?_; simp only [go_sem,zA,zB,zC,zD,zE,zF,zG,zH,zI,zJ,zK,zL,zM,zN,zO,zP,↓reduceIte,reduceCtorEq,Srv.pv,Srv.cells,trbS,List.map_nil])
        refine endD_intro (by decide +kernel) ?_
        simp only [go_sem,zA,zB,zC,zD,zE,zF,zG,zH,zI,zJ,zK,zL,zM,zN,zO,zP,↓reduceIte,reduceCtorEq,wk]
        (refine callD_pure (q2) (by simp only [go_sem,zA,zB,zC,zD,zE,zF,zG,zH,zI,zJ,zK,zL,zM,zN,zO,zP,↓reduceIte,reduceCtorEq] <;> first | rfl | decide) ?_; simp only [go_sem,zA,zB,zC,zD,zE,zF,zG,zH,zI,zJ,zK,zL,zM,zN,zO,zP,↓reduceIte,reduceCtorEq])
        (refine callD_pure (t2) (by simp only [go_sem,zA,zB,zC,zD,zE,zF,zG,zH,zI,zJ,zK,zL,zM,zN,zO,zP,↓reduceIte,reduceCtorEq,Srv.pv,Srv.cells,trbS,List.map_nil] <;> first | rfl | decide) ?_; simp only [go_sem,zA,zB,zC,zD,zE,zF,zG,zH,zI,zJ,zK,zL,zM,zN,zO,zP,↓reduceIte,reduceCtorEq,Srv.pv,Srv.cells,trbS,List.map_nil])
        refine endD_intro (by decide +kernel) ?_
        simp only [go_sem,zA,zB,zC,zD,zE,zF,zG,zH,zI,zJ,zK,zL,zM,zN,zO,zP,↓reduceIte,reduceCtorEq]
        (refine callD_pure (q3) (by simp only [go_sem,zA,zB,zC,zD,zE,zF,zG,zH,zI,zJ,zK,zL,zM,zN,zO,zP,↓reduceIte,reduceCtorEq] <;> first | rfl | decide) ?_; simp only [go_sem,zA,zB,zC,zD,zE,zF,zG,zH,zI,zJ,zK,zL,zM,zN,zO,zP,↓reduceIte,reduceCtorEq])
        have e3 : talkV (trbS 1 L) clearQ [] [] = (trbS 1 L,[0x7f,0x14,0x22],false,true) := by
          rw [talk_thru r1 (by simp [clearQ]) (by simp [clearQ]),ask_clr_no (by show (1 : Int) ≠ 2; decide)]; rfl
        have t3 := talk_at e3 r1
        have e4 : talkV (trbS 1 L) [0x19,255] [] [] = (trbS 1 L,0x59 :: 255 :: packV 255 L,false,true) := by
          rw [talk_thru r1 (by simp) (by simp),ask_trb]; rfl
        have t4 := talk_at e4 r1
        have c7 := packD_calls L 255 (by omega)
        have hp7 := pack_lt (l := L) 255 (by omega)
        (refine callD_pure (t3) (by simp only [go_sem,zA,zB,zC,zD,zE,zF,zG,zH,zI,zJ,zK,zL,zM,zN,zO,zP,↓reduceIte,reduceCtorEq,Srv.pv,Srv.cells,trbS,List.map_nil] <;> first | rfl | decide) ?_; simp only [go_sem,zA,zB,zC,zD,zE,zF,zG,zH,zI,zJ,zK,zL,zM,zN,zO,zP,↓reduceIte,reduceCtorEq,Srv.pv,Srv.cells,trbS,List.map_nil])
        refine endD_intro (by decide +kernel) ?_
        simp only [go_sem,zA,zB,zC,zD,zE,zF,zG,zH,zI,zJ,zK,zL,zM,zN,zO,zP,↓reduceIte,reduceCtorEq]
        (refine callD_pure (q4) (by simp only [go_sem,zA,zB,zC,zD,zE,zF,zG,zH,zI,zJ,zK,zL,zM,zN,zO,zP,↓reduceIte,reduceCtorEq] <;> first | rfl | decide) ?_; simp only [go_sem,zA,zB,zC,zD,zE,zF,zG,zH,zI,zJ,zK,zL,zM,zN,zO,zP,↓reduceIte,reduceCtorEq])
        (refine callD_pure (t4) (by simp only [go_sem,zA,zB,zC,zD,zE,zF,zG,zH,zI,zJ,zK,zL,zM,zN,zO,zP,↓reduceIte,reduceCtorEq,Srv.pv,Srv.cells,trbS,List.map_nil] <;> first | rfl | decide) ?_; simp only [go_sem,zA,zB,zC,zD,zE,zF,zG,zH,zI,zJ,zK,zL,zM,zN,zO,zP,↓reduceIte,reduceCtorEq,Srv.pv,Srv.cells,trbS,List.map_nil])
        refine endD_intro (by decide +kernel) ?_
        simp only [go_sem,zA,zB,zC,zD,zE,zF,zG,zH,zI,zJ,zK,zL,zM,zN,zO,zP,↓reduceIte,reduceCtorEq]
        (refine callD_pure (c5) (by simp only [go_sem,zA,zB,zC,zD,zE,zF,zG,zH,zI,zJ,zK,zL,zM,zN,zO,zP,↓reduceIte,reduceCtorEq,Srv.pv,Srv.cells,trbS,List.map_nil] <;> first | rfl | decide) ?_; simp only [go_sem,zA,zB,zC,zD,zE,zF,zG,zH,zI,zJ,zK,zL,zM,zN,zO,zP,↓reduceIte,reduceCtorEq,hro,ba_app,List.cons_append,List.nil_append,List.length_cons,List.length_nil,bytes_size,wk])
        (refine callD_pure (c6) (by simp only [go_sem,zA,zB,zC,zD,zE,zF,zG,zH,zI,zJ,zK,zL,zM,zN,zO,zP,↓reduceIte,reduceCtorEq,Srv.pv,Srv.cells,trbS,List.map_nil] <;> first | rfl | decide) ?_; simp only [go_sem,zA,zB,zC,zD,zE,zF,zG,zH,zI,zJ,zK,zL,zM,zN,zO,zP,↓reduceIte,reduceCtorEq,hro,ba_app,List.cons_append,List.nil_append,List.length_cons,List.length_nil,bytes_size,wk,decide_true])
        refine ⟨by omega,?_⟩
        refine endD_intro (by decide +kernel) ?_
        simp only [go_sem,zA,zB,zC,zD,zE,zF,zG,zH,zI,zJ,zK,zL,zM,zN,zO,zP,↓reduceIte,reduceCtorEq]
        (refine callD_pure (c7) (by simp only [go_sem,zA,zB,zC,zD,zE,zF,zG,zH,zI,zJ,zK,zL,zM,zN,zO,zP,↓reduceIte,reduceCtorEq] <;> first | rfl | decide) ?_; simp only [go_sem,zA,zB,zC,zD,zE,zF,zG,zH,zI,zJ,zK,zL,zM,zN,zO,zP,↓reduceIte,reduceCtorEq,ba_app,List.cons_append,List.nil_append,List.length_cons,List.length_nil,bytes_size,decide_true])
        refine ⟨by omega,?_⟩
        refine endD_intro (by decide +kernel) ?_
        simp only [go_sem,zA,zB,zC,zD,zE,zF,zG,zH,zI,zJ,zK,zL,zM,zN,zO,zP,↓reduceIte,reduceCtorEq,Try.ntmps25,Try.results25]
      · have r0 : RightS (trbS 1 L) := trbS_right (by decide) hL
        have hll : List.length (α := Trb) L ≤ 16 := hll
        have q1 := session_calls 2
        rw [show sesQ 2 = [0x10,2] from ses_one 2] at q1
        have e1 : talkV (trbS 1 L) [0x10,2] [] [] = (trbS 2 L,[0x50,2],false,true) := talk_ses r0 (n := 2) (by decide)
        have t1 := talk_at e1 r0
        have r1 : RightS (trbS 2 L) := trbS_right (by decide) hL
        have e2 : talkV (trbS 2 L) [0x19,mk] [] [] = (trbS 2 L,0x59 :: mk :: packV mk.toNat L,false,true) := by
          rw [talk_thru r1 (by simp) (by simp),ask_trb]; rfl
        have t2 := talk_at e2 r1
        have w1 : IntKind.wrap .i64 1 = 1 := rfl
        have w2 : IntKind.wrap .i64 2 = 2 := rfl
        have c5 := rightS22_at (rightS_iff.2 r1) (Nat.zero_le _)
        have c6 := packD_calls L mk.toNat (by omega)
        have hp6 := pack_lt (l := L) mk.toNat (by omega)
        simp only [go_sem,zA,zB,zC,zD,zE,zF,zG,zH,zI,zJ,zK,zL,zM,zN,zO,zP,↓reduceIte,reduceCtorEq,tbSt,List.length_map,f1]
        (refine CallA.pure (c0) (by simp only [go_sem,zA,zB,zC,zD,zE,zF,zG,zH,zI,zJ,zK,zL,zM,zN,zO,zP,↓reduceIte,reduceCtorEq] <;> first | rfl | decide) ?_; simp only [go_sem,zA,zB,zC,zD,zE,zF,zG,zH,zI,zJ,zK,zL,zM,zN,zO,zP,↓reduceIte,reduceCtorEq,Srv.pv,Srv.cells,trbS,List.map_nil,hm,w1,w2])
        (refine callD_pure (q1) (by simp only [go_sem,zA,zB,zC,zD,zE,zF,zG,zH,zI,zJ,zK,zL,zM,zN,zO,zP,↓reduceIte,reduceCtorEq] <;> first | rfl | decide) ?_; simp only [go_sem,zA,zB,zC,zD,zE,zF,zG,zH,zI,zJ,zK,zL,zM,zN,zO,zP,↓reduceIte,reduceCtorEq,Srv.pv,Srv.cells,trbS,List.map_nil])
        (refine callD_pure (t1) (by simp only [go_sem,zA,zB,zC,zD,zE,zF,zG,zH,zI,zJ,zK,zL,zM,zN,zO,zP,↓reduceIte,reduceCtorEq,Srv.pv,Srv.cells,trbS,List.map_nil] <;> first | rfl | decide) ?_; simp only [go_sem,zA,zB,zC,zD,zE,zF,zG,zH,zI,zJ,zK,zL,zM,zN,zO,zP,↓reduceIte,reduceCtorEq,Srv.pv,Srv.cells,trbS,List.map_nil])
        refine endD_intro (by decide +kernel) ?_
        simp only [go_sem,zA,zB,zC,zD,zE,zF,zG,zH,zI,zJ,zK,zL,zM,zN,zO,zP,↓reduceIte,reduceCtorEq,wk]
        (refine callD_pure (q2) (by simp only [go_sem,zA,zB,zC,zD,zE,zF,zG,zH,zI,zJ,zK,zL,zM,zN,zO,zP,↓reduceIte,reduceCtorEq] <;> first | rfl | decide) ?_; simp only [go_sem,zA,zB,zC,zD,zE,zF,zG,zH,zI,zJ,zK,zL,zM,zN,zO,zP,↓reduceIte,reduceCtorEq])
        (refine callD_pure (t2) (by simp only [go_sem,zA,zB,zC,zD,zE,zF,zG,zH,zI,zJ,zK,zL,zM,zN,zO,zP,↓reduceIte,reduceCtorEq,Srv.pv,Srv.cells,trbS,List.map_nil] <;> first | rfl | decide) ?_; simp only [go_sem,zA,zB,zC,zD,zE,zF,zG,zH,zI,zJ,zK,zL,zM,zN,zO,zP,↓reduceIte,reduceCtorEq,Srv.pv,Srv.cells,trbS,List.map_nil])
        refine endD_intro (by decide +kernel) ?_
        simp only [go_sem,zA,zB,zC,zD,zE,zF,zG,zH,zI,zJ,zK,zL,zM,zN,zO,zP,↓reduceIte,reduceCtorEq]
        (refine callD_pure (q3) (by simp only [go_sem,zA,zB,zC,zD,zE,zF,zG,zH,zI,zJ,zK,zL,zM,zN,zO,zP,↓reduceIte,reduceCtorEq] <;> first | rfl | decide) ?_; simp only [go_sem,zA,zB,zC,zD,zE,zF,zG,zH,zI,zJ,zK,zL,zM,zN,zO,zP,↓reduceIte,reduceCtorEq])
        have e3 : talkV (trbS 2 L) clearQ [] [] = (trbS 2 [],[0x54],false,true) := by
          rw [talk_thru r1 (by simp [clearQ]) (by simp [clearQ]),ask_clr rfl]; rfl
        have t3 := talk_at e3 r1
        have r3 : RightS (trbS 2 []) := trbS_right (by decide) rfl
        have e4 : talkV (trbS 2 []) [0x19,255] [] [] = (trbS 2 [],[0x59,255],false,true) := by
          rw [talk_thru r3 (by simp) (by simp),ask_trb]; rfl
        have t4 := talk_at e4 r3
        (refine callD_pure (t3) (by simp only [go_sem,zA,zB,zC,zD,zE,zF,zG,zH,zI,zJ,zK,zL,zM,zN,zO,zP,↓reduceIte,reduceCtorEq,Srv.pv,Srv.cells,trbS,List.map_nil] <;> first | rfl | decide) ?_; simp only [go_sem,zA,zB,zC,zD,zE,zF,zG,zH,zI,zJ,zK,zL,zM,zN,zO,zP,↓reduceIte,reduceCtorEq,Srv.pv,Srv.cells,trbS,List.map_nil])
        refine endD_intro (by decide +kernel) ?_
        simp only [go_sem,zA,zB,zC,zD,zE,zF,zG,zH,zI,zJ,zK,zL,zM,zN,zO,zP,↓reduceIte,reduceCtorEq]
        (refine callD_pure (q4) (by simp only [go_sem,zA,zB,zC,zD,zE,zF,zG,zH,zI,zJ,zK,zL,zM,zN,zO,zP,↓reduceIte,reduceCtorEq] <;> first | rfl | decide) ?_; simp only [go_sem,zA,zB,zC,zD,zE,zF,zG,zH,zI,zJ,zK,zL,zM,zN,zO,zP,↓reduceIte,reduceCtorEq])
        (refine callD_pure (t4) (by simp only [go_sem,zA,zB,zC,zD,zE,zF,zG,zH,zI,zJ,zK,zL,zM,zN,zO,zP,↓reduceIte,reduceCtorEq,Srv.pv,Srv.cells,trbS,List.map_nil] <;> first | rfl | decide) ?_; simp only [go_sem,zA,zB,zC,zD,zE,zF,zG,zH,zI,zJ,zK,zL,zM,zN,zO,zP,↓reduceIte,reduceCtorEq,Srv.pv,Srv.cells,trbS,List.map_nil])
        refine endD_intro (by decide +kernel) ?_
        simp only [go_sem,zA,zB,zC,zD,zE,zF,zG,zH,zI,zJ,zK,zL,zM,zN,zO,zP,↓reduceIte,reduceCtorEq]
        (refine callD_pure (c5) (by simp only [go_sem,zA,zB,zC,zD,zE,zF,zG,zH,zI,zJ,zK,zL,zM,zN,zO,zP,↓reduceIte,reduceCtorEq,Srv.pv,Srv.cells,trbS,List.map_nil] <;> first | rfl | decide) ?_; simp only [go_sem,zA,zB,zC,zD,zE,zF,zG,zH,zI,zJ,zK,zL,zM,zN,zO,zP,↓reduceIte,reduceCtorEq,hro,ba_app,List.cons_append,List.nil_append,List.length_cons,List.length_nil,bytes_size,wk])
        (refine callD_pure (c6) (by simp only [go_sem,zA,zB,zC,zD,zE,zF,zG,zH,zI,zJ,zK,zL,zM,zN,zO,zP,↓reduceIte,reduceCtorEq,Srv.pv,Srv.cells,trbS,List.map_nil] <;> first | rfl | decide) ?_; simp only [go_sem,zA,zB,zC,zD,zE,zF,zG,zH,zI,zJ,zK,zL,zM,zN,zO,zP,↓reduceIte,reduceCtorEq,hro,ba_app,List.cons_append,List.nil_append,List.length_cons,List.length_nil,bytes_size,wk,decide_true])
        refine ⟨by omega,?_⟩
        refine endD_intro (by decide +kernel) ?_
        simp only [go_sem,zA,zB,zC,zD,zE,zF,zG,zH,zI,zJ,zK,zL,zM,zN,zO,zP,↓reduceIte,reduceCtorEq,Try.ntmps25,Try.results25]
      · have r0 : RightS (trbS 1 L) := trbS_right (by decide) hL
        have hll : List.length (α := Trb) L ≤ 16 := hll
        have q1 := session_calls 3
        rw [show sesQ 3 = [0x10,3] from ses_one 3] at q1
        have e1 : talkV (trbS 1 L) [0x10,3] [] [] = (trbS 3 L,[0x50,3],false,true) := talk_ses r0 (n := 3) (by decide)
        have t1 := talk_at e1 r0
        have r1 : RightS (trbS 3 L) := trbS_right (by decide) hL
        have e2 : talkV (trbS 3 L) [0x19,mk] [] [] = (trbS 3 L,0x59 :: mk :: packV mk.toNat L,false,true) := by
          rw [talk_thru r1 (by simp) (by simp),ask_trb]; rfl
        have t2 := talk_at e2 r1
        have w1 : IntKind.wrap .i64 2 = 2 := rfl
        have w2 : IntKind.wrap .i64 3 = 3 := rfl
        have c5 := rightS22_at (rightS_iff.2 r1) (Nat.zero_le _)
        have c6 := packD_calls L mk.toNat (by omega)
        have hp6 := pack_lt (l := L) mk.toNat (by omega)
        simp only [go_sem,zA,zB,zC,zD,zE,zF,zG,zH,zI,zJ,zK,zL,zM,zN,zO,zP,↓reduceIte,reduceCtorEq,tbSt,List.length_map,f1]
        (refine CallA.pure (c0) (by simp only [go_sem,zA,zB,zC,zD,zE,zF,zG,zH,zI,zJ,zK,zL,zM,zN,zO,zP,↓reduceIte,reduceCtorEq] <;> first | rfl | decide) ?_; simp only [go_sem,zA,zB,zC,zD,zE,zF,zG,zH,zI,zJ,zK,zL,zM,zN,zO,zP,↓reduceIte,reduceCtorEq,Srv.pv,Srv.cells,trbS,List.map_nil,hm,w1,w2])
        (refine callD_pure (q1) (by simp only [go_sem,zA,zB,zC,zD,zE,zF,zG,zH,zI,zJ,zK,zL,zM,zN,zO,zP,↓reduceIte,reduceCtorEq] <;> first | rfl | decide) ?_; simp only [go_sem,zA,zB,zC,zD,zE,zF,zG,zH,zI,zJ,zK,zL,zM,zN,zO,zP,↓reduceIte,reduceCtorEq,Srv.pv,Srv.cells,trbS,List.map_nil])
        (refine callD_pure (t1) (by simp only [go_sem,zA,zB,zC,zD,zE,zF,zG,zH,zI,zJ,zK,zL,zM,zN,zO,zP,↓reduceIte,reduceCtorEq,Srv.pv,Srv.cells,trbS,List.map_nil] <;> first | rfl | decide) ?_; simp only [go_sem,zA,zB,zC,zD,zE,zF,zG,zH,zI,zJ,zK,zL,zM,zN,zO,zP,↓reduceIte,reduceCtorEq,Srv.pv,Srv.cells,trbS,List.map_nil])
        refine endD_intro (by decide +kernel) ?_
        simp only [go_sem,zA,zB,zC,zD,zE,zF,zG,zH,zI,zJ,zK,zL,zM,zN,zO,zP,↓reduceIte,reduceCtorEq,wk]
        (refine callD_pure (q2) (by simp only [go_sem,zA,zB,zC,zD,zE,zF,zG,zH,zI,zJ,zK,zL,zM,zN,zO,zP,↓reduceIte,reduceCtorEq] <;> first | rfl | decide) ?_; simp only [go_sem,zA,zB,zC,zD,zE,zF,zG,zH,zI,zJ,zK,zL,zM,zN,zO,zP,↓reduceIte,reduceCtorEq])
        (refine callD_pure (t2) (by simp only [go_sem,zA,zB,zC,zD,zE,zF,zG,zH,zI,zJ,zK,zL,zM,zN,zO,zP,↓reduceIte,reduceCtorEq,Srv.pv,Srv.cells,trbS,List.map_nil] <;> first | rfl | decide) ?_; simp only [go_sem,zA,zB,zC,zD,zE,zF,zG,zH,zI,zJ,zK,zL,zM,zN,zO,zP,↓reduceIte,reduceCtorEq,Srv.pv,Srv.cells,trbS,List.map_nil])
        refine endD_intro (by decide +kernel) ?_
        simp only [go_sem,zA,zB,zC,zD,zE,zF,zG,zH,zI,zJ,zK,zL,zM,zN,zO,zP,↓reduceIte,reduceCtorEq]
        (refine callD_pure (q3) (by simp only [go_sem,zA,zB,zC,zD,zE,zF,zG,zH,zI,zJ,zK,zL,zM,zN,zO,zP,↓reduceIte,reduceCtorEq] <;> first | rfl | decide) ?_; simp only [go_sem,zA,zB,zC,zD,zE,zF,zG,zH,zI,zJ,zK,zL,zM,zN,zO,zP,↓reduceIte,reduceCtorEq])
        have e3 : talkV (trbS 3 L) clearQ [] [] = (trbS 3 L,[0x7f,0x14,0x22],false,true) := by
          rw [talk_thru r1 (by simp [clearQ]) (by simp [clearQ]),ask_clr_no (by show (3 : Int) ≠ 2; decide)]; rfl
        have t3 := talk_at e3 r1
        have e4 : talkV (trbS 3 L) [0x19,255] [] [] = (trbS 3 L,0x59 :: 255 :: packV 255 L,false,true) := by
          rw [talk_thru r1 (by simp) (by simp),ask_trb]; rfl
        have t4 := talk_at e4 r1
        have c7 := packD_calls L 255 (by omega)
        have hp7 := pack_lt (l := L) 255 (by omega)
        (refine callD_pure (t3) (by simp only [go_sem,zA,zB,zC,zD,zE,zF,zG,zH,zI,zJ,zK,zL,zM,zN,zO,zP,↓reduceIte,reduceCtorEq,Srv.pv,Srv.cells,trbS,List.map_nil] <;> first | rfl | decide) ?_; simp only [go_sem,zA,zB,zC,zD,zE,zF,zG,zH,zI,zJ,zK,zL,zM,zN,zO,zP,↓reduceIte,reduceCtorEq,Srv.pv,Srv.cells,trbS,List.map_nil])
        refine endD_intro (by decide +kernel) ?_
        simp only [go_sem,zA,zB,zC,zD,zE,zF,zG,zH,zI,zJ,zK,zL,zM,zN,zO,zP,↓reduceIte,reduceCtorEq]
        (refine callD_pure (q4) (by simp only [go_sem,zA,zB,zC,zD,zE,zF,zG,zH,zI,zJ,zK,zL,zM,zN,zO,zP,↓reduceIte,reduceCtorEq] <;> first | rfl | decide) ?_; simp only [go_sem,zA,zB,zC,zD,zE,zF,zG,zH,zI,zJ,zK,zL,zM,zN,zO,zP,↓reduceIte,reduceCtorEq])
        (refine callD_pure (t4) (by simp only [go_sem,zA,zB,zC,zD,zE,zF,zG,zH,zI,zJ,zK,zL,zM,zN,zO,zP,↓reduceIte,reduceCtorEq,Srv.pv,Srv.cells,trbS,List.map_nil] <;> first | rfl | decide) ?_; simp only [go_sem,zA,zB,zC,zD,zE,zF,zG,zH,zI,zJ,zK,zL,zM,zN,zO,zP,↓reduceIte,reduceCtorEq,Srv.pv,Srv.cells,trbS,List.map_nil])
        refine endD_intro (by decide +kernel) ?_
        simp only [go_sem,zA,zB,zC,zD,zE,zF,zG,zH,zI,zJ,zK,zL,zM,zN,zO,zP,↓reduceIte,reduceCtorEq]
        (refine callD_pure (c5) (by simp only [go_sem,zA,zB,zC,zD,zE,zF,zG,zH,zI,zJ,zK,zL,zM,zN,zO,zP,↓reduceIte,reduceCtorEq,Srv.pv,Srv.cells,trbS,List.map_nil] <;> first | rfl | decide) ?_; simp only [go_sem,zA,zB,zC,zD,zE,zF,zG,zH,zI,zJ,zK,zL,zM,zN,zO,zP,↓reduceIte,reduceCtorEq,hro,ba_app,List.cons_append,List.nil_append,List.length_cons,List.length_nil,bytes_size,wk])
        (refine callD_pure (c6) (by simp only [go_sem,zA,zB,zC,zD,zE,zF,zG,zH,zI,zJ,zK,zL,zM,zN,zO,zP,↓reduceIte,reduceCtorEq,Srv.pv,Srv.cells,trbS,List.map_nil] <;> first | rfl | decide) ?_; simp only [go_sem,zA,zB,zC,zD,zE,zF,zG,zH,zI,zJ,zK,zL,zM,zN,zO,zP,↓reduceIte,reduceCtorEq,hro,ba_app,List.cons_append,List.nil_append,List.length_cons,List.length_nil,bytes_size,wk,decide_true])
        refine ⟨by omega,?_⟩
        refine endD_intro (by decide +kernel) ?_
        simp only [go_sem,zA,zB,zC,zD,zE,zF,zG,zH,zI,zJ,zK,zL,zM,zN,zO,zP,↓reduceIte,reduceCtorEq]
        (refine callD_pure (c7) (by simp only [go_sem,zA,zB,zC,zD,zE,zF,zG,zH,zI,zJ,zK,zL,zM,zN,zO,zP,↓reduceIte,reduceCtorEq] <;> first | rfl | decide) ?_; simp only [go_sem,zA,zB,zC,zD,zE,zF,zG,zH,zI,zJ,zK,zL,zM,zN,zO,zP,↓reduceIte,reduceCtorEq,ba_app,List.cons_append,List.nil_append,List.length_cons,List.length_nil,bytes_size,decide_true])
        refine ⟨by omega,?_⟩
        refine endD_intro (by decide +kernel) ?_
        simp only [go_sem,zA,zB,zC,zD,zE,zF,zG,zH,zI,zJ,zK,zL,zM,zN,zO,zP,↓reduceIte,reduceCtorEq,Try.ntmps25,Try.results25]
end Go.Proofs.Ytcdmhigmgpflbaa.Pe

