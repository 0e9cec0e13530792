import Derived.Test.YtcdmhigmgpflbaaTU3
namespace Go.Proofs.Ytcdmhigmgpflbaa.Pe
open Go.Pe Go.RowKit
open Nat renaming reduceAdd → zA,reduceSub → zB,reduceMul → zC,reduceLT → zD,reduceLeDiff → zE,reduceEqDiff → zF,reduceBEq → zG
open Int renaming reduceToNat → zH,reduceLT → zI,reduceLE → zJ,reduceEq → zK,reduceNe → zL,reduceAdd → zM,reduceSub → zN,reduceMul → zO,reduceNeg → zP
set_option maxRecDepth 20000
set_option maxHeartbeats 4000000
set_option linter.unusedSimpArgs false
set_option linter.unusedVariables false
/-- So many wrong keys were told. -/
structure GuT (S : Int) (i : Nat) (s : Srv) : Prop where
  g : GuS i s
  q : s.quiet = 0
  sec : s.sec = S
theorem gu_seed {S : Int} {i : Nat} {s : Srv} (h : GuT S i s) (hi : i < 3) :
    ∃ t : Srv,talkV s seedQ [] [] = (t,0x67 :: 1 :: fourV s.draw,false,true) ∧ RightS t ∧ (0 ≤ s.draw ∧ s.draw ≤ 4294967295) ∧
      ∀ k : Int,(0 ≤ k ∧ k ≤ 4294967295) → k ≠ keyV s.draw S → ∃ u : Srv,talkV t (keyQ k) [] [] = (u,[0x7f,0x27,0x35],false,true) ∧ u.op = false ∧ GuT S (i + 1) u := by
  obtain ⟨g,hq,hS⟩ := h
  have hw : s.wrong ≤ 2 := by rw [g.w,if_pos hi]; omega
  have hs : s.ses ≠ 1 := by rw [g.ses]; decide
  have e1 := talk_seed g.r hw hs g.op
  have r1 := right_to e1 g.r
  have hd := g.r.draw
  refine ⟨_,e1,r1,hd,fun k hk hne => ?_⟩
  have hne : k ≠ keyV s.draw s.sec := by rw [hS]; exact hne
  have e2 := talk_bad (s := { s with quiet := 0,seed := s.draw,draw := nextDraw s.draw }) r1 hw hs hd.1 hk hne
  have r2 := right_to e2 r1
  refine ⟨_,e2,g.op,⟨r2,g.ses,g.op,?_,fun _ => rfl⟩,rfl,hS⟩
  show (if s.wrong = 2 then 12 else s.wrong + 1) = _
  rw [g.w,if_pos hi]
  repeat' split
  all_goals omega
/-- Ticks behind them. -/
theorem gu_tick {S : Int} {i : Nat} {s : Srv} (h : GuT S i s) (hi : i ≤ 3) {n : Int} (h0 : 0 ≤ n) (hn : n ≤ 29) :
    ∃ a : Srv,tickDV n s = a ∧ RightS a ∧ a.ses = 2 ∧ a.op = false ∧ a.sec = S ∧ (i = 3 ∧ n < 10 → ¬ a.wrong ≤ 2) ∧ (¬ (i = 3 ∧ n < 10) → a.wrong ≤ 2) := by
  obtain ⟨g,hq,hS⟩ := h
  refine ⟨_,rfl,tickDV_right g.r _,?_⟩
  rw [tickDV_eq g.r.tk]
  unfold tkN
  rw [if_neg (by omega)]
  refine ⟨g.ses,g.op,hS,fun hh => ?_,fun hh => ?_⟩
  · show ¬ (wrN s.wrong n.toNat) ≤ 2
    rw [g.w,wrN]
    repeat' split
    all_goals omega
  · show (wrN s.wrong n.toNat) ≤ 2
    rw [g.w,wrN]
    repeat' split
    all_goals omega
theorem keyFor_no (S : Int) : keyForV S [0x7f,0x27,0x36] = ([],false) := rfl
def gdSt (S D : UInt32) (l : List UInt32) (tk : UInt8) (s : Srv) (i : Nat) : St := ⟨169,[(0,.lit (.int .u32 S.toNat)),(2,u32sPV l),(3,.lit (.int .u8 tk.toNat)),(9,PB true),(10,.ptr 0 0),(11,PI i)],[(0,.box 25 s.cells)],200,0⟩
def gdI (S D : UInt32) (l : List UInt32) (tk : UInt8) (m : Nat) (st : St) : Prop := ∃ (i : Nat) (s : Srv),i ≤ l.length ∧ m = l.length - i ∧ GuT S.toNat i s ∧ st = gdSt S D l tk s i
theorem u32Rows_getD {l : List UInt32} {i : Nat} (h : i < l.length) : (l.map rowU32).getD i [] = [.lit (.int .u32 l[i].toNat)] := by
  simp [List.getD_eq_getElem?_getD,h,rowU32]
theorem topGuessed_calls (S D : UInt32) (l : List UInt32) (tk : UInt8) : PureCalls Try.prog 24 [.lit (.int .u32 S.toNat),.lit (.int .u32 D.toNat),u32sPV l,.lit (.int .u8 tk.toNat)] (PB true) := by
  refine PureCalls.of tabOK mixed Try.func24 rfl rfl (by decide +kernel) (by simp [Try.ntmps24]) ?_
  have wS := wr32 S
  have wD := wr32 D
  have hS := u32_wide S
  have hD := u32_wide D
  have c0 := newD_at (newSrv_u32 S D [])
  have r0 : RightS (freshS S.toNat D.toNat []) := fresh_right hS hD rfl (by simp)
  have q1 := session_calls 2
  rw [show sesQ 2 = [0x10,2] from ses_one 2] at q1
  have e1 := talk_ses r0 (n := 2) (by decide)
  have t1 := talk_at e1 r0
  have r1 := right_to e1 r0
  have q2 := seed_calls
  simp only [go_sem,zA,zB,zC,zD,zE,zF,zG,zH,zI,zJ,zK,zL,zM,zN,zO,zP,↓reduceIte,reduceCtorEq,Try.ntmps24,Try.results24]
  (refine CallA.pure (top22_calls) (by simp only [go_sem,zA,zB,zC,zD,zE,zF,zG,zH,zI,zJ,zK,zL,zM,zN,zO,zP,↓reduceIte,reduceCtorEq,Try.ntmps24,Try.results24] <;> first | rfl | decide) ?_; simp only [go_sem,zA,zB,zC,zD,zE,zF,zG,zH,zI,zJ,zK,zL,zM,zN,zO,zP,↓reduceIte,reduceCtorEq,Try.ntmps24,Try.results24])
  by_cases hl : l.length > 3
  · have g1 : decide ((l.length : Int) > 3) = true := decide_eq_true (by omega)
    simp only [go_sem,zA,zB,zC,zD,zE,zF,zG,zH,zI,zJ,zK,zL,zM,zN,zO,zP,↓reduceIte,reduceCtorEq,List.length_map,g1,Try.ntmps24,Try.results24]
  have g1 : decide ((l.length : Int) > 3) = false := decide_eq_false (by omega)
  simp only [go_sem,zA,zB,zC,zD,zE,zF,zG,zH,zI,zJ,zK,zL,zM,zN,zO,zP,↓reduceIte,reduceCtorEq,List.length_map,g1]
  (refine CallA.pure (c0) (by simp only [go_sem,zA,zB,zC,zD,zE,zF,zG,zH,zI,zJ,zK,zL,zM,zN,zO,zP,↓reduceIte,reduceCtorEq,wS,wD,Srv.pv,Srv.cells,freshS,List.map_nil] <;> first | rfl | decide) ?_; simp only [go_sem,zA,zB,zC,zD,zE,zF,zG,zH,zI,zJ,zK,zL,zM,zN,zO,zP,↓reduceIte,reduceCtorEq,wS,wD,Srv.pv,Srv.cells,freshS,List.map_nil])
  (refine callD_pure (q1) (by simp only [go_sem,zA,zB,zC,zD,zE,zF,zG,zH,zI,zJ,zK,zL,zM,zN,zO,zP,↓reduceIte,reduceCtorEq] <;> first | rfl | decide) ?_; simp only [go_sem,zA,zB,zC,zD,zE,zF,zG,zH,zI,zJ,zK,zL,zM,zN,zO,zP,↓reduceIte,reduceCtorEq])
  (refine callD_pure (t1) (by simp only [go_sem,zA,zB,zC,zD,zE,zF,zG,zH,zI,zJ,zK,zL,zM,zN,zO,zP,↓reduceIte,reduceCtorEq,Srv.pv,Srv.cells,freshS,List.map_nil] <;> first | rfl | decide) ?_; simp only [go_sem,zA,zB,zC,zD,zE,zF,zG,zH,zI,zJ,zK,zL,zM,zN,zO,zP,↓reduceIte,reduceCtorEq,Srv.pv,Srv.cells,freshS,List.map_nil])
  refine endD_intro (by decide +kernel) ?_
  simp only [go_sem,zA,zB,zC,zD,zE,zF,zG,zH,zI,zJ,zK,zL,zM,zN,zO,zP,↓reduceIte,reduceCtorEq]
  refine wpA_loop (gdI S D l tk) ⟨l.length,_,?_,0,_,by omega,rfl,⟨⟨r1,rfl,rfl,rfl,fun h => by cases h⟩,rfl,rfl⟩,rfl⟩ ?_
  · simp only [go_sem,zA,zB,zC,zD,zE,zF,zG,zH,zI,zJ,zK,zL,zM,zN,zO,zP,↓reduceIte,reduceCtorEq,gdSt,Srv.cells,freshS,refsIn,refsInL,Blk.refsIn,Int.natCast_zero]
  clear c0 t1 r1 e1 q1
  rintro mm st ⟨i,s,hi,rfl,hg,rfl⟩
  by_cases hc : i < l.length
  · have f1 : decide ((i : Int) < (l.length : Int)) = true := decide_eq_true (by omega)
    have f2 := u32Rows_getD hc
    have hw := wrapIN (i := i) (by omega)
    have f3 : (i : Int) < (l.length : Int) := by omega
    have f4 : (0 : Int) ≤ (i : Int) := by omega
    have wX := wr32 l[i]
    have hX := u32_wide l[i]
    generalize (l[i].toNat : Int) = x at wX hX f2
    obtain ⟨t,e2,r2,hd,hbad⟩ := gu_seed hg (by omega)
    have t2 := talk_at e2 hg.g.r
    have k1 := keyFor_at (keyFor_four hd S.toNat)
    have k2 := keyFor_at (keyFor_four hd x)
    have w1 := keyV_wide s.draw S.toNat
    have w2 := keyV_wide s.draw x
    simp only [go_sem,zA,zB,zC,zD,zE,zF,zG,zH,zI,zJ,zK,zL,zM,zN,zO,zP,↓reduceIte,reduceCtorEq,gdSt,Srv.cells,List.length_map,f1]
    (refine callD_pure (q2) (by simp only [go_sem,zA,zB,zC,zD,zE,zF,zG,zH,zI,zJ,zK,zL,zM,zN,zO,zP,↓reduceIte,reduceCtorEq] <;> first | rfl | decide) ?_; simp only [go_sem,zA,zB,zC,zD,zE,zF,zG,zH,zI,zJ,zK,zL,zM,zN,zO,zP,↓reduceIte,reduceCtorEq])
    (refine callD_pure (t2) (by simp only [go_sem,zA,zB,zC,zD,zE,zF,zG,zH,zI,zJ,zK,zL,zM,zN,zO,zP,↓reduceIte,reduceCtorEq,Srv.pv,Srv.cells] <;> first | rfl | decide) ?_; simp only [go_sem,zA,zB,zC,zD,zE,zF,zG,zH,zI,zJ,zK,zL,zM,zN,zO,zP,↓reduceIte,reduceCtorEq,Srv.pv,Srv.cells])
    refine endD_intro (by decide +kernel) ?_
    simp only [go_sem,zA,zB,zC,zD,zE,zF,zG,zH,zI,zJ,zK,zL,zM,zN,zO,zP,↓reduceIte,reduceCtorEq,wS]
    (refine CallA.pure (k1) (by simp only [go_sem,zA,zB,zC,zD,zE,zF,zG,zH,zI,zJ,zK,zL,zM,zN,zO,zP,↓reduceIte,reduceCtorEq,wS] <;> first | rfl | decide) ?_; simp only [go_sem,zA,zB,zC,zD,zE,zF,zG,zH,zI,zJ,zK,zL,zM,zN,zO,zP,↓reduceIte,reduceCtorEq,wS])
    simp only [go_sem,zA,zB,zC,zD,zE,zF,zG,zH,zI,zJ,zK,zL,zM,zN,zO,zP,↓reduceIte,reduceCtorEq,List.length_map,f3,f4,f2,Int.toNat_natCast]
    (refine CallA.pure (k2) (by simp only [go_sem,zA,zB,zC,zD,zE,zF,zG,zH,zI,zJ,zK,zL,zM,zN,zO,zP,↓reduceIte,reduceCtorEq,List.length_map,f3,f4,f2,Int.toNat_natCast,List.headD_cons,List.length_cons,Nat.le_add_left,wX] <;> first | rfl | decide) ?_; simp only [go_sem,zA,zB,zC,zD,zE,zF,zG,zH,zI,zJ,zK,zL,zM,zN,zO,zP,↓reduceIte,reduceCtorEq,List.length_map,f3,f4,f2,Int.toNat_natCast,List.headD_cons,List.length_cons,Nat.le_add_left,wX])
    by_cases he : keyV s.draw x = keyV s.draw S.toNat
    · have g2 : decide (keyQ (keyV s.draw x) = keyQ (keyV s.draw S.toNat)) = true := decide_eq_true (by rw [he])
      simp only [go_sem,zA,zB,zC,zD,zE,zF,zG,zH,zI,zJ,zK,zL,zM,zN,zO,zP,↓reduceIte,reduceCtorEq,g2,Try.ntmps24,Try.results24]
    · have g2 : decide (keyQ (keyV s.draw x) = keyQ (keyV s.draw S.toNat)) = false := decide_eq_false (fun h => he ((keyQ_inj w2 w1).1 h))
      obtain ⟨u,e3,o3,hg3⟩ := hbad _ w2 he
      have t3 := talk_at e3 r2
      have p3 := pos_at (q := keyQ (keyV s.draw x)) (a := [0x7f,0x27,0x35]) (b := false) rfl
      simp only [go_sem,zA,zB,zC,zD,zE,zF,zG,zH,zI,zJ,zK,zL,zM,zN,zO,zP,↓reduceIte,reduceCtorEq,g2]
      (refine CallA.pure (t3) (by simp only [go_sem,zA,zB,zC,zD,zE,zF,zG,zH,zI,zJ,zK,zL,zM,zN,zO,zP,↓reduceIte,reduceCtorEq,Srv.pv,Srv.cells,List.map_nil,o3] <;> first | rfl | decide) ?_; simp only [go_sem,zA,zB,zC,zD,zE,zF,zG,zH,zI,zJ,zK,zL,zM,zN,zO,zP,↓reduceIte,reduceCtorEq,Srv.pv,Srv.cells,List.map_nil,o3])
      (refine CallA.pure (p3) (by simp only [go_sem,zA,zB,zC,zD,zE,zF,zG,zH,zI,zJ,zK,zL,zM,zN,zO,zP,↓reduceIte,reduceCtorEq] <;> first | rfl | decide) ?_; simp only [go_sem,zA,zB,zC,zD,zE,zF,zG,zH,zI,zJ,zK,zL,zM,zN,zO,zP,↓reduceIte,reduceCtorEq])
      refine ⟨l.length - (i + 1),_,by omega,?_,i + 1,u,by omega,rfl,hg3,rfl⟩
      simp only [go_sem,zA,zB,zC,zD,zE,zF,zG,zH,zI,zJ,zK,zL,zM,zN,zO,zP,↓reduceIte,reduceCtorEq,gdSt,hw,o3,Srv.cells,refsIn,refsInL,Blk.refsIn]
  · have f1 : decide ((i : Int) < (l.length : Int)) = false := decide_eq_false (by omega)
    obtain rfl : i = l.length := by omega
    obtain ⟨n,hn⟩ : ∃ n : Int,(tk.toNat : Int).tmod 30 = n := ⟨_,rfl⟩
    have hn0 : 0 ≤ n ∧ n ≤ 29 := by
      rw [← hn,Int.tmod_eq_emod_of_nonneg (by omega)]; omega
    have wn : IntKind.wrap .i64 n = n := by rw [wrapI64_eq]; omega
    obtain ⟨a,h1,ra,hses,ao,aS,h3,h4⟩ := gu_tick hg (by omega) hn0.1 hn0.2
    have c1 := tick_to hg.g.r h1
    have as1 : a.ses ≠ 1 := by rw [hses]; decide
    simp only [go_sem,zA,zB,zC,zD,zE,zF,zG,zH,zI,zJ,zK,zL,zM,zN,zO,zP,↓reduceIte,reduceCtorEq,gdSt,Srv.cells,List.length_map,f1,hn]
    (refine CallA.pure (c1) (by simp only [go_sem,zA,zB,zC,zD,zE,zF,zG,zH,zI,zJ,zK,zL,zM,zN,zO,zP,↓reduceIte,reduceCtorEq,Srv.pv,Srv.cells,wn] <;> first | rfl | decide) ?_; simp only [go_sem,zA,zB,zC,zD,zE,zF,zG,zH,zI,zJ,zK,zL,zM,zN,zO,zP,↓reduceIte,reduceCtorEq,Srv.pv,Srv.cells,wn])
    (refine callD_pure (q2) (by simp only [go_sem,zA,zB,zC,zD,zE,zF,zG,zH,zI,zJ,zK,zL,zM,zN,zO,zP,↓reduceIte,reduceCtorEq] <;> first | rfl | decide) ?_; simp only [go_sem,zA,zB,zC,zD,zE,zF,zG,zH,zI,zJ,zK,zL,zM,zN,zO,zP,↓reduceIte,reduceCtorEq])
    by_cases hk : l.length = 3 ∧ n < 10
    · have hm := h3 hk
      have e2 : talkV a seedQ [] [] = ({ a with quiet := 0 },[0x7f,0x27,0x36],false,true) := by
        rw [talk_thru ra (by simp [seedQ]) (by simp [seedQ]),show seedQ = [0x27,1] from rfl,ask_many hm]
      have t2 := talk_at e2 ra
      have k1 := keyFor_at (keyFor_no S.toNat)
      have g3 : decide ((l.length : Int) = 3) = true := decide_eq_true (by omega)
      have g4 : decide (n < 10) = true := decide_eq_true hk.2
      (refine callD_pure (t2) (by simp only [go_sem,zA,zB,zC,zD,zE,zF,zG,zH,zI,zJ,zK,zL,zM,zN,zO,zP,↓reduceIte,reduceCtorEq,Srv.pv,Srv.cells] <;> first | rfl | decide) ?_; simp only [go_sem,zA,zB,zC,zD,zE,zF,zG,zH,zI,zJ,zK,zL,zM,zN,zO,zP,↓reduceIte,reduceCtorEq,Srv.pv,Srv.cells])
      refine endD_intro (by decide +kernel) ?_
      simp only [go_sem,zA,zB,zC,zD,zE,zF,zG,zH,zI,zJ,zK,zL,zM,zN,zO,zP,↓reduceIte,reduceCtorEq,wS]
      (refine CallA.pure (k1) (by simp only [go_sem,zA,zB,zC,zD,zE,zF,zG,zH,zI,zJ,zK,zL,zM,zN,zO,zP,↓reduceIte,reduceCtorEq,wS,List.length_map,g3,g4,ao,Try.ntmps24,Try.results24] <;> first | rfl | decide) ?_; simp only [go_sem,zA,zB,zC,zD,zE,zF,zG,zH,zI,zJ,zK,zL,zM,zN,zO,zP,↓reduceIte,reduceCtorEq,wS,List.length_map,g3,g4,ao,Try.ntmps24,Try.results24])
    · have hw := h4 hk
      have e2 := talk_seed ra hw as1 ao
      have r2 := right_to e2 ra
      have t2 := talk_at e2 ra
      have hd := ra.draw
      have k1 := keyFor_at (keyFor_four hd S.toNat)
      have e3 : talkV { a with quiet := 0,seed := a.draw,draw := nextDraw a.draw } (keyQ (keyV a.draw S.toNat)) [] [] = ({ a with quiet := 0,seed := -1,draw := nextDraw a.draw,op := true,wrong := 0 },[0x67,2],false,true) := by
        rw [← aS]; exact talk_good (s := { a with quiet := 0,seed := a.draw,draw := nextDraw a.draw }) r2 hw as1 hd.1
      have t3 := talk_at e3 r2
      have p3 := pos_at (q := keyQ (keyV a.draw S.toNat)) (a := [0x67,2]) (b := true) rfl
      have g3 : (l.length : Int) = 3 → ¬ n < 10 := fun h h' => hk ⟨by omega,h'⟩
      (refine callD_pure (t2) (by simp only [go_sem,zA,zB,zC,zD,zE,zF,zG,zH,zI,zJ,zK,zL,zM,zN,zO,zP,↓reduceIte,reduceCtorEq,Srv.pv,Srv.cells] <;> first | rfl | decide) ?_; simp only [go_sem,zA,zB,zC,zD,zE,zF,zG,zH,zI,zJ,zK,zL,zM,zN,zO,zP,↓reduceIte,reduceCtorEq,Srv.pv,Srv.cells])
      refine endD_intro (by decide +kernel) ?_
      simp only [go_sem,zA,zB,zC,zD,zE,zF,zG,zH,zI,zJ,zK,zL,zM,zN,zO,zP,↓reduceIte,reduceCtorEq,wS]
      (refine CallA.pure (k1) (by simp only [go_sem,zA,zB,zC,zD,zE,zF,zG,zH,zI,zJ,zK,zL,zM,zN,zO,zP,↓reduceIte,reduceCtorEq,wS,List.length_map] <;> first | rfl | decide) ?_; simp only [go_sem,zA,zB,zC,zD,zE,zF,zG,zH,zI,zJ,zK,zL,zM,zN,zO,zP,↓reduceIte,reduceCtorEq,wS,List.length_map])
      by_cases h3 : l.length = 3
      · have g5 : decide ((l.length : Int) = 3) = true := decide_eq_true (by omega)
        have g6 : decide (n < 10) = false := decide_eq_false (g3 (by omega))
        simp only [go_sem,zA,zB,zC,zD,zE,zF,zG,zH,zI,zJ,zK,zL,zM,zN,zO,zP,↓reduceIte,reduceCtorEq,g5,g6]
        (refine CallA.pure (t3) (by simp only [go_sem,zA,zB,zC,zD,zE,zF,zG,zH,zI,zJ,zK,zL,zM,zN,zO,zP,↓reduceIte,reduceCtorEq,Srv.pv,Srv.cells,List.map_nil] <;> first | rfl | decide) ?_; simp only [go_sem,zA,zB,zC,zD,zE,zF,zG,zH,zI,zJ,zK,zL,zM,zN,zO,zP,↓reduceIte,reduceCtorEq,Srv.pv,Srv.cells,List.map_nil])
        (refine CallA.pure (p3) (by simp only [go_sem,zA,zB,zC,zD,zE,zF,zG,zH,zI,zJ,zK,zL,zM,zN,zO,zP,↓reduceIte,reduceCtorEq,Try.ntmps24,Try.results24] <;> first | rfl | decide) ?_; simp only [go_sem,zA,zB,zC,zD,zE,zF,zG,zH,zI,zJ,zK,zL,zM,zN,zO,zP,↓reduceIte,reduceCtorEq,Try.ntmps24,Try.results24])
      · have g5 : decide ((l.length : Int) = 3) = false := decide_eq_false (by omega)
        simp only [go_sem,zA,zB,zC,zD,zE,zF,zG,zH,zI,zJ,zK,zL,zM,zN,zO,zP,↓reduceIte,reduceCtorEq,g5]
        (refine CallA.pure (t3) (by simp only [go_sem,zA,zB,zC,zD,zE,zF,zG,zH,zI,zJ,zK,zL,zM,zN,zO,zP,↓reduceIte,reduceCtorEq,Srv.pv,Srv.cells,List.map_nil] <;> first | rfl | decide) ?_; simp only [go_sem,zA,zB,zC,zD,zE,zF,zG,zH,zI,zJ,zK,zL,zM,zN,zO,zP,↓reduceIte,reduceCtorEq,Srv.pv,Srv.cells,List.map_nil])
        (refine CallA.pure (p3) (by simp only [go_sem,zA,zB,zC,zD,zE,zF,zG,zH,zI,zJ,zK,zL,zM,zN,zO,zP,↓reduceIte,reduceCtorEq,Try.ntmps24,Try.results24] <;> first | rfl | decide) ?_; simp only [go_sem,zA,zB,zC,zD,zE,zF,zG,zH,zI,zJ,zK,zL,zM,zN,zO,zP,↓reduceIte,reduceCtorEq,Try.ntmps24,Try.results24])
end Go.Proofs.Ytcdmhigmgpflbaa.Pe

