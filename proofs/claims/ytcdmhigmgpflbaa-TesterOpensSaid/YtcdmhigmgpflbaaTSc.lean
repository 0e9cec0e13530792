import Derived.Test.YtcdmhigmgpflbaaTSb
namespace Go.Proofs.Ytcdmhigmgpflbaa.Pe
open Go.Pe Go.RowKit
open Nat renaming reduceAdd → zA, reduceSub → zB, reduceMul → zC, reduceLT → zD, reduceLeDiff → zE, reduceEqDiff → zF, reduceBEq → zG
open Int renaming reduceToNat → zH, reduceLT → zI, reduceLE → zJ, reduceEq → zK, reduceNe → zL, reduceAdd → zM, reduceSub → zN, reduceMul → zO, reduceNeg → zP
set_option maxRecDepth 20000
set_option maxHeartbeats 4000000
set_option linter.unusedSimpArgs false
set_option linter.unusedVariables false
theorem testerOpens_calls (S D O : UInt32) : PureCalls Try.prog 15 [.lit (.int .u32 S.toNat), .lit (.int .u32 D.toNat), .lit (.int .u32 O.toNat)] (PB true) := by
  refine PureCalls.of tabOK mixed Try.func15 rfl rfl (by decide +kernel) (by simp [Try.ntmps15]) ?_
  have wS := wr32 S
  have wD := wr32 D
  have wO := wr32 O
  have hS := u32_wide S
  have hD := u32_wide D
  have c0 := newD_at (newSrv_u32 S D [])
  generalize (S.toNat : Int) = s at wS hS c0
  generalize (D.toNat : Int) = d at wD hD c0
  generalize (O.toNat : Int) = o at wO
  have r0 : RightS (freshS s d []) := fresh_right hS hD rfl (by simp)
  have q1 := session_calls 2
  rw [show sesQ 2 = [0x10, 2] from ses_one 2] at q1
  have e1 := talk_ses r0 (n := 2) (by decide)
  have t1 := talk_at e1 r0
  have r1 := right_to e1 r0
  have q2 := seed_calls
  have e2 := talk_seed r1 (by decide : (0 : Int) ≤ 2) (by decide : (2 : Int) ≠ 1) rfl
  have t2 := talk_at e2 r1
  have r2 := right_to e2 r1
  have k1 := keyFor_at (keyFor_four hD s)
  have k2 := keyFor_at (keyFor_four hD o)
  have w1 := keyV_wide d s
  have w2 := keyV_wide d o
  have e3 := talk_good r2 (by decide : (0 : Int) ≤ 2) (by decide : (2 : Int) ≠ 1) hD.1
  have t3 := talk_at e3 r2
  have p1 := pos_at (q := keyQ (keyV d s)) (a := [0x67, 2]) (b := true) rfl
  have sm := same23_calls (keyQ (keyV d o)) (keyQ (keyV d s))
  simp only [go_sem, zA, zB, zC, zD, zE, zF, zG, zH, zI, zJ, zK, zL, zM, zN, zO, zP, ↓reduceIte, reduceCtorEq, Try.ntmps15, Try.results15]
  (refine CallA.pure (h23_calls) (by simp only [go_sem, zA, zB, zC, zD, zE, zF, zG, zH, zI, zJ, zK, zL, zM, zN, zO, zP, ↓reduceIte, reduceCtorEq, wS, wD] <;> first | rfl | decide) ?_; simp only [go_sem, zA, zB, zC, zD, zE, zF, zG, zH, zI, zJ, zK, zL, zM, zN, zO, zP, ↓reduceIte, reduceCtorEq, wS, wD])
  (refine CallA.pure (c0) (by simp only [go_sem, zA, zB, zC, zD, zE, zF, zG, zH, zI, zJ, zK, zL, zM, zN, zO, zP, ↓reduceIte, reduceCtorEq, Srv.pv, Srv.cells, freshS, List.map_nil] <;> first | rfl | decide) ?_; simp only [go_sem, zA, zB, zC, zD, zE, zF, zG, zH, zI, zJ, zK, zL, zM, zN, zO, zP, ↓reduceIte, reduceCtorEq, Srv.pv, Srv.cells, freshS, List.map_nil])
  (refine callD_pure (q1) (by simp only [go_sem, zA, zB, zC, zD, zE, zF, zG, zH, zI, zJ, zK, zL, zM, zN, zO, zP, ↓reduceIte, reduceCtorEq] <;> first | rfl | decide) ?_; simp only [go_sem, zA, zB, zC, zD, zE, zF, zG, zH, zI, zJ, zK, zL, zM, zN, zO, zP, ↓reduceIte, reduceCtorEq])
  (refine callD_pure (t1) (by simp only [go_sem, zA, zB, zC, zD, zE, zF, zG, zH, zI, zJ, zK, zL, zM, zN, zO, zP, ↓reduceIte, reduceCtorEq, Srv.pv, Srv.cells, freshS, List.map_nil] <;> first | rfl | decide) ?_; simp only [go_sem, zA, zB, zC, zD, zE, zF, zG, zH, zI, zJ, zK, zL, zM, zN, zO, zP, ↓reduceIte, reduceCtorEq, Srv.pv, Srv.cells, freshS, List.map_nil])
  refine endD_intro (by decide +kernel) ?_
  simp only [go_sem, zA, zB, zC, zD, zE, zF, zG, zH, zI, zJ, zK, zL, zM, zN, zO, zP, ↓reduceIte, reduceCtorEq]
  (refine callD_pure (q2) (by simp only [go_sem, zA, zB, zC, zD, zE, zF, zG, zH, zI, zJ, zK, zL, zM, zN, zO, zP, ↓reduceIte, reduceCtorEq] <;> first | rfl | decide) ?_; simp only [go_sem, zA, zB, zC, zD, zE, zF, zG, zH, zI, zJ, zK, zL, zM, zN, zO, zP, ↓reduceIte, reduceCtorEq])
  (refine callD_pure (t2) (by simp only [go_sem, zA, zB, zC, zD, zE, zF, zG, zH, zI, zJ, zK, zL, zM, zN, zO, zP, ↓reduceIte, reduceCtorEq, Srv.pv, Srv.cells, freshS, List.map_nil] <;> first | rfl | decide) ?_; simp only [go_sem, zA, zB, zC, zD, zE, zF, zG, zH, zI, zJ, zK, zL, zM, zN, zO, zP, ↓reduceIte, reduceCtorEq, Srv.pv, Srv.cells, freshS, List.map_nil])
  refine endD_intro (by decide +kernel) ?_
  simp only [go_sem, zA, zB, zC, zD, zE, zF, zG, zH, zI, zJ, zK, zL, zM, zN, zO, zP, ↓reduceIte, reduceCtorEq, wS, wO]
  (refine CallA.pure (k1) (by simp only [go_sem, zA, zB, zC, zD, zE, zF, zG, zH, zI, zJ, zK, zL, zM, zN, zO, zP, ↓reduceIte, reduceCtorEq, wS, wO] <;> first | rfl | decide) ?_; simp only [go_sem, zA, zB, zC, zD, zE, zF, zG, zH, zI, zJ, zK, zL, zM, zN, zO, zP, ↓reduceIte, reduceCtorEq, wS, wO])
  (refine CallA.pure (k2) (by simp only [go_sem, zA, zB, zC, zD, zE, zF, zG, zH, zI, zJ, zK, zL, zM, zN, zO, zP, ↓reduceIte, reduceCtorEq, Srv.pv, Srv.cells, freshS, List.map_nil] <;> first | rfl | decide) ?_; simp only [go_sem, zA, zB, zC, zD, zE, zF, zG, zH, zI, zJ, zK, zL, zM, zN, zO, zP, ↓reduceIte, reduceCtorEq, Srv.pv, Srv.cells, freshS, List.map_nil])
  (refine CallA.pure (t3) (by simp only [go_sem, zA, zB, zC, zD, zE, zF, zG, zH, zI, zJ, zK, zL, zM, zN, zO, zP, ↓reduceIte, reduceCtorEq, Srv.pv, Srv.cells, freshS, List.map_nil] <;> first | rfl | decide) ?_; simp only [go_sem, zA, zB, zC, zD, zE, zF, zG, zH, zI, zJ, zK, zL, zM, zN, zO, zP, ↓reduceIte, reduceCtorEq, Srv.pv, Srv.cells, freshS, List.map_nil])
  by_cases he : keyV d o = keyV d s
  · rw [he]
    rw [he] at sm
    have sm : PureCalls Try.prog 49 [bytesPV (keyQ (keyV d s)), bytesPV (keyQ (keyV d s))] (PB true) := by rwa [decide_eq_true rfl] at sm
    (refine CallA.pure (t3) (by simp only [go_sem, zA, zB, zC, zD, zE, zF, zG, zH, zI, zJ, zK, zL, zM, zN, zO, zP, ↓reduceIte, reduceCtorEq, Srv.pv, Srv.cells, freshS, List.map_nil] <;> first | rfl | decide) ?_; simp only [go_sem, zA, zB, zC, zD, zE, zF, zG, zH, zI, zJ, zK, zL, zM, zN, zO, zP, ↓reduceIte, reduceCtorEq, Srv.pv, Srv.cells, freshS, List.map_nil])
    (refine callD_pure (p1) (by simp only [go_sem, zA, zB, zC, zD, zE, zF, zG, zH, zI, zJ, zK, zL, zM, zN, zO, zP, ↓reduceIte, reduceCtorEq] <;> first | rfl | decide) ?_; simp only [go_sem, zA, zB, zC, zD, zE, zF, zG, zH, zI, zJ, zK, zL, zM, zN, zO, zP, ↓reduceIte, reduceCtorEq])
    (refine callD_pure (sm) (by simp only [go_sem, zA, zB, zC, zD, zE, zF, zG, zH, zI, zJ, zK, zL, zM, zN, zO, zP, ↓reduceIte, reduceCtorEq, beq_self_eq_true] <;> first | rfl | decide) ?_; simp only [go_sem, zA, zB, zC, zD, zE, zF, zG, zH, zI, zJ, zK, zL, zM, zN, zO, zP, ↓reduceIte, reduceCtorEq, beq_self_eq_true])
    (refine callD_pure (p1) (by simp only [go_sem, zA, zB, zC, zD, zE, zF, zG, zH, zI, zJ, zK, zL, zM, zN, zO, zP, ↓reduceIte, reduceCtorEq, beq_self_eq_true] <;> first | rfl | decide) ?_; simp only [go_sem, zA, zB, zC, zD, zE, zF, zG, zH, zI, zJ, zK, zL, zM, zN, zO, zP, ↓reduceIte, reduceCtorEq, beq_self_eq_true])
    (refine callD_pure (sm) (by simp only [go_sem, zA, zB, zC, zD, zE, zF, zG, zH, zI, zJ, zK, zL, zM, zN, zO, zP, ↓reduceIte, reduceCtorEq, beq_self_eq_true] <;> first | rfl | decide) ?_; simp only [go_sem, zA, zB, zC, zD, zE, zF, zG, zH, zI, zJ, zK, zL, zM, zN, zO, zP, ↓reduceIte, reduceCtorEq, beq_self_eq_true])
    refine endD_intro (by decide +kernel) ?_
    simp only [go_sem, zA, zB, zC, zD, zE, zF, zG, zH, zI, zJ, zK, zL, zM, zN, zO, zP, ↓reduceIte, reduceCtorEq, Try.ntmps15, Try.results15]
  · have e4 := talk_bad r2 (by decide : (0 : Int) ≤ 2) (by decide : (2 : Int) ≠ 1) hD.1 w2 he
    have t4 := talk_at e4 r2
    have p2 := pos_at (q := keyQ (keyV d o)) (a := [0x7f, 0x27, 0x35]) (b := false) rfl
    have sm : PureCalls Try.prog 49 [bytesPV (keyQ (keyV d o)), bytesPV (keyQ (keyV d s))] (PB false) := by rwa [decide_eq_false (fun h => he ((keyQ_inj w2 w1).1 h))] at sm
    have hz : wrongA { freshS s d [] with quiet := 0, ses := ((2 : UInt8).toNat : Int), op := false, seed := d, draw := nextDraw d } = { freshS s d [] with quiet := 0, ses := ((2 : UInt8).toNat : Int), op := false, seed := -1, wrong := 1, draw := nextDraw d } := rfl
    (refine CallA.pure (t4) (by simp only [go_sem, zA, zB, zC, zD, zE, zF, zG, zH, zI, zJ, zK, zL, zM, zN, zO, zP, ↓reduceIte, reduceCtorEq, Srv.pv, Srv.cells, freshS, List.map_nil, wrongA] <;> first | rfl | decide) ?_; simp only [go_sem, zA, zB, zC, zD, zE, zF, zG, zH, zI, zJ, zK, zL, zM, zN, zO, zP, ↓reduceIte, reduceCtorEq, Srv.pv, Srv.cells, freshS, List.map_nil, wrongA])
    (refine callD_pure (p1) (by simp only [go_sem, zA, zB, zC, zD, zE, zF, zG, zH, zI, zJ, zK, zL, zM, zN, zO, zP, ↓reduceIte, reduceCtorEq] <;> first | rfl | decide) ?_; simp only [go_sem, zA, zB, zC, zD, zE, zF, zG, zH, zI, zJ, zK, zL, zM, zN, zO, zP, ↓reduceIte, reduceCtorEq])
    (refine callD_pure (sm) (by simp only [go_sem, zA, zB, zC, zD, zE, zF, zG, zH, zI, zJ, zK, zL, zM, zN, zO, zP, ↓reduceIte, reduceCtorEq, beq_self_eq_true] <;> first | rfl | decide) ?_; simp only [go_sem, zA, zB, zC, zD, zE, zF, zG, zH, zI, zJ, zK, zL, zM, zN, zO, zP, ↓reduceIte, reduceCtorEq, beq_self_eq_true])
    (refine callD_pure (p2) (by simp only [go_sem, zA, zB, zC, zD, zE, zF, zG, zH, zI, zJ, zK, zL, zM, zN, zO, zP, ↓reduceIte, reduceCtorEq, beq_self_eq_true] <;> first | rfl | decide) ?_; simp only [go_sem, zA, zB, zC, zD, zE, zF, zG, zH, zI, zJ, zK, zL, zM, zN, zO, zP, ↓reduceIte, reduceCtorEq, beq_self_eq_true])
    (refine callD_pure (sm) (by simp only [go_sem, zA, zB, zC, zD, zE, zF, zG, zH, zI, zJ, zK, zL, zM, zN, zO, zP, ↓reduceIte, reduceCtorEq, beq_self_eq_true] <;> first | rfl | decide) ?_; simp only [go_sem, zA, zB, zC, zD, zE, zF, zG, zH, zI, zJ, zK, zL, zM, zN, zO, zP, ↓reduceIte, reduceCtorEq, beq_self_eq_true])
    refine endD_intro (by decide +kernel) ?_
    simp only [go_sem, zA, zB, zC, zD, zE, zF, zG, zH, zI, zJ, zK, zL, zM, zN, zO, zP, ↓reduceIte, reduceCtorEq, Try.ntmps15, Try.results15]
end Go.Proofs.Ytcdmhigmgpflbaa.Pe

