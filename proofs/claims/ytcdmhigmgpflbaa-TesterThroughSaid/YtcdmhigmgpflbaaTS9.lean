import Derived.Test.YtcdmhigmgpflbaaTS8
namespace Go.Proofs.Ytcdmhigmgpflbaa.Pe
open Go.Pe Go.RowKit
open Nat renaming reduceAdd → zA, reduceSub → zB, reduceMul → zC, reduceLT → zD, reduceLeDiff → zE, reduceEqDiff → zF, reduceBEq → zG
open Int renaming reduceToNat → zH, reduceLT → zI, reduceLE → zJ, reduceEq → zK, reduceNe → zL, reduceAdd → zM, reduceSub → zN, reduceMul → zO, reduceNeg → zP
set_option maxRecDepth 20000
set_option maxHeartbeats 4000000
set_option linter.unusedSimpArgs false
set_option linter.unusedVariables false
theorem testerThrough_calls (s : Srv) (q : List UInt8) : PureCalls Try.prog 12 [s.pv, bytesPV q] (PB true) := by
  refine PureCalls.of tabOK mixed Try.func12 rfl rfl (by decide +kernel) (by simp [Try.ntmps12]) ?_
  have cg := great_calls s q [] []
  simp only [go_sem, zA, zB, zC, zD, zE, zF, zG, zH, zI, zJ, zK, zL, zM, zN, zO, zP, ↓reduceIte, reduceCtorEq, Try.ntmps12, Try.results12, Srv.pv, Srv.cells]
  (refine CallA.pure (h23_calls) (by simp only [go_sem, zA, zB, zC, zD, zE, zF, zG, zH, zI, zJ, zK, zL, zM, zN, zO, zP, ↓reduceIte, reduceCtorEq, Srv.pv, Srv.cells] <;> first | rfl | decide) ?_; simp only [go_sem, zA, zB, zC, zD, zE, zF, zG, zH, zI, zJ, zK, zL, zM, zN, zO, zP, ↓reduceIte, reduceCtorEq, Srv.pv, Srv.cells])
  cases hg : greatV s q [] [] with
  | true =>
    rw [hg] at cg
    (refine CallA.pure (cg) (by simp only [go_sem, zA, zB, zC, zD, zE, zF, zG, zH, zI, zJ, zK, zL, zM, zN, zO, zP, ↓reduceIte, reduceCtorEq, Srv.pv, Srv.cells, List.map_nil, Try.ntmps12, Try.results12] <;> first | rfl | decide) ?_; simp only [go_sem, zA, zB, zC, zD, zE, zF, zG, zH, zI, zJ, zK, zL, zM, zN, zO, zP, ↓reduceIte, reduceCtorEq, Srv.pv, Srv.cells, List.map_nil, Try.ntmps12, Try.results12])
  | false =>
  rw [hg] at cg
  obtain ⟨hr, hl⟩ := great_right hg
  have ct := talk_calls s q [] [] hr.fits
  (refine CallA.pure (cg) (by simp only [go_sem, zA, zB, zC, zD, zE, zF, zG, zH, zI, zJ, zK, zL, zM, zN, zO, zP, ↓reduceIte, reduceCtorEq, Srv.pv, Srv.cells, List.map_nil] <;> first | rfl | decide) ?_; simp only [go_sem, zA, zB, zC, zD, zE, zF, zG, zH, zI, zJ, zK, zL, zM, zN, zO, zP, ↓reduceIte, reduceCtorEq, Srv.pv, Srv.cells, List.map_nil])
  cases q with
  | nil =>
    have e : talkV s [] [] [] = (s, [], false, false) := by unfold talkV; rw [cam_none rfl, if_neg (by decide)]
    rw [e] at ct
    have cs := same_self hr
    have z0 : decide ((0 : Int) = 0) = true := rfl
    (refine CallA.pure (ct) (by simp only [go_sem, zA, zB, zC, zD, zE, zF, zG, zH, zI, zJ, zK, zL, zM, zN, zO, zP, ↓reduceIte, reduceCtorEq, Srv.pv, Srv.cells, List.map_nil, rowsB_nil, List.length_nil, z0] <;> first | rfl | decide) ?_; simp only [go_sem, zA, zB, zC, zD, zE, zF, zG, zH, zI, zJ, zK, zL, zM, zN, zO, zP, ↓reduceIte, reduceCtorEq, Srv.pv, Srv.cells, List.map_nil, rowsB_nil, List.length_nil, z0])
    (refine CallA.pure (cs) (by simp only [go_sem, zA, zB, zC, zD, zE, zF, zG, zH, zI, zJ, zK, zL, zM, zN, zO, zP, ↓reduceIte, reduceCtorEq, Srv.pv, Srv.cells, List.length_nil, z0, Try.ntmps12, Try.results12] <;> first | rfl | decide) ?_; simp only [go_sem, zA, zB, zC, zD, zE, zF, zG, zH, zI, zJ, zK, zL, zM, zN, zO, zP, ↓reduceIte, reduceCtorEq, Srv.pv, Srv.cells, List.length_nil, z0, Try.ntmps12, Try.results12])
  | cons c r =>
    rw [talk_thru hr (by simp) (by omega)] at ct
    have ca := ask_calls s (c :: r) hr.fits
    have hx := ask_right hr (c :: r)
    generalize askV s (c :: r) = x at ca ct hx
    obtain ⟨t, a, on⟩ := x
    have cs := same_self hx
    have cb := same23_calls a a
    have lc0 : decide (((r.length + 1 : Nat) : Int) = 0) = false := decide_eq_false (by omega)
    (refine CallA.pure (ct) (by simp only [go_sem, zA, zB, zC, zD, zE, zF, zG, zH, zI, zJ, zK, zL, zM, zN, zO, zP, ↓reduceIte, reduceCtorEq, Srv.pv, Srv.cells, List.map_nil, rowsB_length, List.length_cons, lc0] <;> first | rfl | decide) ?_; simp only [go_sem, zA, zB, zC, zD, zE, zF, zG, zH, zI, zJ, zK, zL, zM, zN, zO, zP, ↓reduceIte, reduceCtorEq, Srv.pv, Srv.cells, List.map_nil, rowsB_length, List.length_cons, lc0])
    (refine CallA.pure (ca) (by simp only [go_sem, zA, zB, zC, zD, zE, zF, zG, zH, zI, zJ, zK, zL, zM, zN, zO, zP, ↓reduceIte, reduceCtorEq, Srv.pv, Srv.cells, beq_self_eq_true] <;> first | rfl | decide) ?_; simp only [go_sem, zA, zB, zC, zD, zE, zF, zG, zH, zI, zJ, zK, zL, zM, zN, zO, zP, ↓reduceIte, reduceCtorEq, Srv.pv, Srv.cells, beq_self_eq_true])
    (refine CallA.pure (cs) (by simp only [go_sem, zA, zB, zC, zD, zE, zF, zG, zH, zI, zJ, zK, zL, zM, zN, zO, zP, ↓reduceIte, reduceCtorEq, Srv.pv, Srv.cells] <;> first | rfl | decide) ?_; simp only [go_sem, zA, zB, zC, zD, zE, zF, zG, zH, zI, zJ, zK, zL, zM, zN, zO, zP, ↓reduceIte, reduceCtorEq, Srv.pv, Srv.cells])
    (refine CallA.pure (cb) (by simp only [go_sem, zA, zB, zC, zD, zE, zF, zG, zH, zI, zJ, zK, zL, zM, zN, zO, zP, ↓reduceIte, reduceCtorEq, Srv.pv, Srv.cells, decide_true, Try.ntmps12, Try.results12] <;> first | rfl | decide) ?_; simp only [go_sem, zA, zB, zC, zD, zE, zF, zG, zH, zI, zJ, zK, zL, zM, zN, zO, zP, ↓reduceIte, reduceCtorEq, Srv.pv, Srv.cells, decide_true, Try.ntmps12, Try.results12])
    done
end Go.Proofs.Ytcdmhigmgpflbaa.Pe

