import Derived.Test.YtcdmhigmgpflbaaTS8
namespace Go.Proofs.Ytcdmhigmgpflbaa.Pe
open Go.Pe Go.RowKit
open Nat renaming reduceAdd → zA, reduceSub → zB, reduceMul → zC, reduceLT → zD, reduceLeDiff → zE, reduceEqDiff → zF, reduceBEq → zG
open Int renaming reduceToNat → zH, reduceLT → zI, reduceLE → zJ, reduceEq → zK, reduceNe → zL, reduceAdd → zM, reduceSub → zN, reduceMul → zO, reduceNeg → zP
set_option maxRecDepth 20000
set_option maxHeartbeats 4000000
set_option linter.unusedSimpArgs false
set_option linter.unusedVariables false
theorem testerWhole_calls (s : Srv) (q : List UInt8) (f g : List Int) : PureCalls Try.prog 13 [s.pv, bytesPV q, intsPV f, intsPV g] (PB true) := by
  refine PureCalls.of tabOK mixed Try.func13 rfl rfl (by decide +kernel) (by simp [Try.ntmps13]) ?_
  have cg := great_calls s q f g
  simp only [go_sem, zA, zB, zC, zD, zE, zF, zG, zH, zI, zJ, zK, zL, zM, zN, zO, zP, ↓reduceIte, reduceCtorEq, Try.ntmps13, Try.results13, Srv.pv, Srv.cells]
  (refine CallA.pure (h23_calls) (by simp only [go_sem, zA, zB, zC, zD, zE, zF, zG, zH, zI, zJ, zK, zL, zM, zN, zO, zP, ↓reduceIte, reduceCtorEq, Srv.pv, Srv.cells] <;> first | rfl | decide) ?_; simp only [go_sem, zA, zB, zC, zD, zE, zF, zG, zH, zI, zJ, zK, zL, zM, zN, zO, zP, ↓reduceIte, reduceCtorEq, Srv.pv, Srv.cells])
  cases hg : greatV s q f g with
  | true =>
    rw [hg] at cg
    (refine CallA.pure (cg) (by simp only [go_sem, zA, zB, zC, zD, zE, zF, zG, zH, zI, zJ, zK, zL, zM, zN, zO, zP, ↓reduceIte, reduceCtorEq, Srv.pv, Srv.cells, List.map_nil, Try.ntmps13, Try.results13] <;> first | rfl | decide) ?_; simp only [go_sem, zA, zB, zC, zD, zE, zF, zG, zH, zI, zJ, zK, zL, zM, zN, zO, zP, ↓reduceIte, reduceCtorEq, Srv.pv, Srv.cells, List.map_nil, Try.ntmps13, Try.results13])
  | false =>
  rw [hg] at cg
  obtain ⟨hr, hl⟩ := great_right hg
  have ct := talk_calls s q f g hr.fits
  cases q with
  | nil =>
    have z0 : decide ((0 : Int) = 0) = true := rfl
    (refine CallA.pure (cg) (by simp only [go_sem, zA, zB, zC, zD, zE, zF, zG, zH, zI, zJ, zK, zL, zM, zN, zO, zP, ↓reduceIte, reduceCtorEq, Srv.pv, Srv.cells, rowsB_nil, List.length_nil, z0, Try.ntmps13, Try.results13] <;> first | rfl | decide) ?_; simp only [go_sem, zA, zB, zC, zD, zE, zF, zG, zH, zI, zJ, zK, zL, zM, zN, zO, zP, ↓reduceIte, reduceCtorEq, Srv.pv, Srv.cells, rowsB_nil, List.length_nil, z0, Try.ntmps13, Try.results13])
  | cons c r =>
    have lc0 : decide (((r.length + 1 : Nat) : Int) = 0) = false := decide_eq_false (by omega)
    have z0 : decide ((0 : Int) = 0) = true := rfl
    have ca := ask_calls s (c :: r) hr.fits
    have hx := ask_right hr (c :: r)
    have hany := talk_any s (c :: r) f g
    generalize askV s (c :: r) = x at ca hx hany
    obtain ⟨t, a, on⟩ := x
    have cs := same_self hx
    have c0 := same_self hr
    have cts := same22_calls t s hx.fits.items hx.fits.dtc
    have cb := same23_calls a a
    (refine CallA.pure (cg) (by simp only [go_sem, zA, zB, zC, zD, zE, zF, zG, zH, zI, zJ, zK, zL, zM, zN, zO, zP, ↓reduceIte, reduceCtorEq, Srv.pv, Srv.cells, rowsB_length, List.length_cons, lc0] <;> first | rfl | decide) ?_; simp only [go_sem, zA, zB, zC, zD, zE, zF, zG, zH, zI, zJ, zK, zL, zM, zN, zO, zP, ↓reduceIte, reduceCtorEq, Srv.pv, Srv.cells, rowsB_length, List.length_cons, lc0])
    rcases hany with e | e | e
    · rw [e] at ct
      (refine CallA.pure (ct) (by simp only [go_sem, zA, zB, zC, zD, zE, zF, zG, zH, zI, zJ, zK, zL, zM, zN, zO, zP, ↓reduceIte, reduceCtorEq, Srv.pv, Srv.cells] <;> first | rfl | decide) ?_; simp only [go_sem, zA, zB, zC, zD, zE, zF, zG, zH, zI, zJ, zK, zL, zM, zN, zO, zP, ↓reduceIte, reduceCtorEq, Srv.pv, Srv.cells])
      (refine CallA.pure (ca) (by simp only [go_sem, zA, zB, zC, zD, zE, zF, zG, zH, zI, zJ, zK, zL, zM, zN, zO, zP, ↓reduceIte, reduceCtorEq, Srv.pv, Srv.cells, beq_self_eq_true] <;> first | rfl | decide) ?_; simp only [go_sem, zA, zB, zC, zD, zE, zF, zG, zH, zI, zJ, zK, zL, zM, zN, zO, zP, ↓reduceIte, reduceCtorEq, Srv.pv, Srv.cells, beq_self_eq_true])
      (refine CallA.pure (c0) (by simp only [go_sem, zA, zB, zC, zD, zE, zF, zG, zH, zI, zJ, zK, zL, zM, zN, zO, zP, ↓reduceIte, reduceCtorEq, Srv.pv, Srv.cells, rowsB_nil, List.length_nil, z0, Try.ntmps13, Try.results13] <;> first | rfl | decide) ?_; simp only [go_sem, zA, zB, zC, zD, zE, zF, zG, zH, zI, zJ, zK, zL, zM, zN, zO, zP, ↓reduceIte, reduceCtorEq, Srv.pv, Srv.cells, rowsB_nil, List.length_nil, z0, Try.ntmps13, Try.results13])
    · rw [e] at ct
      (refine CallA.pure (ct) (by simp only [go_sem, zA, zB, zC, zD, zE, zF, zG, zH, zI, zJ, zK, zL, zM, zN, zO, zP, ↓reduceIte, reduceCtorEq, Srv.pv, Srv.cells] <;> first | rfl | decide) ?_; simp only [go_sem, zA, zB, zC, zD, zE, zF, zG, zH, zI, zJ, zK, zL, zM, zN, zO, zP, ↓reduceIte, reduceCtorEq, Srv.pv, Srv.cells])
      (refine CallA.pure (ca) (by simp only [go_sem, zA, zB, zC, zD, zE, zF, zG, zH, zI, zJ, zK, zL, zM, zN, zO, zP, ↓reduceIte, reduceCtorEq, Srv.pv, Srv.cells, beq_self_eq_true] <;> first | rfl | decide) ?_; simp only [go_sem, zA, zB, zC, zD, zE, zF, zG, zH, zI, zJ, zK, zL, zM, zN, zO, zP, ↓reduceIte, reduceCtorEq, Srv.pv, Srv.cells, beq_self_eq_true])
      (refine CallA.pure (cts) (by simp only [go_sem, zA, zB, zC, zD, zE, zF, zG, zH, zI, zJ, zK, zL, zM, zN, zO, zP, ↓reduceIte, reduceCtorEq, Srv.pv, Srv.cells] <;> first | rfl | decide) ?_; simp only [go_sem, zA, zB, zC, zD, zE, zF, zG, zH, zI, zJ, zK, zL, zM, zN, zO, zP, ↓reduceIte, reduceCtorEq, Srv.pv, Srv.cells])
      cases hts : decide (t = s) with
      | true =>
        simp only [go_sem, zA, zB, zC, zD, zE, zF, zG, zH, zI, zJ, zK, zL, zM, zN, zO, zP, ↓reduceIte, reduceCtorEq]
        (refine CallA.pure (cs) (by simp only [go_sem, zA, zB, zC, zD, zE, zF, zG, zH, zI, zJ, zK, zL, zM, zN, zO, zP, ↓reduceIte, reduceCtorEq, Srv.pv, Srv.cells] <;> first | rfl | decide) ?_; simp only [go_sem, zA, zB, zC, zD, zE, zF, zG, zH, zI, zJ, zK, zL, zM, zN, zO, zP, ↓reduceIte, reduceCtorEq, Srv.pv, Srv.cells])
        (refine CallA.pure (cb) (by simp only [go_sem, zA, zB, zC, zD, zE, zF, zG, zH, zI, zJ, zK, zL, zM, zN, zO, zP, ↓reduceIte, reduceCtorEq, Srv.pv, Srv.cells, decide_true, beq_self_eq_true, Try.ntmps13, Try.results13] <;> first | rfl | decide) ?_; simp only [go_sem, zA, zB, zC, zD, zE, zF, zG, zH, zI, zJ, zK, zL, zM, zN, zO, zP, ↓reduceIte, reduceCtorEq, Srv.pv, Srv.cells, decide_true, beq_self_eq_true, Try.ntmps13, Try.results13])
      | false =>
        simp only [go_sem, zA, zB, zC, zD, zE, zF, zG, zH, zI, zJ, zK, zL, zM, zN, zO, zP, ↓reduceIte, reduceCtorEq]
        (refine CallA.pure (cs) (by simp only [go_sem, zA, zB, zC, zD, zE, zF, zG, zH, zI, zJ, zK, zL, zM, zN, zO, zP, ↓reduceIte, reduceCtorEq, Srv.pv, Srv.cells] <;> first | rfl | decide) ?_; simp only [go_sem, zA, zB, zC, zD, zE, zF, zG, zH, zI, zJ, zK, zL, zM, zN, zO, zP, ↓reduceIte, reduceCtorEq, Srv.pv, Srv.cells])
        (refine CallA.pure (cs) (by simp only [go_sem, zA, zB, zC, zD, zE, zF, zG, zH, zI, zJ, zK, zL, zM, zN, zO, zP, ↓reduceIte, reduceCtorEq, Srv.pv, Srv.cells] <;> first | rfl | decide) ?_; simp only [go_sem, zA, zB, zC, zD, zE, zF, zG, zH, zI, zJ, zK, zL, zM, zN, zO, zP, ↓reduceIte, reduceCtorEq, Srv.pv, Srv.cells])
        (refine CallA.pure (cb) (by simp only [go_sem, zA, zB, zC, zD, zE, zF, zG, zH, zI, zJ, zK, zL, zM, zN, zO, zP, ↓reduceIte, reduceCtorEq, Srv.pv, Srv.cells, decide_true, beq_self_eq_true, Try.ntmps13, Try.results13] <;> first | rfl | decide) ?_; simp only [go_sem, zA, zB, zC, zD, zE, zF, zG, zH, zI, zJ, zK, zL, zM, zN, zO, zP, ↓reduceIte, reduceCtorEq, Srv.pv, Srv.cells, decide_true, beq_self_eq_true, Try.ntmps13, Try.results13])
    · rw [e] at ct
      (refine CallA.pure (ct) (by simp only [go_sem, zA, zB, zC, zD, zE, zF, zG, zH, zI, zJ, zK, zL, zM, zN, zO, zP, ↓reduceIte, reduceCtorEq, Srv.pv, Srv.cells] <;> first | rfl | decide) ?_; simp only [go_sem, zA, zB, zC, zD, zE, zF, zG, zH, zI, zJ, zK, zL, zM, zN, zO, zP, ↓reduceIte, reduceCtorEq, Srv.pv, Srv.cells])
      (refine CallA.pure (ca) (by simp only [go_sem, zA, zB, zC, zD, zE, zF, zG, zH, zI, zJ, zK, zL, zM, zN, zO, zP, ↓reduceIte, reduceCtorEq, Srv.pv, Srv.cells, beq_self_eq_true] <;> first | rfl | decide) ?_; simp only [go_sem, zA, zB, zC, zD, zE, zF, zG, zH, zI, zJ, zK, zL, zM, zN, zO, zP, ↓reduceIte, reduceCtorEq, Srv.pv, Srv.cells, beq_self_eq_true])
      (refine CallA.pure (cts) (by simp only [go_sem, zA, zB, zC, zD, zE, zF, zG, zH, zI, zJ, zK, zL, zM, zN, zO, zP, ↓reduceIte, reduceCtorEq, Srv.pv, Srv.cells] <;> first | rfl | decide) ?_; simp only [go_sem, zA, zB, zC, zD, zE, zF, zG, zH, zI, zJ, zK, zL, zM, zN, zO, zP, ↓reduceIte, reduceCtorEq, Srv.pv, Srv.cells])
      cases hts : decide (t = s) with
      | true => simp only [go_sem, zA, zB, zC, zD, zE, zF, zG, zH, zI, zJ, zK, zL, zM, zN, zO, zP, ↓reduceIte, reduceCtorEq, rowsB_nil, List.length_nil, z0, Try.ntmps13, Try.results13]
      | false =>
        simp only [go_sem, zA, zB, zC, zD, zE, zF, zG, zH, zI, zJ, zK, zL, zM, zN, zO, zP, ↓reduceIte, reduceCtorEq]
        (refine CallA.pure (cs) (by simp only [go_sem, zA, zB, zC, zD, zE, zF, zG, zH, zI, zJ, zK, zL, zM, zN, zO, zP, ↓reduceIte, reduceCtorEq, Srv.pv, Srv.cells, rowsB_nil, List.length_nil, z0, Try.ntmps13, Try.results13] <;> first | rfl | decide) ?_; simp only [go_sem, zA, zB, zC, zD, zE, zF, zG, zH, zI, zJ, zK, zL, zM, zN, zO, zP, ↓reduceIte, reduceCtorEq, Srv.pv, Srv.cells, rowsB_nil, List.length_nil, z0, Try.ntmps13, Try.results13])
end Go.Proofs.Ytcdmhigmgpflbaa.Pe

