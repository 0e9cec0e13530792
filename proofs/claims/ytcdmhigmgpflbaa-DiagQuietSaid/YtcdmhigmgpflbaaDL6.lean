import Derived.Test.YtcdmhigmgpflbaaDL5
namespace Go.Proofs.Ytcdmhigmgpflbaa.Pe
open Go.Pe Go.RowKit
set_option maxRecDepth 20000
set_option maxHeartbeats 4000000
set_option linter.unusedSimpArgs false
set_option linter.unusedVariables false
theorem tick_to {s r : Srv} {n : Int} (h : RightS s) (e : tickDV n s = r) : PureCalls Try.prog 38 [s.pv, PI n] r.pv := e ▸ tickD_calls s n h.tk
theorem same_self {s : Srv} (h : RightS s) : PureCalls Try.prog 34 [s.pv, s.pv] (PB true) := same_at (by simp) h.fits.items h.fits.dtc
theorem diagQuiet_calls (s : Srv) (x0 x1 : UInt8) (q : List UInt8) : PureCalls Try.prog 7 [s.pv, .agg [.lit (.int .u8 x0.toNat), .lit (.int .u8 x1.toNat)], bytesPV q] (PB true) := by
  refine PureCalls.of tabOK mixed Try.func7 rfl rfl (by decide +kernel) (by simp [Try.ntmps7]) ?_
  have cm := made_calls s
  have hr := made_right s
  generalize madeV s = m at cm hr
  have lq := rowsB_length q
  have hmin : (if (80 : Int) < (q.length : Int) then 80 else (q.length : Int)) = ((min q.length 80 : Nat) : Int) := by split <;> omega
  have hmin0 : (0 : Int) ≤ ((min q.length 80 : Nat) : Int) := by omega
  have hmin1 : ((min q.length 80 : Nat) : Int) ≤ (q.length : Int) := by omega
  have lt80 : (q.take (min q.length 80)).length ≤ 80 := by simp; omega
  have lp := rowsB_length (q.take (min q.length 80))
  obtain ⟨a, ha⟩ : ∃ a : Int, a = (x0.toNat : Int) := ⟨_, rfl⟩
  obtain ⟨b, hb⟩ : ∃ b : Int, b = (x1.toNat : Int) := ⟨_, rfl⟩
  have a0 : 0 ≤ a ∧ a ≤ 255 := by have := x0.toNat_lt; omega
  have b0 : 0 ≤ b ∧ b ≤ 255 := by have := x1.toNat_lt; omega
  have wa : IntKind.wrap .i64 a = a := by rw [wrapI64_eq]; omega
  have wb : IntKind.wrap .i64 b = b := by rw [wrapI64_eq]; omega
  have wab : IntKind.wrap .i64 (a + b) = a + b := by rw [wrapI64_eq]; omega
  have wna : IntKind.wrap .i64 (-1 - a) = -1 - a := by rw [wrapI64_eq]; omega
  have wq : IntKind.wrap .i64 (m.quiet + a) = m.quiet + a := by have := hr.quiet; rw [wrapI64_eq]; omega
  have wqb : IntKind.wrap .i64 (m.quiet + a + b) = m.quiet + a + b := by have := hr.quiet; rw [wrapI64_eq]; omega
  obtain ⟨t, et⟩ : ∃ t, tickDV (a + b) m = t := ⟨_, rfl⟩
  obtain ⟨u, eu⟩ : ∃ u, tickDV a m = u := ⟨_, rfl⟩
  have ht : RightS t := et ▸ tickDV_right hr _
  have hu : RightS u := eu ▸ tickDV_right hr _
  have c1 := tick_to hr et
  have c2 := tick_to hr eu
  have c3 := tick_to hu (show tickDV b u = t by rw [← eu, tick_add hr.tk a0.1 b0.1, et])
  have c4 := same_self ht
  have c5 := tick_to hr (tick_none hr.tk (n := 0) (by decide))
  have c6 := same_self hr
  have c7 := tick_to hr (tick_none hr.tk (n := -1 - a) (by omega))
  simp only [go_sem, Nat.reduceAdd, Nat.reduceSub, Nat.reduceMul, Nat.reduceLT, Nat.reduceLeDiff, Nat.reduceEqDiff, Nat.reduceBEq, Int.reduceToNat, Int.reduceLT, Int.reduceLE, Int.reduceEq, Int.reduceNe, Int.reduceAdd, Int.reduceSub, Int.reduceMul, Int.reduceNeg, ↓reduceIte, reduceCtorEq, Try.ntmps7, Try.results7, Srv.pv, Srv.cells]
  (refine CallA.pure (h22_calls) (by simp only [go_sem, Nat.reduceAdd, Nat.reduceSub, Nat.reduceMul, Nat.reduceLT, Nat.reduceLeDiff, Nat.reduceEqDiff, Nat.reduceBEq, Int.reduceToNat, Int.reduceLT, Int.reduceLE, Int.reduceEq, Int.reduceNe, Int.reduceAdd, Int.reduceSub, Int.reduceMul, Int.reduceNeg, ↓reduceIte, reduceCtorEq, Srv.pv, Srv.cells] <;> first | rfl | decide) ?_; simp only [go_sem, Nat.reduceAdd, Nat.reduceSub, Nat.reduceMul, Nat.reduceLT, Nat.reduceLeDiff, Nat.reduceEqDiff, Nat.reduceBEq, Int.reduceToNat, Int.reduceLT, Int.reduceLE, Int.reduceEq, Int.reduceNe, Int.reduceAdd, Int.reduceSub, Int.reduceMul, Int.reduceNeg, ↓reduceIte, reduceCtorEq, Srv.pv, Srv.cells])
  (refine CallA.pure (cm) (by simp only [go_sem, Nat.reduceAdd, Nat.reduceSub, Nat.reduceMul, Nat.reduceLT, Nat.reduceLeDiff, Nat.reduceEqDiff, Nat.reduceBEq, Int.reduceToNat, Int.reduceLT, Int.reduceLE, Int.reduceEq, Int.reduceNe, Int.reduceAdd, Int.reduceSub, Int.reduceMul, Int.reduceNeg, ↓reduceIte, reduceCtorEq, Srv.pv, Srv.cells, lq, hmin, hmin0, hmin1, Int.toNat_natCast] <;> first | rfl | decide) ?_; simp only [go_sem, Nat.reduceAdd, Nat.reduceSub, Nat.reduceMul, Nat.reduceLT, Nat.reduceLeDiff, Nat.reduceEqDiff, Nat.reduceBEq, Int.reduceToNat, Int.reduceLT, Int.reduceLE, Int.reduceEq, Int.reduceNe, Int.reduceAdd, Int.reduceSub, Int.reduceMul, Int.reduceNeg, ↓reduceIte, reduceCtorEq, Srv.pv, Srv.cells, lq, hmin, hmin0, hmin1, Int.toNat_natCast])
  refine ⟨⟨by omega, by omega⟩, ?_⟩
  refine endD_intro (by decide +kernel) ?_
  simp only [go_sem, Nat.reduceAdd, Nat.reduceSub, Nat.reduceMul, Nat.reduceLT, Nat.reduceLeDiff, Nat.reduceEqDiff, Nat.reduceBEq, Int.reduceToNat, Int.reduceLT, Int.reduceLE, Int.reduceEq, Int.reduceNe, Int.reduceAdd, Int.reduceSub, Int.reduceMul, Int.reduceNeg, ↓reduceIte, reduceCtorEq, Try.ntmps7, Try.results7, Srv.pv, Srv.cells, ← ha, ← hb, wa, wb, wab]
  (refine CallA.pure (c1) (by simp only [go_sem, Nat.reduceAdd, Nat.reduceSub, Nat.reduceMul, Nat.reduceLT, Nat.reduceLeDiff, Nat.reduceEqDiff, Nat.reduceBEq, Int.reduceToNat, Int.reduceLT, Int.reduceLE, Int.reduceEq, Int.reduceNe, Int.reduceAdd, Int.reduceSub, Int.reduceMul, Int.reduceNeg, ↓reduceIte, reduceCtorEq, Srv.pv, Srv.cells, wa, wb, wab, wna] <;> first | rfl | decide) ?_; simp only [go_sem, Nat.reduceAdd, Nat.reduceSub, Nat.reduceMul, Nat.reduceLT, Nat.reduceLeDiff, Nat.reduceEqDiff, Nat.reduceBEq, Int.reduceToNat, Int.reduceLT, Int.reduceLE, Int.reduceEq, Int.reduceNe, Int.reduceAdd, Int.reduceSub, Int.reduceMul, Int.reduceNeg, ↓reduceIte, reduceCtorEq, Srv.pv, Srv.cells, wa, wb, wab, wna])
  (refine callD_pure (c2) (by simp only [go_sem, Nat.reduceAdd, Nat.reduceSub, Nat.reduceMul, Nat.reduceLT, Nat.reduceLeDiff, Nat.reduceEqDiff, Nat.reduceBEq, Int.reduceToNat, Int.reduceLT, Int.reduceLE, Int.reduceEq, Int.reduceNe, Int.reduceAdd, Int.reduceSub, Int.reduceMul, Int.reduceNeg, ↓reduceIte, reduceCtorEq, Srv.pv, Srv.cells, wa, wb, wab, wna] <;> first | rfl | decide) ?_; simp only [go_sem, Nat.reduceAdd, Nat.reduceSub, Nat.reduceMul, Nat.reduceLT, Nat.reduceLeDiff, Nat.reduceEqDiff, Nat.reduceBEq, Int.reduceToNat, Int.reduceLT, Int.reduceLE, Int.reduceEq, Int.reduceNe, Int.reduceAdd, Int.reduceSub, Int.reduceMul, Int.reduceNeg, ↓reduceIte, reduceCtorEq, Srv.pv, Srv.cells, wa, wb, wab, wna])
  (refine callD_pure (c3) (by simp only [go_sem, Nat.reduceAdd, Nat.reduceSub, Nat.reduceMul, Nat.reduceLT, Nat.reduceLeDiff, Nat.reduceEqDiff, Nat.reduceBEq, Int.reduceToNat, Int.reduceLT, Int.reduceLE, Int.reduceEq, Int.reduceNe, Int.reduceAdd, Int.reduceSub, Int.reduceMul, Int.reduceNeg, ↓reduceIte, reduceCtorEq, Srv.pv, Srv.cells, wa, wb, wab, wna] <;> first | rfl | decide) ?_; simp only [go_sem, Nat.reduceAdd, Nat.reduceSub, Nat.reduceMul, Nat.reduceLT, Nat.reduceLeDiff, Nat.reduceEqDiff, Nat.reduceBEq, Int.reduceToNat, Int.reduceLT, Int.reduceLE, Int.reduceEq, Int.reduceNe, Int.reduceAdd, Int.reduceSub, Int.reduceMul, Int.reduceNeg, ↓reduceIte, reduceCtorEq, Srv.pv, Srv.cells, wa, wb, wab, wna])
  (refine callD_pure (c4) (by simp only [go_sem, Nat.reduceAdd, Nat.reduceSub, Nat.reduceMul, Nat.reduceLT, Nat.reduceLeDiff, Nat.reduceEqDiff, Nat.reduceBEq, Int.reduceToNat, Int.reduceLT, Int.reduceLE, Int.reduceEq, Int.reduceNe, Int.reduceAdd, Int.reduceSub, Int.reduceMul, Int.reduceNeg, ↓reduceIte, reduceCtorEq, Srv.pv, Srv.cells, wa, wb, wab, wna] <;> first | rfl | decide) ?_; simp only [go_sem, Nat.reduceAdd, Nat.reduceSub, Nat.reduceMul, Nat.reduceLT, Nat.reduceLeDiff, Nat.reduceEqDiff, Nat.reduceBEq, Int.reduceToNat, Int.reduceLT, Int.reduceLE, Int.reduceEq, Int.reduceNe, Int.reduceAdd, Int.reduceSub, Int.reduceMul, Int.reduceNeg, ↓reduceIte, reduceCtorEq, Srv.pv, Srv.cells, wa, wb, wab, wna])
  (refine callD_pure (c5) (by simp only [go_sem, Nat.reduceAdd, Nat.reduceSub, Nat.reduceMul, Nat.reduceLT, Nat.reduceLeDiff, Nat.reduceEqDiff, Nat.reduceBEq, Int.reduceToNat, Int.reduceLT, Int.reduceLE, Int.reduceEq, Int.reduceNe, Int.reduceAdd, Int.reduceSub, Int.reduceMul, Int.reduceNeg, ↓reduceIte, reduceCtorEq, Srv.pv, Srv.cells, wa, wb, wab, wna] <;> first | rfl | decide) ?_; simp only [go_sem, Nat.reduceAdd, Nat.reduceSub, Nat.reduceMul, Nat.reduceLT, Nat.reduceLeDiff, Nat.reduceEqDiff, Nat.reduceBEq, Int.reduceToNat, Int.reduceLT, Int.reduceLE, Int.reduceEq, Int.reduceNe, Int.reduceAdd, Int.reduceSub, Int.reduceMul, Int.reduceNeg, ↓reduceIte, reduceCtorEq, Srv.pv, Srv.cells, wa, wb, wab, wna])
  (refine callD_pure (c6) (by simp only [go_sem, Nat.reduceAdd, Nat.reduceSub, Nat.reduceMul, Nat.reduceLT, Nat.reduceLeDiff, Nat.reduceEqDiff, Nat.reduceBEq, Int.reduceToNat, Int.reduceLT, Int.reduceLE, Int.reduceEq, Int.reduceNe, Int.reduceAdd, Int.reduceSub, Int.reduceMul, Int.reduceNeg, ↓reduceIte, reduceCtorEq, Srv.pv, Srv.cells, wa, wb, wab, wna] <;> first | rfl | decide) ?_; simp only [go_sem, Nat.reduceAdd, Nat.reduceSub, Nat.reduceMul, Nat.reduceLT, Nat.reduceLeDiff, Nat.reduceEqDiff, Nat.reduceBEq, Int.reduceToNat, Int.reduceLT, Int.reduceLE, Int.reduceEq, Int.reduceNe, Int.reduceAdd, Int.reduceSub, Int.reduceMul, Int.reduceNeg, ↓reduceIte, reduceCtorEq, Srv.pv, Srv.cells, wa, wb, wab, wna])
  (refine callD_pure (c7) (by simp only [go_sem, Nat.reduceAdd, Nat.reduceSub, Nat.reduceMul, Nat.reduceLT, Nat.reduceLeDiff, Nat.reduceEqDiff, Nat.reduceBEq, Int.reduceToNat, Int.reduceLT, Int.reduceLE, Int.reduceEq, Int.reduceNe, Int.reduceAdd, Int.reduceSub, Int.reduceMul, Int.reduceNeg, ↓reduceIte, reduceCtorEq, Srv.pv, Srv.cells, wa, wb, wab, wna] <;> first | rfl | decide) ?_; simp only [go_sem, Nat.reduceAdd, Nat.reduceSub, Nat.reduceMul, Nat.reduceLT, Nat.reduceLeDiff, Nat.reduceEqDiff, Nat.reduceBEq, Int.reduceToNat, Int.reduceLT, Int.reduceLE, Int.reduceEq, Int.reduceNe, Int.reduceAdd, Int.reduceSub, Int.reduceMul, Int.reduceNeg, ↓reduceIte, reduceCtorEq, Srv.pv, Srv.cells, wa, wb, wab, wna])
  (refine callD_pure (c6) (by simp only [go_sem, Nat.reduceAdd, Nat.reduceSub, Nat.reduceMul, Nat.reduceLT, Nat.reduceLeDiff, Nat.reduceEqDiff, Nat.reduceBEq, Int.reduceToNat, Int.reduceLT, Int.reduceLE, Int.reduceEq, Int.reduceNe, Int.reduceAdd, Int.reduceSub, Int.reduceMul, Int.reduceNeg, ↓reduceIte, reduceCtorEq, Srv.pv, Srv.cells, wa, wb, wab, wna] <;> first | rfl | decide) ?_; simp only [go_sem, Nat.reduceAdd, Nat.reduceSub, Nat.reduceMul, Nat.reduceLT, Nat.reduceLeDiff, Nat.reduceEqDiff, Nat.reduceBEq, Int.reduceToNat, Int.reduceLT, Int.reduceLE, Int.reduceEq, Int.reduceNe, Int.reduceAdd, Int.reduceSub, Int.reduceMul, Int.reduceNeg, ↓reduceIte, reduceCtorEq, Srv.pv, Srv.cells, wa, wb, wab, wna])
  refine endD_intro (by decide +kernel) ?_
  cases hL : decide (a + b > 50) with
  | true =>
    obtain ⟨t1, t2, t3⟩ := tick_long hr.tk (of_decide_eq_true hL)
    rw [et] at t1 t2 t3
    cases hS : decide (m.quiet + a + b ≤ 50) with
    | true => exfalso; have := of_decide_eq_true hL; have := of_decide_eq_true hS; have := hr.quiet; omega
    | false =>
      simp only [go_sem, Nat.reduceAdd, Nat.reduceSub, Nat.reduceMul, Nat.reduceLT, Nat.reduceLeDiff, Nat.reduceEqDiff, Nat.reduceBEq, Int.reduceToNat, Int.reduceLT, Int.reduceLE, Int.reduceEq, Int.reduceNe, Int.reduceAdd, Int.reduceSub, Int.reduceMul, Int.reduceNeg, ↓reduceIte, reduceCtorEq, Try.ntmps7, Try.results7, Srv.pv, Srv.cells, wa, wb, wab, wq, wqb, hL, hS, t1, t2, t3]
      cases hp : q.take (min q.length 80) with
      | nil =>
        rw [hp] at lp
        have ca : PureCalls Try.prog 41 [t.pv, bytesPV []] (AskR.pv (t, [], false)) := ask_calls t [] ht.fits
        (refine CallA.pure (ca) (by simp only [go_sem, Nat.reduceAdd, Nat.reduceSub, Nat.reduceMul, Nat.reduceLT, Nat.reduceLeDiff, Nat.reduceEqDiff, Nat.reduceBEq, Int.reduceToNat, Int.reduceLT, Int.reduceLE, Int.reduceEq, Int.reduceNe, Int.reduceAdd, Int.reduceSub, Int.reduceMul, Int.reduceNeg, ↓reduceIte, reduceCtorEq, Srv.pv, Srv.cells, askV, rowsB, List.map_nil, List.length_nil, Int.natCast_zero, t1, t2, t3] <;> first | rfl | decide) ?_; simp only [go_sem, Nat.reduceAdd, Nat.reduceSub, Nat.reduceMul, Nat.reduceLT, Nat.reduceLeDiff, Nat.reduceEqDiff, Nat.reduceBEq, Int.reduceToNat, Int.reduceLT, Int.reduceLE, Int.reduceEq, Int.reduceNe, Int.reduceAdd, Int.reduceSub, Int.reduceMul, Int.reduceNeg, ↓reduceIte, reduceCtorEq, Srv.pv, Srv.cells, askV, rowsB, List.map_nil, List.length_nil, Int.natCast_zero, t1, t2, t3])
        cases hq0 : decide (t.quiet = 0) with
        | true => simp only [go_sem, Nat.reduceAdd, Nat.reduceSub, Nat.reduceMul, Nat.reduceLT, Nat.reduceLeDiff, Nat.reduceEqDiff, Nat.reduceBEq, Int.reduceToNat, Int.reduceLT, Int.reduceLE, Int.reduceEq, Int.reduceNe, Int.reduceAdd, Int.reduceSub, Int.reduceMul, Int.reduceNeg, ↓reduceIte, reduceCtorEq, Try.ntmps7, Try.results7, Srv.pv, Srv.cells, hq0, List.length_nil, List.map_nil, Int.natCast_zero, t1, t2, t3]
        | false =>
          simp only [go_sem, Nat.reduceAdd, Nat.reduceSub, Nat.reduceMul, Nat.reduceLT, Nat.reduceLeDiff, Nat.reduceEqDiff, Nat.reduceBEq, Int.reduceToNat, Int.reduceLT, Int.reduceLE, Int.reduceEq, Int.reduceNe, Int.reduceAdd, Int.reduceSub, Int.reduceMul, Int.reduceNeg, ↓reduceIte, reduceCtorEq, Try.ntmps7, Try.results7, Srv.pv, Srv.cells, hq0, List.length_nil, List.map_nil, Int.natCast_zero, t1, t2, t3]
          (refine CallA.pure (c4) (by simp only [go_sem, Nat.reduceAdd, Nat.reduceSub, Nat.reduceMul, Nat.reduceLT, Nat.reduceLeDiff, Nat.reduceEqDiff, Nat.reduceBEq, Int.reduceToNat, Int.reduceLT, Int.reduceLE, Int.reduceEq, Int.reduceNe, Int.reduceAdd, Int.reduceSub, Int.reduceMul, Int.reduceNeg, ↓reduceIte, reduceCtorEq, Srv.pv, Srv.cells, Try.ntmps7, Try.results7, t1, t2, t3] <;> first | rfl | decide) ?_; simp only [go_sem, Nat.reduceAdd, Nat.reduceSub, Nat.reduceMul, Nat.reduceLT, Nat.reduceLeDiff, Nat.reduceEqDiff, Nat.reduceBEq, Int.reduceToNat, Int.reduceLT, Int.reduceLE, Int.reduceEq, Int.reduceNe, Int.reduceAdd, Int.reduceSub, Int.reduceMul, Int.reduceNeg, ↓reduceIte, reduceCtorEq, Srv.pv, Srv.cells, Try.ntmps7, Try.results7, t1, t2, t3])
      | cons c r =>
        rw [hp] at lp
        have ca := ask_calls t (c :: r) ht.fits
        have hz := askV_quiet t c r
        generalize askV t (c :: r) = rr at ca hz
        obtain ⟨v, o, on⟩ := rr
        simp only at hz
        (refine CallA.pure (ca) (by simp only [go_sem, Nat.reduceAdd, Nat.reduceSub, Nat.reduceMul, Nat.reduceLT, Nat.reduceLeDiff, Nat.reduceEqDiff, Nat.reduceBEq, Int.reduceToNat, Int.reduceLT, Int.reduceLE, Int.reduceEq, Int.reduceNe, Int.reduceAdd, Int.reduceSub, Int.reduceMul, Int.reduceNeg, ↓reduceIte, reduceCtorEq, Srv.pv, Srv.cells, hz, Try.ntmps7, Try.results7, t1, t2, t3] <;> first | rfl | decide) ?_; simp only [go_sem, Nat.reduceAdd, Nat.reduceSub, Nat.reduceMul, Nat.reduceLT, Nat.reduceLeDiff, Nat.reduceEqDiff, Nat.reduceBEq, Int.reduceToNat, Int.reduceLT, Int.reduceLE, Int.reduceEq, Int.reduceNe, Int.reduceAdd, Int.reduceSub, Int.reduceMul, Int.reduceNeg, ↓reduceIte, reduceCtorEq, Srv.pv, Srv.cells, hz, Try.ntmps7, Try.results7, t1, t2, t3])
  | false =>
    cases hS : decide (m.quiet + a + b ≤ 50) with
    | true =>
      obtain ⟨t1, t2, t3⟩ := tick_short hr.tk (n := a + b) (by omega) (by have := of_decide_eq_true hS; omega)
      rw [et] at t1 t2 t3
      simp only [go_sem, Nat.reduceAdd, Nat.reduceSub, Nat.reduceMul, Nat.reduceLT, Nat.reduceLeDiff, Nat.reduceEqDiff, Nat.reduceBEq, Int.reduceToNat, Int.reduceLT, Int.reduceLE, Int.reduceEq, Int.reduceNe, Int.reduceAdd, Int.reduceSub, Int.reduceMul, Int.reduceNeg, ↓reduceIte, reduceCtorEq, Try.ntmps7, Try.results7, Srv.pv, Srv.cells, wa, wb, wab, wq, wqb, hL, hS, t1, t2, t3, bne_self_eq_false, beq_self_eq_true, Bool.not_false, Bool.not_true]
      cases hp : q.take (min q.length 80) with
      | nil =>
        rw [hp] at lp
        have ca : PureCalls Try.prog 41 [t.pv, bytesPV []] (AskR.pv (t, [], false)) := ask_calls t [] ht.fits
        (refine CallA.pure (ca) (by simp only [go_sem, Nat.reduceAdd, Nat.reduceSub, Nat.reduceMul, Nat.reduceLT, Nat.reduceLeDiff, Nat.reduceEqDiff, Nat.reduceBEq, Int.reduceToNat, Int.reduceLT, Int.reduceLE, Int.reduceEq, Int.reduceNe, Int.reduceAdd, Int.reduceSub, Int.reduceMul, Int.reduceNeg, ↓reduceIte, reduceCtorEq, Srv.pv, Srv.cells, askV, rowsB, List.map_nil, List.length_nil, Int.natCast_zero, t1, t2, t3] <;> first | rfl | decide) ?_; simp only [go_sem, Nat.reduceAdd, Nat.reduceSub, Nat.reduceMul, Nat.reduceLT, Nat.reduceLeDiff, Nat.reduceEqDiff, Nat.reduceBEq, Int.reduceToNat, Int.reduceLT, Int.reduceLE, Int.reduceEq, Int.reduceNe, Int.reduceAdd, Int.reduceSub, Int.reduceMul, Int.reduceNeg, ↓reduceIte, reduceCtorEq, Srv.pv, Srv.cells, askV, rowsB, List.map_nil, List.length_nil, Int.natCast_zero, t1, t2, t3])
        cases hq0 : decide (t.quiet = 0) with
        | true => simp only [go_sem, Nat.reduceAdd, Nat.reduceSub, Nat.reduceMul, Nat.reduceLT, Nat.reduceLeDiff, Nat.reduceEqDiff, Nat.reduceBEq, Int.reduceToNat, Int.reduceLT, Int.reduceLE, Int.reduceEq, Int.reduceNe, Int.reduceAdd, Int.reduceSub, Int.reduceMul, Int.reduceNeg, ↓reduceIte, reduceCtorEq, Try.ntmps7, Try.results7, Srv.pv, Srv.cells, hq0, List.length_nil, List.map_nil, Int.natCast_zero, t1, t2, t3]
        | false =>
          simp only [go_sem, Nat.reduceAdd, Nat.reduceSub, Nat.reduceMul, Nat.reduceLT, Nat.reduceLeDiff, Nat.reduceEqDiff, Nat.reduceBEq, Int.reduceToNat, Int.reduceLT, Int.reduceLE, Int.reduceEq, Int.reduceNe, Int.reduceAdd, Int.reduceSub, Int.reduceMul, Int.reduceNeg, ↓reduceIte, reduceCtorEq, Try.ntmps7, Try.results7, Srv.pv, Srv.cells, hq0, List.length_nil, List.map_nil, Int.natCast_zero, t1, t2, t3]
          (refine CallA.pure (c4) (by simp only [go_sem, Nat.reduceAdd, Nat.reduceSub, Nat.reduceMul, Nat.reduceLT, Nat.reduceLeDiff, Nat.reduceEqDiff, Nat.reduceBEq, Int.reduceToNat, Int.reduceLT, Int.reduceLE, Int.reduceEq, Int.reduceNe, Int.reduceAdd, Int.reduceSub, Int.reduceMul, Int.reduceNeg, ↓reduceIte, reduceCtorEq, Srv.pv, Srv.cells, Try.ntmps7, Try.results7, t1, t2, t3] <;> first | rfl | decide) ?_; simp only [go_sem, Nat.reduceAdd, Nat.reduceSub, Nat.reduceMul, Nat.reduceLT, Nat.reduceLeDiff, Nat.reduceEqDiff, Nat.reduceBEq, Int.reduceToNat, Int.reduceLT, Int.reduceLE, Int.reduceEq, Int.reduceNe, Int.reduceAdd, Int.reduceSub, Int.reduceMul, Int.reduceNeg, ↓reduceIte, reduceCtorEq, Srv.pv, Srv.cells, Try.ntmps7, Try.results7, t1, t2, t3])
      | cons c r =>
        rw [hp] at lp
        have ca := ask_calls t (c :: r) ht.fits
        have hz := askV_quiet t c r
        generalize askV t (c :: r) = rr at ca hz
        obtain ⟨v, o, on⟩ := rr
        simp only at hz
        (refine CallA.pure (ca) (by simp only [go_sem, Nat.reduceAdd, Nat.reduceSub, Nat.reduceMul, Nat.reduceLT, Nat.reduceLeDiff, Nat.reduceEqDiff, Nat.reduceBEq, Int.reduceToNat, Int.reduceLT, Int.reduceLE, Int.reduceEq, Int.reduceNe, Int.reduceAdd, Int.reduceSub, Int.reduceMul, Int.reduceNeg, ↓reduceIte, reduceCtorEq, Srv.pv, Srv.cells, hz, Try.ntmps7, Try.results7, t1, t2, t3] <;> first | rfl | decide) ?_; simp only [go_sem, Nat.reduceAdd, Nat.reduceSub, Nat.reduceMul, Nat.reduceLT, Nat.reduceLeDiff, Nat.reduceEqDiff, Nat.reduceBEq, Int.reduceToNat, Int.reduceLT, Int.reduceLE, Int.reduceEq, Int.reduceNe, Int.reduceAdd, Int.reduceSub, Int.reduceMul, Int.reduceNeg, ↓reduceIte, reduceCtorEq, Srv.pv, Srv.cells, hz, Try.ntmps7, Try.results7, t1, t2, t3])
    | false =>
      simp only [go_sem, Nat.reduceAdd, Nat.reduceSub, Nat.reduceMul, Nat.reduceLT, Nat.reduceLeDiff, Nat.reduceEqDiff, Nat.reduceBEq, Int.reduceToNat, Int.reduceLT, Int.reduceLE, Int.reduceEq, Int.reduceNe, Int.reduceAdd, Int.reduceSub, Int.reduceMul, Int.reduceNeg, ↓reduceIte, reduceCtorEq, Try.ntmps7, Try.results7, Srv.pv, Srv.cells, wa, wb, wab, wq, wqb, hL, hS]
      cases hp : q.take (min q.length 80) with
      | nil =>
        rw [hp] at lp
        have ca : PureCalls Try.prog 41 [t.pv, bytesPV []] (AskR.pv (t, [], false)) := ask_calls t [] ht.fits
        (refine CallA.pure (ca) (by simp only [go_sem, Nat.reduceAdd, Nat.reduceSub, Nat.reduceMul, Nat.reduceLT, Nat.reduceLeDiff, Nat.reduceEqDiff, Nat.reduceBEq, Int.reduceToNat, Int.reduceLT, Int.reduceLE, Int.reduceEq, Int.reduceNe, Int.reduceAdd, Int.reduceSub, Int.reduceMul, Int.reduceNeg, ↓reduceIte, reduceCtorEq, Srv.pv, Srv.cells, askV, rowsB, List.map_nil, List.length_nil, Int.natCast_zero] <;> first | rfl | decide) ?_; simp only [go_sem, Nat.reduceAdd, Nat.reduceSub, Nat.reduceMul, Nat.reduceLT, Nat.reduceLeDiff, Nat.reduceEqDiff, Nat.reduceBEq, Int.reduceToNat, Int.reduceLT, Int.reduceLE, Int.reduceEq, Int.reduceNe, Int.reduceAdd, Int.reduceSub, Int.reduceMul, Int.reduceNeg, ↓reduceIte, reduceCtorEq, Srv.pv, Srv.cells, askV, rowsB, List.map_nil, List.length_nil, Int.natCast_zero])
        cases hq0 : decide (t.quiet = 0) with
        | true => simp only [go_sem, Nat.reduceAdd, Nat.reduceSub, Nat.reduceMul, Nat.reduceLT, Nat.reduceLeDiff, Nat.reduceEqDiff, Nat.reduceBEq, Int.reduceToNat, Int.reduceLT, Int.reduceLE, Int.reduceEq, Int.reduceNe, Int.reduceAdd, Int.reduceSub, Int.reduceMul, Int.reduceNeg, ↓reduceIte, reduceCtorEq, Try.ntmps7, Try.results7, Srv.pv, Srv.cells, hq0, List.length_nil, List.map_nil, Int.natCast_zero]
        | false =>
          simp only [go_sem, Nat.reduceAdd, Nat.reduceSub, Nat.reduceMul, Nat.reduceLT, Nat.reduceLeDiff, Nat.reduceEqDiff, Nat.reduceBEq, Int.reduceToNat, Int.reduceLT, Int.reduceLE, Int.reduceEq, Int.reduceNe, Int.reduceAdd, Int.reduceSub, Int.reduceMul, Int.reduceNeg, ↓reduceIte, reduceCtorEq, Try.ntmps7, Try.results7, Srv.pv, Srv.cells, hq0, List.length_nil, List.map_nil, Int.natCast_zero]
          (refine CallA.pure (c4) (by simp only [go_sem, Nat.reduceAdd, Nat.reduceSub, Nat.reduceMul, Nat.reduceLT, Nat.reduceLeDiff, Nat.reduceEqDiff, Nat.reduceBEq, Int.reduceToNat, Int.reduceLT, Int.reduceLE, Int.reduceEq, Int.reduceNe, Int.reduceAdd, Int.reduceSub, Int.reduceMul, Int.reduceNeg, ↓reduceIte, reduceCtorEq, Srv.pv, Srv.cells, Try.ntmps7, Try.results7] <;> first | rfl | decide) ?_; simp only [go_sem, Nat.reduceAdd, Nat.reduceSub, Nat.reduceMul, Nat.reduceLT, Nat.reduceLeDiff, Nat.reduceEqDiff, Nat.reduceBEq, Int.reduceToNat, Int.reduceLT, Int.reduceLE, Int.reduceEq, Int.reduceNe, Int.reduceAdd, Int.reduceSub, Int.reduceMul, Int.reduceNeg, ↓reduceIte, reduceCtorEq, Srv.pv, Srv.cells, Try.ntmps7, Try.results7])
      | cons c r =>
        rw [hp] at lp
        have ca := ask_calls t (c :: r) ht.fits
        have hz := askV_quiet t c r
        generalize askV t (c :: r) = rr at ca hz
        obtain ⟨v, o, on⟩ := rr
        simp only at hz
        (refine CallA.pure (ca) (by simp only [go_sem, Nat.reduceAdd, Nat.reduceSub, Nat.reduceMul, Nat.reduceLT, Nat.reduceLeDiff, Nat.reduceEqDiff, Nat.reduceBEq, Int.reduceToNat, Int.reduceLT, Int.reduceLE, Int.reduceEq, Int.reduceNe, Int.reduceAdd, Int.reduceSub, Int.reduceMul, Int.reduceNeg, ↓reduceIte, reduceCtorEq, Srv.pv, Srv.cells, hz, Try.ntmps7, Try.results7] <;> first | rfl | decide) ?_; simp only [go_sem, Nat.reduceAdd, Nat.reduceSub, Nat.reduceMul, Nat.reduceLT, Nat.reduceLeDiff, Nat.reduceEqDiff, Nat.reduceBEq, Int.reduceToNat, Int.reduceLT, Int.reduceLE, Int.reduceEq, Int.reduceNe, Int.reduceAdd, Int.reduceSub, Int.reduceMul, Int.reduceNeg, ↓reduceIte, reduceCtorEq, Srv.pv, Srv.cells, hz, Try.ntmps7, Try.results7])
end Go.Proofs.Ytcdmhigmgpflbaa.Pe
