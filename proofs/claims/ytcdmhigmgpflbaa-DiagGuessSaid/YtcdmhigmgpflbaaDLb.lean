import Derived.Test.YtcdmhigmgpflbaaDLa
namespace Go.Proofs.Ytcdmhigmgpflbaa.Pe
open Go.Pe Go.RowKit
set_option maxRecDepth 20000
set_option maxHeartbeats 4000000
set_option linter.unusedSimpArgs false
set_option linter.unusedVariables false
abbrev u32PV (b : UInt32) : PV := .lit (.int .u32 b.toNat)
theorem ask_to {s : Srv} {q : List UInt8} {r : AskR} (h : askV s q = r) (hr : RightS s) : PureCalls Try.prog 41 [s.pv, bytesPV q] r.pv := h ▸ ask_calls s q hr.fits
def guArr (x0 x1 x2 : UInt32) : List PV := [u32PV x0, u32PV x1, u32PV x2]
def guSt (x0 x1 x2 : UInt32) (tk : UInt8) (s : Srv) (i : Nat) : St := ⟨149, [(2, .lit (.int .u8 tk.toNat)), (3, .ptr 0 0), (4, .ptr 1 0), (7, PB true), (8, PI i)], [(0, .box 25 s.cells), (1, .box 51 (guArr x0 x1 x2))], 200, 0⟩
def guI (x0 x1 x2 : UInt32) (tk : UInt8) (m : Nat) (st : St) : Prop := ∃ (i : Nat) (s : Srv), i ≤ 3 ∧ m = 3 - i ∧ GuS i s ∧ st = guSt x0 x1 x2 tk s i
theorem diagGuess_calls (s : Srv) (x0 x1 x2 : UInt32) (tk : UInt8) : PureCalls Try.prog 6 [s.pv, .agg [.lit (.int .u32 x0.toNat), .lit (.int .u32 x1.toNat), .lit (.int .u32 x2.toNat)], .lit (.int .u8 tk.toNat)] (PB true) := by
  refine PureCalls.of tabOK mixed Try.func6 rfl rfl (by decide +kernel) (by simp [Try.ntmps6]) ?_
  have cm := made_calls s
  have hr := made_right s
  generalize madeV s = m at cm hr
  have h0 : GuS 0 { m with ses := 2, op := false, wrong := 0 } := ⟨⟨hr.its, (by decide : (1 : Int) ≤ 2 ∧ (2 : Int) ≤ 3), hr.seed, (by decide : (0 : Int) ≤ 0 ∧ (0 : Int) ≤ 12), hr.quiet, hr.draw, hr.sec, hr.many, hr.dtc⟩, rfl, rfl, rfl, fun h => by cases h⟩
  simp only [go_sem, Nat.reduceAdd, Nat.reduceSub, Nat.reduceMul, Nat.reduceLT, Nat.reduceLeDiff, Nat.reduceEqDiff, Nat.reduceBEq, Int.reduceToNat, Int.reduceLT, Int.reduceLE, Int.reduceEq, Int.reduceNe, Int.reduceAdd, Int.reduceSub, Int.reduceMul, Int.reduceNeg, ↓reduceIte, reduceCtorEq, Try.ntmps6, Try.results6, Srv.pv, Srv.cells]
  (refine CallA.pure (h22_calls) (by simp only [go_sem, Nat.reduceAdd, Nat.reduceSub, Nat.reduceMul, Nat.reduceLT, Nat.reduceLeDiff, Nat.reduceEqDiff, Nat.reduceBEq, Int.reduceToNat, Int.reduceLT, Int.reduceLE, Int.reduceEq, Int.reduceNe, Int.reduceAdd, Int.reduceSub, Int.reduceMul, Int.reduceNeg, ↓reduceIte, reduceCtorEq, Srv.pv, Srv.cells] <;> first | rfl | decide) ?_; simp only [go_sem, Nat.reduceAdd, Nat.reduceSub, Nat.reduceMul, Nat.reduceLT, Nat.reduceLeDiff, Nat.reduceEqDiff, Nat.reduceBEq, Int.reduceToNat, Int.reduceLT, Int.reduceLE, Int.reduceEq, Int.reduceNe, Int.reduceAdd, Int.reduceSub, Int.reduceMul, Int.reduceNeg, ↓reduceIte, reduceCtorEq, Srv.pv, Srv.cells])
  (refine CallA.pure (cm) (by simp only [go_sem, Nat.reduceAdd, Nat.reduceSub, Nat.reduceMul, Nat.reduceLT, Nat.reduceLeDiff, Nat.reduceEqDiff, Nat.reduceBEq, Int.reduceToNat, Int.reduceLT, Int.reduceLE, Int.reduceEq, Int.reduceNe, Int.reduceAdd, Int.reduceSub, Int.reduceMul, Int.reduceNeg, ↓reduceIte, reduceCtorEq, Srv.pv, Srv.cells] <;> first | rfl | decide) ?_; simp only [go_sem, Nat.reduceAdd, Nat.reduceSub, Nat.reduceMul, Nat.reduceLT, Nat.reduceLeDiff, Nat.reduceEqDiff, Nat.reduceBEq, Int.reduceToNat, Int.reduceLT, Int.reduceLE, Int.reduceEq, Int.reduceNe, Int.reduceAdd, Int.reduceSub, Int.reduceMul, Int.reduceNeg, ↓reduceIte, reduceCtorEq, Srv.pv, Srv.cells])
  refine wpA_loop (guI x0 x1 x2 tk) ⟨3, _, ?_, 0, _, by omega, rfl, h0, rfl⟩ ?_
  · simp only [go_sem, Nat.reduceAdd, Nat.reduceSub, Nat.reduceMul, Nat.reduceLT, Nat.reduceLeDiff, Nat.reduceEqDiff, Nat.reduceBEq, Int.reduceToNat, Int.reduceLT, Int.reduceLE, Int.reduceEq, Int.reduceNe, Int.reduceAdd, Int.reduceSub, Int.reduceMul, Int.reduceNeg, ↓reduceIte, reduceCtorEq, guSt, guArr, u32PV, Srv.cells, refsIn, refsInL, Blk.refsIn, Int.natCast_zero]
  clear h0 cm hr
  rintro mm st ⟨i, s, hi, rfl, hg, rfl⟩
  by_cases hc : i < 3
  · have f1 : decide ((i : Int) < 3) = true := decide_eq_true (by omega)
    have hw := wrapIN (i := i) (by omega)
    obtain ⟨x, hx1⟩ : ∃ x : UInt32, (guArr x0 x1 x2).drop (i * 1) = u32PV x :: (guArr x0 x1 x2).drop (i + 1) := by
      have : i = 0 ∨ i = 1 ∨ i = 2 := by omega
      rcases this with rfl | rfl | rfl
      · exact ⟨x0, rfl⟩
      · exact ⟨x1, rfl⟩
      · exact ⟨x2, rfl⟩
    have hx := x.toNat_lt
    obtain ⟨n, hn⟩ : ∃ n : Nat, x.toNat = n := ⟨_, rfl⟩
    rw [hn] at hx
    have wx : IntKind.wrap .i64 (n : Int) = (n : Int) := by rw [wrapI64_eq]; omega
    have kw := keyV_wide s.draw s.sec
    have kx : bitsA .xor .i64 (n : Int) 1 = ((n ^^^ 1 : Nat) : Int) := xor64 (a := n) (b := 1) (by omega) (by omega)
    have kl := xor_lt (a := n) (b := 1) (by omega) (by omega)
    have c0 := keyR22_calls s.draw s.sec
    obtain ⟨f2, f3⟩ : (0 : Int) ≤ (i : Int) ∧ (i : Int) < 3 := by omega
    have l6 : decide ((((fourV s.draw).length + 1 + 1 : Nat) : Int) = 6) = true := rfl
    have u127 : ((UInt8.toNat 127 : Nat) : Int) = 127 := rfl
    have u39 : ((UInt8.toNat 39 : Nat) : Int) = 39 := rfl
    have u53 : ((UInt8.toNat 53 : Nat) : Int) = 53 := rfl
    have d0 : decide (s.draw < 0) = false := decide_eq_false (by have := hg.r.draw; omega)
    simp only [go_sem, Nat.reduceAdd, Nat.reduceSub, Nat.reduceMul, Nat.reduceLT, Nat.reduceLeDiff, Nat.reduceEqDiff, Nat.reduceBEq, Int.reduceToNat, Int.reduceLT, Int.reduceLE, Int.reduceEq, Int.reduceNe, Int.reduceAdd, Int.reduceSub, Int.reduceMul, Int.reduceNeg, ↓reduceIte, reduceCtorEq, guSt, f1, Srv.cells]
    by_cases hk : (n : Int) = keyV s.draw s.sec
    · have g1 : decide ((n : Int) = keyV s.draw s.sec) = true := decide_eq_true hk
      have ne : ((n ^^^ 1 : Nat) : Int) ≠ keyV s.draw s.sec := by
        rw [← hk]; intro h
        have h2 : n ^^^ 1 = n := by exact_mod_cast h
        have h3 : (n ^^^ 1) ^^^ n = n ^^^ n := by rw [h2]
        rw [Nat.xor_self, Nat.xor_comm n 1, Nat.xor_assoc, Nat.xor_self] at h3
        simp at h3
      obtain ⟨t, u, e1, e2, e3, e4, e5, e6, e7, e8⟩ := gu_step hg hc (k := ((n ^^^ 1 : Nat) : Int)) (by omega) ne
      have a1 := ask_to e1 hg.r
      have a2 := ask_to e6 e5
      have c3 := fourR_calls ((n ^^^ 1 : Nat) : Int) (by omega)
      (refine CallA.pure (a1) (by simp only [go_sem, Nat.reduceAdd, Nat.reduceSub, Nat.reduceMul, Nat.reduceLT, Nat.reduceLeDiff, Nat.reduceEqDiff, Nat.reduceBEq, Int.reduceToNat, Int.reduceLT, Int.reduceLE, Int.reduceEq, Int.reduceNe, Int.reduceAdd, Int.reduceSub, Int.reduceMul, Int.reduceNeg, ↓reduceIte, reduceCtorEq, Srv.pv, Srv.cells, l6, e2, d0, f2, f3, Int.toNat_natCast, hx1, hn, wx, List.headD_cons, List.length_cons, Nat.le_add_left] <;> first | rfl | decide) ?_; simp only [go_sem, Nat.reduceAdd, Nat.reduceSub, Nat.reduceMul, Nat.reduceLT, Nat.reduceLeDiff, Nat.reduceEqDiff, Nat.reduceBEq, Int.reduceToNat, Int.reduceLT, Int.reduceLE, Int.reduceEq, Int.reduceNe, Int.reduceAdd, Int.reduceSub, Int.reduceMul, Int.reduceNeg, ↓reduceIte, reduceCtorEq, Srv.pv, Srv.cells, l6, e2, d0, f2, f3, Int.toNat_natCast, hx1, hn, wx, List.headD_cons, List.length_cons, Nat.le_add_left])
      (refine CallA.pure (c0) (by simp only [go_sem, Nat.reduceAdd, Nat.reduceSub, Nat.reduceMul, Nat.reduceLT, Nat.reduceLeDiff, Nat.reduceEqDiff, Nat.reduceBEq, Int.reduceToNat, Int.reduceLT, Int.reduceLE, Int.reduceEq, Int.reduceNe, Int.reduceAdd, Int.reduceSub, Int.reduceMul, Int.reduceNeg, ↓reduceIte, reduceCtorEq, Srv.pv, Srv.cells, g1, kx, e2, e3] <;> first | rfl | decide) ?_; simp only [go_sem, Nat.reduceAdd, Nat.reduceSub, Nat.reduceMul, Nat.reduceLT, Nat.reduceLeDiff, Nat.reduceEqDiff, Nat.reduceBEq, Int.reduceToNat, Int.reduceLT, Int.reduceLE, Int.reduceEq, Int.reduceNe, Int.reduceAdd, Int.reduceSub, Int.reduceMul, Int.reduceNeg, ↓reduceIte, reduceCtorEq, Srv.pv, Srv.cells, g1, kx, e2, e3])
      (refine CallA.pure (c3) (by simp only [go_sem, Nat.reduceAdd, Nat.reduceSub, Nat.reduceMul, Nat.reduceLT, Nat.reduceLeDiff, Nat.reduceEqDiff, Nat.reduceBEq, Int.reduceToNat, Int.reduceLT, Int.reduceLE, Int.reduceEq, Int.reduceNe, Int.reduceAdd, Int.reduceSub, Int.reduceMul, Int.reduceNeg, ↓reduceIte, reduceCtorEq, Srv.pv, Srv.cells] <;> first | rfl | decide) ?_; simp only [go_sem, Nat.reduceAdd, Nat.reduceSub, Nat.reduceMul, Nat.reduceLT, Nat.reduceLeDiff, Nat.reduceEqDiff, Nat.reduceBEq, Int.reduceToNat, Int.reduceLT, Int.reduceLE, Int.reduceEq, Int.reduceNe, Int.reduceAdd, Int.reduceSub, Int.reduceMul, Int.reduceNeg, ↓reduceIte, reduceCtorEq, Srv.pv, Srv.cells])
      have lq6 : 2 + (fourV ((n ^^^ 1 : Nat) : Int)).length = 6 := rfl
      simp only [go_sem, Nat.reduceAdd, Nat.reduceSub, Nat.reduceMul, Nat.reduceLT, Nat.reduceLeDiff, Nat.reduceEqDiff, Nat.reduceBEq, Int.reduceToNat, Int.reduceLT, Int.reduceLE, Int.reduceEq, Int.reduceNe, Int.reduceAdd, Int.reduceSub, Int.reduceMul, Int.reduceNeg, ↓reduceIte, reduceCtorEq, lq6]
      (refine CallA.pure (a2) (by simp only [go_sem, Nat.reduceAdd, Nat.reduceSub, Nat.reduceMul, Nat.reduceLT, Nat.reduceLeDiff, Nat.reduceEqDiff, Nat.reduceBEq, Int.reduceToNat, Int.reduceLT, Int.reduceLE, Int.reduceEq, Int.reduceNe, Int.reduceAdd, Int.reduceSub, Int.reduceMul, Int.reduceNeg, ↓reduceIte, reduceCtorEq, Srv.pv, Srv.cells, e2, e3, rowsB, List.map_cons, List.map_nil, rowB] <;> first | rfl | decide) ?_; simp only [go_sem, Nat.reduceAdd, Nat.reduceSub, Nat.reduceMul, Nat.reduceLT, Nat.reduceLeDiff, Nat.reduceEqDiff, Nat.reduceBEq, Int.reduceToNat, Int.reduceLT, Int.reduceLE, Int.reduceEq, Int.reduceNe, Int.reduceAdd, Int.reduceSub, Int.reduceMul, Int.reduceNeg, ↓reduceIte, reduceCtorEq, Srv.pv, Srv.cells, e7])
      refine ⟨3 - (i + 1), _, by omega, ?_, i + 1, u, by omega, rfl, e8, rfl⟩
      simp only [go_sem, Nat.reduceAdd, Nat.reduceSub, Nat.reduceMul, Nat.reduceLT, Nat.reduceLeDiff, Nat.reduceEqDiff, Nat.reduceBEq, Int.reduceToNat, Int.reduceLT, Int.reduceLE, Int.reduceEq, Int.reduceNe, Int.reduceAdd, Int.reduceSub, Int.reduceMul, Int.reduceNeg, ↓reduceIte, reduceCtorEq, guSt, hw, Srv.cells, e7, guArr, u32PV, refsIn, refsInL, Blk.refsIn]
    · have g1 : decide ((n : Int) = keyV s.draw s.sec) = false := decide_eq_false hk
      obtain ⟨t, u, e1, e2, e3, e4, e5, e6, e7, e8⟩ := gu_step hg hc (k := (n : Int)) (by omega) hk
      have a1 := ask_to e1 hg.r
      have a2 := ask_to e6 e5
      have c3 := fourR_calls (n : Int) (by omega)
      (refine CallA.pure (a1) (by simp only [go_sem, Nat.reduceAdd, Nat.reduceSub, Nat.reduceMul, Nat.reduceLT, Nat.reduceLeDiff, Nat.reduceEqDiff, Nat.reduceBEq, Int.reduceToNat, Int.reduceLT, Int.reduceLE, Int.reduceEq, Int.reduceNe, Int.reduceAdd, Int.reduceSub, Int.reduceMul, Int.reduceNeg, ↓reduceIte, reduceCtorEq, Srv.pv, Srv.cells, l6, e2, d0, f2, f3, Int.toNat_natCast, hx1, hn, wx, List.headD_cons, List.length_cons, Nat.le_add_left] <;> first | rfl | decide) ?_; simp only [go_sem, Nat.reduceAdd, Nat.reduceSub, Nat.reduceMul, Nat.reduceLT, Nat.reduceLeDiff, Nat.reduceEqDiff, Nat.reduceBEq, Int.reduceToNat, Int.reduceLT, Int.reduceLE, Int.reduceEq, Int.reduceNe, Int.reduceAdd, Int.reduceSub, Int.reduceMul, Int.reduceNeg, ↓reduceIte, reduceCtorEq, Srv.pv, Srv.cells, l6, e2, d0, f2, f3, Int.toNat_natCast, hx1, hn, wx, List.headD_cons, List.length_cons, Nat.le_add_left])
      (refine CallA.pure (c0) (by simp only [go_sem, Nat.reduceAdd, Nat.reduceSub, Nat.reduceMul, Nat.reduceLT, Nat.reduceLeDiff, Nat.reduceEqDiff, Nat.reduceBEq, Int.reduceToNat, Int.reduceLT, Int.reduceLE, Int.reduceEq, Int.reduceNe, Int.reduceAdd, Int.reduceSub, Int.reduceMul, Int.reduceNeg, ↓reduceIte, reduceCtorEq, Srv.pv, Srv.cells, g1, e2, e3] <;> first | rfl | decide) ?_; simp only [go_sem, Nat.reduceAdd, Nat.reduceSub, Nat.reduceMul, Nat.reduceLT, Nat.reduceLeDiff, Nat.reduceEqDiff, Nat.reduceBEq, Int.reduceToNat, Int.reduceLT, Int.reduceLE, Int.reduceEq, Int.reduceNe, Int.reduceAdd, Int.reduceSub, Int.reduceMul, Int.reduceNeg, ↓reduceIte, reduceCtorEq, Srv.pv, Srv.cells, g1, e2, e3])
      (refine CallA.pure (c3) (by simp only [go_sem, Nat.reduceAdd, Nat.reduceSub, Nat.reduceMul, Nat.reduceLT, Nat.reduceLeDiff, Nat.reduceEqDiff, Nat.reduceBEq, Int.reduceToNat, Int.reduceLT, Int.reduceLE, Int.reduceEq, Int.reduceNe, Int.reduceAdd, Int.reduceSub, Int.reduceMul, Int.reduceNeg, ↓reduceIte, reduceCtorEq, Srv.pv, Srv.cells] <;> first | rfl | decide) ?_; simp only [go_sem, Nat.reduceAdd, Nat.reduceSub, Nat.reduceMul, Nat.reduceLT, Nat.reduceLeDiff, Nat.reduceEqDiff, Nat.reduceBEq, Int.reduceToNat, Int.reduceLT, Int.reduceLE, Int.reduceEq, Int.reduceNe, Int.reduceAdd, Int.reduceSub, Int.reduceMul, Int.reduceNeg, ↓reduceIte, reduceCtorEq, Srv.pv, Srv.cells])
      have lq6 : 2 + (fourV (n : Int)).length = 6 := rfl
      simp only [go_sem, Nat.reduceAdd, Nat.reduceSub, Nat.reduceMul, Nat.reduceLT, Nat.reduceLeDiff, Nat.reduceEqDiff, Nat.reduceBEq, Int.reduceToNat, Int.reduceLT, Int.reduceLE, Int.reduceEq, Int.reduceNe, Int.reduceAdd, Int.reduceSub, Int.reduceMul, Int.reduceNeg, ↓reduceIte, reduceCtorEq, lq6]
      (refine CallA.pure (a2) (by simp only [go_sem, Nat.reduceAdd, Nat.reduceSub, Nat.reduceMul, Nat.reduceLT, Nat.reduceLeDiff, Nat.reduceEqDiff, Nat.reduceBEq, Int.reduceToNat, Int.reduceLT, Int.reduceLE, Int.reduceEq, Int.reduceNe, Int.reduceAdd, Int.reduceSub, Int.reduceMul, Int.reduceNeg, ↓reduceIte, reduceCtorEq, Srv.pv, Srv.cells, e2, e3, rowsB, List.map_cons, List.map_nil, rowB] <;> first | rfl | decide) ?_; simp only [go_sem, Nat.reduceAdd, Nat.reduceSub, Nat.reduceMul, Nat.reduceLT, Nat.reduceLeDiff, Nat.reduceEqDiff, Nat.reduceBEq, Int.reduceToNat, Int.reduceLT, Int.reduceLE, Int.reduceEq, Int.reduceNe, Int.reduceAdd, Int.reduceSub, Int.reduceMul, Int.reduceNeg, ↓reduceIte, reduceCtorEq, Srv.pv, Srv.cells, e7])
      refine ⟨3 - (i + 1), _, by omega, ?_, i + 1, u, by omega, rfl, e8, rfl⟩
      simp only [go_sem, Nat.reduceAdd, Nat.reduceSub, Nat.reduceMul, Nat.reduceLT, Nat.reduceLeDiff, Nat.reduceEqDiff, Nat.reduceBEq, Int.reduceToNat, Int.reduceLT, Int.reduceLE, Int.reduceEq, Int.reduceNe, Int.reduceAdd, Int.reduceSub, Int.reduceMul, Int.reduceNeg, ↓reduceIte, reduceCtorEq, guSt, hw, Srv.cells, e7, guArr, u32PV, refsIn, refsInL, Blk.refsIn]
  · have f1 : decide ((i : Int) < 3) = false := decide_eq_false (by omega)
    obtain rfl : i = 3 := by omega
    obtain ⟨n, hn⟩ : ∃ n : Int, (tk.toNat : Int).tmod 10 = n := ⟨_, rfl⟩
    have hn0 : 0 ≤ n ∧ n ≤ 9 := by
      rw [← hn, Int.tmod_eq_emod_of_nonneg (by omega)]; omega
    have wt : IntKind.wrap .i64 (tk.toNat : Int) = (tk.toNat : Int) := by have := tk.toNat_lt; rw [wrapI64_eq]; omega
    have wn : IntKind.wrap .i64 (10 - n) = 10 - n := by rw [wrapI64_eq]; omega
    obtain ⟨a, b, h1, h2, h3, h4, h5, h6, h7, h8⟩ := gu_late hg n hn0.1 hn0.2
    have c1 := tick_to hg.r h1
    have c2 := ask_to (ask_many h5) h3
    have c3 := keyR22_calls s.draw s.sec
    have c4 := fourR_calls _ (keyV_wide s.draw s.sec)
    have c5 := ask_to (ask_many_key (fourV (keyV s.draw s.sec)) (fourV_len _) h5) h3
    have lq6 : 2 + (fourV (keyV s.draw s.sec)).length = 6 := rfl
    have c6 := tick_to h3 h2
    have c7 := ask_to (ask_seed (by omega) (by rw [h7]; decide) h8) h4
    have l6 : decide ((((fourV b.draw).length + 1 + 1 : Nat) : Int) = 6) = true := rfl
    simp only [go_sem, Nat.reduceAdd, Nat.reduceSub, Nat.reduceMul, Nat.reduceLT, Nat.reduceLeDiff, Nat.reduceEqDiff, Nat.reduceBEq, Int.reduceToNat, Int.reduceLT, Int.reduceLE, Int.reduceEq, Int.reduceNe, Int.reduceAdd, Int.reduceSub, Int.reduceMul, Int.reduceNeg, ↓reduceIte, reduceCtorEq, guSt, f1, Srv.cells, wt, hn]
    (refine CallA.pure (c1) (by simp only [go_sem, Nat.reduceAdd, Nat.reduceSub, Nat.reduceMul, Nat.reduceLT, Nat.reduceLeDiff, Nat.reduceEqDiff, Nat.reduceBEq, Int.reduceToNat, Int.reduceLT, Int.reduceLE, Int.reduceEq, Int.reduceNe, Int.reduceAdd, Int.reduceSub, Int.reduceMul, Int.reduceNeg, ↓reduceIte, reduceCtorEq, Srv.pv, Srv.cells] <;> first | rfl | decide) ?_; simp only [go_sem, Nat.reduceAdd, Nat.reduceSub, Nat.reduceMul, Nat.reduceLT, Nat.reduceLeDiff, Nat.reduceEqDiff, Nat.reduceBEq, Int.reduceToNat, Int.reduceLT, Int.reduceLE, Int.reduceEq, Int.reduceNe, Int.reduceAdd, Int.reduceSub, Int.reduceMul, Int.reduceNeg, ↓reduceIte, reduceCtorEq, Srv.pv, Srv.cells])
    (refine CallA.pure (c2) (by simp only [go_sem, Nat.reduceAdd, Nat.reduceSub, Nat.reduceMul, Nat.reduceLT, Nat.reduceLeDiff, Nat.reduceEqDiff, Nat.reduceBEq, Int.reduceToNat, Int.reduceLT, Int.reduceLE, Int.reduceEq, Int.reduceNe, Int.reduceAdd, Int.reduceSub, Int.reduceMul, Int.reduceNeg, ↓reduceIte, reduceCtorEq, Srv.pv, Srv.cells] <;> first | rfl | decide) ?_; simp only [go_sem, Nat.reduceAdd, Nat.reduceSub, Nat.reduceMul, Nat.reduceLT, Nat.reduceLeDiff, Nat.reduceEqDiff, Nat.reduceBEq, Int.reduceToNat, Int.reduceLT, Int.reduceLE, Int.reduceEq, Int.reduceNe, Int.reduceAdd, Int.reduceSub, Int.reduceMul, Int.reduceNeg, ↓reduceIte, reduceCtorEq, Srv.pv, Srv.cells])
    (refine CallA.pure (c3) (by simp only [go_sem, Nat.reduceAdd, Nat.reduceSub, Nat.reduceMul, Nat.reduceLT, Nat.reduceLeDiff, Nat.reduceEqDiff, Nat.reduceBEq, Int.reduceToNat, Int.reduceLT, Int.reduceLE, Int.reduceEq, Int.reduceNe, Int.reduceAdd, Int.reduceSub, Int.reduceMul, Int.reduceNeg, ↓reduceIte, reduceCtorEq, Srv.pv, Srv.cells] <;> first | rfl | decide) ?_; simp only [go_sem, Nat.reduceAdd, Nat.reduceSub, Nat.reduceMul, Nat.reduceLT, Nat.reduceLeDiff, Nat.reduceEqDiff, Nat.reduceBEq, Int.reduceToNat, Int.reduceLT, Int.reduceLE, Int.reduceEq, Int.reduceNe, Int.reduceAdd, Int.reduceSub, Int.reduceMul, Int.reduceNeg, ↓reduceIte, reduceCtorEq, Srv.pv, Srv.cells])
    (refine CallA.pure (c4) (by simp only [go_sem, Nat.reduceAdd, Nat.reduceSub, Nat.reduceMul, Nat.reduceLT, Nat.reduceLeDiff, Nat.reduceEqDiff, Nat.reduceBEq, Int.reduceToNat, Int.reduceLT, Int.reduceLE, Int.reduceEq, Int.reduceNe, Int.reduceAdd, Int.reduceSub, Int.reduceMul, Int.reduceNeg, ↓reduceIte, reduceCtorEq, Srv.pv, Srv.cells, lq6] <;> first | rfl | decide) ?_; simp only [go_sem, Nat.reduceAdd, Nat.reduceSub, Nat.reduceMul, Nat.reduceLT, Nat.reduceLeDiff, Nat.reduceEqDiff, Nat.reduceBEq, Int.reduceToNat, Int.reduceLT, Int.reduceLE, Int.reduceEq, Int.reduceNe, Int.reduceAdd, Int.reduceSub, Int.reduceMul, Int.reduceNeg, ↓reduceIte, reduceCtorEq, Srv.pv, Srv.cells, lq6])
    (refine CallA.pure (c5) (by simp only [go_sem, Nat.reduceAdd, Nat.reduceSub, Nat.reduceMul, Nat.reduceLT, Nat.reduceLeDiff, Nat.reduceEqDiff, Nat.reduceBEq, Int.reduceToNat, Int.reduceLT, Int.reduceLE, Int.reduceEq, Int.reduceNe, Int.reduceAdd, Int.reduceSub, Int.reduceMul, Int.reduceNeg, ↓reduceIte, reduceCtorEq, Srv.pv, Srv.cells, rowsB, List.map_cons, List.map_nil, rowB] <;> first | rfl | decide) ?_; simp only [go_sem, Nat.reduceAdd, Nat.reduceSub, Nat.reduceMul, Nat.reduceLT, Nat.reduceLeDiff, Nat.reduceEqDiff, Nat.reduceBEq, Int.reduceToNat, Int.reduceLT, Int.reduceLE, Int.reduceEq, Int.reduceNe, Int.reduceAdd, Int.reduceSub, Int.reduceMul, Int.reduceNeg, ↓reduceIte, reduceCtorEq, Srv.pv, Srv.cells, wn])
    (refine CallA.pure (c6) (by simp only [go_sem, Nat.reduceAdd, Nat.reduceSub, Nat.reduceMul, Nat.reduceLT, Nat.reduceLeDiff, Nat.reduceEqDiff, Nat.reduceBEq, Int.reduceToNat, Int.reduceLT, Int.reduceLE, Int.reduceEq, Int.reduceNe, Int.reduceAdd, Int.reduceSub, Int.reduceMul, Int.reduceNeg, ↓reduceIte, reduceCtorEq, Srv.pv, Srv.cells] <;> first | rfl | decide) ?_; simp only [go_sem, Nat.reduceAdd, Nat.reduceSub, Nat.reduceMul, Nat.reduceLT, Nat.reduceLeDiff, Nat.reduceEqDiff, Nat.reduceBEq, Int.reduceToNat, Int.reduceLT, Int.reduceLE, Int.reduceEq, Int.reduceNe, Int.reduceAdd, Int.reduceSub, Int.reduceMul, Int.reduceNeg, ↓reduceIte, reduceCtorEq, Srv.pv, Srv.cells])
    (refine CallA.pure (c7) (by simp only [go_sem, Nat.reduceAdd, Nat.reduceSub, Nat.reduceMul, Nat.reduceLT, Nat.reduceLeDiff, Nat.reduceEqDiff, Nat.reduceBEq, Int.reduceToNat, Int.reduceLT, Int.reduceLE, Int.reduceEq, Int.reduceNe, Int.reduceAdd, Int.reduceSub, Int.reduceMul, Int.reduceNeg, ↓reduceIte, reduceCtorEq, Srv.pv, Srv.cells, l6, h6, Try.ntmps6, Try.results6] <;> first | rfl | decide) ?_; simp only [go_sem, Nat.reduceAdd, Nat.reduceSub, Nat.reduceMul, Nat.reduceLT, Nat.reduceLeDiff, Nat.reduceEqDiff, Nat.reduceBEq, Int.reduceToNat, Int.reduceLT, Int.reduceLE, Int.reduceEq, Int.reduceNe, Int.reduceAdd, Int.reduceSub, Int.reduceMul, Int.reduceNeg, ↓reduceIte, reduceCtorEq, Srv.pv, Srv.cells, l6, h6, Try.ntmps6, Try.results6])
end Go.Proofs.Ytcdmhigmgpflbaa.Pe
