import Derived.Test.YtpnhnobnjcknjaaE17
namespace Go.Proofs.Ytpnhnobnjcknjaa.Pe
open Go.Pe Go.RowKit
set_option maxRecDepth 20000
set_option maxHeartbeats 4000000
set_option linter.unusedSimpArgs false
set_option linter.unusedVariables false

theorem passes20_calls (t : List UInt8) (more : UInt16) (bl gp : UInt8) : PureCalls Try.prog 14 [bytesPV t, U16 more, U8 bl, U8 gp] (PB true) := by
  refine PureCalls.of tabOK mixed Try.func14 rfl rfl (by decide +kernel) (by simp [Try.ntmps14]) ?_
  have hmo : more.toNat < 65536 := more.toNat_lt
  have hb : bl.toNat < 256 := bl.toNat_lt
  have hgp : gp.toNat < 256 := gp.toNat_lt
  obtain ⟨g, hgg⟩ : ∃ g, gp.toNat % 101 = g := ⟨_, rfl⟩
  have hg1 : g ≤ 100 := by omega
  have e1 : (gp.toNat : Int).tmod 101 = (g : Int) := by rw [← hgg]; rfl
  have e2 : IntKind.wrap .i64 (g : Int) = g := wrapI64 (by omega)
  have e3 : IntKind.wrap .i64 (more.toNat : Int) = more.toNat := wrapI64 (by omega)
  have e4 : IntKind.wrap .i64 (bl.toNat : Int) = bl.toNat := wrapI64 (by omega)
  have c3 := greatL_calls t 0 0 g []
  simp only [go_sem, Nat.reduceAdd, Nat.reduceSub, Nat.reduceMul, Nat.reduceLT, Nat.reduceLeDiff, Nat.reduceEqDiff, Nat.reduceBEq, Int.reduceToNat, Int.reduceLT, Int.reduceLE, Int.reduceEq, Int.reduceNe, Int.reduceAdd, Int.reduceSub, Int.reduceMul, Int.reduceNeg, ↓reduceIte, reduceCtorEq, Try.ntmps14, Try.results14]
  (refine CallA.pure (headL_calls) (by simp only [go_sem, Nat.reduceAdd, Nat.reduceSub, Nat.reduceMul, Nat.reduceLT, Nat.reduceLeDiff, Nat.reduceEqDiff, Nat.reduceBEq, Int.reduceToNat, Int.reduceLT, Int.reduceLE, Int.reduceEq, Int.reduceNe, Int.reduceAdd, Int.reduceSub, Int.reduceMul, Int.reduceNeg, ↓reduceIte, reduceCtorEq] <;> first | rfl | decide) ?_; simp only [go_sem, Nat.reduceAdd, Nat.reduceSub, Nat.reduceMul, Nat.reduceLT, Nat.reduceLeDiff, Nat.reduceEqDiff, Nat.reduceBEq, Int.reduceToNat, Int.reduceLT, Int.reduceLE, Int.reduceEq, Int.reduceNe, Int.reduceAdd, Int.reduceSub, Int.reduceMul, Int.reduceNeg, ↓reduceIte, reduceCtorEq])
  by_cases h0 : t.length < 1
  · have f0 : decide ((t.length : Int) < 1) = true := by simp; omega
    simp only [go_sem, Nat.reduceAdd, Nat.reduceSub, Nat.reduceMul, Nat.reduceLT, Nat.reduceLeDiff, Nat.reduceEqDiff, Nat.reduceBEq, Int.reduceToNat, Int.reduceLT, Int.reduceLE, Int.reduceEq, Int.reduceNe, Int.reduceAdd, Int.reduceSub, Int.reduceMul, Int.reduceNeg, ↓reduceIte, reduceCtorEq, e1, e2, f0, Try.ntmps14, Try.results14]
  have f0 : decide ((t.length : Int) < 1) = false := by simp; omega
  by_cases h1 : t.length > 4095
  · have f1 : decide ((t.length : Int) > 4095) = true := by simp; omega
    simp only [go_sem, Nat.reduceAdd, Nat.reduceSub, Nat.reduceMul, Nat.reduceLT, Nat.reduceLeDiff, Nat.reduceEqDiff, Nat.reduceBEq, Int.reduceToNat, Int.reduceLT, Int.reduceLE, Int.reduceEq, Int.reduceNe, Int.reduceAdd, Int.reduceSub, Int.reduceMul, Int.reduceNeg, ↓reduceIte, reduceCtorEq, e1, e2, f0, f1, Try.ntmps14, Try.results14]
  have f1 : decide ((t.length : Int) > 4095) = false := by simp; omega
  simp only [go_sem, Nat.reduceAdd, Nat.reduceSub, Nat.reduceMul, Nat.reduceLT, Nat.reduceLeDiff, Nat.reduceEqDiff, Nat.reduceBEq, Int.reduceToNat, Int.reduceLT, Int.reduceLE, Int.reduceEq, Int.reduceNe, Int.reduceAdd, Int.reduceSub, Int.reduceMul, Int.reduceNeg, ↓reduceIte, reduceCtorEq, e1, e2, f0, f1]
  cases hgr : greatL t 0 0 g [] with
  | true =>
    rw [hgr] at c3
    (refine CallA.pure (c3) (by simp only [go_sem, Nat.reduceAdd, Nat.reduceSub, Nat.reduceMul, Nat.reduceLT, Nat.reduceLeDiff, Nat.reduceEqDiff, Nat.reduceBEq, Int.reduceToNat, Int.reduceLT, Int.reduceLE, Int.reduceEq, Int.reduceNe, Int.reduceAdd, Int.reduceSub, Int.reduceMul, Int.reduceNeg, ↓reduceIte, reduceCtorEq, Try.ntmps14, Try.results14] <;> first | rfl | decide) ?_; simp only [go_sem, Nat.reduceAdd, Nat.reduceSub, Nat.reduceMul, Nat.reduceLT, Nat.reduceLeDiff, Nat.reduceEqDiff, Nat.reduceBEq, Int.reduceToNat, Int.reduceLT, Int.reduceLE, Int.reduceEq, Int.reduceNe, Int.reduceAdd, Int.reduceSub, Int.reduceMul, Int.reduceNeg, ↓reduceIte, reduceCtorEq, Try.ntmps14, Try.results14])
  | false =>
    rw [hgr] at c3
    have h6 : (t.length / 7 + 1) * (g + 2) ≤ 6000 := by
      simp only [greatL, Bool.or_eq_false_iff, decide_eq_false_iff_not] at hgr
      have := hgr.2
      have e : (((t.length / 7 : Nat) : Int) + 1) * ((g : Int) + 2) = ((((t.length / 7 : Nat) + 1) * (g + 2) : Nat) : Int) := by simp
      rw [e] at this
      omega
    have e5 : IntKind.wrap .i64 ((t.length : Int) + (more.toNat : Int)) = ((t.length + more.toNat : Nat) : Int) := by rw [wrapI64 (by omega)]; omega
    have e6 : (if (4095 : Int) < ((t.length + more.toNat : Nat) : Int) then (4095 : Int) else ((t.length + more.toNat : Nat) : Int)) = ((min (t.length + more.toNat) 4095 : Nat) : Int) := by split <;> omega
    obtain ⟨s, r, n, p1, p2, p3, p4, p5, p6, p7⟩ := play_passes (t := t) (by omega) (by omega) (bn := bl.toNat) (g := g) (R := ((min (t.length + more.toNat) 4095 : Nat) : Int)) (by omega) (by omega) hg1 h6
    have c4 := play_at (by omega) p1
    have cX := textT_calls r
    rw [if_pos p3, p4, show decide (r.st = 3) = true by simp [p3]] at cX
    have c5 := ticks_calls t.length bl.toNat g
    rw [← p5] at c5
    have g1 : decide (s.st = 3) = true := by simp [p2]
    have g2 : decide (r.st = 3) = true := by simp [p3]
    (refine CallA.pure (c3) (by simp only [go_sem, Nat.reduceAdd, Nat.reduceSub, Nat.reduceMul, Nat.reduceLT, Nat.reduceLeDiff, Nat.reduceEqDiff, Nat.reduceBEq, Int.reduceToNat, Int.reduceLT, Int.reduceLE, Int.reduceEq, Int.reduceNe, Int.reduceAdd, Int.reduceSub, Int.reduceMul, Int.reduceNeg, ↓reduceIte, reduceCtorEq, e3, e4, e5, e6] <;> first | rfl | decide) ?_; simp only [go_sem, Nat.reduceAdd, Nat.reduceSub, Nat.reduceMul, Nat.reduceLT, Nat.reduceLeDiff, Nat.reduceEqDiff, Nat.reduceBEq, Int.reduceToNat, Int.reduceLT, Int.reduceLE, Int.reduceEq, Int.reduceNe, Int.reduceAdd, Int.reduceSub, Int.reduceMul, Int.reduceNeg, ↓reduceIte, reduceCtorEq, e3, e4, e5, e6])
    (refine CallA.pure (c4) (by simp only [go_sem, Nat.reduceAdd, Nat.reduceSub, Nat.reduceMul, Nat.reduceLT, Nat.reduceLeDiff, Nat.reduceEqDiff, Nat.reduceBEq, Int.reduceToNat, Int.reduceLT, Int.reduceLE, Int.reduceEq, Int.reduceNe, Int.reduceAdd, Int.reduceSub, Int.reduceMul, Int.reduceNeg, ↓reduceIte, reduceCtorEq, Snd.pv, Rcv.pv] <;> first | rfl | decide) ?_; simp only [go_sem, Nat.reduceAdd, Nat.reduceSub, Nat.reduceMul, Nat.reduceLT, Nat.reduceLeDiff, Nat.reduceEqDiff, Nat.reduceBEq, Int.reduceToNat, Int.reduceLT, Int.reduceLE, Int.reduceEq, Int.reduceNe, Int.reduceAdd, Int.reduceSub, Int.reduceMul, Int.reduceNeg, ↓reduceIte, reduceCtorEq, Snd.pv, Rcv.pv])
    (refine CallA.pure (cX) (by simp only [go_sem, Nat.reduceAdd, Nat.reduceSub, Nat.reduceMul, Nat.reduceLT, Nat.reduceLeDiff, Nat.reduceEqDiff, Nat.reduceBEq, Int.reduceToNat, Int.reduceLT, Int.reduceLE, Int.reduceEq, Int.reduceNe, Int.reduceAdd, Int.reduceSub, Int.reduceMul, Int.reduceNeg, ↓reduceIte, reduceCtorEq, Rcv.pv, g1, g2, e4] <;> first | rfl | decide) ?_; simp only [go_sem, Nat.reduceAdd, Nat.reduceSub, Nat.reduceMul, Nat.reduceLT, Nat.reduceLeDiff, Nat.reduceEqDiff, Nat.reduceBEq, Int.reduceToNat, Int.reduceLT, Int.reduceLE, Int.reduceEq, Int.reduceNe, Int.reduceAdd, Int.reduceSub, Int.reduceMul, Int.reduceNeg, ↓reduceIte, reduceCtorEq, Rcv.pv, g1, g2, e4])
    (refine CallA.pure (c5) (by simp only [go_sem, Nat.reduceAdd, Nat.reduceSub, Nat.reduceMul, Nat.reduceLT, Nat.reduceLeDiff, Nat.reduceEqDiff, Nat.reduceBEq, Int.reduceToNat, Int.reduceLT, Int.reduceLE, Int.reduceEq, Int.reduceNe, Int.reduceAdd, Int.reduceSub, Int.reduceMul, Int.reduceNeg, ↓reduceIte, reduceCtorEq, g1, g2, Try.ntmps14, Try.results14] <;> first | rfl | decide) ?_; simp only [go_sem, Nat.reduceAdd, Nat.reduceSub, Nat.reduceMul, Nat.reduceLT, Nat.reduceLeDiff, Nat.reduceEqDiff, Nat.reduceBEq, Int.reduceToNat, Int.reduceLT, Int.reduceLE, Int.reduceEq, Int.reduceNe, Int.reduceAdd, Int.reduceSub, Int.reduceMul, Int.reduceNeg, ↓reduceIte, reduceCtorEq, g1, g2, Try.ntmps14, Try.results14])
end Go.Proofs.Ytpnhnobnjcknjaa.Pe
