import Derived.Test.YtpnhnobnjcknjaaE10a
import Derived.Test.YtpnhnobnjcknjaaE22p
namespace Go.Proofs.Ytpnhnobnjcknjaa.Pe
open Go.Pe Go.RowKit
set_option maxRecDepth 20000
set_option maxHeartbeats 4000000
set_option linter.unusedSimpArgs false
set_option linter.unusedVariables false

theorem lost20_calls (t : List UInt8) (bl : UInt8) (k : UInt16) : PureCalls Try.prog 16 [bytesPV t, U8 bl, U16 k] (PB true) := by
  refine PureCalls.of tabOK mixed Try.func16 rfl rfl (by decide +kernel) (by simp [Try.ntmps16]) ?_
  have hkk : k.toNat < 65536 := k.toNat_lt
  have hb : bl.toNat < 256 := bl.toNat_lt
  have e0 : IntKind.wrap .i64 (bl.toNat : Int) = bl.toNat := wrapI64 (by omega)
  have e1 : IntKind.wrap .i64 (k.toNat : Int) = k.toNat := wrapI64 (by omega)
  simp only [go_sem, Nat.reduceAdd, Nat.reduceSub, Nat.reduceMul, Nat.reduceLT, Nat.reduceLeDiff, Nat.reduceEqDiff, Nat.reduceBEq, Int.reduceToNat, Int.reduceLT, Int.reduceLE, Int.reduceEq, Int.reduceNe, Int.reduceAdd, Int.reduceSub, Int.reduceMul, Int.reduceNeg, ↓reduceIte, reduceCtorEq, Try.ntmps16, Try.results16]
  (refine CallA.pure (headL_calls) (by simp only [go_sem, Nat.reduceAdd, Nat.reduceSub, Nat.reduceMul, Nat.reduceLT, Nat.reduceLeDiff, Nat.reduceEqDiff, Nat.reduceBEq, Int.reduceToNat, Int.reduceLT, Int.reduceLE, Int.reduceEq, Int.reduceNe, Int.reduceAdd, Int.reduceSub, Int.reduceMul, Int.reduceNeg, ↓reduceIte, reduceCtorEq] <;> first | rfl | decide) ?_; simp only [go_sem, Nat.reduceAdd, Nat.reduceSub, Nat.reduceMul, Nat.reduceLT, Nat.reduceLeDiff, Nat.reduceEqDiff, Nat.reduceBEq, Int.reduceToNat, Int.reduceLT, Int.reduceLE, Int.reduceEq, Int.reduceNe, Int.reduceAdd, Int.reduceSub, Int.reduceMul, Int.reduceNeg, ↓reduceIte, reduceCtorEq])
  by_cases h0 : t.length < 8
  · have f0 : decide ((t.length : Int) < 8) = true := by simp; omega
    simp only [go_sem, Nat.reduceAdd, Nat.reduceSub, Nat.reduceMul, Nat.reduceLT, Nat.reduceLeDiff, Nat.reduceEqDiff, Nat.reduceBEq, Int.reduceToNat, Int.reduceLT, Int.reduceLE, Int.reduceEq, Int.reduceNe, Int.reduceAdd, Int.reduceSub, Int.reduceMul, Int.reduceNeg, ↓reduceIte, reduceCtorEq, f0, Try.ntmps16, Try.results16]
  have f0 : decide ((t.length : Int) < 8) = false := by simp; omega
  by_cases h1 : t.length > 4095
  · have f1 : decide ((t.length : Int) > 4095) = true := by simp; omega
    simp only [go_sem, Nat.reduceAdd, Nat.reduceSub, Nat.reduceMul, Nat.reduceLT, Nat.reduceLeDiff, Nat.reduceEqDiff, Nat.reduceBEq, Int.reduceToNat, Int.reduceLT, Int.reduceLE, Int.reduceEq, Int.reduceNe, Int.reduceAdd, Int.reduceSub, Int.reduceMul, Int.reduceNeg, ↓reduceIte, reduceCtorEq, f0, f1, Try.ntmps16, Try.results16]
  have f1 : decide ((t.length : Int) > 4095) = false := by simp; omega
  have e2 : (t.length : Int).tdiv 7 = ((t.length / 7 : Nat) : Int) := rfl
  obtain ⟨K, hK⟩ : ∃ K, t.length / 7 = K := ⟨_, rfl⟩
  rw [hK] at e2
  have hK1 : 1 ≤ K ∧ K ≤ 585 := by omega
  have e3 : IntKind.wrap .i64 (K : Int) = K := wrapI64 (by omega)
  have e4 : IntKind.wrap .i64 (2 + (K : Int)) = ((2 + K : Nat) : Int) := by rw [wrapI64 (by omega)]; omega
  obtain ⟨T, hT⟩ : ∃ T, mAt bl.toNat K = T := ⟨_, rfl⟩
  have hmc := mAt_closed bl.toNat (K - 1)
  rw [show K - 1 + 1 = K by omega, hT] at hmc
  simp only [go_sem, Nat.reduceAdd, Nat.reduceSub, Nat.reduceMul, Nat.reduceLT, Nat.reduceLeDiff, Nat.reduceEqDiff, Nat.reduceBEq, Int.reduceToNat, Int.reduceLT, Int.reduceLE, Int.reduceEq, Int.reduceNe, Int.reduceAdd, Int.reduceSub, Int.reduceMul, Int.reduceNeg, ↓reduceIte, reduceCtorEq, f0, f1, e2, e3, e4]
  rcases Nat.eq_zero_or_pos bl.toNat with hbz | hbz
  · have g0 : decide ((bl.toNat : Int) > 0) = false := by simp; omega
    rw [if_pos hbz] at hmc
    have e5 : ((2 + K : Nat) : Int) = (T : Int) := by omega
    have e6 : IntKind.wrap .i64 ((T : Int) + 3) = ((T + 3 : Nat) : Int) := by rw [wrapI64 (by omega)]; omega
    obtain ⟨a, ha⟩ : ∃ a, k.toNat % (T + 3) = a := ⟨_, rfl⟩
    have hal : a < T + 3 := by rw [← ha]; exact Nat.mod_lt _ (by omega)
    have e7 : (k.toNat : Int).tmod ((T + 3 : Nat) : Int) = (a : Int) := by rw [← ha]; rfl
    have e8 : IntKind.wrap .i64 (a : Int) = a := wrapI64 (by have := Nat.mod_lt k.toNat (show 0 < T + 3 by omega); omega)
    simp only [go_sem, Nat.reduceAdd, Nat.reduceSub, Nat.reduceMul, Nat.reduceLT, Nat.reduceLeDiff, Nat.reduceEqDiff, Nat.reduceBEq, Int.reduceToNat, Int.reduceLT, Int.reduceLE, Int.reduceEq, Int.reduceNe, Int.reduceAdd, Int.reduceSub, Int.reduceMul, Int.reduceNeg, ↓reduceIte, reduceCtorEq, g0, e5, e6, e1, e7, e8, Int.toNat_natCast]
    refine ⟨by omega, ⟨by omega, by omega, by omega⟩, ⟨by rw [List.length_replicate]; omega, by rw [List.length_replicate]; omega⟩, ?_⟩
    have hrow : List.map rowI (lostF a) = List.replicate a [PV.lit (.int .i64 0)] ++ [[PV.lit (.int .i64 2)]] := by simp [lostF, rowI]
    cases hp : playV t 4095 bl.toNat 0 (lostF a) with
    | mk s x =>
    obtain ⟨r, n⟩ := x
    have c1 := play_at (by omega) hp
    (refine CallA.pure (c1) (by simp only [go_sem, Nat.reduceAdd, Nat.reduceSub, Nat.reduceMul, Nat.reduceLT, Nat.reduceLeDiff, Nat.reduceEqDiff, Nat.reduceBEq, Int.reduceToNat, Int.reduceLT, Int.reduceLE, Int.reduceEq, Int.reduceNe, Int.reduceAdd, Int.reduceSub, Int.reduceMul, Int.reduceNeg, ↓reduceIte, reduceCtorEq, e0, hrow] <;> first | rfl | decide) ?_; simp only [go_sem, Nat.reduceAdd, Nat.reduceSub, Nat.reduceMul, Nat.reduceLT, Nat.reduceLeDiff, Nat.reduceEqDiff, Nat.reduceBEq, Int.reduceToNat, Int.reduceLT, Int.reduceLE, Int.reduceEq, Int.reduceNe, Int.reduceAdd, Int.reduceSub, Int.reduceMul, Int.reduceNeg, ↓reduceIte, reduceCtorEq, e0, hrow])
    by_cases hat : T ≤ a
    · have f2 : decide ((a : Int) ≥ (T : Int)) = true := by simp; omega
      have hpb := (play_behind (t := t) (by omega) (by omega) (bn := bl.toNat) (by omega) (k := a) (by rw [hK, hT]; exact hat)).symm.trans hp
      obtain ⟨s', r', n', p1, p2, p3, p4, p5, p6, p7⟩ := play_passes (t := t) (by omega) (by omega) (bn := bl.toNat) (g := 0) (R := 4095) (by omega) (by omega) (by omega) (by omega)
      have e9 := hpb.symm.trans p1
      simp only [Prod.mk.injEq] at e9
      obtain ⟨rfl, rfl, rfl⟩ := e9
      have c5 := ticks_calls t.length bl.toNat 0
      have g1 : decide (s.st = 3) = true := by simp [p2]
      have g2 : decide (r.st = 3) = true := by simp [p3]
      have p5' : ticksV t.length bl.toNat 0 = n := p5.symm
      rw [p5'] at c5
      simp only [go_sem, Nat.reduceAdd, Nat.reduceSub, Nat.reduceMul, Nat.reduceLT, Nat.reduceLeDiff, Nat.reduceEqDiff, Nat.reduceBEq, Int.reduceToNat, Int.reduceLT, Int.reduceLE, Int.reduceEq, Int.reduceNe, Int.reduceAdd, Int.reduceSub, Int.reduceMul, Int.reduceNeg, ↓reduceIte, reduceCtorEq, Snd.pv, Rcv.pv, f2, g1, g2]
      (refine CallA.pure (c5) (by simp only [go_sem, Nat.reduceAdd, Nat.reduceSub, Nat.reduceMul, Nat.reduceLT, Nat.reduceLeDiff, Nat.reduceEqDiff, Nat.reduceBEq, Int.reduceToNat, Int.reduceLT, Int.reduceLE, Int.reduceEq, Int.reduceNe, Int.reduceAdd, Int.reduceSub, Int.reduceMul, Int.reduceNeg, ↓reduceIte, reduceCtorEq, e0, Try.ntmps16, Try.results16] <;> first | rfl | decide) ?_; simp only [go_sem, Nat.reduceAdd, Nat.reduceSub, Nat.reduceMul, Nat.reduceLT, Nat.reduceLeDiff, Nat.reduceEqDiff, Nat.reduceBEq, Int.reduceToNat, Int.reduceLT, Int.reduceLE, Int.reduceEq, Int.reduceNe, Int.reduceAdd, Int.reduceSub, Int.reduceMul, Int.reduceNeg, ↓reduceIte, reduceCtorEq, e0, Try.ntmps16, Try.results16])
    · have f2 : decide ((a : Int) ≥ (T : Int)) = false := by simp; omega
      obtain ⟨q1, q2⟩ := play_lost (t := t) (by omega) (by omega) (bn := bl.toNat) (by omega) hp (by rw [hK, hT]; omega)
      have g2 : decide (r.st = 3) = false := by simp [q1]
      by_cases ha0 : a = 0
      · obtain ⟨q3, q4⟩ := q2 ha0
        have g3 : decide ((a : Int) = 0) = true := by simp [ha0]
        have g4 : decide (r.st = 0) = true := by simp [q3]
        have g5 : decide ((n : Int) = 101) = true := by simp; omega
        simp only [go_sem, Nat.reduceAdd, Nat.reduceSub, Nat.reduceMul, Nat.reduceLT, Nat.reduceLeDiff, Nat.reduceEqDiff, Nat.reduceBEq, Int.reduceToNat, Int.reduceLT, Int.reduceLE, Int.reduceEq, Int.reduceNe, Int.reduceAdd, Int.reduceSub, Int.reduceMul, Int.reduceNeg, ↓reduceIte, reduceCtorEq, Snd.pv, Rcv.pv, f2, g2, g3, g4, g5, Try.ntmps16, Try.results16]
      · have g3 : decide ((a : Int) = 0) = false := by simp [ha0]
        simp only [go_sem, Nat.reduceAdd, Nat.reduceSub, Nat.reduceMul, Nat.reduceLT, Nat.reduceLeDiff, Nat.reduceEqDiff, Nat.reduceBEq, Int.reduceToNat, Int.reduceLT, Int.reduceLE, Int.reduceEq, Int.reduceNe, Int.reduceAdd, Int.reduceSub, Int.reduceMul, Int.reduceNeg, ↓reduceIte, reduceCtorEq, Snd.pv, Rcv.pv, f2, g2, g3, Try.ntmps16, Try.results16]
  · have g0 : decide ((bl.toNat : Int) > 0) = true := by simp; omega
    rw [if_neg (by omega)] at hmc
    have e10 : IntKind.wrap .i64 ((K : Int) - 1) = ((K - 1 : Nat) : Int) := by rw [wrapI64 (by omega)]; omega
    have e11 : ((K - 1 : Nat) : Int).tdiv (bl.toNat : Int) = (((K - 1) / bl.toNat : Nat) : Int) := rfl
    have hdl : (K - 1) / bl.toNat ≤ K - 1 := Nat.div_le_self _ _
    have e12 : IntKind.wrap .i64 (((K - 1) / bl.toNat : Nat) : Int) = (((K - 1) / bl.toNat : Nat) : Int) := wrapI64 (by omega)
    have e5 : IntKind.wrap .i64 (((2 + K : Nat) : Int) + (((K - 1) / bl.toNat : Nat) : Int)) = (T : Int) := by rw [wrapI64 (by omega)]; omega
    have e6 : IntKind.wrap .i64 ((T : Int) + 3) = ((T + 3 : Nat) : Int) := by rw [wrapI64 (by omega)]; omega
    obtain ⟨a, ha⟩ : ∃ a, k.toNat % (T + 3) = a := ⟨_, rfl⟩
    have hal : a < T + 3 := by rw [← ha]; exact Nat.mod_lt _ (by omega)
    have e7 : (k.toNat : Int).tmod ((T + 3 : Nat) : Int) = (a : Int) := by rw [← ha]; rfl
    have e8 : IntKind.wrap .i64 (a : Int) = a := wrapI64 (by have := Nat.mod_lt k.toNat (show 0 < T + 3 by omega); omega)
    simp only [go_sem, Nat.reduceAdd, Nat.reduceSub, Nat.reduceMul, Nat.reduceLT, Nat.reduceLeDiff, Nat.reduceEqDiff, Nat.reduceBEq, Int.reduceToNat, Int.reduceLT, Int.reduceLE, Int.reduceEq, Int.reduceNe, Int.reduceAdd, Int.reduceSub, Int.reduceMul, Int.reduceNeg, ↓reduceIte, reduceCtorEq, g0, e0, e10, e11, e12, e5, e6, e1, e7, e8, Int.toNat_natCast]
    refine ⟨by omega, by omega, ⟨by omega, by omega, by omega⟩, ⟨by rw [List.length_replicate]; omega, by rw [List.length_replicate]; omega⟩, ?_⟩
    have hrow : List.map rowI (lostF a) = List.replicate a [PV.lit (.int .i64 0)] ++ [[PV.lit (.int .i64 2)]] := by simp [lostF, rowI]
    cases hp : playV t 4095 bl.toNat 0 (lostF a) with
    | mk s x =>
    obtain ⟨r, n⟩ := x
    have c1 := play_at (by omega) hp
    (refine CallA.pure (c1) (by simp only [go_sem, Nat.reduceAdd, Nat.reduceSub, Nat.reduceMul, Nat.reduceLT, Nat.reduceLeDiff, Nat.reduceEqDiff, Nat.reduceBEq, Int.reduceToNat, Int.reduceLT, Int.reduceLE, Int.reduceEq, Int.reduceNe, Int.reduceAdd, Int.reduceSub, Int.reduceMul, Int.reduceNeg, ↓reduceIte, reduceCtorEq, e0, hrow] <;> first | rfl | decide) ?_; simp only [go_sem, Nat.reduceAdd, Nat.reduceSub, Nat.reduceMul, Nat.reduceLT, Nat.reduceLeDiff, Nat.reduceEqDiff, Nat.reduceBEq, Int.reduceToNat, Int.reduceLT, Int.reduceLE, Int.reduceEq, Int.reduceNe, Int.reduceAdd, Int.reduceSub, Int.reduceMul, Int.reduceNeg, ↓reduceIte, reduceCtorEq, e0, hrow])
    by_cases hat : T ≤ a
    · have f2 : decide ((a : Int) ≥ (T : Int)) = true := by simp; omega
      have hpb := (play_behind (t := t) (by omega) (by omega) (bn := bl.toNat) (by omega) (k := a) (by rw [hK, hT]; exact hat)).symm.trans hp
      obtain ⟨s', r', n', p1, p2, p3, p4, p5, p6, p7⟩ := play_passes (t := t) (by omega) (by omega) (bn := bl.toNat) (g := 0) (R := 4095) (by omega) (by omega) (by omega) (by omega)
      have e9 := hpb.symm.trans p1
      simp only [Prod.mk.injEq] at e9
      obtain ⟨rfl, rfl, rfl⟩ := e9
      have c5 := ticks_calls t.length bl.toNat 0
      have g1 : decide (s.st = 3) = true := by simp [p2]
      have g2 : decide (r.st = 3) = true := by simp [p3]
      have p5' : ticksV t.length bl.toNat 0 = n := p5.symm
      rw [p5'] at c5
      simp only [go_sem, Nat.reduceAdd, Nat.reduceSub, Nat.reduceMul, Nat.reduceLT, Nat.reduceLeDiff, Nat.reduceEqDiff, Nat.reduceBEq, Int.reduceToNat, Int.reduceLT, Int.reduceLE, Int.reduceEq, Int.reduceNe, Int.reduceAdd, Int.reduceSub, Int.reduceMul, Int.reduceNeg, ↓reduceIte, reduceCtorEq, Snd.pv, Rcv.pv, f2, g1, g2]
      (refine CallA.pure (c5) (by simp only [go_sem, Nat.reduceAdd, Nat.reduceSub, Nat.reduceMul, Nat.reduceLT, Nat.reduceLeDiff, Nat.reduceEqDiff, Nat.reduceBEq, Int.reduceToNat, Int.reduceLT, Int.reduceLE, Int.reduceEq, Int.reduceNe, Int.reduceAdd, Int.reduceSub, Int.reduceMul, Int.reduceNeg, ↓reduceIte, reduceCtorEq, e0, Try.ntmps16, Try.results16] <;> first | rfl | decide) ?_; simp only [go_sem, Nat.reduceAdd, Nat.reduceSub, Nat.reduceMul, Nat.reduceLT, Nat.reduceLeDiff, Nat.reduceEqDiff, Nat.reduceBEq, Int.reduceToNat, Int.reduceLT, Int.reduceLE, Int.reduceEq, Int.reduceNe, Int.reduceAdd, Int.reduceSub, Int.reduceMul, Int.reduceNeg, ↓reduceIte, reduceCtorEq, e0, Try.ntmps16, Try.results16])
    · have f2 : decide ((a : Int) ≥ (T : Int)) = false := by simp; omega
      obtain ⟨q1, q2⟩ := play_lost (t := t) (by omega) (by omega) (bn := bl.toNat) (by omega) hp (by rw [hK, hT]; omega)
      have g2 : decide (r.st = 3) = false := by simp [q1]
      by_cases ha0 : a = 0
      · obtain ⟨q3, q4⟩ := q2 ha0
        have g3 : decide ((a : Int) = 0) = true := by simp [ha0]
        have g4 : decide (r.st = 0) = true := by simp [q3]
        have g5 : decide ((n : Int) = 101) = true := by simp; omega
        simp only [go_sem, Nat.reduceAdd, Nat.reduceSub, Nat.reduceMul, Nat.reduceLT, Nat.reduceLeDiff, Nat.reduceEqDiff, Nat.reduceBEq, Int.reduceToNat, Int.reduceLT, Int.reduceLE, Int.reduceEq, Int.reduceNe, Int.reduceAdd, Int.reduceSub, Int.reduceMul, Int.reduceNeg, ↓reduceIte, reduceCtorEq, Snd.pv, Rcv.pv, f2, g2, g3, g4, g5, Try.ntmps16, Try.results16]
      · have g3 : decide ((a : Int) = 0) = false := by simp [ha0]
        simp only [go_sem, Nat.reduceAdd, Nat.reduceSub, Nat.reduceMul, Nat.reduceLT, Nat.reduceLeDiff, Nat.reduceEqDiff, Nat.reduceBEq, Int.reduceToNat, Int.reduceLT, Int.reduceLE, Int.reduceEq, Int.reduceNe, Int.reduceAdd, Int.reduceSub, Int.reduceMul, Int.reduceNeg, ↓reduceIte, reduceCtorEq, Snd.pv, Rcv.pv, f2, g2, g3, Try.ntmps16, Try.results16]
end Go.Proofs.Ytpnhnobnjcknjaa.Pe
