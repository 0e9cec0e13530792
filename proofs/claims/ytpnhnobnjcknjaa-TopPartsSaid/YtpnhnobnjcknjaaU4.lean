import Derived.Test.YtpnhnobnjcknjaaU1
import Derived.Test.YtpnhnobnjcknjaaU4p
namespace Go.Proofs.Ytpnhnobnjcknjaa.Pe
open Go.Pe Go.RowKit
set_option maxRecDepth 20000
set_option maxHeartbeats 4000000
set_option linter.unusedSimpArgs false
set_option linter.unusedVariables false

def tpSt (t : List UInt8) (bl gp : UInt8) (g : Nat) (r : Rcv) (c i : Nat) : St := ⟨214, [(0, bytesPV t), (1, U8 bl), (2, U8 gp), (7, PB true), (8, .im 7 (pduRows (partsL t))), (9, PB true), (10, PI g), (11, .ptr 0 0), (12, PI c), (13, PI i)], [(0, .box 29 r.cells)], 40, 0⟩
def tpI (t : List UInt8) (bl gp : UInt8) (g : Nat) (m : Nat) (st : St) : Prop := ∃ (i c : Nat) (r : Rcv), i ≤ partsN t ∧ m = partsN t - i ∧ r.fine ∧ WAt t bl.toNat i r ∧ (r.room = 4095 ∧ r.block = bl.toNat ∧ r.gap = g) ∧ r = recN t 4095 bl.toNat g i ∧ c = (if 7 < t.length then gosN (t.length / 7) bl.toNat i else 0) ∧ st = tpSt t bl gp g r c i
theorem parts20_calls (t : List UInt8) (bl gp : UInt8) : PureCalls Try.prog 11 [bytesPV t, U8 bl, U8 gp] (PB true) := by
  refine PureCalls.of tabOK mixed Try.func11 rfl rfl (by decide +kernel) (by simp [Try.ntmps11]) ?_
  have cP := partsT_calls t
  have hb : bl.toNat < 256 := bl.toNat_lt
  have hgp : gp.toNat < 256 := gp.toNat_lt
  obtain ⟨g, hgg⟩ : ∃ g, gp.toNat % 9 = g := ⟨_, rfl⟩
  have w1 : IntKind.wrap .i64 (bl.toNat : Int) = bl.toNat := wrapI64 (by omega)
  have w2 : IntKind.wrap .i64 (gp.toNat : Int) = gp.toNat := wrapI64 (by omega)
  have w3 : (gp.toNat : Int).tmod 9 = (g : Int) := by rw [← hgg]; rfl
  simp only [go_sem, Nat.reduceAdd, Nat.reduceSub, Nat.reduceMul, Nat.reduceLT, Nat.reduceLeDiff, Nat.reduceEqDiff, Nat.reduceBEq, Int.reduceToNat, Int.reduceLT, Int.reduceLE, Int.reduceEq, Int.reduceNe, Int.reduceAdd, Int.reduceSub, Int.reduceMul, Int.reduceNeg, ↓reduceIte, reduceCtorEq, Try.ntmps11, Try.results11]
  (refine CallA.pure (top20head_calls) (by simp only [go_sem, Nat.reduceAdd, Nat.reduceSub, Nat.reduceMul, Nat.reduceLT, Nat.reduceLeDiff, Nat.reduceEqDiff, Nat.reduceBEq, Int.reduceToNat, Int.reduceLT, Int.reduceLE, Int.reduceEq, Int.reduceNe, Int.reduceAdd, Int.reduceSub, Int.reduceMul, Int.reduceNeg, ↓reduceIte, reduceCtorEq] <;> first | rfl | decide) ?_; simp only [go_sem, Nat.reduceAdd, Nat.reduceSub, Nat.reduceMul, Nat.reduceLT, Nat.reduceLeDiff, Nat.reduceEqDiff, Nat.reduceBEq, Int.reduceToNat, Int.reduceLT, Int.reduceLE, Int.reduceEq, Int.reduceNe, Int.reduceAdd, Int.reduceSub, Int.reduceMul, Int.reduceNeg, ↓reduceIte, reduceCtorEq])
  by_cases h0 : t.length < 1
  · have f1 : decide ((t.length : Int) < 1) = true := decide_eq_true (by omega)
    simp only [go_sem, Nat.reduceAdd, Nat.reduceSub, Nat.reduceMul, Nat.reduceLT, Nat.reduceLeDiff, Nat.reduceEqDiff, Nat.reduceBEq, Int.reduceToNat, Int.reduceLT, Int.reduceLE, Int.reduceEq, Int.reduceNe, Int.reduceAdd, Int.reduceSub, Int.reduceMul, Int.reduceNeg, ↓reduceIte, reduceCtorEq, f1, Try.ntmps11, Try.results11]
  have f1 : decide ((t.length : Int) < 1) = false := decide_eq_false (by omega)
  by_cases h3 : t.length > 300
  · have f3 : decide ((t.length : Int) > 300) = true := decide_eq_true (by omega)
    simp only [go_sem, Nat.reduceAdd, Nat.reduceSub, Nat.reduceMul, Nat.reduceLT, Nat.reduceLeDiff, Nat.reduceEqDiff, Nat.reduceBEq, Int.reduceToNat, Int.reduceLT, Int.reduceLE, Int.reduceEq, Int.reduceNe, Int.reduceAdd, Int.reduceSub, Int.reduceMul, Int.reduceNeg, ↓reduceIte, reduceCtorEq, f1, f3, Try.ntmps11, Try.results11]
  have f3 : decide ((t.length : Int) > 300) = false := decide_eq_false (by omega)
  have e : partsB t = true := partsB_true (by omega) (by omega)
  have hlen := parts_len (t := t) (by omega) (by omega)
  have hN := partsN_pos t
  have hN1 : partsN t ≤ 300 := by unfold partsN; split <;> omega
  have hf : (freshR 4095 bl.toNat g).fine := by simp [freshR, Rcv.fine]; omega
  have cN := newT_calls 4095 bl.toNat g
  rw [e] at cP
  simp only [go_sem, Nat.reduceAdd, Nat.reduceSub, Nat.reduceMul, Nat.reduceLT, Nat.reduceLeDiff, Nat.reduceEqDiff, Nat.reduceBEq, Int.reduceToNat, Int.reduceLT, Int.reduceLE, Int.reduceEq, Int.reduceNe, Int.reduceAdd, Int.reduceSub, Int.reduceMul, Int.reduceNeg, ↓reduceIte, reduceCtorEq, f1, f3]
  (refine CallA.pure (cP) (by simp only [go_sem, Nat.reduceAdd, Nat.reduceSub, Nat.reduceMul, Nat.reduceLT, Nat.reduceLeDiff, Nat.reduceEqDiff, Nat.reduceBEq, Int.reduceToNat, Int.reduceLT, Int.reduceLE, Int.reduceEq, Int.reduceNe, Int.reduceAdd, Int.reduceSub, Int.reduceMul, Int.reduceNeg, ↓reduceIte, reduceCtorEq, w1, w2, w3] <;> first | rfl | decide) ?_; simp only [go_sem, Nat.reduceAdd, Nat.reduceSub, Nat.reduceMul, Nat.reduceLT, Nat.reduceLeDiff, Nat.reduceEqDiff, Nat.reduceBEq, Int.reduceToNat, Int.reduceLT, Int.reduceLE, Int.reduceEq, Int.reduceNe, Int.reduceAdd, Int.reduceSub, Int.reduceMul, Int.reduceNeg, ↓reduceIte, reduceCtorEq, w1, w2, w3])
  (refine CallA.pure (cN) (by simp only [go_sem, Nat.reduceAdd, Nat.reduceSub, Nat.reduceMul, Nat.reduceLT, Nat.reduceLeDiff, Nat.reduceEqDiff, Nat.reduceBEq, Int.reduceToNat, Int.reduceLT, Int.reduceLE, Int.reduceEq, Int.reduceNe, Int.reduceAdd, Int.reduceSub, Int.reduceMul, Int.reduceNeg, ↓reduceIte, reduceCtorEq, Rcv.pv] <;> first | rfl | decide) ?_; simp only [go_sem, Nat.reduceAdd, Nat.reduceSub, Nat.reduceMul, Nat.reduceLT, Nat.reduceLeDiff, Nat.reduceEqDiff, Nat.reduceBEq, Int.reduceToNat, Int.reduceLT, Int.reduceLE, Int.reduceEq, Int.reduceNe, Int.reduceAdd, Int.reduceSub, Int.reduceMul, Int.reduceNeg, ↓reduceIte, reduceCtorEq, Rcv.pv])
  refine wpA_loop (tpI t bl gp g) ⟨_, _, ?_, 0, 0, freshR 4095 bl.toNat g, by omega, rfl, hf, .inl rfl, ⟨rfl, rfl, rfl⟩, rfl, by simp [gosN], rfl⟩ ?_
  · simp only [go_sem, Nat.reduceAdd, Nat.reduceSub, Nat.reduceMul, Nat.reduceLT, Nat.reduceLeDiff, Nat.reduceEqDiff, Nat.reduceBEq, Int.reduceToNat, Int.reduceLT, Int.reduceLE, Int.reduceEq, Int.reduceNe, Int.reduceAdd, Int.reduceSub, Int.reduceMul, Int.reduceNeg, ↓reduceIte, reduceCtorEq, tpSt, Int.natCast_zero]
  rintro m st ⟨i, c, r, hi, rfl, hrf, hW, ⟨hc1, hc2, hc3⟩, hrN, hcc, rfl⟩
  have hcle : c ≤ i := by
    rw [hcc]
    split
    · exact gosN_le _ _ _
    · omega
  by_cases hc : i < partsN t
  rotate_left 1
  · have g1 : decide ((i : Int) < ((partsL t).length : Int)) = false := decide_eq_false (by omega)
    have hie : i = partsN t := by omega
    have hR : RAt t (partsN t) r := by
      rcases hW with rfl | ⟨hi1, h, _⟩
      · omega
      · rw [← hie]; exact h
    have hst : r.st = 3 := by rw [hR.st, if_pos rfl]
    have hgot : r.got = t := by rw [hR.got, if_pos rfl]
    have cX := textT_calls r
    rw [if_pos hst, hgot, show decide (r.st = 3) = true by simp [hst]] at cX
    have hmul : (t.length / 7 + 1) * (g + 2) ≤ 43 * 10 := Nat.mul_le_mul (by omega) (by omega)
    obtain ⟨s, q, n, hpl, p1, p2, p3, p4, p5, p6, p7⟩ := play_passes (t := t) (by omega) (by omega) (show (t.length : Int) ≤ 4095 by omega) (by omega : bl.toNat ≤ 255) (by omega : g ≤ 100) (by omega)
    have hq : q = r := by rw [p7, hrN, hie]
    subst hq
    have cA := play_at (by omega) hpl
    have g2 : decide (s.st = 3) = true := by simp [p1]
    have cS := sameB_self t
    have cG := sameB_self q.got
    simp only [go_sem, Nat.reduceAdd, Nat.reduceSub, Nat.reduceMul, Nat.reduceLT, Nat.reduceLeDiff, Nat.reduceEqDiff, Nat.reduceBEq, Int.reduceToNat, Int.reduceLT, Int.reduceLE, Int.reduceEq, Int.reduceNe, Int.reduceAdd, Int.reduceSub, Int.reduceMul, Int.reduceNeg, ↓reduceIte, reduceCtorEq, tpSt, g1]
    by_cases h7 : 7 < t.length
    · have g3 : decide ((t.length : Int) > 7) = true := decide_eq_true (by omega)
      have hpN : partsN t = t.length / 7 + 1 := by rw [partsN, if_neg (by omega), Nat.add_comm]
      have hgo := gosN_all (t.length / 7) bl.toNat
      rw [if_neg (by omega)] at hgo
      rw [if_pos h7, hie, hpN, hgo] at hcc
      by_cases hb0 : bl.toNat = 0
      · rw [if_pos hb0] at hcc
        have g4 : decide ((bl.toNat : Int) > 0) = false := decide_eq_false (by omega)
        subst hcc
        simp only [go_sem, Nat.reduceAdd, Nat.reduceSub, Nat.reduceMul, Nat.reduceLT, Nat.reduceLeDiff, Nat.reduceEqDiff, Nat.reduceBEq, Int.reduceToNat, Int.reduceLT, Int.reduceLE, Int.reduceEq, Int.reduceNe, Int.reduceAdd, Int.reduceSub, Int.reduceMul, Int.reduceNeg, ↓reduceIte, reduceCtorEq, g3, g4]
        (refine CallA.pure (cX) (by simp only [go_sem, Nat.reduceAdd, Nat.reduceSub, Nat.reduceMul, Nat.reduceLT, Nat.reduceLeDiff, Nat.reduceEqDiff, Nat.reduceBEq, Int.reduceToNat, Int.reduceLT, Int.reduceLE, Int.reduceEq, Int.reduceNe, Int.reduceAdd, Int.reduceSub, Int.reduceMul, Int.reduceNeg, ↓reduceIte, reduceCtorEq, Rcv.pv] <;> first | rfl | decide) ?_; simp only [go_sem, Nat.reduceAdd, Nat.reduceSub, Nat.reduceMul, Nat.reduceLT, Nat.reduceLeDiff, Nat.reduceEqDiff, Nat.reduceBEq, Int.reduceToNat, Int.reduceLT, Int.reduceLE, Int.reduceEq, Int.reduceNe, Int.reduceAdd, Int.reduceSub, Int.reduceMul, Int.reduceNeg, ↓reduceIte, reduceCtorEq, Rcv.pv])
        (refine CallA.pure (cA) (by simp only [go_sem, Nat.reduceAdd, Nat.reduceSub, Nat.reduceMul, Nat.reduceLT, Nat.reduceLeDiff, Nat.reduceEqDiff, Nat.reduceBEq, Int.reduceToNat, Int.reduceLT, Int.reduceLE, Int.reduceEq, Int.reduceNe, Int.reduceAdd, Int.reduceSub, Int.reduceMul, Int.reduceNeg, ↓reduceIte, reduceCtorEq, Rcv.pv, Snd.pv, w1] <;> first | rfl | decide) ?_; simp only [go_sem, Nat.reduceAdd, Nat.reduceSub, Nat.reduceMul, Nat.reduceLT, Nat.reduceLeDiff, Nat.reduceEqDiff, Nat.reduceBEq, Int.reduceToNat, Int.reduceLT, Int.reduceLE, Int.reduceEq, Int.reduceNe, Int.reduceAdd, Int.reduceSub, Int.reduceMul, Int.reduceNeg, ↓reduceIte, reduceCtorEq, Rcv.pv, Snd.pv, w1])
        (refine CallA.pure (cS) (by simp only [go_sem, Nat.reduceAdd, Nat.reduceSub, Nat.reduceMul, Nat.reduceLT, Nat.reduceLeDiff, Nat.reduceEqDiff, Nat.reduceBEq, Int.reduceToNat, Int.reduceLT, Int.reduceLE, Int.reduceEq, Int.reduceNe, Int.reduceAdd, Int.reduceSub, Int.reduceMul, Int.reduceNeg, ↓reduceIte, reduceCtorEq, g2] <;> first | rfl | decide) ?_; simp only [go_sem, Nat.reduceAdd, Nat.reduceSub, Nat.reduceMul, Nat.reduceLT, Nat.reduceLeDiff, Nat.reduceEqDiff, Nat.reduceBEq, Int.reduceToNat, Int.reduceLT, Int.reduceLE, Int.reduceEq, Int.reduceNe, Int.reduceAdd, Int.reduceSub, Int.reduceMul, Int.reduceNeg, ↓reduceIte, reduceCtorEq, g2])
        (refine CallA.pure (cG) (by simp only [go_sem, Nat.reduceAdd, Nat.reduceSub, Nat.reduceMul, Nat.reduceLT, Nat.reduceLeDiff, Nat.reduceEqDiff, Nat.reduceBEq, Int.reduceToNat, Int.reduceLT, Int.reduceLE, Int.reduceEq, Int.reduceNe, Int.reduceAdd, Int.reduceSub, Int.reduceMul, Int.reduceNeg, ↓reduceIte, reduceCtorEq, Try.ntmps11, Try.results11] <;> first | rfl | decide) ?_; simp only [go_sem, Nat.reduceAdd, Nat.reduceSub, Nat.reduceMul, Nat.reduceLT, Nat.reduceLeDiff, Nat.reduceEqDiff, Nat.reduceBEq, Int.reduceToNat, Int.reduceLT, Int.reduceLE, Int.reduceEq, Int.reduceNe, Int.reduceAdd, Int.reduceSub, Int.reduceMul, Int.reduceNeg, ↓reduceIte, reduceCtorEq, Try.ntmps11, Try.results11])
      · rw [if_neg hb0] at hcc
        have g4 : decide ((bl.toNat : Int) > 0) = true := decide_eq_true (by omega)
        have g4' : ¬ ((bl.toNat : Int) = 0) := by omega
        have w5 : IntKind.wrap .i64 ((t.length : Int).tdiv 7) = ((t.length / 7 : Nat) : Int) := by
          show IntKind.wrap .i64 ((t.length / 7 : Nat) : Int) = _
          exact wrapI64 (by omega)
        have w6 : IntKind.wrap .i64 (((t.length / 7 : Nat) : Int) - 1) = ((t.length / 7 - 1 : Nat) : Int) := by rw [wrapI64 (by omega)]; omega
        have hdl : (t.length / 7 - 1) / bl.toNat ≤ t.length / 7 - 1 := Nat.div_le_self _ _
        have w7 : IntKind.wrap .i64 (((t.length / 7 - 1 : Nat) : Int).tdiv (bl.toNat : Int)) = (((t.length / 7 - 1) / bl.toNat : Nat) : Int) := by
          show IntKind.wrap .i64 (((t.length / 7 - 1) / bl.toNat : Nat) : Int) = _
          exact wrapI64 (by omega)
        have w8 : IntKind.wrap .i64 (1 + (((t.length / 7 - 1) / bl.toNat : Nat) : Int)) = ((1 + (t.length / 7 - 1) / bl.toNat : Nat) : Int) := by rw [wrapI64 (by omega)]; omega
        rw [← hcc] at w8
        simp only [go_sem, Nat.reduceAdd, Nat.reduceSub, Nat.reduceMul, Nat.reduceLT, Nat.reduceLeDiff, Nat.reduceEqDiff, Nat.reduceBEq, Int.reduceToNat, Int.reduceLT, Int.reduceLE, Int.reduceEq, Int.reduceNe, Int.reduceAdd, Int.reduceSub, Int.reduceMul, Int.reduceNeg, ↓reduceIte, reduceCtorEq, g3, g4, g4', w1, w5, w6, w7, w8]
        (refine CallA.pure (cX) (by simp only [go_sem, Nat.reduceAdd, Nat.reduceSub, Nat.reduceMul, Nat.reduceLT, Nat.reduceLeDiff, Nat.reduceEqDiff, Nat.reduceBEq, Int.reduceToNat, Int.reduceLT, Int.reduceLE, Int.reduceEq, Int.reduceNe, Int.reduceAdd, Int.reduceSub, Int.reduceMul, Int.reduceNeg, ↓reduceIte, reduceCtorEq, Rcv.pv] <;> first | rfl | decide) ?_; simp only [go_sem, Nat.reduceAdd, Nat.reduceSub, Nat.reduceMul, Nat.reduceLT, Nat.reduceLeDiff, Nat.reduceEqDiff, Nat.reduceBEq, Int.reduceToNat, Int.reduceLT, Int.reduceLE, Int.reduceEq, Int.reduceNe, Int.reduceAdd, Int.reduceSub, Int.reduceMul, Int.reduceNeg, ↓reduceIte, reduceCtorEq, Rcv.pv])
        (refine CallA.pure (cA) (by simp only [go_sem, Nat.reduceAdd, Nat.reduceSub, Nat.reduceMul, Nat.reduceLT, Nat.reduceLeDiff, Nat.reduceEqDiff, Nat.reduceBEq, Int.reduceToNat, Int.reduceLT, Int.reduceLE, Int.reduceEq, Int.reduceNe, Int.reduceAdd, Int.reduceSub, Int.reduceMul, Int.reduceNeg, ↓reduceIte, reduceCtorEq, Rcv.pv, Snd.pv, w1] <;> first | rfl | decide) ?_; simp only [go_sem, Nat.reduceAdd, Nat.reduceSub, Nat.reduceMul, Nat.reduceLT, Nat.reduceLeDiff, Nat.reduceEqDiff, Nat.reduceBEq, Int.reduceToNat, Int.reduceLT, Int.reduceLE, Int.reduceEq, Int.reduceNe, Int.reduceAdd, Int.reduceSub, Int.reduceMul, Int.reduceNeg, ↓reduceIte, reduceCtorEq, Rcv.pv, Snd.pv, w1])
        (refine CallA.pure (cS) (by simp only [go_sem, Nat.reduceAdd, Nat.reduceSub, Nat.reduceMul, Nat.reduceLT, Nat.reduceLeDiff, Nat.reduceEqDiff, Nat.reduceBEq, Int.reduceToNat, Int.reduceLT, Int.reduceLE, Int.reduceEq, Int.reduceNe, Int.reduceAdd, Int.reduceSub, Int.reduceMul, Int.reduceNeg, ↓reduceIte, reduceCtorEq, g2] <;> first | rfl | decide) ?_; simp only [go_sem, Nat.reduceAdd, Nat.reduceSub, Nat.reduceMul, Nat.reduceLT, Nat.reduceLeDiff, Nat.reduceEqDiff, Nat.reduceBEq, Int.reduceToNat, Int.reduceLT, Int.reduceLE, Int.reduceEq, Int.reduceNe, Int.reduceAdd, Int.reduceSub, Int.reduceMul, Int.reduceNeg, ↓reduceIte, reduceCtorEq, g2])
        (refine CallA.pure (cG) (by simp only [go_sem, Nat.reduceAdd, Nat.reduceSub, Nat.reduceMul, Nat.reduceLT, Nat.reduceLeDiff, Nat.reduceEqDiff, Nat.reduceBEq, Int.reduceToNat, Int.reduceLT, Int.reduceLE, Int.reduceEq, Int.reduceNe, Int.reduceAdd, Int.reduceSub, Int.reduceMul, Int.reduceNeg, ↓reduceIte, reduceCtorEq, Try.ntmps11, Try.results11] <;> first | rfl | decide) ?_; simp only [go_sem, Nat.reduceAdd, Nat.reduceSub, Nat.reduceMul, Nat.reduceLT, Nat.reduceLeDiff, Nat.reduceEqDiff, Nat.reduceBEq, Int.reduceToNat, Int.reduceLT, Int.reduceLE, Int.reduceEq, Int.reduceNe, Int.reduceAdd, Int.reduceSub, Int.reduceMul, Int.reduceNeg, ↓reduceIte, reduceCtorEq, Try.ntmps11, Try.results11])
    · have g3 : decide ((t.length : Int) > 7) = false := decide_eq_false (by omega)
      rw [if_neg h7] at hcc
      subst hcc
      simp only [go_sem, Nat.reduceAdd, Nat.reduceSub, Nat.reduceMul, Nat.reduceLT, Nat.reduceLeDiff, Nat.reduceEqDiff, Nat.reduceBEq, Int.reduceToNat, Int.reduceLT, Int.reduceLE, Int.reduceEq, Int.reduceNe, Int.reduceAdd, Int.reduceSub, Int.reduceMul, Int.reduceNeg, ↓reduceIte, reduceCtorEq, g3]
      (refine CallA.pure (cX) (by simp only [go_sem, Nat.reduceAdd, Nat.reduceSub, Nat.reduceMul, Nat.reduceLT, Nat.reduceLeDiff, Nat.reduceEqDiff, Nat.reduceBEq, Int.reduceToNat, Int.reduceLT, Int.reduceLE, Int.reduceEq, Int.reduceNe, Int.reduceAdd, Int.reduceSub, Int.reduceMul, Int.reduceNeg, ↓reduceIte, reduceCtorEq, Rcv.pv] <;> first | rfl | decide) ?_; simp only [go_sem, Nat.reduceAdd, Nat.reduceSub, Nat.reduceMul, Nat.reduceLT, Nat.reduceLeDiff, Nat.reduceEqDiff, Nat.reduceBEq, Int.reduceToNat, Int.reduceLT, Int.reduceLE, Int.reduceEq, Int.reduceNe, Int.reduceAdd, Int.reduceSub, Int.reduceMul, Int.reduceNeg, ↓reduceIte, reduceCtorEq, Rcv.pv])
      (refine CallA.pure (cA) (by simp only [go_sem, Nat.reduceAdd, Nat.reduceSub, Nat.reduceMul, Nat.reduceLT, Nat.reduceLeDiff, Nat.reduceEqDiff, Nat.reduceBEq, Int.reduceToNat, Int.reduceLT, Int.reduceLE, Int.reduceEq, Int.reduceNe, Int.reduceAdd, Int.reduceSub, Int.reduceMul, Int.reduceNeg, ↓reduceIte, reduceCtorEq, Rcv.pv, Snd.pv, w1] <;> first | rfl | decide) ?_; simp only [go_sem, Nat.reduceAdd, Nat.reduceSub, Nat.reduceMul, Nat.reduceLT, Nat.reduceLeDiff, Nat.reduceEqDiff, Nat.reduceBEq, Int.reduceToNat, Int.reduceLT, Int.reduceLE, Int.reduceEq, Int.reduceNe, Int.reduceAdd, Int.reduceSub, Int.reduceMul, Int.reduceNeg, ↓reduceIte, reduceCtorEq, Rcv.pv, Snd.pv, w1])
      (refine CallA.pure (cS) (by simp only [go_sem, Nat.reduceAdd, Nat.reduceSub, Nat.reduceMul, Nat.reduceLT, Nat.reduceLeDiff, Nat.reduceEqDiff, Nat.reduceBEq, Int.reduceToNat, Int.reduceLT, Int.reduceLE, Int.reduceEq, Int.reduceNe, Int.reduceAdd, Int.reduceSub, Int.reduceMul, Int.reduceNeg, ↓reduceIte, reduceCtorEq, g2] <;> first | rfl | decide) ?_; simp only [go_sem, Nat.reduceAdd, Nat.reduceSub, Nat.reduceMul, Nat.reduceLT, Nat.reduceLeDiff, Nat.reduceEqDiff, Nat.reduceBEq, Int.reduceToNat, Int.reduceLT, Int.reduceLE, Int.reduceEq, Int.reduceNe, Int.reduceAdd, Int.reduceSub, Int.reduceMul, Int.reduceNeg, ↓reduceIte, reduceCtorEq, g2])
      (refine CallA.pure (cG) (by simp only [go_sem, Nat.reduceAdd, Nat.reduceSub, Nat.reduceMul, Nat.reduceLT, Nat.reduceLeDiff, Nat.reduceEqDiff, Nat.reduceBEq, Int.reduceToNat, Int.reduceLT, Int.reduceLE, Int.reduceEq, Int.reduceNe, Int.reduceAdd, Int.reduceSub, Int.reduceMul, Int.reduceNeg, ↓reduceIte, reduceCtorEq, Try.ntmps11, Try.results11] <;> first | rfl | decide) ?_; simp only [go_sem, Nat.reduceAdd, Nat.reduceSub, Nat.reduceMul, Nat.reduceLT, Nat.reduceLeDiff, Nat.reduceEqDiff, Nat.reduceBEq, Int.reduceToNat, Int.reduceLT, Int.reduceLE, Int.reduceEq, Int.reduceNe, Int.reduceAdd, Int.reduceSub, Int.reduceMul, Int.reduceNeg, ↓reduceIte, reduceCtorEq, Try.ntmps11, Try.results11])
  have g1 : decide ((i : Int) < ((partsL t).length : Int)) = true := decide_eq_true (by omega)
  have g1' : (i : Int) < ((partsL t).length : Int) := by omega
  have g0 : (0 : Int) ≤ (i : Int) := by omega
  have hw := wrapIN (i := i) (by omega)
  have hwc := wrapIN (i := c) (by omega)
  obtain ⟨pi, hpi⟩ : ∃ pi : Pdu, (partsL t)[i]? = some pi := ⟨_, List.getElem?_eq_getElem (by omega)⟩
  have hpr := parts_right (t := t) (by omega) (by omega) pi (List.mem_of_getElem? hpi)
  have hrow : (pduRows (partsL t)).getD i [] = pi.cells := by simp [pduRows, List.getD_eq_getElem?_getD, hpi]
  obtain ⟨r', a, b, q1, q2, q3, q4, q5, q6⟩ := part_take (t := t) (by omega) (by omega) hc1 hc2 hc3 hW hc hrN
  rw [hpi] at q1
  simp only [Option.getD_some] at q1
  have hr'f : r'.fine := by have := fine_recv hrf (p := pi) hpr; rw [q1] at this; exact this
  have cT := takeT_at q1 hrf hpr
  have fin : ∀ c' : Nat, c' = (if b then c + 1 else c) → ∀ st', Weak st' (tpSt t bl gp g r' c' (i + 1)) → ∃ m' s'', m' < partsN t - i ∧ Weak st' s'' ∧ tpI t bl gp g m' s'' := by
    intro c' hc' st' h
    refine ⟨partsN t - (i + 1), _, by omega, h, i + 1, c', r', by omega, rfl, hr'f, q2, q3, q6, ?_, rfl⟩
    rw [hc', q4, hcc]
    by_cases h7 : 7 < t.length
    · rw [if_pos h7, if_pos h7]
      show _ = gosN _ _ i + _
      by_cases h : i < t.length / 7 ∧ againAt bl.toNat i
      · rw [if_pos h, if_pos (decide_eq_true ⟨h.1, h7, h.2⟩)]
      · rw [if_neg h, if_neg (by rw [decide_eq_true_eq]; rintro ⟨x, _, y⟩; exact h ⟨x, y⟩)]
        rfl
    · rw [if_neg h7, if_neg h7, if_neg (by rw [decide_eq_true_eq]; omega)]
  clear q4
  cases b with
  | false =>
    rw [if_neg (by simp)] at q5
    subst q5
    simp only [go_sem, Nat.reduceAdd, Nat.reduceSub, Nat.reduceMul, Nat.reduceLT, Nat.reduceLeDiff, Nat.reduceEqDiff, Nat.reduceBEq, Int.reduceToNat, Int.reduceLT, Int.reduceLE, Int.reduceEq, Int.reduceNe, Int.reduceAdd, Int.reduceSub, Int.reduceMul, Int.reduceNeg, ↓reduceIte, reduceCtorEq, tpSt, g1, g1', g0, Int.toNat_natCast, hrow]
    (refine callD_pure (cT) (by simp only [go_sem, Nat.reduceAdd, Nat.reduceSub, Nat.reduceMul, Nat.reduceLT, Nat.reduceLeDiff, Nat.reduceEqDiff, Nat.reduceBEq, Int.reduceToNat, Int.reduceLT, Int.reduceLE, Int.reduceEq, Int.reduceNe, Int.reduceAdd, Int.reduceSub, Int.reduceMul, Int.reduceNeg, ↓reduceIte, reduceCtorEq, Rcv.pv, Pdu.pv] <;> first | rfl | decide) ?_; simp only [go_sem, Nat.reduceAdd, Nat.reduceSub, Nat.reduceMul, Nat.reduceLT, Nat.reduceLeDiff, Nat.reduceEqDiff, Nat.reduceBEq, Int.reduceToNat, Int.reduceLT, Int.reduceLE, Int.reduceEq, Int.reduceNe, Int.reduceAdd, Int.reduceSub, Int.reduceMul, Int.reduceNeg, ↓reduceIte, reduceCtorEq, Rcv.pv, Pdu.pv])
    (refine endD_intro (by decide +kernel) ?_; simp only [go_sem, Nat.reduceAdd, Nat.reduceSub, Nat.reduceMul, Nat.reduceLT, Nat.reduceLeDiff, Nat.reduceEqDiff, Nat.reduceBEq, Int.reduceToNat, Int.reduceLT, Int.reduceLE, Int.reduceEq, Int.reduceNe, Int.reduceAdd, Int.reduceSub, Int.reduceMul, Int.reduceNeg, ↓reduceIte, reduceCtorEq, hw])
    refine fin c rfl _ ?_
    simp only [go_sem, Nat.reduceAdd, Nat.reduceSub, Nat.reduceMul, Nat.reduceLT, Nat.reduceLeDiff, Nat.reduceEqDiff, Nat.reduceBEq, Int.reduceToNat, Int.reduceLT, Int.reduceLE, Int.reduceEq, Int.reduceNe, Int.reduceAdd, Int.reduceSub, Int.reduceMul, Int.reduceNeg, ↓reduceIte, reduceCtorEq, tpSt]
  | true =>
    rw [if_pos rfl] at q5
    subst q5
    have cG := right_calls ⟨4, 0, 0, 0, bl.toNat, g, []⟩
    have hgr : Pdu.right ⟨4, 0, 0, 0, bl.toNat, g, []⟩ = true := by simp [Pdu.right]; omega
    rw [hgr] at cG
    simp only [go_sem, Nat.reduceAdd, Nat.reduceSub, Nat.reduceMul, Nat.reduceLT, Nat.reduceLeDiff, Nat.reduceEqDiff, Nat.reduceBEq, Int.reduceToNat, Int.reduceLT, Int.reduceLE, Int.reduceEq, Int.reduceNe, Int.reduceAdd, Int.reduceSub, Int.reduceMul, Int.reduceNeg, ↓reduceIte, reduceCtorEq, tpSt, g1, g1', g0, Int.toNat_natCast, hrow]
    (refine callD_pure (cT) (by simp only [go_sem, Nat.reduceAdd, Nat.reduceSub, Nat.reduceMul, Nat.reduceLT, Nat.reduceLeDiff, Nat.reduceEqDiff, Nat.reduceBEq, Int.reduceToNat, Int.reduceLT, Int.reduceLE, Int.reduceEq, Int.reduceNe, Int.reduceAdd, Int.reduceSub, Int.reduceMul, Int.reduceNeg, ↓reduceIte, reduceCtorEq, Rcv.pv, Pdu.pv] <;> first | rfl | decide) ?_; simp only [go_sem, Nat.reduceAdd, Nat.reduceSub, Nat.reduceMul, Nat.reduceLT, Nat.reduceLeDiff, Nat.reduceEqDiff, Nat.reduceBEq, Int.reduceToNat, Int.reduceLT, Int.reduceLE, Int.reduceEq, Int.reduceNe, Int.reduceAdd, Int.reduceSub, Int.reduceMul, Int.reduceNeg, ↓reduceIte, reduceCtorEq, Rcv.pv, Pdu.pv])
    (refine endD_intro (by decide +kernel) ?_; simp only [go_sem, Nat.reduceAdd, Nat.reduceSub, Nat.reduceMul, Nat.reduceLT, Nat.reduceLeDiff, Nat.reduceEqDiff, Nat.reduceBEq, Int.reduceToNat, Int.reduceLT, Int.reduceLE, Int.reduceEq, Int.reduceNe, Int.reduceAdd, Int.reduceSub, Int.reduceMul, Int.reduceNeg, ↓reduceIte, reduceCtorEq, hw, w1])
    (refine CallA.pure (cG) (by simp only [go_sem, Nat.reduceAdd, Nat.reduceSub, Nat.reduceMul, Nat.reduceLT, Nat.reduceLeDiff, Nat.reduceEqDiff, Nat.reduceBEq, Int.reduceToNat, Int.reduceLT, Int.reduceLE, Int.reduceEq, Int.reduceNe, Int.reduceAdd, Int.reduceSub, Int.reduceMul, Int.reduceNeg, ↓reduceIte, reduceCtorEq, Pdu.pv, hw, hwc] <;> first | rfl | decide) ?_; simp only [go_sem, Nat.reduceAdd, Nat.reduceSub, Nat.reduceMul, Nat.reduceLT, Nat.reduceLeDiff, Nat.reduceEqDiff, Nat.reduceBEq, Int.reduceToNat, Int.reduceLT, Int.reduceLE, Int.reduceEq, Int.reduceNe, Int.reduceAdd, Int.reduceSub, Int.reduceMul, Int.reduceNeg, ↓reduceIte, reduceCtorEq, Pdu.pv, hw, hwc])
    refine fin (c + 1) rfl _ ?_
    simp only [go_sem, Nat.reduceAdd, Nat.reduceSub, Nat.reduceMul, Nat.reduceLT, Nat.reduceLeDiff, Nat.reduceEqDiff, Nat.reduceBEq, Int.reduceToNat, Int.reduceLT, Int.reduceLE, Int.reduceEq, Int.reduceNe, Int.reduceAdd, Int.reduceSub, Int.reduceMul, Int.reduceNeg, ↓reduceIte, reduceCtorEq, tpSt]
end Go.Proofs.Ytpnhnobnjcknjaa.Pe
