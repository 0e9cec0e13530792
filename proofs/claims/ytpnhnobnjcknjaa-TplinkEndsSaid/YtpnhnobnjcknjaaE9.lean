import Derived.Test.YtpnhnobnjcknjaaE8
namespace Go.Proofs.Ytpnhnobnjcknjaa.Pe
open Go.Pe Go.RowKit
set_option maxRecDepth 20000
set_option maxHeartbeats 4000000
set_option linter.unusedSimpArgs false
set_option linter.unusedVariables false
def prSt (fates : List Int) (L : Lnk) (n : Nat) : St := ⟨85, [(4, intsPV fates), (10, .ptr 0 0), (11, .ptr 1 0), (13, .ptr 2 0), (14, .ptr 4 0), (17, .ptr 8 0), (18, PI n)],
  [(0, .box 48 Snd.zero.cells), (1, .box 29 rcv0'.cells), (2, .box 29 L.r.cells), (4, .box 48 L.s.cells), (8, .box 106 (bothC L.a L.b L.m))], 40, 0⟩
def prI (fates : List Int) (X : Lnk × Nat) (m : Nat) (st : St) : Prop := ∃ (n : Nat) (L : Lnk), n ≤ 100000 ∧ m = 100000 - n ∧ LInv L n ∧ runL fates (100000 - n) n L = X ∧ st = prSt fates L n
theorem playRef_calls (t : List UInt8) (room block gap : Int) (fates : List Int) (hb : 0 ≤ block ∧ block ≤ 255) : PureCalls Try.prog 46 [bytesPV t, PI room, PI block, PI gap, intsPV fates] (.tup [(playV t room block gap fates).1.pv, (playV t room block gap fates).2.1.pv, PI (playV t room block gap fates).2.2]) := by
  refine PureCalls.of tabOK mixed Try.func46 rfl rfl (by decide +kernel) (by simp [Try.ntmps46]) ?_
  have cN := newV_calls room block gap
  have cS := newR_calls t
  simp only [go_sem, Nat.reduceAdd, Nat.reduceSub, Nat.reduceMul, Nat.reduceLT, Nat.reduceLeDiff, Nat.reduceEqDiff, Nat.reduceBEq, Int.reduceToNat, Int.reduceLT, Int.reduceLE, Int.reduceEq, Int.reduceNe, Int.reduceAdd, Int.reduceSub, Int.reduceMul, Int.reduceNeg, ↓reduceIte, reduceCtorEq, Try.ntmps46, Try.results46]
  (refine CallA.pure (cN) (by simp only [go_sem, Nat.reduceAdd, Nat.reduceSub, Nat.reduceMul, Nat.reduceLT, Nat.reduceLeDiff, Nat.reduceEqDiff, Nat.reduceBEq, Int.reduceToNat, Int.reduceLT, Int.reduceLE, Int.reduceEq, Int.reduceNe, Int.reduceAdd, Int.reduceSub, Int.reduceMul, Int.reduceNeg, ↓reduceIte, reduceCtorEq, freshR, Rcv.pv] <;> first | rfl | decide) ?_; simp only [go_sem, Nat.reduceAdd, Nat.reduceSub, Nat.reduceMul, Nat.reduceLT, Nat.reduceLeDiff, Nat.reduceEqDiff, Nat.reduceBEq, Int.reduceToNat, Int.reduceLT, Int.reduceLE, Int.reduceEq, Int.reduceNe, Int.reduceAdd, Int.reduceSub, Int.reduceMul, Int.reduceNeg, ↓reduceIte, reduceCtorEq, freshR, Rcv.pv])
  by_cases he : newE t = 0
  rotate_left 1
  · have f1 : decide (newE t = 0) = false := by simpa using he
    (refine CallA.pure (cS) (by simp only [go_sem, Nat.reduceAdd, Nat.reduceSub, Nat.reduceMul, Nat.reduceLT, Nat.reduceLeDiff, Nat.reduceEqDiff, Nat.reduceBEq, Int.reduceToNat, Int.reduceLT, Int.reduceLE, Int.reduceEq, Int.reduceNe, Int.reduceAdd, Int.reduceSub, Int.reduceMul, Int.reduceNeg, ↓reduceIte, reduceCtorEq, Snd.pv, Pdu.pv, f1, Try.ntmps46, Try.results46] <;> first | rfl | decide) ?_; simp only [go_sem, Nat.reduceAdd, Nat.reduceSub, Nat.reduceMul, Nat.reduceLT, Nat.reduceLeDiff, Nat.reduceEqDiff, Nat.reduceBEq, Int.reduceToNat, Int.reduceLT, Int.reduceLE, Int.reduceEq, Int.reduceNe, Int.reduceAdd, Int.reduceSub, Int.reduceMul, Int.reduceNeg, ↓reduceIte, reduceCtorEq, Snd.pv, Pdu.pv, f1, Try.ntmps46, Try.results46])
    simp only [playV, if_neg he]
    (refine endD_intro (by decide +kernel) ?_; simp only [go_sem, Nat.reduceAdd, Nat.reduceSub, Nat.reduceMul, Nat.reduceLT, Nat.reduceLeDiff, Nat.reduceEqDiff, Nat.reduceBEq, Int.reduceToNat, Int.reduceLT, Int.reduceLE, Int.reduceEq, Int.reduceNe, Int.reduceAdd, Int.reduceSub, Int.reduceMul, Int.reduceNeg, ↓reduceIte, reduceCtorEq, Snd.pv, freshR, Rcv.pv, Try.ntmps46, Try.results46])
  have f1 : decide (newE t = 0) = true := by simpa using he
  rw [he] at cS
  simp only [playV, if_pos he]
  generalize hX : runL fates 100000 0 (startL t room block gap fates) = X
  have hpr := newP_right he
  have hps := new_sound (t := t)
  unfold startL at hX
  generalize newP t = p0 at cS hX hpr
  generalize newS t = s0 at cS hX hps
  have hrf : (freshR room block gap).fine := by simp [freshR, Rcv.fine]; omega
  have hI0 : LInv ⟨s0, freshR room block gap, putW ⟨[], []⟩ p0 (fateL fates 0), ⟨[], []⟩, 1⟩ 0 := by
    refine ⟨hps, hrf, putW_good ⟨fun p hp => by simp at hp, fun p hp => by simp at hp⟩ hpr _, 0, ?_, by simp [Way.len], by simp⟩
    have := putW_len ⟨[], []⟩ p0 (fateL fates 0)
    have e0 : Way.len ⟨[], []⟩ = 0 := rfl
    show Way.len (putW _ _ _) + 0 ≤ _
    omega
  have cT := thereR_calls ⟨[], []⟩ ⟨[], []⟩ 0 p0 fates (by simp [Way.len]) (by omega)
  (refine CallA.pure (cS) (by simp only [go_sem, Nat.reduceAdd, Nat.reduceSub, Nat.reduceMul, Nat.reduceLT, Nat.reduceLeDiff, Nat.reduceEqDiff, Nat.reduceBEq, Int.reduceToNat, Int.reduceLT, Int.reduceLE, Int.reduceEq, Int.reduceNe, Int.reduceAdd, Int.reduceSub, Int.reduceMul, Int.reduceNeg, ↓reduceIte, reduceCtorEq, Snd.pv, Pdu.pv] <;> first | rfl | decide) ?_; simp only [go_sem, Nat.reduceAdd, Nat.reduceSub, Nat.reduceMul, Nat.reduceLT, Nat.reduceLeDiff, Nat.reduceEqDiff, Nat.reduceBEq, Int.reduceToNat, Int.reduceLT, Int.reduceLE, Int.reduceEq, Int.reduceNe, Int.reduceAdd, Int.reduceSub, Int.reduceMul, Int.reduceNeg, ↓reduceIte, reduceCtorEq, Snd.pv, Pdu.pv])
  (refine CallA.pure (cT) (by simp only [go_sem, Nat.reduceAdd, Nat.reduceSub, Nat.reduceMul, Nat.reduceLT, Nat.reduceLeDiff, Nat.reduceEqDiff, Nat.reduceBEq, Int.reduceToNat, Int.reduceLT, Int.reduceLE, Int.reduceEq, Int.reduceNe, Int.reduceAdd, Int.reduceSub, Int.reduceMul, Int.reduceNeg, ↓reduceIte, reduceCtorEq, pduRows_nil] <;> first | rfl | decide) ?_; simp only [go_sem, Nat.reduceAdd, Nat.reduceSub, Nat.reduceMul, Nat.reduceLT, Nat.reduceLeDiff, Nat.reduceEqDiff, Nat.reduceBEq, Int.reduceToNat, Int.reduceLT, Int.reduceLE, Int.reduceEq, Int.reduceNe, Int.reduceAdd, Int.reduceSub, Int.reduceMul, Int.reduceNeg, ↓reduceIte, reduceCtorEq, pduRows_nil])
  refine wpA_loop (prI fates X) ⟨_, _, ?_, 0, _, by omega, rfl, hI0, hX, rfl⟩ ?_
  · simp only [go_sem, Nat.reduceAdd, Nat.reduceSub, Nat.reduceMul, Nat.reduceLT, Nat.reduceLeDiff, Nat.reduceEqDiff, Nat.reduceBEq, Int.reduceToNat, Int.reduceLT, Int.reduceLE, Int.reduceEq, Int.reduceNe, Int.reduceAdd, Int.reduceSub, Int.reduceMul, Int.reduceNeg, ↓reduceIte, reduceCtorEq, prSt, Snd.zero, rcv0', rowsB_nil, Int.natCast_zero, freshR] <;> (first | rfl | exact ⟨rfl, rfl⟩ | exact ⟨rfl, rfl, rfl⟩)
  clear hX hI0 cT cS
  rintro m st ⟨n, L, hn, rfl, hI, hX, rfl⟩
  have hI' := hI
  obtain ⟨hss, hrf', hgd, D, hD1, hD2, hD3⟩ := hI
  have hal : L.a.len = L.a.u.length + L.a.h.length := rfl
  have hbl0 : L.b.len = L.b.u.length + L.b.h.length := rfl
  by_cases hc : n < 100000
  rotate_left 1
  · have e : n = 100000 := by omega
    subst e
    rw [Nat.sub_self, runL] at hX
    subst hX
    have f1 : decide (((100000 : Nat) : Int) < 100000) = false := by decide
    simp only [go_sem, Nat.reduceAdd, Nat.reduceSub, Nat.reduceMul, Nat.reduceLT, Nat.reduceLeDiff, Nat.reduceEqDiff, Nat.reduceBEq, Int.reduceToNat, Int.reduceLT, Int.reduceLE, Int.reduceEq, Int.reduceNe, Int.reduceAdd, Int.reduceSub, Int.reduceMul, Int.reduceNeg, ↓reduceIte, reduceCtorEq, prSt, f1]
    (refine endD_intro (by decide +kernel) ?_; simp only [go_sem, Nat.reduceAdd, Nat.reduceSub, Nat.reduceMul, Nat.reduceLT, Nat.reduceLeDiff, Nat.reduceEqDiff, Nat.reduceBEq, Int.reduceToNat, Int.reduceLT, Int.reduceLE, Int.reduceEq, Int.reduceNe, Int.reduceAdd, Int.reduceSub, Int.reduceMul, Int.reduceNeg, ↓reduceIte, reduceCtorEq, Try.ntmps46, Try.results46])
  have f1 : decide ((n : Int) < 100000) = true := by simp; omega
  obtain ⟨k, hk⟩ : ∃ k, 100000 - n = k + 1 := ⟨100000 - n - 1, by omega⟩
  rw [hk, runL] at hX
  have hw := wrapIN (i := n) (by omega)
  have cTk := tickRef_calls fates L hss hrf' hgd (by omega) (by omega) (by omega)
  by_cases h3 : L.s.st = 3
  · have g3 : decide (L.s.st = 3) = true := by simp [h3]
    by_cases h2 : L.r.st = 2
    · have g2 : decide (L.r.st = 2) = true := by simp [h2]
      have hnd : doneL L = false := by rw [doneL, g2]; simp
      rw [hnd] at hX
      have fin : ∀ st', Weak st' (prSt fates (tickL fates L) (n + 1)) → ∃ m' s'', m' < 100000 - n ∧ Weak st' s'' ∧ prI fates X m' s'' := fun st' h => ⟨100000 - (n + 1), _, by omega, h, n + 1, tickL fates L, by omega, rfl, hI'.tick, by rw [show 100000 - (n + 1) = k by omega]; simpa using hX, rfl⟩
      simp only [go_sem, Nat.reduceAdd, Nat.reduceSub, Nat.reduceMul, Nat.reduceLT, Nat.reduceLeDiff, Nat.reduceEqDiff, Nat.reduceBEq, Int.reduceToNat, Int.reduceLT, Int.reduceLE, Int.reduceEq, Int.reduceNe, Int.reduceAdd, Int.reduceSub, Int.reduceMul, Int.reduceNeg, ↓reduceIte, reduceCtorEq, prSt, f1, g3, g2]
      (refine CallA.pure (cTk) (by simp only [go_sem, Nat.reduceAdd, Nat.reduceSub, Nat.reduceMul, Nat.reduceLT, Nat.reduceLeDiff, Nat.reduceEqDiff, Nat.reduceBEq, Int.reduceToNat, Int.reduceLT, Int.reduceLE, Int.reduceEq, Int.reduceNe, Int.reduceAdd, Int.reduceSub, Int.reduceMul, Int.reduceNeg, ↓reduceIte, reduceCtorEq, Snd.pv, Rcv.pv, hw] <;> first | rfl | decide) ?_; simp only [go_sem, Nat.reduceAdd, Nat.reduceSub, Nat.reduceMul, Nat.reduceLT, Nat.reduceLeDiff, Nat.reduceEqDiff, Nat.reduceBEq, Int.reduceToNat, Int.reduceLT, Int.reduceLE, Int.reduceEq, Int.reduceNe, Int.reduceAdd, Int.reduceSub, Int.reduceMul, Int.reduceNeg, ↓reduceIte, reduceCtorEq, Snd.pv, Rcv.pv, hw])
      refine fin _ ?_
      simp only [go_sem, Nat.reduceAdd, Nat.reduceSub, Nat.reduceMul, Nat.reduceLT, Nat.reduceLeDiff, Nat.reduceEqDiff, Nat.reduceBEq, Int.reduceToNat, Int.reduceLT, Int.reduceLE, Int.reduceEq, Int.reduceNe, Int.reduceAdd, Int.reduceSub, Int.reduceMul, Int.reduceNeg, ↓reduceIte, reduceCtorEq, prSt]
    have g2 : decide (L.r.st = 2) = false := by simp [h2]
    by_cases hza : L.a.u.length = 0
    rotate_left 1
    · have ga : decide ((L.a.u.length : Int) = 0) = false := by simp only [decide_eq_false_iff_not]; omega
      have hnd : doneL L = false := by rw [doneL, decide_eq_false (show ¬ (L.a.u.length + L.b.u.length = 0) by omega)]; simp
      rw [hnd] at hX
      have fin : ∀ st', Weak st' (prSt fates (tickL fates L) (n + 1)) → ∃ m' s'', m' < 100000 - n ∧ Weak st' s'' ∧ prI fates X m' s'' := fun st' h => ⟨100000 - (n + 1), _, by omega, h, n + 1, tickL fates L, by omega, rfl, hI'.tick, by rw [show 100000 - (n + 1) = k by omega]; simpa using hX, rfl⟩
      simp only [go_sem, Nat.reduceAdd, Nat.reduceSub, Nat.reduceMul, Nat.reduceLT, Nat.reduceLeDiff, Nat.reduceEqDiff, Nat.reduceBEq, Int.reduceToNat, Int.reduceLT, Int.reduceLE, Int.reduceEq, Int.reduceNe, Int.reduceAdd, Int.reduceSub, Int.reduceMul, Int.reduceNeg, ↓reduceIte, reduceCtorEq, prSt, f1, g3, g2, ga]
      (refine CallA.pure (cTk) (by simp only [go_sem, Nat.reduceAdd, Nat.reduceSub, Nat.reduceMul, Nat.reduceLT, Nat.reduceLeDiff, Nat.reduceEqDiff, Nat.reduceBEq, Int.reduceToNat, Int.reduceLT, Int.reduceLE, Int.reduceEq, Int.reduceNe, Int.reduceAdd, Int.reduceSub, Int.reduceMul, Int.reduceNeg, ↓reduceIte, reduceCtorEq, Snd.pv, Rcv.pv, hw] <;> first | rfl | decide) ?_; simp only [go_sem, Nat.reduceAdd, Nat.reduceSub, Nat.reduceMul, Nat.reduceLT, Nat.reduceLeDiff, Nat.reduceEqDiff, Nat.reduceBEq, Int.reduceToNat, Int.reduceLT, Int.reduceLE, Int.reduceEq, Int.reduceNe, Int.reduceAdd, Int.reduceSub, Int.reduceMul, Int.reduceNeg, ↓reduceIte, reduceCtorEq, Snd.pv, Rcv.pv, hw])
      refine fin _ ?_
      simp only [go_sem, Nat.reduceAdd, Nat.reduceSub, Nat.reduceMul, Nat.reduceLT, Nat.reduceLeDiff, Nat.reduceEqDiff, Nat.reduceBEq, Int.reduceToNat, Int.reduceLT, Int.reduceLE, Int.reduceEq, Int.reduceNe, Int.reduceAdd, Int.reduceSub, Int.reduceMul, Int.reduceNeg, ↓reduceIte, reduceCtorEq, prSt]
    have ga : decide ((L.a.u.length : Int) = 0) = true := by simp only [decide_eq_true_eq]; omega
    by_cases hzb : L.b.u.length = 0
    rotate_left 1
    · have gb : decide ((L.b.u.length : Int) = 0) = false := by simp only [decide_eq_false_iff_not]; omega
      have hnd : doneL L = false := by rw [doneL, decide_eq_false (show ¬ (L.a.u.length + L.b.u.length = 0) by omega)]; simp
      rw [hnd] at hX
      have fin : ∀ st', Weak st' (prSt fates (tickL fates L) (n + 1)) → ∃ m' s'', m' < 100000 - n ∧ Weak st' s'' ∧ prI fates X m' s'' := fun st' h => ⟨100000 - (n + 1), _, by omega, h, n + 1, tickL fates L, by omega, rfl, hI'.tick, by rw [show 100000 - (n + 1) = k by omega]; simpa using hX, rfl⟩
      simp only [go_sem, Nat.reduceAdd, Nat.reduceSub, Nat.reduceMul, Nat.reduceLT, Nat.reduceLeDiff, Nat.reduceEqDiff, Nat.reduceBEq, Int.reduceToNat, Int.reduceLT, Int.reduceLE, Int.reduceEq, Int.reduceNe, Int.reduceAdd, Int.reduceSub, Int.reduceMul, Int.reduceNeg, ↓reduceIte, reduceCtorEq, prSt, f1, g3, g2, ga, gb]
      (refine CallA.pure (cTk) (by simp only [go_sem, Nat.reduceAdd, Nat.reduceSub, Nat.reduceMul, Nat.reduceLT, Nat.reduceLeDiff, Nat.reduceEqDiff, Nat.reduceBEq, Int.reduceToNat, Int.reduceLT, Int.reduceLE, Int.reduceEq, Int.reduceNe, Int.reduceAdd, Int.reduceSub, Int.reduceMul, Int.reduceNeg, ↓reduceIte, reduceCtorEq, Snd.pv, Rcv.pv, hw] <;> first | rfl | decide) ?_; simp only [go_sem, Nat.reduceAdd, Nat.reduceSub, Nat.reduceMul, Nat.reduceLT, Nat.reduceLeDiff, Nat.reduceEqDiff, Nat.reduceBEq, Int.reduceToNat, Int.reduceLT, Int.reduceLE, Int.reduceEq, Int.reduceNe, Int.reduceAdd, Int.reduceSub, Int.reduceMul, Int.reduceNeg, ↓reduceIte, reduceCtorEq, Snd.pv, Rcv.pv, hw])
      refine fin _ ?_
      simp only [go_sem, Nat.reduceAdd, Nat.reduceSub, Nat.reduceMul, Nat.reduceLT, Nat.reduceLeDiff, Nat.reduceEqDiff, Nat.reduceBEq, Int.reduceToNat, Int.reduceLT, Int.reduceLE, Int.reduceEq, Int.reduceNe, Int.reduceAdd, Int.reduceSub, Int.reduceMul, Int.reduceNeg, ↓reduceIte, reduceCtorEq, prSt]
    have gb : decide ((L.b.u.length : Int) = 0) = true := by simp only [decide_eq_true_eq]; omega
    have hd : doneL L = true := by rw [doneL, g3, g2, decide_eq_true (show L.a.u.length + L.b.u.length = 0 by omega)]; rfl
    rw [hd, if_pos rfl] at hX
    subst hX
    simp only [go_sem, Nat.reduceAdd, Nat.reduceSub, Nat.reduceMul, Nat.reduceLT, Nat.reduceLeDiff, Nat.reduceEqDiff, Nat.reduceBEq, Int.reduceToNat, Int.reduceLT, Int.reduceLE, Int.reduceEq, Int.reduceNe, Int.reduceAdd, Int.reduceSub, Int.reduceMul, Int.reduceNeg, ↓reduceIte, reduceCtorEq, prSt, f1, g3, g2, ga, gb]
    (refine endD_intro (by decide +kernel) ?_; simp only [go_sem, Nat.reduceAdd, Nat.reduceSub, Nat.reduceMul, Nat.reduceLT, Nat.reduceLeDiff, Nat.reduceEqDiff, Nat.reduceBEq, Int.reduceToNat, Int.reduceLT, Int.reduceLE, Int.reduceEq, Int.reduceNe, Int.reduceAdd, Int.reduceSub, Int.reduceMul, Int.reduceNeg, ↓reduceIte, reduceCtorEq, Try.ntmps46, Try.results46])
  have g3 : decide (L.s.st = 3) = false := by simp [h3]
  by_cases h4 : L.s.st = 4
  · have g4 : decide (L.s.st = 4) = true := by simp [h4]
    by_cases h2 : L.r.st = 2
    · have g2 : decide (L.r.st = 2) = true := by simp [h2]
      have hnd : doneL L = false := by rw [doneL, g2]; simp
      rw [hnd] at hX
      have fin : ∀ st', Weak st' (prSt fates (tickL fates L) (n + 1)) → ∃ m' s'', m' < 100000 - n ∧ Weak st' s'' ∧ prI fates X m' s'' := fun st' h => ⟨100000 - (n + 1), _, by omega, h, n + 1, tickL fates L, by omega, rfl, hI'.tick, by rw [show 100000 - (n + 1) = k by omega]; simpa using hX, rfl⟩
      simp only [go_sem, Nat.reduceAdd, Nat.reduceSub, Nat.reduceMul, Nat.reduceLT, Nat.reduceLeDiff, Nat.reduceEqDiff, Nat.reduceBEq, Int.reduceToNat, Int.reduceLT, Int.reduceLE, Int.reduceEq, Int.reduceNe, Int.reduceAdd, Int.reduceSub, Int.reduceMul, Int.reduceNeg, ↓reduceIte, reduceCtorEq, prSt, f1, g3, g4, g2]
      (refine CallA.pure (cTk) (by simp only [go_sem, Nat.reduceAdd, Nat.reduceSub, Nat.reduceMul, Nat.reduceLT, Nat.reduceLeDiff, Nat.reduceEqDiff, Nat.reduceBEq, Int.reduceToNat, Int.reduceLT, Int.reduceLE, Int.reduceEq, Int.reduceNe, Int.reduceAdd, Int.reduceSub, Int.reduceMul, Int.reduceNeg, ↓reduceIte, reduceCtorEq, Snd.pv, Rcv.pv, hw] <;> first | rfl | decide) ?_; simp only [go_sem, Nat.reduceAdd, Nat.reduceSub, Nat.reduceMul, Nat.reduceLT, Nat.reduceLeDiff, Nat.reduceEqDiff, Nat.reduceBEq, Int.reduceToNat, Int.reduceLT, Int.reduceLE, Int.reduceEq, Int.reduceNe, Int.reduceAdd, Int.reduceSub, Int.reduceMul, Int.reduceNeg, ↓reduceIte, reduceCtorEq, Snd.pv, Rcv.pv, hw])
      refine fin _ ?_
      simp only [go_sem, Nat.reduceAdd, Nat.reduceSub, Nat.reduceMul, Nat.reduceLT, Nat.reduceLeDiff, Nat.reduceEqDiff, Nat.reduceBEq, Int.reduceToNat, Int.reduceLT, Int.reduceLE, Int.reduceEq, Int.reduceNe, Int.reduceAdd, Int.reduceSub, Int.reduceMul, Int.reduceNeg, ↓reduceIte, reduceCtorEq, prSt]
    have g2 : decide (L.r.st = 2) = false := by simp [h2]
    by_cases hza : L.a.u.length = 0
    rotate_left 1
    · have ga : decide ((L.a.u.length : Int) = 0) = false := by simp only [decide_eq_false_iff_not]; omega
      have hnd : doneL L = false := by rw [doneL, decide_eq_false (show ¬ (L.a.u.length + L.b.u.length = 0) by omega)]; simp
      rw [hnd] at hX
      have fin : ∀ st', Weak st' (prSt fates (tickL fates L) (n + 1)) → ∃ m' s'', m' < 100000 - n ∧ Weak st' s'' ∧ prI fates X m' s'' := fun st' h => ⟨100000 - (n + 1), _, by omega, h, n + 1, tickL fates L, by omega, rfl, hI'.tick, by rw [show 100000 - (n + 1) = k by omega]; simpa using hX, rfl⟩
      simp only [go_sem, Nat.reduceAdd, Nat.reduceSub, Nat.reduceMul, Nat.reduceLT, Nat.reduceLeDiff, Nat.reduceEqDiff, Nat.reduceBEq, Int.reduceToNat, Int.reduceLT, Int.reduceLE, Int.reduceEq, Int.reduceNe, Int.reduceAdd, Int.reduceSub, Int.reduceMul, Int.reduceNeg, ↓reduceIte, reduceCtorEq, prSt, f1, g3, g4, g2, ga]
      (refine CallA.pure (cTk) (by simp only [go_sem, Nat.reduceAdd, Nat.reduceSub, Nat.reduceMul, Nat.reduceLT, Nat.reduceLeDiff, Nat.reduceEqDiff, Nat.reduceBEq, Int.reduceToNat, Int.reduceLT, Int.reduceLE, Int.reduceEq, Int.reduceNe, Int.reduceAdd, Int.reduceSub, Int.reduceMul, Int.reduceNeg, ↓reduceIte, reduceCtorEq, Snd.pv, Rcv.pv, hw] <;> first | rfl | decide) ?_; simp only [go_sem, Nat.reduceAdd, Nat.reduceSub, Nat.reduceMul, Nat.reduceLT, Nat.reduceLeDiff, Nat.reduceEqDiff, Nat.reduceBEq, Int.reduceToNat, Int.reduceLT, Int.reduceLE, Int.reduceEq, Int.reduceNe, Int.reduceAdd, Int.reduceSub, Int.reduceMul, Int.reduceNeg, ↓reduceIte, reduceCtorEq, Snd.pv, Rcv.pv, hw])
      refine fin _ ?_
      simp only [go_sem, Nat.reduceAdd, Nat.reduceSub, Nat.reduceMul, Nat.reduceLT, Nat.reduceLeDiff, Nat.reduceEqDiff, Nat.reduceBEq, Int.reduceToNat, Int.reduceLT, Int.reduceLE, Int.reduceEq, Int.reduceNe, Int.reduceAdd, Int.reduceSub, Int.reduceMul, Int.reduceNeg, ↓reduceIte, reduceCtorEq, prSt]
    have ga : decide ((L.a.u.length : Int) = 0) = true := by simp only [decide_eq_true_eq]; omega
    by_cases hzb : L.b.u.length = 0
    rotate_left 1
    · have gb : decide ((L.b.u.length : Int) = 0) = false := by simp only [decide_eq_false_iff_not]; omega
      have hnd : doneL L = false := by rw [doneL, decide_eq_false (show ¬ (L.a.u.length + L.b.u.length = 0) by omega)]; simp
      rw [hnd] at hX
      have fin : ∀ st', Weak st' (prSt fates (tickL fates L) (n + 1)) → ∃ m' s'', m' < 100000 - n ∧ Weak st' s'' ∧ prI fates X m' s'' := fun st' h => ⟨100000 - (n + 1), _, by omega, h, n + 1, tickL fates L, by omega, rfl, hI'.tick, by rw [show 100000 - (n + 1) = k by omega]; simpa using hX, rfl⟩
      simp only [go_sem, Nat.reduceAdd, Nat.reduceSub, Nat.reduceMul, Nat.reduceLT, Nat.reduceLeDiff, Nat.reduceEqDiff, Nat.reduceBEq, Int.reduceToNat, Int.reduceLT, Int.reduceLE, Int.reduceEq, Int.reduceNe, Int.reduceAdd, Int.reduceSub, Int.reduceMul, Int.reduceNeg, ↓reduceIte, reduceCtorEq, prSt, f1, g3, g4, g2, ga, gb]
      (refine CallA.pure (cTk) (by simp only [go_sem, Nat.reduceAdd, Nat.reduceSub, Nat.reduceMul, Nat.reduceLT, Nat.reduceLeDiff, Nat.reduceEqDiff, Nat.reduceBEq, Int.reduceToNat, Int.reduceLT, Int.reduceLE, Int.reduceEq, Int.reduceNe, Int.reduceAdd, Int.reduceSub, Int.reduceMul, Int.reduceNeg, ↓reduceIte, reduceCtorEq, Snd.pv, Rcv.pv, hw] <;> first | rfl | decide) ?_; simp only [go_sem, Nat.reduceAdd, Nat.reduceSub, Nat.reduceMul, Nat.reduceLT, Nat.reduceLeDiff, Nat.reduceEqDiff, Nat.reduceBEq, Int.reduceToNat, Int.reduceLT, Int.reduceLE, Int.reduceEq, Int.reduceNe, Int.reduceAdd, Int.reduceSub, Int.reduceMul, Int.reduceNeg, ↓reduceIte, reduceCtorEq, Snd.pv, Rcv.pv, hw])
      refine fin _ ?_
      simp only [go_sem, Nat.reduceAdd, Nat.reduceSub, Nat.reduceMul, Nat.reduceLT, Nat.reduceLeDiff, Nat.reduceEqDiff, Nat.reduceBEq, Int.reduceToNat, Int.reduceLT, Int.reduceLE, Int.reduceEq, Int.reduceNe, Int.reduceAdd, Int.reduceSub, Int.reduceMul, Int.reduceNeg, ↓reduceIte, reduceCtorEq, prSt]
    have gb : decide ((L.b.u.length : Int) = 0) = true := by simp only [decide_eq_true_eq]; omega
    have hd : doneL L = true := by rw [doneL, g3, g4, g2, decide_eq_true (show L.a.u.length + L.b.u.length = 0 by omega)]; rfl
    rw [hd, if_pos rfl] at hX
    subst hX
    simp only [go_sem, Nat.reduceAdd, Nat.reduceSub, Nat.reduceMul, Nat.reduceLT, Nat.reduceLeDiff, Nat.reduceEqDiff, Nat.reduceBEq, Int.reduceToNat, Int.reduceLT, Int.reduceLE, Int.reduceEq, Int.reduceNe, Int.reduceAdd, Int.reduceSub, Int.reduceMul, Int.reduceNeg, ↓reduceIte, reduceCtorEq, prSt, f1, g3, g4, g2, ga, gb]
    (refine endD_intro (by decide +kernel) ?_; simp only [go_sem, Nat.reduceAdd, Nat.reduceSub, Nat.reduceMul, Nat.reduceLT, Nat.reduceLeDiff, Nat.reduceEqDiff, Nat.reduceBEq, Int.reduceToNat, Int.reduceLT, Int.reduceLE, Int.reduceEq, Int.reduceNe, Int.reduceAdd, Int.reduceSub, Int.reduceMul, Int.reduceNeg, ↓reduceIte, reduceCtorEq, Try.ntmps46, Try.results46])
  have g4 : decide (L.s.st = 4) = false := by simp [h4]
  have hnd : doneL L = false := by rw [doneL, g3, g4]; rfl
  rw [hnd] at hX
  have fin : ∀ st', Weak st' (prSt fates (tickL fates L) (n + 1)) → ∃ m' s'', m' < 100000 - n ∧ Weak st' s'' ∧ prI fates X m' s'' := fun st' h => ⟨100000 - (n + 1), _, by omega, h, n + 1, tickL fates L, by omega, rfl, hI'.tick, by rw [show 100000 - (n + 1) = k by omega]; simpa using hX, rfl⟩
  simp only [go_sem, Nat.reduceAdd, Nat.reduceSub, Nat.reduceMul, Nat.reduceLT, Nat.reduceLeDiff, Nat.reduceEqDiff, Nat.reduceBEq, Int.reduceToNat, Int.reduceLT, Int.reduceLE, Int.reduceEq, Int.reduceNe, Int.reduceAdd, Int.reduceSub, Int.reduceMul, Int.reduceNeg, ↓reduceIte, reduceCtorEq, prSt, f1, g3, g4]
  (refine CallA.pure (cTk) (by simp only [go_sem, Nat.reduceAdd, Nat.reduceSub, Nat.reduceMul, Nat.reduceLT, Nat.reduceLeDiff, Nat.reduceEqDiff, Nat.reduceBEq, Int.reduceToNat, Int.reduceLT, Int.reduceLE, Int.reduceEq, Int.reduceNe, Int.reduceAdd, Int.reduceSub, Int.reduceMul, Int.reduceNeg, ↓reduceIte, reduceCtorEq, Snd.pv, Rcv.pv, hw] <;> first | rfl | decide) ?_; simp only [go_sem, Nat.reduceAdd, Nat.reduceSub, Nat.reduceMul, Nat.reduceLT, Nat.reduceLeDiff, Nat.reduceEqDiff, Nat.reduceBEq, Int.reduceToNat, Int.reduceLT, Int.reduceLE, Int.reduceEq, Int.reduceNe, Int.reduceAdd, Int.reduceSub, Int.reduceMul, Int.reduceNeg, ↓reduceIte, reduceCtorEq, Snd.pv, Rcv.pv, hw])
  refine fin _ ?_
  simp only [go_sem, Nat.reduceAdd, Nat.reduceSub, Nat.reduceMul, Nat.reduceLT, Nat.reduceLeDiff, Nat.reduceEqDiff, Nat.reduceBEq, Int.reduceToNat, Int.reduceLT, Int.reduceLE, Int.reduceEq, Int.reduceNe, Int.reduceAdd, Int.reduceSub, Int.reduceMul, Int.reduceNeg, ↓reduceIte, reduceCtorEq, prSt]
end Go.Proofs.Ytpnhnobnjcknjaa.Pe
