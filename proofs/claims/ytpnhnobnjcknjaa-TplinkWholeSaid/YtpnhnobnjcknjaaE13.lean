import Derived.Test.YtpnhnobnjcknjaaE12
namespace Go.Proofs.Ytpnhnobnjcknjaa.Pe
open Go.Pe Go.RowKit
set_option maxRecDepth 20000
set_option maxHeartbeats 4000000
set_option linter.unusedSimpArgs false
set_option linter.unusedVariables false

theorem start_einv {t : List UInt8} (he : newE t = 0) (room : Int) {block : Int} (hb : 0 ≤ block ∧ block ≤ 255) (g : Int) (fates : List Int) : EInv g (startL t room block g fates) := by
  have hl : 1 ≤ t.length ∧ t.length ≤ 4095 := by
    unfold newE at he
    split at he
    · omega
    · split at he <;> omega
  have hs := new_sound (t := t)
  have hw := putW_good (w := ⟨[], []⟩) ⟨fun p hp => (by cases hp), fun p hp => (by cases hp)⟩ (newP_right he) (fateL fates 0)
  refine ⟨?_, ⟨by simp [startL, freshR, Rcv.fine]; omega, .inl rfl, ⟨fun h => (by cases h), fun h => absurd rfl h⟩, rfl, fun h => (by cases h)⟩, hw, ⟨fun p hp => (by cases hp), fun p hp => (by cases hp)⟩⟩
  show SInv g (newS t)
  by_cases h7 : t.length ≤ 7
  · have e : newS t = ⟨3, t, t.length, 0, -1, 0, 0, 0, 0⟩ := by rw [newS, if_neg (by omega), if_pos h7]
    rw [e] at hs ⊢
    exact ⟨hs, .inr (.inr (.inl rfl)), ⟨fun h => (by cases h), fun h => absurd rfl h⟩, fun h => (by cases h), ⟨show (0 : Int) ≤ 0 by decide, show (0 : Int) ≤ 1099511627776 by decide⟩, fun h => (by cases h)⟩
  · have e : newS t = ⟨1, t, 6, 1, -1, 0, 0, 0, 0⟩ := by rw [newS, if_neg (by omega), if_neg h7]
    rw [e] at hs ⊢
    exact ⟨hs, .inl rfl, ⟨fun h => (by cases h), fun h => absurd rfl h⟩, fun h => (by cases h), ⟨show (0 : Int) ≤ 0 by decide, show (0 : Int) ≤ 1099511627776 by decide⟩, fun _ => (show (0 : Int) ≤ 100 by decide)⟩
theorem start_mu {t : List UInt8} (he : newE t = 0) (room block : Int) {g : Nat} (hg : g ≤ 127) (fates : List Int) (hgr : ((t.length / 7 : Nat) + 1) * (g + 2) ≤ 6000) : mu g (startL t room block g fates) < 100000 := by
  have hl : 1 ≤ t.length ∧ t.length ≤ 4095 := by
    unfold newE at he
    split at he
    · omega
    · split at he <;> omega
  by_cases h7 : t.length ≤ 7
  · have e : newS t = ⟨3, t, t.length, 0, -1, 0, 0, 0, 0⟩ := by rw [newS, if_neg (by omega), if_pos h7]
    have : mu g (startL t room block g fates) ≤ 110 := by
      unfold mu startL
      rw [e]
      simp only
      rw [if_neg (show ¬ ((3 : Int) = 1) by decide), if_neg (show ¬ ((3 : Int) = 2) by decide)]
      refine Nat.le_trans (Nat.add_le_add (hub _) (Nat.le_refl _)) ?_
      rw [if_neg (show ¬ ((freshR room block g).st = 2) by intro h; cases h)]
      exact Nat.le_refl _
    omega
  · have e : newS t = ⟨1, t, 6, 1, -1, 0, 0, 0, 0⟩ := by rw [newS, if_neg (by omega), if_neg h7]
    have hp : partsLeft ⟨1, t, 6, 1, -1, 0, 0, 0, 0⟩ = t.length / 7 := by
      unfold partsLeft
      simp only
      omega
    have : mu g (startL t room block g fates) ≤ 503 + (t.length / 7) * (g + 4) := by
      unfold mu startL
      rw [e]
      simp only
      rw [if_pos trivial, hp]
      exact hub2 _ _ _ (by omega) (Nat.le_refl _)
    have h2 : (t.length / 7) * (g + 4) ≤ 2 * ((t.length / 7 + 1) * (g + 2)) := by
      have h3 : (t.length / 7) * (g + 4) ≤ (t.length / 7 + 1) * (2 * (g + 2)) := Nat.mul_le_mul (by omega) (by omega)
      rw [show (t.length / 7 + 1) * (2 * (g + 2)) = 2 * ((t.length / 7 + 1) * (g + 2)) by rw [Nat.mul_left_comm]] at h3
      exact h3
    omega
theorem play_ends {t : List UInt8} {room block gap : Int} {fates : List Int} (hgr : greatL t room block gap fates = false) {s : Snd} {r : Rcv} {n : Nat} (h : playV t room block gap fates = (s, r, n)) :
    (s.st = 3 ∨ s.st = 4) ∧ r.st ≠ 2 ∧ n < 100000 ∧ (s.st = 4 ↔ s.err ≠ 0) ∧ (r.st = 4 ↔ r.err ≠ 0) := by
  simp only [greatL, Bool.or_eq_false_iff, decide_eq_false_iff_not] at hgr
  obtain ⟨g, rfl⟩ : ∃ g : Nat, gap = g := ⟨gap.toNat, by omega⟩
  by_cases he : newE t = 0
  · rw [playV, if_pos he] at h
    have h6 : ((t.length / 7 : Nat) + 1) * (g + 2) ≤ 6000 := by
      have := hgr.2
      have e : (((t.length / 7 : Nat) : Int) + 1) * ((g : Int) + 2) = ((((t.length / 7 : Nat) + 1) * (g + 2) : Nat) : Int) := by simp
      rw [e] at this
      omega
    obtain ⟨L', k, e1, e2, e3, e4⟩ := run_ends (g := g) (by omega) (fates := fates) 100000 0 (startL t room block g fates) (start_einv he room (by omega) g fates) (start_mu he room block (by omega) fates h6)
    have hm := start_mu he room block (g := g) (by omega) fates h6
    rw [e1] at h
    simp only [Prod.mk.injEq] at h
    obtain ⟨rfl, rfl, rfl⟩ := h
    simp only [doneL, Bool.and_eq_true, Bool.or_eq_true, decide_eq_true_eq, Bool.not_eq_true', decide_eq_false_iff_not] at e3
    exact ⟨e3.1.1, e3.1.2, by omega, e4.s.err, e4.r.err⟩
  · rw [playV, if_neg he] at h
    simp only [Prod.mk.injEq] at h
    obtain ⟨rfl, rfl, rfl⟩ := h
    exact ⟨.inr rfl, fun hh => (by cases hh), by decide, ⟨fun _ => he, fun _ => rfl⟩, ⟨fun hh => (by cases hh), fun hh => absurd rfl hh⟩⟩
theorem ends20_calls (t : List UInt8) (room block gap : Int) (fates : List Int) : PureCalls Try.prog 15 [bytesPV t, PI room, PI block, PI gap, intsPV fates] (PB true) := by
  refine PureCalls.of tabOK mixed Try.func15 rfl rfl (by decide +kernel) (by simp [Try.ntmps15]) ?_
  have c3 := greatL_calls t room block gap fates
  simp only [go_sem, Nat.reduceAdd, Nat.reduceSub, Nat.reduceMul, Nat.reduceLT, Nat.reduceLeDiff, Nat.reduceEqDiff, Nat.reduceBEq, Int.reduceToNat, Int.reduceLT, Int.reduceLE, Int.reduceEq, Int.reduceNe, Int.reduceAdd, Int.reduceSub, Int.reduceMul, Int.reduceNeg, ↓reduceIte, reduceCtorEq, Try.ntmps15, Try.results15]
  (refine CallA.pure (headL_calls) (by simp only [go_sem, Nat.reduceAdd, Nat.reduceSub, Nat.reduceMul, Nat.reduceLT, Nat.reduceLeDiff, Nat.reduceEqDiff, Nat.reduceBEq, Int.reduceToNat, Int.reduceLT, Int.reduceLE, Int.reduceEq, Int.reduceNe, Int.reduceAdd, Int.reduceSub, Int.reduceMul, Int.reduceNeg, ↓reduceIte, reduceCtorEq] <;> first | rfl | decide) ?_; simp only [go_sem, Nat.reduceAdd, Nat.reduceSub, Nat.reduceMul, Nat.reduceLT, Nat.reduceLeDiff, Nat.reduceEqDiff, Nat.reduceBEq, Int.reduceToNat, Int.reduceLT, Int.reduceLE, Int.reduceEq, Int.reduceNe, Int.reduceAdd, Int.reduceSub, Int.reduceMul, Int.reduceNeg, ↓reduceIte, reduceCtorEq])
  cases hg : greatL t room block gap fates with
  | true =>
    rw [hg] at c3
    (refine CallA.pure (c3) (by simp only [go_sem, Nat.reduceAdd, Nat.reduceSub, Nat.reduceMul, Nat.reduceLT, Nat.reduceLeDiff, Nat.reduceEqDiff, Nat.reduceBEq, Int.reduceToNat, Int.reduceLT, Int.reduceLE, Int.reduceEq, Int.reduceNe, Int.reduceAdd, Int.reduceSub, Int.reduceMul, Int.reduceNeg, ↓reduceIte, reduceCtorEq, Try.ntmps15, Try.results15] <;> first | rfl | decide) ?_; simp only [go_sem, Nat.reduceAdd, Nat.reduceSub, Nat.reduceMul, Nat.reduceLT, Nat.reduceLeDiff, Nat.reduceEqDiff, Nat.reduceBEq, Int.reduceToNat, Int.reduceLT, Int.reduceLE, Int.reduceEq, Int.reduceNe, Int.reduceAdd, Int.reduceSub, Int.reduceMul, Int.reduceNeg, ↓reduceIte, reduceCtorEq, Try.ntmps15, Try.results15])
  | false =>
    rw [hg] at c3
    have hb : 0 ≤ block ∧ block ≤ 255 := by simp [greatL] at hg; omega
    have c4 := play_calls t room block gap fates hb
    have hE := fun s r n => play_ends (s := s) (r := r) (n := n) hg
    generalize playV t room block gap fates = x at c4 hE
    obtain ⟨s, r, k⟩ := x
    simp only at c4
    obtain ⟨h1, h2, h3, h4, h5⟩ := hE s r k rfl
    have g1 : decide (r.st = 2) = false := by simpa using h2
    have g2 : decide ((k : Int) ≥ 0) = true := by simp
    have g3 : decide ((k : Int) < 100000) = true := by simp; omega
    (refine CallA.pure (c3) (by simp only [go_sem, Nat.reduceAdd, Nat.reduceSub, Nat.reduceMul, Nat.reduceLT, Nat.reduceLeDiff, Nat.reduceEqDiff, Nat.reduceBEq, Int.reduceToNat, Int.reduceLT, Int.reduceLE, Int.reduceEq, Int.reduceNe, Int.reduceAdd, Int.reduceSub, Int.reduceMul, Int.reduceNeg, ↓reduceIte, reduceCtorEq] <;> first | rfl | decide) ?_; simp only [go_sem, Nat.reduceAdd, Nat.reduceSub, Nat.reduceMul, Nat.reduceLT, Nat.reduceLeDiff, Nat.reduceEqDiff, Nat.reduceBEq, Int.reduceToNat, Int.reduceLT, Int.reduceLE, Int.reduceEq, Int.reduceNe, Int.reduceAdd, Int.reduceSub, Int.reduceMul, Int.reduceNeg, ↓reduceIte, reduceCtorEq])
    have g6 : (decide (r.st = 4) == !decide (r.err = 0)) = true := by
      by_cases e : r.st = 4
      · have := h5.1 e; simp [e, this]
      · have : r.err = 0 := Classical.byContradiction fun hh => e (h5.2 hh)
        simp [e, this]
    rcases h1 with e | e
    · have e0 : s.err = 0 := Classical.byContradiction fun hh => by have := h4.2 hh; omega
      have g4 : decide (s.st = 3) = true := by simp [e]
      have g5 : decide (s.st = 4) = false := by simp [e]
      have g7 : decide (s.err = 0) = true := by simp [e0]
      (refine CallA.pure (c4) (by simp only [go_sem, Nat.reduceAdd, Nat.reduceSub, Nat.reduceMul, Nat.reduceLT, Nat.reduceLeDiff, Nat.reduceEqDiff, Nat.reduceBEq, Int.reduceToNat, Int.reduceLT, Int.reduceLE, Int.reduceEq, Int.reduceNe, Int.reduceAdd, Int.reduceSub, Int.reduceMul, Int.reduceNeg, ↓reduceIte, reduceCtorEq, Snd.pv, Rcv.pv] <;> first | rfl | decide) ?_; simp only [go_sem, Nat.reduceAdd, Nat.reduceSub, Nat.reduceMul, Nat.reduceLT, Nat.reduceLeDiff, Nat.reduceEqDiff, Nat.reduceBEq, Int.reduceToNat, Int.reduceLT, Int.reduceLE, Int.reduceEq, Int.reduceNe, Int.reduceAdd, Int.reduceSub, Int.reduceMul, Int.reduceNeg, ↓reduceIte, reduceCtorEq, Snd.pv, Rcv.pv])
      simp only [go_sem, Nat.reduceAdd, Nat.reduceSub, Nat.reduceMul, Nat.reduceLT, Nat.reduceLeDiff, Nat.reduceEqDiff, Nat.reduceBEq, Int.reduceToNat, Int.reduceLT, Int.reduceLE, Int.reduceEq, Int.reduceNe, Int.reduceAdd, Int.reduceSub, Int.reduceMul, Int.reduceNeg, ↓reduceIte, reduceCtorEq, g1, g2, g3, g4, g5, g6, g7, Try.ntmps15, Try.results15]
    · have e0 := h4.1 e
      have g4 : decide (s.st = 3) = false := by simp [e]
      have g5 : decide (s.st = 4) = true := by simp [e]
      have g7 : decide (s.err = 0) = false := by simpa using e0
      (refine CallA.pure (c4) (by simp only [go_sem, Nat.reduceAdd, Nat.reduceSub, Nat.reduceMul, Nat.reduceLT, Nat.reduceLeDiff, Nat.reduceEqDiff, Nat.reduceBEq, Int.reduceToNat, Int.reduceLT, Int.reduceLE, Int.reduceEq, Int.reduceNe, Int.reduceAdd, Int.reduceSub, Int.reduceMul, Int.reduceNeg, ↓reduceIte, reduceCtorEq, Snd.pv, Rcv.pv] <;> first | rfl | decide) ?_; simp only [go_sem, Nat.reduceAdd, Nat.reduceSub, Nat.reduceMul, Nat.reduceLT, Nat.reduceLeDiff, Nat.reduceEqDiff, Nat.reduceBEq, Int.reduceToNat, Int.reduceLT, Int.reduceLE, Int.reduceEq, Int.reduceNe, Int.reduceAdd, Int.reduceSub, Int.reduceMul, Int.reduceNeg, ↓reduceIte, reduceCtorEq, Snd.pv, Rcv.pv])
      simp only [go_sem, Nat.reduceAdd, Nat.reduceSub, Nat.reduceMul, Nat.reduceLT, Nat.reduceLeDiff, Nat.reduceEqDiff, Nat.reduceBEq, Int.reduceToNat, Int.reduceLT, Int.reduceLE, Int.reduceEq, Int.reduceNe, Int.reduceAdd, Int.reduceSub, Int.reduceMul, Int.reduceNeg, ↓reduceIte, reduceCtorEq, g1, g2, g3, g4, g5, g6, g7, Try.ntmps15, Try.results15]
end Go.Proofs.Ytpnhnobnjcknjaa.Pe
