import Derived.Test.YtokilmnlabcpoaaDTl
namespace Go.Proofs.Ytokilmnlabcpoaa.Pe
open Go.Pe Go.RowKit
set_option maxRecDepth 20000
set_option maxHeartbeats 8000000
set_option linter.unusedSimpArgs false
set_option linter.unusedVariables false

def confSt (u : UInt16) (l : List UInt8) (cpv : PV) (calm : Int) (i : Nat) : St := ⟨127, [(0, .lit (.int .u16 u.toNat)), (1, bytesPV l), (5, PB true), (6, cpv), (7, PI calm), (8, PI i)], [], 20, 0⟩
def confI (u : UInt16) (l : List UInt8) (m : Nat) (st : St) : Prop := ∃ (i : Nat) (c : List Trb) (calm : Int) (cpv : PV), i ≤ l.length ∧ m = l.length - i ∧ CInv c u.toNat calm ∧ (cpv = trbsPV c ∨ (c = [] ∧ cpv = .lit (.slice none 0 0))) ∧ st = confSt u l cpv calm i
theorem conf21_calls (u : UInt16) (l : List UInt8) : PureCalls Try.prog 14 [.lit (.int .u16 u.toNat), bytesPV l] (PB true) := by
  refine PureCalls.of tabOK mixed Try.func14 rfl rfl (by decide +kernel) (by simp [Try.ntmps14]) ?_
  have bu : u.toNat < 65536 := u.toNat_lt
  have wu : IntKind.wrap .i64 (u.toNat : Int) = u.toNat := wrapI64 (by omega)
  simp only [go_sem, Nat.reduceAdd, Nat.reduceSub, Nat.reduceMul, Nat.reduceLT, Nat.reduceLeDiff, Nat.reduceEqDiff, Nat.reduceBEq, Int.reduceToNat, Int.reduceLT, Int.reduceLE, Int.reduceEq, Int.reduceNe, Int.reduceAdd, Int.reduceSub, Int.reduceMul, Int.reduceNeg, ↓reduceIte, reduceCtorEq, Try.ntmps14, Try.results14]
  (refine CallA.pure (head21_calls) (by simp only [go_sem, Nat.reduceAdd, Nat.reduceSub, Nat.reduceMul, Nat.reduceLT, Nat.reduceLeDiff, Nat.reduceEqDiff, Nat.reduceBEq, Int.reduceToNat, Int.reduceLT, Int.reduceLE, Int.reduceEq, Int.reduceNe, Int.reduceAdd, Int.reduceSub, Int.reduceMul, Int.reduceNeg, ↓reduceIte, reduceCtorEq] <;> first | rfl | decide) ?_; simp only [go_sem, Nat.reduceAdd, Nat.reduceSub, Nat.reduceMul, Nat.reduceLT, Nat.reduceLeDiff, Nat.reduceEqDiff, Nat.reduceBEq, Int.reduceToNat, Int.reduceLT, Int.reduceLE, Int.reduceEq, Int.reduceNe, Int.reduceAdd, Int.reduceSub, Int.reduceMul, Int.reduceNeg, ↓reduceIte, reduceCtorEq])
  by_cases hl : l.length > 200
  · have g : decide ((l.length : Int) > 200) = true := decide_eq_true (by omega)
    simp only [go_sem, Nat.reduceAdd, Nat.reduceSub, Nat.reduceMul, Nat.reduceLT, Nat.reduceLeDiff, Nat.reduceEqDiff, Nat.reduceBEq, Int.reduceToNat, Int.reduceLT, Int.reduceLE, Int.reduceEq, Int.reduceNe, Int.reduceAdd, Int.reduceSub, Int.reduceMul, Int.reduceNeg, ↓reduceIte, reduceCtorEq, g, Try.ntmps14, Try.results14]
  have g : decide ((l.length : Int) > 200) = false := decide_eq_false (by omega)
  simp only [go_sem, Nat.reduceAdd, Nat.reduceSub, Nat.reduceMul, Nat.reduceLT, Nat.reduceLeDiff, Nat.reduceEqDiff, Nat.reduceBEq, Int.reduceToNat, Int.reduceLT, Int.reduceLE, Int.reduceEq, Int.reduceNe, Int.reduceAdd, Int.reduceSub, Int.reduceMul, Int.reduceNeg, ↓reduceIte, reduceCtorEq, g]
  refine wpA_loop (confI u l) ⟨_, _, ?_, 0, [], 0, _, by omega, rfl, ⟨by decide +kernel, .inl rfl, rfl, (show okS zeroT.st zeroT.sc zeroT.ca = true by decide +kernel), (show (noB zeroT.st 1 || decide (zeroT.ca = 0)) = true by decide +kernel)⟩, .inr ⟨rfl, rfl⟩, rfl⟩ ?_
  · simp only [go_sem, Nat.reduceAdd, Nat.reduceSub, Nat.reduceMul, Nat.reduceLT, Nat.reduceLeDiff, Nat.reduceEqDiff, Nat.reduceBEq, Int.reduceToNat, Int.reduceLT, Int.reduceLE, Int.reduceEq, Int.reduceNe, Int.reduceAdd, Int.reduceSub, Int.reduceMul, Int.reduceNeg, ↓reduceIte, reduceCtorEq, confSt, Int.natCast_zero]
  rintro m st ⟨i, c, calm, cpv, hi, rfl, hI, hcpv, rfl⟩
  by_cases hc : i < l.length
  rotate_left 1
  · have f1 : decide ((i : Int) < (l.length : Int)) = false := decide_eq_false (by omega)
    simp only [go_sem, Nat.reduceAdd, Nat.reduceSub, Nat.reduceMul, Nat.reduceLT, Nat.reduceLeDiff, Nat.reduceEqDiff, Nat.reduceBEq, Int.reduceToNat, Int.reduceLT, Int.reduceLE, Int.reduceEq, Int.reduceNe, Int.reduceAdd, Int.reduceSub, Int.reduceMul, Int.reduceNeg, ↓reduceIte, reduceCtorEq, confSt, f1, Try.ntmps14, Try.results14]
  have f1 : decide ((i : Int) < (l.length : Int)) = true := decide_eq_true (by omega)
  have f2 : (i : Int) < (l.length : Int) := by omega
  have f0 : (0 : Int) ≤ (i : Int) := by omega
  have hw := wrapIN (i := i) (by omega)
  have r1 : (rowsB l).getD i [] = rowB (l.getD i 0) := rowsB_getD hc
  generalize l.getD i 0 = b at r1
  obtain ⟨v, hv⟩ : ∃ v, b.toNat % 4 = v := ⟨_, rfl⟩
  have r2 : (b.toNat : Int).tmod 4 = (v : Int) := by rw [← hv]; rfl
  have hcl : c.length < 1000000 := by have := rightL_len hI.right; omega
  have c1 := one_calls c u.toNat hcl
  obtain ⟨bc1, bc2⟩ := hI.bound
  have hwc : IntKind.wrap .i64 (calm + 1) = calm + 1 := wrapI64 (by omega)
  obtain ⟨cyc, hcyc⟩ : ∃ cyc, decide ((v : Int) = 3) = cyc := ⟨_, rfl⟩
  obtain ⟨f, hf⟩ : ∃ f, decide ((v : Int) = 0) = f := ⟨_, rfl⟩
  -- what comes of it
  obtain ⟨c', hc', hchk, hr', hs'⟩ : ∃ c', (if cyc = true then f = false ∧ PureCalls Try.prog 42 [trbsPV c] (trbsPV c') else PureCalls Try.prog 40 [trbsPV c, PI u.toNat, PB f] (trbsPV c')) ∧
      chkB (oneV c u.toNat).st calm (oneV c' u.toNat).st (oneV c' u.toNat).sc (oneV c' u.toNat).ca cyc f = true ∧ rightL c' = true ∧ (c' = [] ∨ ∃ t, c' = [t] ∧ t.id = (u.toNat : Int)) := by
    cases cyc with
    | true =>
      have hv3 : (v : Int) = 3 := by simpa using hcyc
      have hff : f = false := by rw [← hf]; exact decide_eq_false (by omega)
      obtain ⟨k1, k2, k3⟩ := hI.cyc
      exact ⟨cycL c, by rw [if_pos rfl]; exact ⟨hff, cycD_calls c hcl⟩, by rw [hff]; exact k1, k2, k3⟩
    | false =>
      obtain ⟨k1, k2, k3⟩ := hI.rep ⟨by omega, by omega⟩ f
      exact ⟨reportV c u.toNat f, by rw [if_neg (by simp)]; exact repD_calls c u.toNat f hI.right, k1, k2, k3⟩
  have c2 := one_calls c' u.toNat (by have := rightL_len hr'; omega)
  have inv : ∀ calm', calm' = calm2 (oneV c u.toNat).st (oneV c' u.toNat).st cyc calm → CInv c' u.toNat calm' := by
    intro calm' h
    simp only [chkB, Bool.and_eq_true, decide_eq_true_eq] at hchk
    obtain ⟨_, ⟨h1, h2⟩, h3⟩ := hchk
    exact ⟨hr', hs', by rw [h, h2], h1, h3⟩
  have fin : ∀ calm', calm' = calm2 (oneV c u.toNat).st (oneV c' u.toNat).st cyc calm → ∀ st', Weak st' (confSt u l (trbsPV c') calm' (i + 1)) → ∃ m' s'', m' < l.length - i ∧ Weak st' s'' ∧ confI u l m' s'' :=
    fun calm' h st' hst => ⟨l.length - (i + 1), _, by omega, hst, i + 1, c', calm', _, by omega, rfl, inv calm' h, .inl rfl, rfl⟩
  clear inv hr' hs' hI
  generalize oneV c u.toNat = w at *
  generalize oneV c' u.toNat = n at *
  clear hcl bc1 bc2 hc
  rcases hcpv with rfl | ⟨rfl, rfl⟩
  all_goals
    simp only [go_sem, Nat.reduceAdd, Nat.reduceSub, Nat.reduceMul, Nat.reduceLT, Nat.reduceLeDiff, Nat.reduceEqDiff, Nat.reduceBEq, Int.reduceToNat, Int.reduceLT, Int.reduceLE, Int.reduceEq, Int.reduceNe, Int.reduceAdd, Int.reduceSub, Int.reduceMul, Int.reduceNeg, ↓reduceIte, reduceCtorEq, confSt, f1, wu]
    (refine CallA.pure (c1) (by simp only [go_sem, Nat.reduceAdd, Nat.reduceSub, Nat.reduceMul, Nat.reduceLT, Nat.reduceLeDiff, Nat.reduceEqDiff, Nat.reduceBEq, Int.reduceToNat, Int.reduceLT, Int.reduceLE, Int.reduceEq, Int.reduceNe, Int.reduceAdd, Int.reduceSub, Int.reduceMul, Int.reduceNeg, ↓reduceIte, reduceCtorEq, Trb.pv, Trb.cells, wu] <;> first | rfl | decide) ?_; simp only [go_sem, Nat.reduceAdd, Nat.reduceSub, Nat.reduceMul, Nat.reduceLT, Nat.reduceLeDiff, Nat.reduceEqDiff, Nat.reduceBEq, Int.reduceToNat, Int.reduceLT, Int.reduceLE, Int.reduceEq, Int.reduceNe, Int.reduceAdd, Int.reduceSub, Int.reduceMul, Int.reduceNeg, ↓reduceIte, reduceCtorEq, Trb.pv, Trb.cells, wu])
    simp only [go_sem, Nat.reduceAdd, Nat.reduceSub, Nat.reduceMul, Nat.reduceLT, Nat.reduceLeDiff, Nat.reduceEqDiff, Nat.reduceBEq, Int.reduceToNat, Int.reduceLT, Int.reduceLE, Int.reduceEq, Int.reduceNe, Int.reduceAdd, Int.reduceSub, Int.reduceMul, Int.reduceNeg, ↓reduceIte, reduceCtorEq, f2, f0, Int.toNat_natCast, r1, rowB_eq, r2, hf, hcyc, Trb.cells]
    cases cyc
    case' true =>
      rw [if_pos rfl] at hc'
      obtain ⟨hff, hc'⟩ := hc'
      simp only [go_sem, Nat.reduceAdd, Nat.reduceSub, Nat.reduceMul, Nat.reduceLT, Nat.reduceLeDiff, Nat.reduceEqDiff, Nat.reduceBEq, Int.reduceToNat, Int.reduceLT, Int.reduceLE, Int.reduceEq, Int.reduceNe, Int.reduceAdd, Int.reduceSub, Int.reduceMul, Int.reduceNeg, ↓reduceIte, reduceCtorEq]
      (refine CallA.pure (hc') (by simp only [go_sem, Nat.reduceAdd, Nat.reduceSub, Nat.reduceMul, Nat.reduceLT, Nat.reduceLeDiff, Nat.reduceEqDiff, Nat.reduceBEq, Int.reduceToNat, Int.reduceLT, Int.reduceLE, Int.reduceEq, Int.reduceNe, Int.reduceAdd, Int.reduceSub, Int.reduceMul, Int.reduceNeg, ↓reduceIte, reduceCtorEq, wu] <;> first | rfl | decide) ?_; simp only [go_sem, Nat.reduceAdd, Nat.reduceSub, Nat.reduceMul, Nat.reduceLT, Nat.reduceLeDiff, Nat.reduceEqDiff, Nat.reduceBEq, Int.reduceToNat, Int.reduceLT, Int.reduceLE, Int.reduceEq, Int.reduceNe, Int.reduceAdd, Int.reduceSub, Int.reduceMul, Int.reduceNeg, ↓reduceIte, reduceCtorEq, wu])
    case' false =>
      rw [if_neg (by simp)] at hc'
      simp only [go_sem, Nat.reduceAdd, Nat.reduceSub, Nat.reduceMul, Nat.reduceLT, Nat.reduceLeDiff, Nat.reduceEqDiff, Nat.reduceBEq, Int.reduceToNat, Int.reduceLT, Int.reduceLE, Int.reduceEq, Int.reduceNe, Int.reduceAdd, Int.reduceSub, Int.reduceMul, Int.reduceNeg, ↓reduceIte, reduceCtorEq, wu]
      (refine CallA.pure (hc') (by simp only [go_sem, Nat.reduceAdd, Nat.reduceSub, Nat.reduceMul, Nat.reduceLT, Nat.reduceLeDiff, Nat.reduceEqDiff, Nat.reduceBEq, Int.reduceToNat, Int.reduceLT, Int.reduceLE, Int.reduceEq, Int.reduceNe, Int.reduceAdd, Int.reduceSub, Int.reduceMul, Int.reduceNeg, ↓reduceIte, reduceCtorEq, wu] <;> first | rfl | decide) ?_; simp only [go_sem, Nat.reduceAdd, Nat.reduceSub, Nat.reduceMul, Nat.reduceLT, Nat.reduceLeDiff, Nat.reduceEqDiff, Nat.reduceBEq, Int.reduceToNat, Int.reduceLT, Int.reduceLE, Int.reduceEq, Int.reduceNe, Int.reduceAdd, Int.reduceSub, Int.reduceMul, Int.reduceNeg, ↓reduceIte, reduceCtorEq, wu])
    all_goals
      (refine CallA.pure (c2) (by simp only [go_sem, Nat.reduceAdd, Nat.reduceSub, Nat.reduceMul, Nat.reduceLT, Nat.reduceLeDiff, Nat.reduceEqDiff, Nat.reduceBEq, Int.reduceToNat, Int.reduceLT, Int.reduceLE, Int.reduceEq, Int.reduceNe, Int.reduceAdd, Int.reduceSub, Int.reduceMul, Int.reduceNeg, ↓reduceIte, reduceCtorEq, Trb.pv, Trb.cells, wu] <;> first | rfl | decide) ?_; simp only [go_sem, Nat.reduceAdd, Nat.reduceSub, Nat.reduceMul, Nat.reduceLT, Nat.reduceLeDiff, Nat.reduceEqDiff, Nat.reduceBEq, Int.reduceToNat, Int.reduceLT, Int.reduceLE, Int.reduceEq, Int.reduceNe, Int.reduceAdd, Int.reduceSub, Int.reduceMul, Int.reduceNeg, ↓reduceIte, reduceCtorEq, Trb.pv, Trb.cells, wu])
      clear c1 c2 hc'
      have e1 : decide (bitsA .and .i64 w.st 1 = 0) = noB w.st 1 := rfl
      have e2 : decide (bitsA .and .i64 n.st 1 = 0) = noB n.st 1 := rfl
      have e3 : decide (bitsA .and .i64 w.st 4 = 0) = noB w.st 4 := rfl
      have e4 : decide (bitsA .and .i64 n.st 4 = 0) = noB n.st 4 := rfl
      have e5 : decide (bitsA .and .i64 w.st 2 = 0) = noB w.st 2 := rfl
      cases hp1 : noB w.st 1 <;> cases hq1 : noB n.st 1 <;> cases hp4 : noB w.st 4 <;> cases hq4 : noB n.st 4
      all_goals (try (exfalso; revert hchk; simp [chkB, calm1, calm2, hp1, hq1, hp4, hq4, hwc]; done))
      all_goals
        simp only [go_sem, Nat.reduceAdd, Nat.reduceSub, Nat.reduceMul, Nat.reduceLT, Nat.reduceLeDiff, Nat.reduceEqDiff, Nat.reduceBEq, Int.reduceToNat, Int.reduceLT, Int.reduceLE, Int.reduceEq, Int.reduceNe, Int.reduceAdd, Int.reduceSub, Int.reduceMul, Int.reduceNeg, ↓reduceIte, reduceCtorEq, Try.ntmps14, Try.results14, Trb.cells, hw, e1, e2, e3, e4, e5, hp1, hq1, hp4, hq4, hwc, hf, hcyc, r1, r2, f2, f0, rowB_eq, Int.toNat_natCast]
        repeat' (first | (refine wantK_splitN (fun h => ?_) (fun h => ?_) <;> simp only [go_sem, Nat.reduceAdd, Nat.reduceSub, Nat.reduceMul, Nat.reduceLT, Nat.reduceLeDiff, Nat.reduceEqDiff, Nat.reduceBEq, Int.reduceToNat, Int.reduceLT, Int.reduceLE, Int.reduceEq, Int.reduceNe, Int.reduceAdd, Int.reduceSub, Int.reduceMul, Int.reduceNeg, ↓reduceIte, reduceCtorEq, Try.ntmps14, Try.results14, Trb.cells, hw, e1, e2, e3, e4, e5, hp1, hq1, hp4, hq4, hwc, hf, hcyc, r1, r2, f2, f0, rowB_eq, Int.toNat_natCast, h]) | (refine wantK_split (fun h => ?_) (fun h => ?_) <;> simp only [go_sem, Nat.reduceAdd, Nat.reduceSub, Nat.reduceMul, Nat.reduceLT, Nat.reduceLeDiff, Nat.reduceEqDiff, Nat.reduceBEq, Int.reduceToNat, Int.reduceLT, Int.reduceLE, Int.reduceEq, Int.reduceNe, Int.reduceAdd, Int.reduceSub, Int.reduceMul, Int.reduceNeg, ↓reduceIte, reduceCtorEq, Try.ntmps14, Try.results14, Trb.cells, hw, e1, e2, e3, e4, e5, hp1, hq1, hp4, hq4, hwc, hf, hcyc, r1, r2, f2, f0, rowB_eq, Int.toNat_natCast, h]) | (refine condK_splitN (fun h => ?_) (fun h => ?_) <;> simp only [go_sem, Nat.reduceAdd, Nat.reduceSub, Nat.reduceMul, Nat.reduceLT, Nat.reduceLeDiff, Nat.reduceEqDiff, Nat.reduceBEq, Int.reduceToNat, Int.reduceLT, Int.reduceLE, Int.reduceEq, Int.reduceNe, Int.reduceAdd, Int.reduceSub, Int.reduceMul, Int.reduceNeg, ↓reduceIte, reduceCtorEq, Try.ntmps14, Try.results14, Trb.cells, hw, e1, e2, e3, e4, e5, hp1, hq1, hp4, hq4, hwc, hf, hcyc, r1, r2, f2, f0, rowB_eq, Int.toNat_natCast, h]) | (refine condK_split (fun h => ?_) (fun h => ?_) <;> simp only [go_sem, Nat.reduceAdd, Nat.reduceSub, Nat.reduceMul, Nat.reduceLT, Nat.reduceLeDiff, Nat.reduceEqDiff, Nat.reduceBEq, Int.reduceToNat, Int.reduceLT, Int.reduceLE, Int.reduceEq, Int.reduceNe, Int.reduceAdd, Int.reduceSub, Int.reduceMul, Int.reduceNeg, ↓reduceIte, reduceCtorEq, Try.ntmps14, Try.results14, Trb.cells, hw, e1, e2, e3, e4, e5, hp1, hq1, hp4, hq4, hwc, hf, hcyc, r1, r2, f2, f0, rowB_eq, Int.toNat_natCast, h]) | (refine drawK_splitN (fun h => ?_) (fun h => ?_) <;> simp only [go_sem, Nat.reduceAdd, Nat.reduceSub, Nat.reduceMul, Nat.reduceLT, Nat.reduceLeDiff, Nat.reduceEqDiff, Nat.reduceBEq, Int.reduceToNat, Int.reduceLT, Int.reduceLE, Int.reduceEq, Int.reduceNe, Int.reduceAdd, Int.reduceSub, Int.reduceMul, Int.reduceNeg, ↓reduceIte, reduceCtorEq, Try.ntmps14, Try.results14, Trb.cells, hw, e1, e2, e3, e4, e5, hp1, hq1, hp4, hq4, hwc, hf, hcyc, r1, r2, f2, f0, rowB_eq, Int.toNat_natCast, h]) | (refine drawK_split (fun h => ?_) (fun h => ?_) <;> simp only [go_sem, Nat.reduceAdd, Nat.reduceSub, Nat.reduceMul, Nat.reduceLT, Nat.reduceLeDiff, Nat.reduceEqDiff, Nat.reduceBEq, Int.reduceToNat, Int.reduceLT, Int.reduceLE, Int.reduceEq, Int.reduceNe, Int.reduceAdd, Int.reduceSub, Int.reduceMul, Int.reduceNeg, ↓reduceIte, reduceCtorEq, Try.ntmps14, Try.results14, Trb.cells, hw, e1, e2, e3, e4, e5, hp1, hq1, hp4, hq4, hwc, hf, hcyc, r1, r2, f2, f0, rowB_eq, Int.toNat_natCast, h]))
      all_goals first | (refine fin (0) (by simp [calm2, calm1, hp1, hq1, hp4, hq4, hwc]) _ ?_; simp only [go_sem, Nat.reduceAdd, Nat.reduceSub, Nat.reduceMul, Nat.reduceLT, Nat.reduceLeDiff, Nat.reduceEqDiff, Nat.reduceBEq, Int.reduceToNat, Int.reduceLT, Int.reduceLE, Int.reduceEq, Int.reduceNe, Int.reduceAdd, Int.reduceSub, Int.reduceMul, Int.reduceNeg, ↓reduceIte, reduceCtorEq, confSt, hw]; done) | (refine fin (calm) (by simp [calm2, calm1, hp1, hq1, hp4, hq4, hwc]) _ ?_; simp only [go_sem, Nat.reduceAdd, Nat.reduceSub, Nat.reduceMul, Nat.reduceLT, Nat.reduceLeDiff, Nat.reduceEqDiff, Nat.reduceBEq, Int.reduceToNat, Int.reduceLT, Int.reduceLE, Int.reduceEq, Int.reduceNe, Int.reduceAdd, Int.reduceSub, Int.reduceMul, Int.reduceNeg, ↓reduceIte, reduceCtorEq, confSt, hw]; done) | (refine fin (calm + 1) (by simp [calm2, calm1, hp1, hq1, hp4, hq4, hwc]) _ ?_; simp only [go_sem, Nat.reduceAdd, Nat.reduceSub, Nat.reduceMul, Nat.reduceLT, Nat.reduceLeDiff, Nat.reduceEqDiff, Nat.reduceBEq, Int.reduceToNat, Int.reduceLT, Int.reduceLE, Int.reduceEq, Int.reduceNe, Int.reduceAdd, Int.reduceSub, Int.reduceMul, Int.reduceNeg, ↓reduceIte, reduceCtorEq, confSt, hw]; done) | (exfalso; revert hchk; simp [chkB, calm1, calm2, hp1, hq1, hp4, hq4, hwc, *]; done) | (exfalso; simp [chkB, calm1, calm2, hp1, hq1, hp4, hq4, hwc] at hchk; simp at h; first | omega | (simp_all; done) | (simp_all; omega))
end Go.Proofs.Ytokilmnlabcpoaa.Pe
