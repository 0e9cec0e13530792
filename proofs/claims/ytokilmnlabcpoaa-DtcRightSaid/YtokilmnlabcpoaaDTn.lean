import Derived.Test.YtokilmnlabcpoaaDTj
namespace Go.Proofs.Ytokilmnlabcpoaa.Pe
open Go.Pe Go.RowKit
set_option maxRecDepth 20000
set_option maxHeartbeats 8000000
set_option linter.unusedSimpArgs false
set_option linter.unusedVariables false

def keptP (id : Int) (t u : Trb) : Bool := decide (u.id = t.id) && (decide (u = t) || decide (t.id = id))
theorem rep_any (id : Int) (f : Bool) : ∀ (l : List Trb) (t : Trb), t ∈ l → (rep l id f).any (keptP id t) = true
  | [], t, h => by simp at h
  | u :: r, t, h => by
    rw [show rep (u :: r) id f = if u.id < id then u :: rep r id f else if u.id = id then testedV u f :: r else testedV (freshT id) f :: u :: r from rfl]
    have self : keptP id t t = true := by simp [keptP]
    rcases List.mem_cons.1 h with rfl | h
    · split
      · simp [self]
      · split
        · rename_i h2
          have : keptP id t (testedV t f) = true := by simp [keptP, tested_id, h2]
          simp [this]
        · simp [self]
    · split
      · rw [List.any_cons, rep_any id f r t h, Bool.or_true]
      · split
        · rw [List.any_cons, List.any_eq_true.2 ⟨t, h, self⟩, Bool.or_true]
        · rw [List.any_cons, List.any_cons, List.any_eq_true.2 ⟨t, h, self⟩, Bool.or_true, Bool.or_true]
theorem report_any (id : Int) (f : Bool) (l : List Trb) (t : Trb) (h : t ∈ l) : (reportV l id f).any (keptP id t) = true := by
  rcases reportV_or l id f with e | ⟨_, _, _, e⟩
  · rw [e]; exact List.any_eq_true.2 ⟨t, h, by simp [keptP]⟩
  · rw [e]; exact rep_any id f l t h
def rtSt (l a : List Trb) (id : Int) (i : Nat) : St := ⟨134, [(0, trbsPV l), (1, PI id), (7, PB true), (8, trbsPV a), (9, trbsPV (cycL l)), (10, PI i)], [], 20, 0⟩
def rtI (l a : List Trb) (id : Int) (m : Nat) (st : St) : Prop := ∃ i : Nat, i ≤ l.length ∧ m = l.length - i ∧ st = rtSt l a id i
def rtSt2 (l a : List Trb) (id : Int) (i k : Nat) (s : Bool) : St := ⟨134, [(0, trbsPV l), (1, PI id), (7, PB true), (8, trbsPV a), (9, trbsPV (cycL l)), (10, PI i), (11, PB s), (12, PI k)], [], 20, 0⟩
def rtI2 (l a : List Trb) (id : Int) (i : Nat) (t : Trb) (m : Nat) (st : St) : Prop := ∃ k : Nat, k ≤ a.length ∧ m = a.length - k ∧ st = rtSt2 l a id i k ((a.take k).any (keptP id t))
theorem right21_calls (l : List Trb) (id : Int) (f : Bool) : PureCalls Try.prog 12 [trbsPV l, PI id, PB f] (PB true) := by
  refine PureCalls.of tabOK mixed Try.func12 rfl rfl (by decide +kernel) (by simp [Try.ntmps12]) ?_
  have la := trbRows_len l
  simp only [go_sem, Nat.reduceAdd, Nat.reduceSub, Nat.reduceMul, Nat.reduceLT, Nat.reduceLeDiff, Nat.reduceEqDiff, Nat.reduceBEq, Int.reduceToNat, Int.reduceLT, Int.reduceLE, Int.reduceEq, Int.reduceNe, Int.reduceAdd, Int.reduceSub, Int.reduceMul, Int.reduceNeg, ↓reduceIte, reduceCtorEq, Try.ntmps12, Try.results12]
  (refine CallA.pure (head21_calls) (by simp only [go_sem, Nat.reduceAdd, Nat.reduceSub, Nat.reduceMul, Nat.reduceLT, Nat.reduceLeDiff, Nat.reduceEqDiff, Nat.reduceBEq, Int.reduceToNat, Int.reduceLT, Int.reduceLE, Int.reduceEq, Int.reduceNe, Int.reduceAdd, Int.reduceSub, Int.reduceMul, Int.reduceNeg, ↓reduceIte, reduceCtorEq] <;> first | rfl | decide) ?_; simp only [go_sem, Nat.reduceAdd, Nat.reduceSub, Nat.reduceMul, Nat.reduceLT, Nat.reduceLeDiff, Nat.reduceEqDiff, Nat.reduceBEq, Int.reduceToNat, Int.reduceLT, Int.reduceLE, Int.reduceEq, Int.reduceNe, Int.reduceAdd, Int.reduceSub, Int.reduceMul, Int.reduceNeg, ↓reduceIte, reduceCtorEq])
  by_cases h : l.length > 100
  · have g : decide ((l.length : Int) > 100) = true := decide_eq_true (by omega)
    simp only [go_sem, Nat.reduceAdd, Nat.reduceSub, Nat.reduceMul, Nat.reduceLT, Nat.reduceLeDiff, Nat.reduceEqDiff, Nat.reduceBEq, Int.reduceToNat, Int.reduceLT, Int.reduceLE, Int.reduceEq, Int.reduceNe, Int.reduceAdd, Int.reduceSub, Int.reduceMul, Int.reduceNeg, ↓reduceIte, reduceCtorEq, la, g, Try.ntmps12, Try.results12]
  have g : decide ((l.length : Int) > 100) = false := decide_eq_false (by omega)
  have c1 := rightD_calls l (by omega)
  simp only [go_sem, Nat.reduceAdd, Nat.reduceSub, Nat.reduceMul, Nat.reduceLT, Nat.reduceLeDiff, Nat.reduceEqDiff, Nat.reduceBEq, Int.reduceToNat, Int.reduceLT, Int.reduceLE, Int.reduceEq, Int.reduceNe, Int.reduceAdd, Int.reduceSub, Int.reduceMul, Int.reduceNeg, ↓reduceIte, reduceCtorEq, la, g]
  (refine CallA.pure (c1) (by simp only [go_sem, Nat.reduceAdd, Nat.reduceSub, Nat.reduceMul, Nat.reduceLT, Nat.reduceLeDiff, Nat.reduceEqDiff, Nat.reduceBEq, Int.reduceToNat, Int.reduceLT, Int.reduceLE, Int.reduceEq, Int.reduceNe, Int.reduceAdd, Int.reduceSub, Int.reduceMul, Int.reduceNeg, ↓reduceIte, reduceCtorEq] <;> first | rfl | decide) ?_; simp only [go_sem, Nat.reduceAdd, Nat.reduceSub, Nat.reduceMul, Nat.reduceLT, Nat.reduceLeDiff, Nat.reduceEqDiff, Nat.reduceBEq, Int.reduceToNat, Int.reduceLT, Int.reduceLE, Int.reduceEq, Int.reduceNe, Int.reduceAdd, Int.reduceSub, Int.reduceMul, Int.reduceNeg, ↓reduceIte, reduceCtorEq])
  cases hr : rightL l with
  | false => simp only [go_sem, Nat.reduceAdd, Nat.reduceSub, Nat.reduceMul, Nat.reduceLT, Nat.reduceLeDiff, Nat.reduceEqDiff, Nat.reduceBEq, Int.reduceToNat, Int.reduceLT, Int.reduceLE, Int.reduceEq, Int.reduceNe, Int.reduceAdd, Int.reduceSub, Int.reduceMul, Int.reduceNeg, ↓reduceIte, reduceCtorEq, hr, Try.ntmps12, Try.results12]
  | true =>
  have hrc := cyc_right hr
  have hra := report_right id f hr
  have hcl : (cycL l).length = l.length := by simp [cycL]
  have hal := report_len l id f
  have hany := report_any id f l
  have c2 := repD_calls l id f hr
  have c3 := cycD_calls l (by omega)
  have c4 := rightD_calls (reportV l id f) (by omega)
  have c5 := rightD_calls (cycL l) (by omega)
  rw [hra] at c4
  rw [hrc] at c5
  generalize reportV l id f = a at *
  have laa := trbRows_len a
  have lac := trbRows_len (cycL l)
  have w1 : IntKind.wrap .i64 ((l.length : Int) + 1) = (l.length : Int) + 1 := wrapI64 (by omega)
  have g1 : decide ((a.length : Int) < (l.length : Int)) = false := decide_eq_false (by omega)
  have g2 : decide ((a.length : Int) > (l.length : Int) + 1) = false := decide_eq_false (by omega)
  simp only [go_sem, Nat.reduceAdd, Nat.reduceSub, Nat.reduceMul, Nat.reduceLT, Nat.reduceLeDiff, Nat.reduceEqDiff, Nat.reduceBEq, Int.reduceToNat, Int.reduceLT, Int.reduceLE, Int.reduceEq, Int.reduceNe, Int.reduceAdd, Int.reduceSub, Int.reduceMul, Int.reduceNeg, ↓reduceIte, reduceCtorEq, hr]
  (refine CallA.pure (c2) (by simp only [go_sem, Nat.reduceAdd, Nat.reduceSub, Nat.reduceMul, Nat.reduceLT, Nat.reduceLeDiff, Nat.reduceEqDiff, Nat.reduceBEq, Int.reduceToNat, Int.reduceLT, Int.reduceLE, Int.reduceEq, Int.reduceNe, Int.reduceAdd, Int.reduceSub, Int.reduceMul, Int.reduceNeg, ↓reduceIte, reduceCtorEq] <;> first | rfl | decide) ?_; simp only [go_sem, Nat.reduceAdd, Nat.reduceSub, Nat.reduceMul, Nat.reduceLT, Nat.reduceLeDiff, Nat.reduceEqDiff, Nat.reduceBEq, Int.reduceToNat, Int.reduceLT, Int.reduceLE, Int.reduceEq, Int.reduceNe, Int.reduceAdd, Int.reduceSub, Int.reduceMul, Int.reduceNeg, ↓reduceIte, reduceCtorEq])
  (refine CallA.pure (c3) (by simp only [go_sem, Nat.reduceAdd, Nat.reduceSub, Nat.reduceMul, Nat.reduceLT, Nat.reduceLeDiff, Nat.reduceEqDiff, Nat.reduceBEq, Int.reduceToNat, Int.reduceLT, Int.reduceLE, Int.reduceEq, Int.reduceNe, Int.reduceAdd, Int.reduceSub, Int.reduceMul, Int.reduceNeg, ↓reduceIte, reduceCtorEq] <;> first | rfl | decide) ?_; simp only [go_sem, Nat.reduceAdd, Nat.reduceSub, Nat.reduceMul, Nat.reduceLT, Nat.reduceLeDiff, Nat.reduceEqDiff, Nat.reduceBEq, Int.reduceToNat, Int.reduceLT, Int.reduceLE, Int.reduceEq, Int.reduceNe, Int.reduceAdd, Int.reduceSub, Int.reduceMul, Int.reduceNeg, ↓reduceIte, reduceCtorEq])
  (refine CallA.pure (c4) (by simp only [go_sem, Nat.reduceAdd, Nat.reduceSub, Nat.reduceMul, Nat.reduceLT, Nat.reduceLeDiff, Nat.reduceEqDiff, Nat.reduceBEq, Int.reduceToNat, Int.reduceLT, Int.reduceLE, Int.reduceEq, Int.reduceNe, Int.reduceAdd, Int.reduceSub, Int.reduceMul, Int.reduceNeg, ↓reduceIte, reduceCtorEq] <;> first | rfl | decide) ?_; simp only [go_sem, Nat.reduceAdd, Nat.reduceSub, Nat.reduceMul, Nat.reduceLT, Nat.reduceLeDiff, Nat.reduceEqDiff, Nat.reduceBEq, Int.reduceToNat, Int.reduceLT, Int.reduceLE, Int.reduceEq, Int.reduceNe, Int.reduceAdd, Int.reduceSub, Int.reduceMul, Int.reduceNeg, ↓reduceIte, reduceCtorEq])
  (refine CallA.pure (c5) (by simp only [go_sem, Nat.reduceAdd, Nat.reduceSub, Nat.reduceMul, Nat.reduceLT, Nat.reduceLeDiff, Nat.reduceEqDiff, Nat.reduceBEq, Int.reduceToNat, Int.reduceLT, Int.reduceLE, Int.reduceEq, Int.reduceNe, Int.reduceAdd, Int.reduceSub, Int.reduceMul, Int.reduceNeg, ↓reduceIte, reduceCtorEq, la, laa, lac, hcl, w1, g1, g2] <;> first | rfl | decide) ?_; simp only [go_sem, Nat.reduceAdd, Nat.reduceSub, Nat.reduceMul, Nat.reduceLT, Nat.reduceLeDiff, Nat.reduceEqDiff, Nat.reduceBEq, Int.reduceToNat, Int.reduceLT, Int.reduceLE, Int.reduceEq, Int.reduceNe, Int.reduceAdd, Int.reduceSub, Int.reduceMul, Int.reduceNeg, ↓reduceIte, reduceCtorEq, la, laa, lac, hcl, w1, g1, g2])
  refine wpA_loop (rtI l a id) ⟨_, _, ?_, 0, by omega, rfl, rfl⟩ ?_
  · simp only [go_sem, Nat.reduceAdd, Nat.reduceSub, Nat.reduceMul, Nat.reduceLT, Nat.reduceLeDiff, Nat.reduceEqDiff, Nat.reduceBEq, Int.reduceToNat, Int.reduceLT, Int.reduceLE, Int.reduceEq, Int.reduceNe, Int.reduceAdd, Int.reduceSub, Int.reduceMul, Int.reduceNeg, ↓reduceIte, reduceCtorEq, rtSt, Int.natCast_zero]
  rintro m st ⟨i, hi, rfl, rfl⟩
  by_cases hc : i < l.length
  rotate_left 1
  · have f1 : decide ((i : Int) < (l.length : Int)) = false := decide_eq_false (by omega)
    simp only [go_sem, Nat.reduceAdd, Nat.reduceSub, Nat.reduceMul, Nat.reduceLT, Nat.reduceLeDiff, Nat.reduceEqDiff, Nat.reduceBEq, Int.reduceToNat, Int.reduceLT, Int.reduceLE, Int.reduceEq, Int.reduceNe, Int.reduceAdd, Int.reduceSub, Int.reduceMul, Int.reduceNeg, ↓reduceIte, reduceCtorEq, rtSt, la, f1, Try.ntmps12, Try.results12]
  have f1 : decide ((i : Int) < (l.length : Int)) = true := decide_eq_true (by omega)
  have f2 : (i : Int) < (l.length : Int) := by omega
  have f0 : (0 : Int) ≤ (i : Int) := by omega
  have hw := wrapIN (i := i) (by omega)
  have r1 := trbRows_get hc
  have r2 := trbRows_get (l := cycL l) (i := i) (by omega)
  have hce : (cycL l)[i]'(by omega) = riddenV l[i] := by simp [cycL]
  rw [hce] at r2
  obtain ⟨_, k1, _, _⟩ := ridden_okR (rightL_mem hr l[i] (List.getElem_mem hc))
  have hany := hany l[i] (List.getElem_mem hc)
  have g3 : decide ((riddenV l[i]).id = l[i].id) = true := decide_eq_true (ridden_id _)
  have g4 : decide ((riddenV l[i]).sc = l[i].sc) = true := decide_eq_true k1
  generalize l[i] = t at r1 r2 hany g3 g4
  simp only [go_sem, Nat.reduceAdd, Nat.reduceSub, Nat.reduceMul, Nat.reduceLT, Nat.reduceLeDiff, Nat.reduceEqDiff, Nat.reduceBEq, Int.reduceToNat, Int.reduceLT, Int.reduceLE, Int.reduceEq, Int.reduceNe, Int.reduceAdd, Int.reduceSub, Int.reduceMul, Int.reduceNeg, ↓reduceIte, reduceCtorEq, rtSt, la, f1]
  refine wpA_loop (rtI2 l a id i t) ⟨_, _, ?_, 0, by omega, rfl, rfl⟩ ?_
  · simp only [go_sem, Nat.reduceAdd, Nat.reduceSub, Nat.reduceMul, Nat.reduceLT, Nat.reduceLeDiff, Nat.reduceEqDiff, Nat.reduceBEq, Int.reduceToNat, Int.reduceLT, Int.reduceLE, Int.reduceEq, Int.reduceNe, Int.reduceAdd, Int.reduceSub, Int.reduceMul, Int.reduceNeg, ↓reduceIte, reduceCtorEq, rtSt2, Int.natCast_zero, List.take_zero, List.any_nil]
  rintro m' st ⟨k, hk, rfl, rfl⟩
  by_cases hd : k < a.length
  · have p1 : decide ((k : Int) < (a.length : Int)) = true := decide_eq_true (by omega)
    have p2 : (k : Int) < (a.length : Int) := by omega
    have p0 : (0 : Int) ≤ (k : Int) := by omega
    have hwk := wrapIN (i := k) (by omega)
    have r3 := trbRows_get hd
    have hsn : (a.take (k + 1)).any (keptP id t) = ((a.take k).any (keptP id t) || keptP id t a[k]) := by
      rw [List.take_succ_eq_append_getElem hd, List.any_append]
      simp
    generalize a[k] = u at r3 hsn
    have nxt : ∀ s', s' = (a.take (k + 1)).any (keptP id t) → ∀ st', Weak st' (rtSt2 l a id i (k + 1) s') → ∃ m'' s'', m'' < a.length - k ∧ Weak st' s'' ∧ rtI2 l a id i t m'' s'' := by
      intro s' hs' st' hst
      rw [hs'] at hst
      exact ⟨a.length - (k + 1), _, by omega, hst, k + 1, by omega, rfl, rfl⟩
    rw [hsn] at nxt
    generalize (a.take k).any (keptP id t) = s at nxt
    cases s with
    | true =>
      simp only [go_sem, Nat.reduceAdd, Nat.reduceSub, Nat.reduceMul, Nat.reduceLT, Nat.reduceLeDiff, Nat.reduceEqDiff, Nat.reduceBEq, Int.reduceToNat, Int.reduceLT, Int.reduceLE, Int.reduceEq, Int.reduceNe, Int.reduceAdd, Int.reduceSub, Int.reduceMul, Int.reduceNeg, ↓reduceIte, reduceCtorEq, rtSt2, laa, p1]
      refine endD_intro (by decide +kernel) ?_
      simp only [go_sem, Nat.reduceAdd, Nat.reduceSub, Nat.reduceMul, Nat.reduceLT, Nat.reduceLeDiff, Nat.reduceEqDiff, Nat.reduceBEq, Int.reduceToNat, Int.reduceLT, Int.reduceLE, Int.reduceEq, Int.reduceNe, Int.reduceAdd, Int.reduceSub, Int.reduceMul, Int.reduceNeg, ↓reduceIte, reduceCtorEq, hwk]
      refine nxt true (by simp) _ ?_
      simp only [go_sem, Nat.reduceAdd, Nat.reduceSub, Nat.reduceMul, Nat.reduceLT, Nat.reduceLeDiff, Nat.reduceEqDiff, Nat.reduceBEq, Int.reduceToNat, Int.reduceLT, Int.reduceLE, Int.reduceEq, Int.reduceNe, Int.reduceAdd, Int.reduceSub, Int.reduceMul, Int.reduceNeg, ↓reduceIte, reduceCtorEq, rtSt2]
    | false =>
      cases q1 : decide (u.id = t.id) with
      | false =>
        simp only [go_sem, Nat.reduceAdd, Nat.reduceSub, Nat.reduceMul, Nat.reduceLT, Nat.reduceLeDiff, Nat.reduceEqDiff, Nat.reduceBEq, Int.reduceToNat, Int.reduceLT, Int.reduceLE, Int.reduceEq, Int.reduceNe, Int.reduceAdd, Int.reduceSub, Int.reduceMul, Int.reduceNeg, ↓reduceIte, reduceCtorEq, rtSt2, laa, la, p1, p2, p0, f2, f0, Int.toNat_natCast, r1, r3, Trb.cells, q1]
        refine endD_intro (by decide +kernel) ?_
        simp only [go_sem, Nat.reduceAdd, Nat.reduceSub, Nat.reduceMul, Nat.reduceLT, Nat.reduceLeDiff, Nat.reduceEqDiff, Nat.reduceBEq, Int.reduceToNat, Int.reduceLT, Int.reduceLE, Int.reduceEq, Int.reduceNe, Int.reduceAdd, Int.reduceSub, Int.reduceMul, Int.reduceNeg, ↓reduceIte, reduceCtorEq, hwk]
        refine nxt false (by simp [keptP, q1]) _ ?_
        simp only [go_sem, Nat.reduceAdd, Nat.reduceSub, Nat.reduceMul, Nat.reduceLT, Nat.reduceLeDiff, Nat.reduceEqDiff, Nat.reduceBEq, Int.reduceToNat, Int.reduceLT, Int.reduceLE, Int.reduceEq, Int.reduceNe, Int.reduceAdd, Int.reduceSub, Int.reduceMul, Int.reduceNeg, ↓reduceIte, reduceCtorEq, rtSt2]
      | true =>
        have q2' : (decide (u.st = t.st) && (decide (u.sc = t.sc) && decide (u.ca = t.ca))) = decide (u = t) := by rw [← eqTrb, q1, Bool.true_and]
        cases q2 : decide (u = t) with
        | true =>
          simp only [go_sem, Nat.reduceAdd, Nat.reduceSub, Nat.reduceMul, Nat.reduceLT, Nat.reduceLeDiff, Nat.reduceEqDiff, Nat.reduceBEq, Int.reduceToNat, Int.reduceLT, Int.reduceLE, Int.reduceEq, Int.reduceNe, Int.reduceAdd, Int.reduceSub, Int.reduceMul, Int.reduceNeg, ↓reduceIte, reduceCtorEq, rtSt2, laa, la, p1, p2, p0, f2, f0, Int.toNat_natCast, r1, r3, Trb.cells, Bool.true_and, q2', q1, q2]
          refine endD_intro (by decide +kernel) ?_
          simp only [go_sem, Nat.reduceAdd, Nat.reduceSub, Nat.reduceMul, Nat.reduceLT, Nat.reduceLeDiff, Nat.reduceEqDiff, Nat.reduceBEq, Int.reduceToNat, Int.reduceLT, Int.reduceLE, Int.reduceEq, Int.reduceNe, Int.reduceAdd, Int.reduceSub, Int.reduceMul, Int.reduceNeg, ↓reduceIte, reduceCtorEq, hwk]
          refine nxt true (by simp [keptP, q1, q2]) _ ?_
          simp only [go_sem, Nat.reduceAdd, Nat.reduceSub, Nat.reduceMul, Nat.reduceLT, Nat.reduceLeDiff, Nat.reduceEqDiff, Nat.reduceBEq, Int.reduceToNat, Int.reduceLT, Int.reduceLE, Int.reduceEq, Int.reduceNe, Int.reduceAdd, Int.reduceSub, Int.reduceMul, Int.reduceNeg, ↓reduceIte, reduceCtorEq, rtSt2]
        | false =>
          cases q3 : decide (t.id = id) with
          | true =>
            simp only [go_sem, Nat.reduceAdd, Nat.reduceSub, Nat.reduceMul, Nat.reduceLT, Nat.reduceLeDiff, Nat.reduceEqDiff, Nat.reduceBEq, Int.reduceToNat, Int.reduceLT, Int.reduceLE, Int.reduceEq, Int.reduceNe, Int.reduceAdd, Int.reduceSub, Int.reduceMul, Int.reduceNeg, ↓reduceIte, reduceCtorEq, rtSt2, laa, la, p1, p2, p0, f2, f0, Int.toNat_natCast, r1, r3, Trb.cells, Bool.true_and, q2', q1, q2, q3]
            refine endD_intro (by decide +kernel) ?_
            simp only [go_sem, Nat.reduceAdd, Nat.reduceSub, Nat.reduceMul, Nat.reduceLT, Nat.reduceLeDiff, Nat.reduceEqDiff, Nat.reduceBEq, Int.reduceToNat, Int.reduceLT, Int.reduceLE, Int.reduceEq, Int.reduceNe, Int.reduceAdd, Int.reduceSub, Int.reduceMul, Int.reduceNeg, ↓reduceIte, reduceCtorEq, hwk]
            refine nxt true (by simp [keptP, q1, q2, q3]) _ ?_
            simp only [go_sem, Nat.reduceAdd, Nat.reduceSub, Nat.reduceMul, Nat.reduceLT, Nat.reduceLeDiff, Nat.reduceEqDiff, Nat.reduceBEq, Int.reduceToNat, Int.reduceLT, Int.reduceLE, Int.reduceEq, Int.reduceNe, Int.reduceAdd, Int.reduceSub, Int.reduceMul, Int.reduceNeg, ↓reduceIte, reduceCtorEq, rtSt2]
          | false =>
            simp only [go_sem, Nat.reduceAdd, Nat.reduceSub, Nat.reduceMul, Nat.reduceLT, Nat.reduceLeDiff, Nat.reduceEqDiff, Nat.reduceBEq, Int.reduceToNat, Int.reduceLT, Int.reduceLE, Int.reduceEq, Int.reduceNe, Int.reduceAdd, Int.reduceSub, Int.reduceMul, Int.reduceNeg, ↓reduceIte, reduceCtorEq, rtSt2, laa, la, p1, p2, p0, f2, f0, Int.toNat_natCast, r1, r3, Trb.cells, Bool.true_and, q2', q1, q2, q3]
            refine endD_intro (by decide +kernel) ?_
            simp only [go_sem, Nat.reduceAdd, Nat.reduceSub, Nat.reduceMul, Nat.reduceLT, Nat.reduceLeDiff, Nat.reduceEqDiff, Nat.reduceBEq, Int.reduceToNat, Int.reduceLT, Int.reduceLE, Int.reduceEq, Int.reduceNe, Int.reduceAdd, Int.reduceSub, Int.reduceMul, Int.reduceNeg, ↓reduceIte, reduceCtorEq, hwk]
            refine nxt false (by simp [keptP, q1, q2, q3]) _ ?_
            simp only [go_sem, Nat.reduceAdd, Nat.reduceSub, Nat.reduceMul, Nat.reduceLT, Nat.reduceLeDiff, Nat.reduceEqDiff, Nat.reduceBEq, Int.reduceToNat, Int.reduceLT, Int.reduceLE, Int.reduceEq, Int.reduceNe, Int.reduceAdd, Int.reduceSub, Int.reduceMul, Int.reduceNeg, ↓reduceIte, reduceCtorEq, rtSt2]
  have p1 : decide ((k : Int) < (a.length : Int)) = false := decide_eq_false (by omega)
  have hs : (a.take k).any (keptP id t) = true := by rw [List.take_of_length_le (by omega)]; exact hany
  rw [hs]
  simp only [go_sem, Nat.reduceAdd, Nat.reduceSub, Nat.reduceMul, Nat.reduceLT, Nat.reduceLeDiff, Nat.reduceEqDiff, Nat.reduceBEq, Int.reduceToNat, Int.reduceLT, Int.reduceLE, Int.reduceEq, Int.reduceNe, Int.reduceAdd, Int.reduceSub, Int.reduceMul, Int.reduceNeg, ↓reduceIte, reduceCtorEq, rtSt2, laa, la, lac, hcl, p1, f2, f0, Int.toNat_natCast, r1, r2, Trb.cells, g3, g4]
  refine endD_intro (by decide +kernel) ?_
  simp only [go_sem, Nat.reduceAdd, Nat.reduceSub, Nat.reduceMul, Nat.reduceLT, Nat.reduceLeDiff, Nat.reduceEqDiff, Nat.reduceBEq, Int.reduceToNat, Int.reduceLT, Int.reduceLE, Int.reduceEq, Int.reduceNe, Int.reduceAdd, Int.reduceSub, Int.reduceMul, Int.reduceNeg, ↓reduceIte, reduceCtorEq, hw]
  refine ⟨l.length - (i + 1), _, by omega, ?_, i + 1, by omega, rfl, rfl⟩
  simp only [go_sem, Nat.reduceAdd, Nat.reduceSub, Nat.reduceMul, Nat.reduceLT, Nat.reduceLeDiff, Nat.reduceEqDiff, Nat.reduceBEq, Int.reduceToNat, Int.reduceLT, Int.reduceLE, Int.reduceEq, Int.reduceNe, Int.reduceAdd, Int.reduceSub, Int.reduceMul, Int.reduceNeg, ↓reduceIte, reduceCtorEq, rtSt]
end Go.Proofs.Ytokilmnlabcpoaa.Pe
