import Derived.Test.YtokilmnlabcpoaaDT9
namespace Go.Proofs.Ytokilmnlabcpoaa.Pe
open Go.Pe Go.RowKit
set_option maxRecDepth 20000
set_option maxHeartbeats 4000000
set_option linter.unusedSimpArgs false
set_option linter.unusedVariables false

/-! ### sorted -/
theorem okFrom_lt : ∀ {r : List Trb} {p : Int}, okFrom (some p) r = true → ∀ u ∈ r, p < u.id
  | [], _, _, u, hu => by simp at hu
  | t :: r, p, h, u, hu => by
    simp only [okFrom, ordR, Bool.and_eq_true, Bool.not_eq_true', decide_eq_false_iff_not] at h
    rcases List.mem_cons.1 hu with rfl | hu
    · omega
    · have := okFrom_lt h.2 u hu
      omega
theorem okFrom_sorted : ∀ {l : List Trb} {p : Option Int}, okFrom p l = true → ∀ (j k : Nat) (t u : Trb), j < k → l[j]? = some t → l[k]? = some u → t.id < u.id
  | [], _, _, j, k, t, u, _, h1, _ => by simp at h1
  | x :: l, p, h, j, k, t, u, hjk, h1, h2 => by
    simp only [okFrom, Bool.and_eq_true] at h
    cases k with
    | zero => omega
    | succ k =>
      cases j with
      | zero =>
        cases h1
        exact okFrom_lt h.2 u (List.mem_of_getElem? h2)
      | succ j => exact okFrom_sorted h.2 j k t u (by omega) h1 h2
theorem rightL_from {l : List Trb} (h : rightL l = true) : okFrom none l = true := by
  simp only [rightL, Bool.and_eq_true] at h
  exact h.2
theorem atV_up {l : List Trb} (h : rightL l = true) {id : Int} {j : Nat} {t : Trb} (hj : atV l id ≤ j) (ht : l[j]? = some t) : ¬ t.id < id := by
  have hl := atV_le l id
  have hjl := (List.getElem?_eq_some_iff.1 ht).1
  have ha : l[atV l id]? = some l[atV l id] := List.getElem?_eq_getElem (by omega)
  have h1 := atV_ge l id _ ha
  by_cases e : j = atV l id
  · subst e; rw [ha] at ht; cases ht; exact h1
  · have := okFrom_sorted (rightL_from h) (atV l id) j _ t (by omega) ha ht
    omega
/-! ### the search -/
def cmpV (a b : Int) : Int := if a < b then -1 else if a > b then 1 else 0
theorem isNaN_calls (a : Int) : PureCalls Try.prog 76 [PI a] (PB false) := by
  refine PureCalls.of tabOK mixed Try.func76 rfl rfl (by decide +kernel) (by simp [Try.ntmps76]) ?_
  have g : decide (a = a) = true := by simp
  simp only [go_sem, Nat.reduceAdd, Nat.reduceSub, Nat.reduceMul, Nat.reduceLT, Nat.reduceLeDiff, Nat.reduceEqDiff, Nat.reduceBEq, Int.reduceToNat, Int.reduceLT, Int.reduceLE, Int.reduceEq, Int.reduceNe, Int.reduceAdd, Int.reduceSub, Int.reduceMul, Int.reduceNeg, ↓reduceIte, reduceCtorEq, Try.ntmps76, Try.results76, g]
theorem cmp_calls (a b : Int) : PureCalls Try.prog 63 [PI a, PI b] (PI (cmpV a b)) := by
  refine PureCalls.of tabOK mixed Try.func63 rfl rfl (by decide +kernel) (by simp [Try.ntmps63]) ?_
  simp only [go_sem, Nat.reduceAdd, Nat.reduceSub, Nat.reduceMul, Nat.reduceLT, Nat.reduceLeDiff, Nat.reduceEqDiff, Nat.reduceBEq, Int.reduceToNat, Int.reduceLT, Int.reduceLE, Int.reduceEq, Int.reduceNe, Int.reduceAdd, Int.reduceSub, Int.reduceMul, Int.reduceNeg, ↓reduceIte, reduceCtorEq, Try.ntmps63, Try.results63]
  (refine CallA.pure (isNaN_calls a) (by simp only [go_sem, Nat.reduceAdd, Nat.reduceSub, Nat.reduceMul, Nat.reduceLT, Nat.reduceLeDiff, Nat.reduceEqDiff, Nat.reduceBEq, Int.reduceToNat, Int.reduceLT, Int.reduceLE, Int.reduceEq, Int.reduceNe, Int.reduceAdd, Int.reduceSub, Int.reduceMul, Int.reduceNeg, ↓reduceIte, reduceCtorEq] <;> first | rfl | decide) ?_; simp only [go_sem, Nat.reduceAdd, Nat.reduceSub, Nat.reduceMul, Nat.reduceLT, Nat.reduceLeDiff, Nat.reduceEqDiff, Nat.reduceBEq, Int.reduceToNat, Int.reduceLT, Int.reduceLE, Int.reduceEq, Int.reduceNe, Int.reduceAdd, Int.reduceSub, Int.reduceMul, Int.reduceNeg, ↓reduceIte, reduceCtorEq])
  (refine CallA.pure (isNaN_calls b) (by simp only [go_sem, Nat.reduceAdd, Nat.reduceSub, Nat.reduceMul, Nat.reduceLT, Nat.reduceLeDiff, Nat.reduceEqDiff, Nat.reduceBEq, Int.reduceToNat, Int.reduceLT, Int.reduceLE, Int.reduceEq, Int.reduceNe, Int.reduceAdd, Int.reduceSub, Int.reduceMul, Int.reduceNeg, ↓reduceIte, reduceCtorEq] <;> first | rfl | decide) ?_; simp only [go_sem, Nat.reduceAdd, Nat.reduceSub, Nat.reduceMul, Nat.reduceLT, Nat.reduceLeDiff, Nat.reduceEqDiff, Nat.reduceBEq, Int.reduceToNat, Int.reduceLT, Int.reduceLE, Int.reduceEq, Int.reduceNe, Int.reduceAdd, Int.reduceSub, Int.reduceMul, Int.reduceNeg, ↓reduceIte, reduceCtorEq])
  by_cases h1 : a < b
  · have g1 : decide (a < b) = true := decide_eq_true h1
    simp only [go_sem, Nat.reduceAdd, Nat.reduceSub, Nat.reduceMul, Nat.reduceLT, Nat.reduceLeDiff, Nat.reduceEqDiff, Nat.reduceBEq, Int.reduceToNat, Int.reduceLT, Int.reduceLE, Int.reduceEq, Int.reduceNe, Int.reduceAdd, Int.reduceSub, Int.reduceMul, Int.reduceNeg, ↓reduceIte, reduceCtorEq, g1, Try.ntmps63, Try.results63]
    simp [cmpV, h1]
  · have g1 : decide (a < b) = false := decide_eq_false h1
    by_cases h2 : a > b
    · have g2 : decide (a > b) = true := decide_eq_true h2
      simp only [go_sem, Nat.reduceAdd, Nat.reduceSub, Nat.reduceMul, Nat.reduceLT, Nat.reduceLeDiff, Nat.reduceEqDiff, Nat.reduceBEq, Int.reduceToNat, Int.reduceLT, Int.reduceLE, Int.reduceEq, Int.reduceNe, Int.reduceAdd, Int.reduceSub, Int.reduceMul, Int.reduceNeg, ↓reduceIte, reduceCtorEq, g1, g2, Try.ntmps63, Try.results63]
      simp [cmpV, h1, h2]
    · have g2 : decide (a > b) = false := decide_eq_false h2
      simp only [go_sem, Nat.reduceAdd, Nat.reduceSub, Nat.reduceMul, Nat.reduceLT, Nat.reduceLeDiff, Nat.reduceEqDiff, Nat.reduceBEq, Int.reduceToNat, Int.reduceLT, Int.reduceLE, Int.reduceEq, Int.reduceNe, Int.reduceAdd, Int.reduceSub, Int.reduceMul, Int.reduceNeg, ↓reduceIte, reduceCtorEq, g1, g2, Try.ntmps63, Try.results63]
      simp [cmpV, h1, h2]
theorem repCmp_calls (t : Trb) (id : Int) : PureCalls Try.prog 62 [t.pv, PI id] (PI (cmpV t.id id)) := by
  refine PureCalls.of tabOK mixed Try.func62 rfl rfl (by decide +kernel) (by simp [Try.ntmps62]) ?_
  simp only [go_sem, Nat.reduceAdd, Nat.reduceSub, Nat.reduceMul, Nat.reduceLT, Nat.reduceLeDiff, Nat.reduceEqDiff, Nat.reduceBEq, Int.reduceToNat, Int.reduceLT, Int.reduceLE, Int.reduceEq, Int.reduceNe, Int.reduceAdd, Int.reduceSub, Int.reduceMul, Int.reduceNeg, ↓reduceIte, reduceCtorEq, Try.ntmps62, Try.results62, Trb.pv, Trb.cells]
  (refine CallA.pure (cmp_calls t.id id) (by simp only [go_sem, Nat.reduceAdd, Nat.reduceSub, Nat.reduceMul, Nat.reduceLT, Nat.reduceLeDiff, Nat.reduceEqDiff, Nat.reduceBEq, Int.reduceToNat, Int.reduceLT, Int.reduceLE, Int.reduceEq, Int.reduceNe, Int.reduceAdd, Int.reduceSub, Int.reduceMul, Int.reduceNeg, ↓reduceIte, reduceCtorEq, Try.ntmps62, Try.results62] <;> first | rfl | decide) ?_; simp only [go_sem, Nat.reduceAdd, Nat.reduceSub, Nat.reduceMul, Nat.reduceLT, Nat.reduceLeDiff, Nat.reduceEqDiff, Nat.reduceBEq, Int.reduceToNat, Int.reduceLT, Int.reduceLE, Int.reduceEq, Int.reduceNe, Int.reduceAdd, Int.reduceSub, Int.reduceMul, Int.reduceNeg, ↓reduceIte, reduceCtorEq, Try.ntmps62, Try.results62])
abbrev cmpF : PV := .lit (.func (.func 62) #[] #[])
def bsSt (l : List Trb) (id : Int) (i j : Nat) : St := ⟨49, [(0, trbsPV l), (1, PI id), (2, cmpF), (8, PI l.length), (9, PI i), (10, PI j)], [], 20, 0⟩
def bsI (l : List Trb) (id : Int) (m : Nat) (st : St) : Prop := ∃ i j : Nat, i ≤ atV l id ∧ atV l id ≤ j ∧ j ≤ l.length ∧ m = j - i ∧ st = bsSt l id i j
theorem bs_calls (l : List Trb) (id : Int) (hr : rightL l = true) : PureCalls Try.prog 61 [trbsPV l, PI id, cmpF] (.tup [PI (atV l id), PB (isV l id)]) := by
  refine PureCalls.of tabOK mixed Try.func61 rfl rfl (by decide +kernel) (by simp [Try.ntmps61]) ?_
  have la := trbRows_len l
  have hll := rightL_len hr
  have hle := atV_le l id
  simp only [go_sem, Nat.reduceAdd, Nat.reduceSub, Nat.reduceMul, Nat.reduceLT, Nat.reduceLeDiff, Nat.reduceEqDiff, Nat.reduceBEq, Int.reduceToNat, Int.reduceLT, Int.reduceLE, Int.reduceEq, Int.reduceNe, Int.reduceAdd, Int.reduceSub, Int.reduceMul, Int.reduceNeg, ↓reduceIte, reduceCtorEq, Try.ntmps61, Try.results61, la]
  refine wpA_loop (bsI l id) ⟨_, _, ?_, 0, l.length, Nat.zero_le _, hle, Nat.le_refl _, rfl, rfl⟩ ?_
  · simp only [go_sem, Nat.reduceAdd, Nat.reduceSub, Nat.reduceMul, Nat.reduceLT, Nat.reduceLeDiff, Nat.reduceEqDiff, Nat.reduceBEq, Int.reduceToNat, Int.reduceLT, Int.reduceLE, Int.reduceEq, Int.reduceNe, Int.reduceAdd, Int.reduceSub, Int.reduceMul, Int.reduceNeg, ↓reduceIte, reduceCtorEq, bsSt, Int.natCast_zero, la]
  rintro m st ⟨i, j, h1, h2, h3, rfl, rfl⟩
  by_cases hc : i < j
  · have f1 : decide ((i : Int) < (j : Int)) = true := decide_eq_true (by omega)
    obtain ⟨h, hh⟩ : ∃ h, (i + j) / 2 = h := ⟨_, rfl⟩
    have w1 : IntKind.wrap .i64 ((i : Int) + (j : Int)) = ((i + j : Nat) : Int) := by rw [wrapI64 (by omega)]; omega
    have w2 : IntKind.wrap .u64 ((i + j : Nat) : Int) = ((i + j : Nat) : Int) := by
      have e : IntKind.wrap .u64 ((i + j : Nat) : Int) = ((i + j : Nat) : Int) % 18446744073709551616 := by simp [IntKind.wrap, IntKind.bits, IntKind.signed]
      rw [e]; omega
    have w3 : ((i + j : Nat) : Int).fdiv (2 ^ min 1 64) = (h : Int) := by
      show ((i + j : Nat) : Int).fdiv 2 = _
      rw [Int.fdiv_eq_ediv_of_nonneg _ (by decide)]
      omega
    have w4 : IntKind.wrap .i64 (h : Int) = (h : Int) := wrapI64 (by omega)
    have hhl : h < l.length := by omega
    have f2 : (h : Int) < (l.length : Int) := by omega
    have f0 : (0 : Int) ≤ (h : Int) := by omega
    have r1 := trbRows_get hhl
    have hge : l[h]? = some l[h] := List.getElem?_eq_getElem hhl
    have up := fun hj => atV_up hr (id := id) (j := h) (t := l[h]) hj hge
    have dn := fun hj => atV_lt l id h l[h] hj hge
    generalize l[h] = t at r1 up dn
    have hw := wrapIN (i := h) (by omega)
    have c1 := repCmp_calls t id
    simp only [go_sem, Nat.reduceAdd, Nat.reduceSub, Nat.reduceMul, Nat.reduceLT, Nat.reduceLeDiff, Nat.reduceEqDiff, Nat.reduceBEq, Int.reduceToNat, Int.reduceLT, Int.reduceLE, Int.reduceEq, Int.reduceNe, Int.reduceAdd, Int.reduceSub, Int.reduceMul, Int.reduceNeg, ↓reduceIte, reduceCtorEq, bsSt, f1, w1, w2, w3, w4, la, f2, f0, Int.toNat_natCast, r1, Trb.cells]
    (refine CallA.pure (c1) (by simp only [go_sem, Nat.reduceAdd, Nat.reduceSub, Nat.reduceMul, Nat.reduceLT, Nat.reduceLeDiff, Nat.reduceEqDiff, Nat.reduceBEq, Int.reduceToNat, Int.reduceLT, Int.reduceLE, Int.reduceEq, Int.reduceNe, Int.reduceAdd, Int.reduceSub, Int.reduceMul, Int.reduceNeg, ↓reduceIte, reduceCtorEq, Trb.pv, Trb.cells] <;> first | rfl | decide) ?_; simp only [go_sem, Nat.reduceAdd, Nat.reduceSub, Nat.reduceMul, Nat.reduceLT, Nat.reduceLeDiff, Nat.reduceEqDiff, Nat.reduceBEq, Int.reduceToNat, Int.reduceLT, Int.reduceLE, Int.reduceEq, Int.reduceNe, Int.reduceAdd, Int.reduceSub, Int.reduceMul, Int.reduceNeg, ↓reduceIte, reduceCtorEq, Trb.pv, Trb.cells])
    by_cases hlt : t.id < id
    · have g1 : decide (cmpV t.id id < 0) = true := decide_eq_true (by rw [cmpV, if_pos hlt]; decide)
      have hha : h < atV l id := by
        rcases Nat.lt_or_ge h (atV l id) with h' | h'
        · exact h'
        · exact absurd hlt (up h')
      simp only [go_sem, Nat.reduceAdd, Nat.reduceSub, Nat.reduceMul, Nat.reduceLT, Nat.reduceLeDiff, Nat.reduceEqDiff, Nat.reduceBEq, Int.reduceToNat, Int.reduceLT, Int.reduceLE, Int.reduceEq, Int.reduceNe, Int.reduceAdd, Int.reduceSub, Int.reduceMul, Int.reduceNeg, ↓reduceIte, reduceCtorEq, g1, hw]
      refine ⟨j - (h + 1), _, by omega, ?_, h + 1, j, by omega, h2, h3, rfl, rfl⟩
      simp only [go_sem, Nat.reduceAdd, Nat.reduceSub, Nat.reduceMul, Nat.reduceLT, Nat.reduceLeDiff, Nat.reduceEqDiff, Nat.reduceBEq, Int.reduceToNat, Int.reduceLT, Int.reduceLE, Int.reduceEq, Int.reduceNe, Int.reduceAdd, Int.reduceSub, Int.reduceMul, Int.reduceNeg, ↓reduceIte, reduceCtorEq, bsSt]
    · have g1 : decide (cmpV t.id id < 0) = false := decide_eq_false (by rw [cmpV, if_neg hlt]; split <;> decide)
      have hha : atV l id ≤ h := by
        rcases Nat.lt_or_ge h (atV l id) with h' | h'
        · exact absurd (dn h') hlt
        · exact h'
      simp only [go_sem, Nat.reduceAdd, Nat.reduceSub, Nat.reduceMul, Nat.reduceLT, Nat.reduceLeDiff, Nat.reduceEqDiff, Nat.reduceBEq, Int.reduceToNat, Int.reduceLT, Int.reduceLE, Int.reduceEq, Int.reduceNe, Int.reduceAdd, Int.reduceSub, Int.reduceMul, Int.reduceNeg, ↓reduceIte, reduceCtorEq, g1]
      refine ⟨h - i, _, by omega, ?_, i, h, h1, hha, by omega, rfl, rfl⟩
      simp only [go_sem, Nat.reduceAdd, Nat.reduceSub, Nat.reduceMul, Nat.reduceLT, Nat.reduceLeDiff, Nat.reduceEqDiff, Nat.reduceBEq, Int.reduceToNat, Int.reduceLT, Int.reduceLE, Int.reduceEq, Int.reduceNe, Int.reduceAdd, Int.reduceSub, Int.reduceMul, Int.reduceNeg, ↓reduceIte, reduceCtorEq, bsSt]
  have f1 : decide ((i : Int) < (j : Int)) = false := decide_eq_false (by omega)
  have hia : i = atV l id := by omega
  obtain ⟨a, ha⟩ : ∃ a, atV l id = a := ⟨_, rfl⟩
  have his : isV l id = (match l[a]? with | some t => decide (t.id = id) | none => false) := by subst ha; rfl
  rw [ha] at hia hle ⊢
  subst hia
  by_cases hil : i < l.length
  · have f2 : decide ((i : Int) < (l.length : Int)) = true := decide_eq_true (by omega)
    have f2' : (i : Int) < (l.length : Int) := by omega
    have f0 : (0 : Int) ≤ (i : Int) := by omega
    have r1 := trbRows_get hil
    have hge : l[i]? = some l[i] := List.getElem?_eq_getElem hil
    rw [hge] at his
    generalize l[i] = t at r1 his
    have c1 := repCmp_calls t id
    have g1 : decide (cmpV t.id id = 0) = isV l id := by
      rw [his, Bool.eq_iff_iff]
      simp only [decide_eq_true_eq]
      unfold cmpV
      split
      · omega
      · split <;> omega
    simp only [go_sem, Nat.reduceAdd, Nat.reduceSub, Nat.reduceMul, Nat.reduceLT, Nat.reduceLeDiff, Nat.reduceEqDiff, Nat.reduceBEq, Int.reduceToNat, Int.reduceLT, Int.reduceLE, Int.reduceEq, Int.reduceNe, Int.reduceAdd, Int.reduceSub, Int.reduceMul, Int.reduceNeg, ↓reduceIte, reduceCtorEq, bsSt, f1, f2, f2', f0, la, Int.toNat_natCast, r1, Trb.cells]
    (refine CallA.pure (c1) (by simp only [go_sem, Nat.reduceAdd, Nat.reduceSub, Nat.reduceMul, Nat.reduceLT, Nat.reduceLeDiff, Nat.reduceEqDiff, Nat.reduceBEq, Int.reduceToNat, Int.reduceLT, Int.reduceLE, Int.reduceEq, Int.reduceNe, Int.reduceAdd, Int.reduceSub, Int.reduceMul, Int.reduceNeg, ↓reduceIte, reduceCtorEq, Trb.pv, Trb.cells] <;> first | rfl | decide) ?_; simp only [go_sem, Nat.reduceAdd, Nat.reduceSub, Nat.reduceMul, Nat.reduceLT, Nat.reduceLeDiff, Nat.reduceEqDiff, Nat.reduceBEq, Int.reduceToNat, Int.reduceLT, Int.reduceLE, Int.reduceEq, Int.reduceNe, Int.reduceAdd, Int.reduceSub, Int.reduceMul, Int.reduceNeg, ↓reduceIte, reduceCtorEq, Trb.pv, Trb.cells])
    simp only [go_sem, Nat.reduceAdd, Nat.reduceSub, Nat.reduceMul, Nat.reduceLT, Nat.reduceLeDiff, Nat.reduceEqDiff, Nat.reduceBEq, Int.reduceToNat, Int.reduceLT, Int.reduceLE, Int.reduceEq, Int.reduceNe, Int.reduceAdd, Int.reduceSub, Int.reduceMul, Int.reduceNeg, ↓reduceIte, reduceCtorEq, g1, Try.ntmps61, Try.results61]
  · have f2 : decide ((i : Int) < (l.length : Int)) = false := decide_eq_false (by omega)
    rw [List.getElem?_eq_none (by omega)] at his
    simp only [go_sem, Nat.reduceAdd, Nat.reduceSub, Nat.reduceMul, Nat.reduceLT, Nat.reduceLeDiff, Nat.reduceEqDiff, Nat.reduceBEq, Int.reduceToNat, Int.reduceLT, Int.reduceLE, Int.reduceEq, Int.reduceNe, Int.reduceAdd, Int.reduceSub, Int.reduceMul, Int.reduceNeg, ↓reduceIte, reduceCtorEq, bsSt, f1, f2, his, Try.ntmps61, Try.results61]
end Go.Proofs.Ytokilmnlabcpoaa.Pe
