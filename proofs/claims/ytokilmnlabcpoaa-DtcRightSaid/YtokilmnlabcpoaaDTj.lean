import Derived.Test.YtokilmnlabcpoaaDTi
namespace Go.Proofs.Ytokilmnlabcpoaa.Pe
open Go.Pe Go.RowKit
set_option maxRecDepth 20000
set_option maxHeartbeats 4000000
set_option linter.unusedSimpArgs false
set_option linter.unusedVariables false

theorem apart21_calls (l : List Trb) (a b : UInt16) (x y : Bool) : PureCalls Try.prog 16 [trbsPV l, .lit (.int .u16 a.toNat), .lit (.int .u16 b.toNat), PB x, PB y] (PB true) := by
  refine PureCalls.of tabOK mixed Try.func16 rfl rfl (by decide +kernel) (by simp [Try.ntmps16]) ?_
  have la := trbRows_len l
  have ba : a.toNat < 65536 := a.toNat_lt
  have bb : b.toNat < 65536 := b.toNat_lt
  have wa : IntKind.wrap .i64 (a.toNat : Int) = a.toNat := wrapI64 (by omega)
  have wb : IntKind.wrap .i64 (b.toNat : Int) = b.toNat := wrapI64 (by omega)
  simp only [go_sem, Nat.reduceAdd, Nat.reduceSub, Nat.reduceMul, Nat.reduceLT, Nat.reduceLeDiff, Nat.reduceEqDiff, Nat.reduceBEq, Int.reduceToNat, Int.reduceLT, Int.reduceLE, Int.reduceEq, Int.reduceNe, Int.reduceAdd, Int.reduceSub, Int.reduceMul, Int.reduceNeg, ↓reduceIte, reduceCtorEq, Try.ntmps16, Try.results16]
  (refine CallA.pure (head21_calls) (by simp only [go_sem, Nat.reduceAdd, Nat.reduceSub, Nat.reduceMul, Nat.reduceLT, Nat.reduceLeDiff, Nat.reduceEqDiff, Nat.reduceBEq, Int.reduceToNat, Int.reduceLT, Int.reduceLE, Int.reduceEq, Int.reduceNe, Int.reduceAdd, Int.reduceSub, Int.reduceMul, Int.reduceNeg, ↓reduceIte, reduceCtorEq] <;> first | rfl | decide) ?_; simp only [go_sem, Nat.reduceAdd, Nat.reduceSub, Nat.reduceMul, Nat.reduceLT, Nat.reduceLeDiff, Nat.reduceEqDiff, Nat.reduceBEq, Int.reduceToNat, Int.reduceLT, Int.reduceLE, Int.reduceEq, Int.reduceNe, Int.reduceAdd, Int.reduceSub, Int.reduceMul, Int.reduceNeg, ↓reduceIte, reduceCtorEq])
  by_cases h : l.length > 14
  · have g : decide ((l.length : Int) > 14) = true := decide_eq_true (by omega)
    simp only [go_sem, Nat.reduceAdd, Nat.reduceSub, Nat.reduceMul, Nat.reduceLT, Nat.reduceLeDiff, Nat.reduceEqDiff, Nat.reduceBEq, Int.reduceToNat, Int.reduceLT, Int.reduceLE, Int.reduceEq, Int.reduceNe, Int.reduceAdd, Int.reduceSub, Int.reduceMul, Int.reduceNeg, ↓reduceIte, reduceCtorEq, la, g, Try.ntmps16, Try.results16]
  have g : decide ((l.length : Int) > 14) = false := decide_eq_false (by omega)
  have c1 := rightD_calls l (by omega)
  simp only [go_sem, Nat.reduceAdd, Nat.reduceSub, Nat.reduceMul, Nat.reduceLT, Nat.reduceLeDiff, Nat.reduceEqDiff, Nat.reduceBEq, Int.reduceToNat, Int.reduceLT, Int.reduceLE, Int.reduceEq, Int.reduceNe, Int.reduceAdd, Int.reduceSub, Int.reduceMul, Int.reduceNeg, ↓reduceIte, reduceCtorEq, la, g]
  (refine CallA.pure (c1) (by simp only [go_sem, Nat.reduceAdd, Nat.reduceSub, Nat.reduceMul, Nat.reduceLT, Nat.reduceLeDiff, Nat.reduceEqDiff, Nat.reduceBEq, Int.reduceToNat, Int.reduceLT, Int.reduceLE, Int.reduceEq, Int.reduceNe, Int.reduceAdd, Int.reduceSub, Int.reduceMul, Int.reduceNeg, ↓reduceIte, reduceCtorEq] <;> first | rfl | decide) ?_; simp only [go_sem, Nat.reduceAdd, Nat.reduceSub, Nat.reduceMul, Nat.reduceLT, Nat.reduceLeDiff, Nat.reduceEqDiff, Nat.reduceBEq, Int.reduceToNat, Int.reduceLT, Int.reduceLE, Int.reduceEq, Int.reduceNe, Int.reduceAdd, Int.reduceSub, Int.reduceMul, Int.reduceNeg, ↓reduceIte, reduceCtorEq])
  cases hr : rightL l with
  | false => simp only [go_sem, Nat.reduceAdd, Nat.reduceSub, Nat.reduceMul, Nat.reduceLT, Nat.reduceLeDiff, Nat.reduceEqDiff, Nat.reduceBEq, Int.reduceToNat, Int.reduceLT, Int.reduceLE, Int.reduceEq, Int.reduceNe, Int.reduceAdd, Int.reduceSub, Int.reduceMul, Int.reduceNeg, ↓reduceIte, reduceCtorEq, hr, Try.ntmps16, Try.results16]
  | true =>
    by_cases hab : a.toNat = b.toNat
    · have g2 : decide ((a.toNat : Int) = (b.toNat : Int)) = true := decide_eq_true (by omega)
      simp only [go_sem, Nat.reduceAdd, Nat.reduceSub, Nat.reduceMul, Nat.reduceLT, Nat.reduceLeDiff, Nat.reduceEqDiff, Nat.reduceBEq, Int.reduceToNat, Int.reduceLT, Int.reduceLE, Int.reduceEq, Int.reduceNe, Int.reduceAdd, Int.reduceSub, Int.reduceMul, Int.reduceNeg, ↓reduceIte, reduceCtorEq, hr, g2, Try.ntmps16, Try.results16]
    have g2 : decide ((a.toNat : Int) = (b.toNat : Int)) = false := decide_eq_false (by omega)
    have la1 := report_len l a.toNat x
    have lb1 := report_len l b.toNat y
    have c2 := repD_calls l a.toNat x hr
    have c3 := repD_calls (reportV l a.toNat x) b.toNat y (report_right _ _ hr)
    have c4 := repD_calls l b.toNat y hr
    have c5 := repD_calls (reportV l b.toNat y) a.toNat x (report_right _ _ hr)
    have e : reportV (reportV l b.toNat y) a.toNat x = reportV (reportV l a.toNat x) b.toNat y := by
      have e1 : reportV l (a.toNat : Int) x = rep l a.toNat x := reportV_rep ⟨by omega, by omega⟩ (.inr (by omega))
      have e2 : reportV l (b.toNat : Int) y = rep l b.toNat y := reportV_rep ⟨by omega, by omega⟩ (.inr (by omega))
      have e3 := reportV_rep (l := reportV l a.toNat x) (id := b.toNat) (f := y) ⟨by omega, by omega⟩ (.inr (by omega))
      have e4 := reportV_rep (l := reportV l b.toNat y) (id := a.toNat) (f := x) ⟨by omega, by omega⟩ (.inr (by omega))
      rw [e3, e4, e1, e2]
      exact (rep_comm a.toNat b.toNat x y (by omega) l).symm
    rw [e] at c5
    have l2 := report_len (reportV l a.toNat x) b.toNat y
    have c6 := same21_calls (reportV (reportV l a.toNat x) b.toNat y) (reportV (reportV l a.toNat x) b.toNat y) (by omega)
    rw [decide_eq_true rfl] at c6
    simp only [go_sem, Nat.reduceAdd, Nat.reduceSub, Nat.reduceMul, Nat.reduceLT, Nat.reduceLeDiff, Nat.reduceEqDiff, Nat.reduceBEq, Int.reduceToNat, Int.reduceLT, Int.reduceLE, Int.reduceEq, Int.reduceNe, Int.reduceAdd, Int.reduceSub, Int.reduceMul, Int.reduceNeg, ↓reduceIte, reduceCtorEq, hr, g2, wa, wb]
    (refine CallA.pure (c2) (by simp only [go_sem, Nat.reduceAdd, Nat.reduceSub, Nat.reduceMul, Nat.reduceLT, Nat.reduceLeDiff, Nat.reduceEqDiff, Nat.reduceBEq, Int.reduceToNat, Int.reduceLT, Int.reduceLE, Int.reduceEq, Int.reduceNe, Int.reduceAdd, Int.reduceSub, Int.reduceMul, Int.reduceNeg, ↓reduceIte, reduceCtorEq, wa, wb] <;> first | rfl | decide) ?_; simp only [go_sem, Nat.reduceAdd, Nat.reduceSub, Nat.reduceMul, Nat.reduceLT, Nat.reduceLeDiff, Nat.reduceEqDiff, Nat.reduceBEq, Int.reduceToNat, Int.reduceLT, Int.reduceLE, Int.reduceEq, Int.reduceNe, Int.reduceAdd, Int.reduceSub, Int.reduceMul, Int.reduceNeg, ↓reduceIte, reduceCtorEq, wa, wb])
    (refine CallA.pure (c3) (by simp only [go_sem, Nat.reduceAdd, Nat.reduceSub, Nat.reduceMul, Nat.reduceLT, Nat.reduceLeDiff, Nat.reduceEqDiff, Nat.reduceBEq, Int.reduceToNat, Int.reduceLT, Int.reduceLE, Int.reduceEq, Int.reduceNe, Int.reduceAdd, Int.reduceSub, Int.reduceMul, Int.reduceNeg, ↓reduceIte, reduceCtorEq, wa, wb] <;> first | rfl | decide) ?_; simp only [go_sem, Nat.reduceAdd, Nat.reduceSub, Nat.reduceMul, Nat.reduceLT, Nat.reduceLeDiff, Nat.reduceEqDiff, Nat.reduceBEq, Int.reduceToNat, Int.reduceLT, Int.reduceLE, Int.reduceEq, Int.reduceNe, Int.reduceAdd, Int.reduceSub, Int.reduceMul, Int.reduceNeg, ↓reduceIte, reduceCtorEq, wa, wb])
    (refine CallA.pure (c4) (by simp only [go_sem, Nat.reduceAdd, Nat.reduceSub, Nat.reduceMul, Nat.reduceLT, Nat.reduceLeDiff, Nat.reduceEqDiff, Nat.reduceBEq, Int.reduceToNat, Int.reduceLT, Int.reduceLE, Int.reduceEq, Int.reduceNe, Int.reduceAdd, Int.reduceSub, Int.reduceMul, Int.reduceNeg, ↓reduceIte, reduceCtorEq, wa, wb] <;> first | rfl | decide) ?_; simp only [go_sem, Nat.reduceAdd, Nat.reduceSub, Nat.reduceMul, Nat.reduceLT, Nat.reduceLeDiff, Nat.reduceEqDiff, Nat.reduceBEq, Int.reduceToNat, Int.reduceLT, Int.reduceLE, Int.reduceEq, Int.reduceNe, Int.reduceAdd, Int.reduceSub, Int.reduceMul, Int.reduceNeg, ↓reduceIte, reduceCtorEq, wa, wb])
    (refine CallA.pure (c5) (by simp only [go_sem, Nat.reduceAdd, Nat.reduceSub, Nat.reduceMul, Nat.reduceLT, Nat.reduceLeDiff, Nat.reduceEqDiff, Nat.reduceBEq, Int.reduceToNat, Int.reduceLT, Int.reduceLE, Int.reduceEq, Int.reduceNe, Int.reduceAdd, Int.reduceSub, Int.reduceMul, Int.reduceNeg, ↓reduceIte, reduceCtorEq, wa, wb] <;> first | rfl | decide) ?_; simp only [go_sem, Nat.reduceAdd, Nat.reduceSub, Nat.reduceMul, Nat.reduceLT, Nat.reduceLeDiff, Nat.reduceEqDiff, Nat.reduceBEq, Int.reduceToNat, Int.reduceLT, Int.reduceLE, Int.reduceEq, Int.reduceNe, Int.reduceAdd, Int.reduceSub, Int.reduceMul, Int.reduceNeg, ↓reduceIte, reduceCtorEq, wa, wb])
    (refine CallA.pure (c6) (by simp only [go_sem, Nat.reduceAdd, Nat.reduceSub, Nat.reduceMul, Nat.reduceLT, Nat.reduceLeDiff, Nat.reduceEqDiff, Nat.reduceBEq, Int.reduceToNat, Int.reduceLT, Int.reduceLE, Int.reduceEq, Int.reduceNe, Int.reduceAdd, Int.reduceSub, Int.reduceMul, Int.reduceNeg, ↓reduceIte, reduceCtorEq, Try.ntmps16, Try.results16] <;> first | rfl | decide) ?_; simp only [go_sem, Nat.reduceAdd, Nat.reduceSub, Nat.reduceMul, Nat.reduceLT, Nat.reduceLeDiff, Nat.reduceEqDiff, Nat.reduceBEq, Int.reduceToNat, Int.reduceLT, Int.reduceLE, Int.reduceEq, Int.reduceNe, Int.reduceAdd, Int.reduceSub, Int.reduceMul, Int.reduceNeg, ↓reduceIte, reduceCtorEq, Try.ntmps16, Try.results16])
def rideSt1 (l out : List Trb) (id : Int) (f : Bool) (u : UInt16) (i : Nat) : St := ⟨98, [(0, trbsPV l), (1, .lit (.int .u16 u.toNat)), (7, PB true), (8, trbsPV (cycL l)), (9, trbsPV out), (10, PI i)], [], 20, 0⟩
def rideI1 (l out : List Trb) (id : Int) (f : Bool) (u : UInt16) (m : Nat) (st : St) : Prop := ∃ i : Nat, i ≤ l.length ∧ m = l.length - i ∧ st = rideSt1 l out id f u i
def rideSt2 (out : List Trb) (u : UInt16) (i : Nat) : St := ⟨98, [(1, .lit (.int .u16 u.toNat)), (7, PB true), (9, trbsPV out), (11, PI i)], [], 20, 0⟩
def rideI2 (out : List Trb) (u : UInt16) (m : Nat) (st : St) : Prop := ∃ i : Nat, i ≤ out.length ∧ m = out.length - i ∧ st = rideSt2 out u i
/-- Behind a ride just what is tested is not untested. -/
theorem rep_untested (id : Int) (f : Bool) (hid : 0 ≤ id ∧ id ≤ 65535) : ∀ (l : List Trb), (∀ t ∈ l, t.okR = true ∧ hasV t.st 8 = true) → (∀ (j k : Nat) (t u : Trb), j < k → l[j]? = some t → l[k]? = some u → t.id < u.id) → ∀ t ∈ rep l id f, hasV t.st 8 = !decide (t.id = id)
  | [], _, _, t, ht => by
    simp only [rep, List.mem_singleton] at ht
    subst ht
    rw [(tested_okR f (fresh_okR hid)).2, tested_id]
    simp [freshT]
  | u :: r, h, hs, t, ht => by
    have hu := h u List.mem_cons_self
    have hr : ∀ t ∈ r, t.okR = true ∧ hasV t.st 8 = true := fun t ht => h t (List.mem_cons_of_mem _ ht)
    have hsr : ∀ (j k : Nat) (t u : Trb), j < k → r[j]? = some t → r[k]? = some u → t.id < u.id := fun j k t u hjk h1 h2 => hs (j + 1) (k + 1) t u (by omega) (by simpa using h1) (by simpa using h2)
    have hlt : ∀ t ∈ r, u.id < t.id := fun t ht => by
      obtain ⟨k, hk, rfl⟩ := List.getElem_of_mem ht
      exact hs 0 (k + 1) u r[k] (by omega) rfl (by simp)
    have one : ∀ t : Trb, hasV t.st 8 = true → t.id ≠ id → hasV t.st 8 = !decide (t.id = id) := fun t h1 h2 => by rw [h1, decide_eq_false h2]; rfl
    unfold rep at ht
    split at ht
    · rename_i h1
      rcases List.mem_cons.1 ht with rfl | ht
      · exact one _ hu.2 (by omega)
      · exact rep_untested id f hid r hr hsr t ht
    · rename_i h1
      split at ht
      · rename_i h2
        rcases List.mem_cons.1 ht with rfl | ht
        · rw [(tested_okR f hu.1).2, tested_id, h2]; simp
        · exact one t (hr t ht).2 (by have := hlt t ht; omega)
      · rename_i h2
        rcases List.mem_cons.1 ht with rfl | ht
        · rw [(tested_okR f (fresh_okR hid)).2, tested_id]; simp [freshT]
        · rcases List.mem_cons.1 ht with rfl | ht
          · exact one _ hu.2 h2
          · exact one t (hr t ht).2 (by have := hlt t ht; omega)
theorem isV_of {l : List Trb} (hr : rightL l = true) {id : Int} {t : Trb} (ht : t ∈ l) (h : t.id = id) : isV l id = true := by
  obtain ⟨k, hk, rfl⟩ := List.getElem_of_mem ht
  have hge : l[k]? = some l[k] := List.getElem?_eq_getElem hk
  have hka : atV l id ≤ k := by
    rcases Nat.lt_or_ge k (atV l id) with h' | h'
    · have := atV_lt l id k _ h' hge; omega
    · exact h'
  have hal : atV l id < l.length := by omega
  have hga : l[atV l id]? = some l[atV l id] := List.getElem?_eq_getElem hal
  have h1 := atV_ge l id _ hga
  have h2 : l[atV l id].id ≤ l[k].id := by
    rcases Nat.lt_or_ge (atV l id) k with h' | h'
    · have := okFrom_sorted (rightL_from hr) _ _ _ _ h' hga hge; omega
    · have e : atV l id = k := by omega
      have : l[atV l id]? = l[k]? := by rw [e]
      rw [hga, hge] at this
      rw [Option.some.inj this]
      exact Int.le_refl _
  rw [isV, hga]
  simp only [decide_eq_true_eq]
  omega
theorem rides_all {l : List Trb} (hr : rightL l = true) (id : Int) (f : Bool) (hid : 0 ≤ id ∧ id ≤ 65535) : ∀ t ∈ reportV (cycL l) id f, hasV t.st 8 = !decide (t.id = id) := by
  have hrc := cyc_right hr
  have h8 : ∀ t ∈ cycL l, t.okR = true ∧ hasV t.st 8 = true := by
    intro t ht
    simp only [cycL, List.mem_map] at ht
    obtain ⟨u, hu, rfl⟩ := ht
    have := ridden_okR (rightL_mem hr u hu)
    exact ⟨this.1, this.2.2.1⟩
  intro t ht
  rcases reportV_or (cycL l) id f with e | ⟨_, _, _, e⟩
  · rw [e] at ht
    rw [(h8 t ht).2]
    by_cases hti : t.id = id
    · have hv := isV_of hrc ht hti
      have e2 := reportV_rep (l := cycL l) (f := f) hid (.inl hv)
      rw [e] at e2
      have h9 := rep_untested id f hid (cycL l) h8 (okFrom_sorted (rightL_from hrc)) t (by rw [← e2]; exact ht)
      rw [(h8 t ht).2, hti] at h9
      simp at h9
    · simp [hti]
  · rw [e] at ht
    exact rep_untested id f hid (cycL l) h8 (okFrom_sorted (rightL_from hrc)) t ht
theorem rides21_calls (l : List Trb) (u : UInt16) (f : Bool) : PureCalls Try.prog 17 [trbsPV l, .lit (.int .u16 u.toNat), PB f] (PB true) := by
  refine PureCalls.of tabOK mixed Try.func17 rfl rfl (by decide +kernel) (by simp [Try.ntmps17]) ?_
  have la := trbRows_len l
  have bu : u.toNat < 65536 := u.toNat_lt
  have wu : IntKind.wrap .i64 (u.toNat : Int) = u.toNat := wrapI64 (by omega)
  simp only [go_sem, Nat.reduceAdd, Nat.reduceSub, Nat.reduceMul, Nat.reduceLT, Nat.reduceLeDiff, Nat.reduceEqDiff, Nat.reduceBEq, Int.reduceToNat, Int.reduceLT, Int.reduceLE, Int.reduceEq, Int.reduceNe, Int.reduceAdd, Int.reduceSub, Int.reduceMul, Int.reduceNeg, ↓reduceIte, reduceCtorEq, Try.ntmps17, Try.results17]
  (refine CallA.pure (head21_calls) (by simp only [go_sem, Nat.reduceAdd, Nat.reduceSub, Nat.reduceMul, Nat.reduceLT, Nat.reduceLeDiff, Nat.reduceEqDiff, Nat.reduceBEq, Int.reduceToNat, Int.reduceLT, Int.reduceLE, Int.reduceEq, Int.reduceNe, Int.reduceAdd, Int.reduceSub, Int.reduceMul, Int.reduceNeg, ↓reduceIte, reduceCtorEq] <;> first | rfl | decide) ?_; simp only [go_sem, Nat.reduceAdd, Nat.reduceSub, Nat.reduceMul, Nat.reduceLT, Nat.reduceLeDiff, Nat.reduceEqDiff, Nat.reduceBEq, Int.reduceToNat, Int.reduceLT, Int.reduceLE, Int.reduceEq, Int.reduceNe, Int.reduceAdd, Int.reduceSub, Int.reduceMul, Int.reduceNeg, ↓reduceIte, reduceCtorEq])
  by_cases h : l.length > 16
  · have g : decide ((l.length : Int) > 16) = true := decide_eq_true (by omega)
    simp only [go_sem, Nat.reduceAdd, Nat.reduceSub, Nat.reduceMul, Nat.reduceLT, Nat.reduceLeDiff, Nat.reduceEqDiff, Nat.reduceBEq, Int.reduceToNat, Int.reduceLT, Int.reduceLE, Int.reduceEq, Int.reduceNe, Int.reduceAdd, Int.reduceSub, Int.reduceMul, Int.reduceNeg, ↓reduceIte, reduceCtorEq, la, g, Try.ntmps17, Try.results17]
  have g : decide ((l.length : Int) > 16) = false := decide_eq_false (by omega)
  have c1 := rightD_calls l (by omega)
  simp only [go_sem, Nat.reduceAdd, Nat.reduceSub, Nat.reduceMul, Nat.reduceLT, Nat.reduceLeDiff, Nat.reduceEqDiff, Nat.reduceBEq, Int.reduceToNat, Int.reduceLT, Int.reduceLE, Int.reduceEq, Int.reduceNe, Int.reduceAdd, Int.reduceSub, Int.reduceMul, Int.reduceNeg, ↓reduceIte, reduceCtorEq, la, g]
  (refine CallA.pure (c1) (by simp only [go_sem, Nat.reduceAdd, Nat.reduceSub, Nat.reduceMul, Nat.reduceLT, Nat.reduceLeDiff, Nat.reduceEqDiff, Nat.reduceBEq, Int.reduceToNat, Int.reduceLT, Int.reduceLE, Int.reduceEq, Int.reduceNe, Int.reduceAdd, Int.reduceSub, Int.reduceMul, Int.reduceNeg, ↓reduceIte, reduceCtorEq] <;> first | rfl | decide) ?_; simp only [go_sem, Nat.reduceAdd, Nat.reduceSub, Nat.reduceMul, Nat.reduceLT, Nat.reduceLeDiff, Nat.reduceEqDiff, Nat.reduceBEq, Int.reduceToNat, Int.reduceLT, Int.reduceLE, Int.reduceEq, Int.reduceNe, Int.reduceAdd, Int.reduceSub, Int.reduceMul, Int.reduceNeg, ↓reduceIte, reduceCtorEq])
  cases hr : rightL l with
  | false => simp only [go_sem, Nat.reduceAdd, Nat.reduceSub, Nat.reduceMul, Nat.reduceLT, Nat.reduceLeDiff, Nat.reduceEqDiff, Nat.reduceBEq, Int.reduceToNat, Int.reduceLT, Int.reduceLE, Int.reduceEq, Int.reduceNe, Int.reduceAdd, Int.reduceSub, Int.reduceMul, Int.reduceNeg, ↓reduceIte, reduceCtorEq, hr, Try.ntmps17, Try.results17]
  | true =>
    have hrc := cyc_right hr
    have hcl : (cycL l).length = l.length := by simp [cycL]
    have lac := trbRows_len (cycL l)
    have c2 := cycD_calls l (by omega)
    have c3 := repD_calls (cycL l) u.toNat f hrc
    have hall := rides_all hr u.toNat f ⟨by omega, by omega⟩
    have hol := report_len (cycL l) u.toNat f
    generalize reportV (cycL l) u.toNat f = out at c3 hall hol
    have lao := trbRows_len out
    simp only [go_sem, Nat.reduceAdd, Nat.reduceSub, Nat.reduceMul, Nat.reduceLT, Nat.reduceLeDiff, Nat.reduceEqDiff, Nat.reduceBEq, Int.reduceToNat, Int.reduceLT, Int.reduceLE, Int.reduceEq, Int.reduceNe, Int.reduceAdd, Int.reduceSub, Int.reduceMul, Int.reduceNeg, ↓reduceIte, reduceCtorEq, hr]
    (refine CallA.pure (c2) (by simp only [go_sem, Nat.reduceAdd, Nat.reduceSub, Nat.reduceMul, Nat.reduceLT, Nat.reduceLeDiff, Nat.reduceEqDiff, Nat.reduceBEq, Int.reduceToNat, Int.reduceLT, Int.reduceLE, Int.reduceEq, Int.reduceNe, Int.reduceAdd, Int.reduceSub, Int.reduceMul, Int.reduceNeg, ↓reduceIte, reduceCtorEq] <;> first | rfl | decide) ?_; simp only [go_sem, Nat.reduceAdd, Nat.reduceSub, Nat.reduceMul, Nat.reduceLT, Nat.reduceLeDiff, Nat.reduceEqDiff, Nat.reduceBEq, Int.reduceToNat, Int.reduceLT, Int.reduceLE, Int.reduceEq, Int.reduceNe, Int.reduceAdd, Int.reduceSub, Int.reduceMul, Int.reduceNeg, ↓reduceIte, reduceCtorEq])
    (refine CallA.pure (c3) (by simp only [go_sem, Nat.reduceAdd, Nat.reduceSub, Nat.reduceMul, Nat.reduceLT, Nat.reduceLeDiff, Nat.reduceEqDiff, Nat.reduceBEq, Int.reduceToNat, Int.reduceLT, Int.reduceLE, Int.reduceEq, Int.reduceNe, Int.reduceAdd, Int.reduceSub, Int.reduceMul, Int.reduceNeg, ↓reduceIte, reduceCtorEq, wu, la, lac, hcl] <;> first | rfl | decide) ?_; simp only [go_sem, Nat.reduceAdd, Nat.reduceSub, Nat.reduceMul, Nat.reduceLT, Nat.reduceLeDiff, Nat.reduceEqDiff, Nat.reduceBEq, Int.reduceToNat, Int.reduceLT, Int.reduceLE, Int.reduceEq, Int.reduceNe, Int.reduceAdd, Int.reduceSub, Int.reduceMul, Int.reduceNeg, ↓reduceIte, reduceCtorEq, wu, la, lac, hcl])
    refine wpA_loop (rideI1 l out u.toNat f u) ⟨_, _, ?_, 0, by omega, rfl, rfl⟩ ?_
    · simp only [go_sem, Nat.reduceAdd, Nat.reduceSub, Nat.reduceMul, Nat.reduceLT, Nat.reduceLeDiff, Nat.reduceEqDiff, Nat.reduceBEq, Int.reduceToNat, Int.reduceLT, Int.reduceLE, Int.reduceEq, Int.reduceNe, Int.reduceAdd, Int.reduceSub, Int.reduceMul, Int.reduceNeg, ↓reduceIte, reduceCtorEq, rideSt1, Int.natCast_zero]
    rintro m st ⟨i, hi, rfl, rfl⟩
    by_cases hc : i < l.length
    · have f1 : decide ((i : Int) < (l.length : Int)) = true := decide_eq_true (by omega)
      have f2 : (i : Int) < (l.length : Int) := by omega
      have f0 : (0 : Int) ≤ (i : Int) := by omega
      have hw := wrapIN (i := i) (by omega)
      have r1 := trbRows_get hc
      have r2 := trbRows_get (l := cycL l) (i := i) (by omega)
      have hce : (cycL l)[i]'(by omega) = riddenV l[i] := by simp [cycL]
      rw [hce] at r2
      obtain ⟨_, k1, k2, k3⟩ := ridden_okR (rightL_mem hr l[i] (List.getElem_mem hc))
      have g1 : decide (bitsA .and .i64 (riddenV l[i]).st 8 = 0) = false := by simpa [hasV] using k2
      have g2 : decide ((riddenV l[i]).sc = l[i].sc) = true := decide_eq_true k1
      have g3 : decide (bitsA .and .i64 (riddenV l[i]).st 1 = bitsA .and .i64 l[i].st 1) = true := decide_eq_true k3
      generalize l[i] = t at r1 r2 g1 g2 g3
      simp only [go_sem, Nat.reduceAdd, Nat.reduceSub, Nat.reduceMul, Nat.reduceLT, Nat.reduceLeDiff, Nat.reduceEqDiff, Nat.reduceBEq, Int.reduceToNat, Int.reduceLT, Int.reduceLE, Int.reduceEq, Int.reduceNe, Int.reduceAdd, Int.reduceSub, Int.reduceMul, Int.reduceNeg, ↓reduceIte, reduceCtorEq, rideSt1, la, lac, hcl, f1, f2, f0, Int.toNat_natCast, r1, r2, Trb.cells, g1, g2, g3]
      refine endD_intro (by decide +kernel) ?_
      simp only [go_sem, Nat.reduceAdd, Nat.reduceSub, Nat.reduceMul, Nat.reduceLT, Nat.reduceLeDiff, Nat.reduceEqDiff, Nat.reduceBEq, Int.reduceToNat, Int.reduceLT, Int.reduceLE, Int.reduceEq, Int.reduceNe, Int.reduceAdd, Int.reduceSub, Int.reduceMul, Int.reduceNeg, ↓reduceIte, reduceCtorEq, hw]
      refine ⟨l.length - (i + 1), _, by omega, ?_, i + 1, by omega, rfl, rfl⟩
      simp only [go_sem, Nat.reduceAdd, Nat.reduceSub, Nat.reduceMul, Nat.reduceLT, Nat.reduceLeDiff, Nat.reduceEqDiff, Nat.reduceBEq, Int.reduceToNat, Int.reduceLT, Int.reduceLE, Int.reduceEq, Int.reduceNe, Int.reduceAdd, Int.reduceSub, Int.reduceMul, Int.reduceNeg, ↓reduceIte, reduceCtorEq, rideSt1]
    · have f1 : decide ((i : Int) < (l.length : Int)) = false := decide_eq_false (by omega)
      simp only [go_sem, Nat.reduceAdd, Nat.reduceSub, Nat.reduceMul, Nat.reduceLT, Nat.reduceLeDiff, Nat.reduceEqDiff, Nat.reduceBEq, Int.reduceToNat, Int.reduceLT, Int.reduceLE, Int.reduceEq, Int.reduceNe, Int.reduceAdd, Int.reduceSub, Int.reduceMul, Int.reduceNeg, ↓reduceIte, reduceCtorEq, rideSt1, la, f1]
      clear f1
      refine wpA_loop (rideI2 out u) ⟨_, _, ?_, 0, by omega, rfl, rfl⟩ ?_
      · simp only [go_sem, Nat.reduceAdd, Nat.reduceSub, Nat.reduceMul, Nat.reduceLT, Nat.reduceLeDiff, Nat.reduceEqDiff, Nat.reduceBEq, Int.reduceToNat, Int.reduceLT, Int.reduceLE, Int.reduceEq, Int.reduceNe, Int.reduceAdd, Int.reduceSub, Int.reduceMul, Int.reduceNeg, ↓reduceIte, reduceCtorEq, rideSt2, Int.natCast_zero]
      rintro m st ⟨j, hj, rfl, rfl⟩
      by_cases hd : j < out.length
      · have f1 : decide ((j : Int) < (out.length : Int)) = true := decide_eq_true (by omega)
        have f2 : (j : Int) < (out.length : Int) := by omega
        have f0 : (0 : Int) ≤ (j : Int) := by omega
        have hw := wrapIN (i := j) (by omega)
        have r1 := trbRows_get hd
        have h8 := hall out[j] (List.getElem_mem hd)
        generalize out[j] = t at r1 h8
        have g1 : decide (bitsA .and .i64 t.st 8 = 0) = decide (t.id = (u.toNat : Int)) := by
          rw [hasV] at h8
          simpa using h8
        simp only [go_sem, Nat.reduceAdd, Nat.reduceSub, Nat.reduceMul, Nat.reduceLT, Nat.reduceLeDiff, Nat.reduceEqDiff, Nat.reduceBEq, Int.reduceToNat, Int.reduceLT, Int.reduceLE, Int.reduceEq, Int.reduceNe, Int.reduceAdd, Int.reduceSub, Int.reduceMul, Int.reduceNeg, ↓reduceIte, reduceCtorEq, rideSt2, lao, f1, f2, f0, Int.toNat_natCast, r1, Trb.cells, wu, g1, bne_self_eq_false]
        refine endD_intro (by decide +kernel) ?_
        simp only [go_sem, Nat.reduceAdd, Nat.reduceSub, Nat.reduceMul, Nat.reduceLT, Nat.reduceLeDiff, Nat.reduceEqDiff, Nat.reduceBEq, Int.reduceToNat, Int.reduceLT, Int.reduceLE, Int.reduceEq, Int.reduceNe, Int.reduceAdd, Int.reduceSub, Int.reduceMul, Int.reduceNeg, ↓reduceIte, reduceCtorEq, hw]
        refine ⟨out.length - (j + 1), _, by omega, ?_, j + 1, by omega, rfl, rfl⟩
        simp only [go_sem, Nat.reduceAdd, Nat.reduceSub, Nat.reduceMul, Nat.reduceLT, Nat.reduceLeDiff, Nat.reduceEqDiff, Nat.reduceBEq, Int.reduceToNat, Int.reduceLT, Int.reduceLE, Int.reduceEq, Int.reduceNe, Int.reduceAdd, Int.reduceSub, Int.reduceMul, Int.reduceNeg, ↓reduceIte, reduceCtorEq, rideSt2]
      · have f1 : decide ((j : Int) < (out.length : Int)) = false := decide_eq_false (by omega)
        simp only [go_sem, Nat.reduceAdd, Nat.reduceSub, Nat.reduceMul, Nat.reduceLT, Nat.reduceLeDiff, Nat.reduceEqDiff, Nat.reduceBEq, Int.reduceToNat, Int.reduceLT, Int.reduceLE, Int.reduceEq, Int.reduceNe, Int.reduceAdd, Int.reduceSub, Int.reduceMul, Int.reduceNeg, ↓reduceIte, reduceCtorEq, rideSt2, lao, f1, Try.ntmps17, Try.results17]
end Go.Proofs.Ytokilmnlabcpoaa.Pe
