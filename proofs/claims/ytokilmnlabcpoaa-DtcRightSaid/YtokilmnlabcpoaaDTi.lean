import Derived.Test.YtokilmnlabcpoaaDTh
namespace Go.Proofs.Ytokilmnlabcpoaa.Pe
open Go.Pe Go.RowKit
set_option maxRecDepth 20000
set_option maxHeartbeats 4000000
set_option linter.unusedSimpArgs false
set_option linter.unusedVariables false

/-! ### a report, one element after the other -/
def rep : List Trb → Int → Bool → List Trb
  | [], id, f => [testedV (freshT id) f]
  | t :: r, id, f => if t.id < id then t :: rep r id f else if t.id = id then testedV t f :: r else testedV (freshT id) f :: t :: r
theorem core_rep : ∀ (l : List Trb) (id : Int) (f : Bool), (match l[atV l id]? with
    | some t => if t.id = id then l.take (atV l id) ++ (testedV t f :: l.drop (atV l id + 1)) else l.take (atV l id) ++ (testedV (freshT id) f :: l.drop (atV l id))
    | none => l ++ [testedV (freshT id) f]) = rep l id f
  | [], id, f => rfl
  | t :: r, id, f => by
    have ih := core_rep r id f
    unfold atV rep
    by_cases h : t.id < id
    · rw [if_pos h, if_pos h, ← ih]
      simp only [List.getElem?_cons_succ, List.take_succ_cons, List.drop_succ_cons]
      split
      · split <;> rfl
      · rfl
    · rw [if_neg h, if_neg h]
      simp only [List.getElem?_cons_zero, List.take_zero, List.nil_append, List.drop_succ_cons, List.drop_zero]
theorem reportV_rep {l : List Trb} {id : Int} {f : Bool} (h : 0 ≤ id ∧ id ≤ 65535) (h2 : isV l id = true ∨ l.length < 16) : reportV l id f = rep l id f := by
  rw [reportV, if_neg (by
    rintro (h' | h' | ⟨h', h''⟩)
    · omega
    · omega
    · rcases h2 with h2 | h2
      · rw [h2] at h'; cases h'
      · omega)]
  exact core_rep l id f
theorem reportV_or (l : List Trb) (id : Int) (f : Bool) : reportV l id f = l ∨ (0 ≤ id ∧ id ≤ 65535 ∧ (isV l id = true ∨ l.length < 16) ∧ reportV l id f = rep l id f) := by
  by_cases h : 0 ≤ id ∧ id ≤ 65535 ∧ (isV l id = true ∨ l.length < 16)
  · exact .inr ⟨h.1, h.2.1, h.2.2, reportV_rep ⟨h.1, h.2.1⟩ h.2.2⟩
  · left
    rw [reportV, if_pos]
    by_cases h1 : id < 0
    · exact .inl h1
    · by_cases h2 : id > 65535
      · exact .inr (.inl h2)
      · refine .inr (.inr ?_)
        cases hI : isV l id
        · refine ⟨rfl, ?_⟩
          by_cases h3 : 16 ≤ l.length
          · exact h3
          · exact absurd ⟨by omega, by omega, .inr (by omega)⟩ h
        · exact absurd ⟨by omega, by omega, .inl hI⟩ h
/-! ### the rest of a trouble -/
def okS (st sc ca : Int) : Bool := !decide (st < 0) && !decide (st > 15) && !(hasV st 1 && !hasV st 2) && !decide (sc < -4) && !decide (sc > 4) && !decide (ca < 0) && !decide (ca > 2) && !(decide (ca > 0) && !hasV st 4)
theorem okR_eq (t : Trb) : t.okR = (!decide (t.id < 0) && !decide (t.id > 65535) && okS t.st t.sc t.ca) := by
  simp only [Trb.okR, okS, Bool.and_assoc]
theorem tested_id (t : Trb) (f : Bool) : (testedV t f).id = t.id := by unfold testedV; split; rfl; split <;> rfl
theorem ridden_id (t : Trb) : (riddenV t).id = t.id := by
  unfold riddenV
  split
  · rfl
  · split <;> split <;> rfl
theorem tested_of (t : Trb) (f : Bool) : (testedV t f).st = (testedV ⟨0, t.st, t.sc, t.ca⟩ f).st ∧ (testedV t f).sc = (testedV ⟨0, t.st, t.sc, t.ca⟩ f).sc ∧ (testedV t f).ca = (testedV ⟨0, t.st, t.sc, t.ca⟩ f).ca := by
  unfold testedV
  simp only
  split
  · exact ⟨rfl, rfl, rfl⟩
  · split <;> exact ⟨rfl, rfl, rfl⟩
theorem ridden_of (t : Trb) : (riddenV t).st = (riddenV ⟨0, t.st, t.sc, t.ca⟩).st ∧ (riddenV t).sc = (riddenV ⟨0, t.st, t.sc, t.ca⟩).sc ∧ (riddenV t).ca = (riddenV ⟨0, t.st, t.sc, t.ca⟩).ca := by
  unfold riddenV
  simp only
  split
  · exact ⟨rfl, rfl, rfl⟩
  · split <;> split <;> exact ⟨rfl, rfl, rfl⟩
theorem tested_all : ∀ n : Nat, n < 16 → ∀ s : Nat, s < 9 → ∀ c : Nat, c < 3 → ∀ f : Bool, okS n ((s : Int) - 4) c = true →
    okS (testedV ⟨0, n, (s : Int) - 4, c⟩ f).st (testedV ⟨0, n, (s : Int) - 4, c⟩ f).sc (testedV ⟨0, n, (s : Int) - 4, c⟩ f).ca = true ∧ hasV (testedV ⟨0, n, (s : Int) - 4, c⟩ f).st 8 = false := by decide +kernel
theorem ridden_all : ∀ n : Nat, n < 16 → ∀ s : Nat, s < 9 → ∀ c : Nat, c < 3 → okS n ((s : Int) - 4) c = true →
    okS (riddenV ⟨0, n, (s : Int) - 4, c⟩).st (riddenV ⟨0, n, (s : Int) - 4, c⟩).sc (riddenV ⟨0, n, (s : Int) - 4, c⟩).ca = true ∧ (riddenV ⟨0, n, (s : Int) - 4, c⟩).sc = (s : Int) - 4 := by decide +kernel
theorem ridden_all2 : ∀ n : Nat, n < 16 → ∀ s : Nat, s < 9 → ∀ c : Nat, c < 3 → okS n ((s : Int) - 4) c = true → hasV (riddenV ⟨0, n, (s : Int) - 4, c⟩).st 8 = true ∧ bitsA .and .i64 (riddenV ⟨0, n, (s : Int) - 4, c⟩).st 1 = bitsA .and .i64 (n : Int) 1 := by decide +kernel
theorem okR_small {t : Trb} (h : t.okR = true) : ∃ n s c : Nat, n < 16 ∧ s < 9 ∧ c < 3 ∧ t.st = n ∧ t.sc = (s : Int) - 4 ∧ t.ca = c := by
  obtain ⟨_, _, h3, h4, h5, h6, h7, h8⟩ := okR_bounds h
  exact ⟨t.st.toNat, (t.sc + 4).toNat, t.ca.toNat, by omega, by omega, by omega, by omega, by omega, by omega⟩
theorem okR_parts {t : Trb} (h : t.okR = true) : 0 ≤ t.id ∧ t.id ≤ 65535 ∧ okS t.st t.sc t.ca = true := by
  have hb := okR_bounds h
  rw [okR_eq] at h
  simp only [Bool.and_eq_true] at h
  exact ⟨hb.1, hb.2.1, h.2⟩
theorem okR_mk {t : Trb} (h1 : 0 ≤ t.id) (h2 : t.id ≤ 65535) (h3 : okS t.st t.sc t.ca = true) : t.okR = true := by
  rw [okR_eq, h3, decide_eq_false (show ¬ t.id < 0 by omega), decide_eq_false (show ¬ t.id > 65535 by omega)]
  rfl
theorem tested_okR {t : Trb} (f : Bool) (h : t.okR = true) : (testedV t f).okR = true ∧ hasV (testedV t f).st 8 = false := by
  obtain ⟨n, s, c, hn, hs, hc, e1, e2, e3⟩ := okR_small h
  obtain ⟨h1, h2, h3⟩ := okR_parts h
  obtain ⟨f1, f2, f3⟩ := tested_of t f
  rw [e1, e2, e3] at f1 f2 f3 h3
  have := tested_all n hn s hs c hc f h3
  refine ⟨okR_mk (by rw [tested_id]; exact h1) (by rw [tested_id]; exact h2) (by rw [f1, f2, f3]; exact this.1), by rw [f1]; exact this.2⟩
theorem ridden_okR {t : Trb} (h : t.okR = true) : (riddenV t).okR = true ∧ (riddenV t).sc = t.sc ∧ hasV (riddenV t).st 8 = true ∧ bitsA .and .i64 (riddenV t).st 1 = bitsA .and .i64 t.st 1 := by
  obtain ⟨n, s, c, hn, hs, hc, e1, e2, e3⟩ := okR_small h
  obtain ⟨h1, h2, h3⟩ := okR_parts h
  obtain ⟨f1, f2, f3⟩ := ridden_of t
  rw [e1, e2, e3] at f1 f2 f3 h3
  have := ridden_all n hn s hs c hc h3
  have this2 := ridden_all2 n hn s hs c hc h3
  refine ⟨okR_mk (by rw [ridden_id]; exact h1) (by rw [ridden_id]; exact h2) (by rw [f1, f2, f3]; exact this.1), by rw [f2, e2]; exact this.2, by rw [f1]; exact this2.1, by rw [f1, e1]; exact this2.2⟩
theorem rep_ok (id : Int) (f : Bool) (hid : 0 ≤ id ∧ id ≤ 65535) : ∀ (l : List Trb) (p : Option Int), okFrom p l = true → ordR p id = true → okFrom p (rep l id f) = true
  | [], p, _, hp => by
    simp only [rep, okFrom, (tested_okR f (fresh_okR hid)).1, tested_id, Bool.true_and, Bool.and_true]
    exact hp
  | t :: r, p, h, hp => by
    simp only [okFrom, Bool.and_eq_true] at h
    obtain ⟨⟨h1, h2⟩, h3⟩ := h
    unfold rep
    split
    · rename_i hlt
      simp only [okFrom, h1, h2, Bool.true_and]
      exact rep_ok id f hid r _ h3 (by simp [ordR]; exact hlt)
    · rename_i hlt
      split
      · rename_i he
        simp only [okFrom, (tested_okR f h1).1, tested_id, h2, h3, Bool.true_and]
      · rename_i he
        simp only [okFrom, (tested_okR f (fresh_okR hid)).1, tested_id, h1, h3, Bool.true_and, Bool.and_true]
        rw [Bool.and_eq_true]
        refine ⟨hp, ?_⟩
        have e : (freshT id).id = id := rfl
        simp only [ordR, e, Bool.not_eq_true', decide_eq_false_iff_not]
        omega
theorem report_right {l : List Trb} (id : Int) (f : Bool) (h : rightL l = true) : rightL (reportV l id f) = true := by
  rcases reportV_or l id f with e | ⟨h1, h2, h3, e⟩
  · rw [e]; exact h
  · have hf := rep_ok id f ⟨h1, h2⟩ l none (rightL_from h) rfl
    have hl := rightL_len h
    have hlen : (reportV l id f).length ≤ 16 := by
      rcases h3 with h3 | h3
      · have : (reportV l id f).length = l.length := by
          rw [reportV, if_neg (by rw [h3]; simp; omega)]
          have hI : isV l id = true := h3
          unfold isV at hI
          split
          · rename_i t ht
            rw [ht] at hI
            have := (List.getElem?_eq_some_iff.1 ht).1
            rw [if_pos (by simpa using hI)]
            simp
            omega
          · rename_i ht
            rw [ht] at hI
            cases hI
        omega
      · have := (report_len l id f).2
        omega
    rw [rightL, decide_eq_false (by omega), e, hf]
    rfl
theorem cyc_ok : ∀ (l : List Trb) (p : Option Int), okFrom p l = true → okFrom p (cycL l) = true
  | [], _, _ => rfl
  | t :: r, p, h => by
    simp only [okFrom, Bool.and_eq_true] at h
    obtain ⟨⟨h1, h2⟩, h3⟩ := h
    have ih := cyc_ok r (some t.id) h3
    show okFrom p (riddenV t :: cycL r) = true
    simp only [okFrom, (ridden_okR h1).1, ridden_id, h2, ih, Bool.true_and]
theorem cyc_right {l : List Trb} (h : rightL l = true) : rightL (cycL l) = true := by
  have hl := rightL_len h
  have hf := cyc_ok l none (rightL_from h)
  rw [rightL, decide_eq_false (by simp [cycL]; omega), hf]
  rfl
theorem rep_comm (a b : Int) (x y : Bool) (hab : a ≠ b) : ∀ l : List Trb, rep (rep l a x) b y = rep (rep l b y) a x
  | [] => by
    simp only [rep, tested_id]
    have e1 : (freshT a).id = a := rfl
    have e2 : (freshT b).id = b := rfl
    rw [e1, e2]
    by_cases h : a < b
    · rw [if_pos h, if_neg (show ¬ b < a by omega), if_neg (show ¬ b = a by omega)]
    · rw [if_neg h, if_neg hab, if_pos (show b < a by omega)]
  | t :: r => by
    have ih := rep_comm a b x y hab r
    have e1 : ∀ c z, (testedV (freshT c) z).id = c := fun c z => by rw [tested_id]; rfl
    have et : ∀ z, (testedV t z).id = t.id := fun z => tested_id t z
    simp only [rep]
    by_cases h1 : t.id < a
    · rw [if_pos h1]
      by_cases h2 : t.id < b
      · simp only [if_pos h2, rep, if_pos h1, ih]
      · by_cases h3 : t.id = b
        · simp only [if_neg h2, if_pos h3, rep, et, if_pos h1]
        · simp only [if_neg h2, if_neg h3, rep, e1, if_pos h1, if_pos (show b < a by omega)]
    · rw [if_neg h1]
      by_cases h4 : t.id = a
      · rw [if_pos h4]
        by_cases h2 : t.id < b
        · simp only [if_pos h2, rep, et, if_neg h1, if_pos h4]
        · have h3 : ¬ t.id = b := by omega
          simp only [if_neg h2, if_neg h3, rep, et, e1, if_neg h1, if_pos h4, if_pos (show b < a by omega)]
      · rw [if_neg h4]
        by_cases h2 : t.id < b
        · simp only [if_pos h2, rep, e1, if_neg h1, if_neg h4, if_pos (show a < b by omega)]
        · by_cases h3 : t.id = b
          · simp only [if_neg h2, if_pos h3, rep, et, e1, if_neg h1, if_neg h4, if_pos (show a < b by omega)]
          · simp only [if_neg h2, if_neg h3, rep, e1, if_neg h1, if_neg h4]
            by_cases h5 : a < b
            · simp only [if_pos h5, if_neg (show ¬ b < a by omega), if_neg (show ¬ b = a by omega)]
            · simp only [if_neg h5, if_neg hab, if_pos (show b < a by omega)]
end Go.Proofs.Ytokilmnlabcpoaa.Pe
