import Derived.Test.YtokilmnlabcpoaaDT8
namespace Go.Proofs.Ytokilmnlabcpoaa.Pe
open Go.Pe Go.RowKit
set_option maxRecDepth 20000
set_option maxHeartbeats 4000000
set_option linter.unusedSimpArgs false
set_option linter.unusedVariables false

def atV : List Trb → Int → Nat
  | [], _ => 0
  | t :: r, id => if t.id < id then atV r id + 1 else 0
theorem atV_le : ∀ (l : List Trb) (id : Int), atV l id ≤ l.length
  | [], _ => Nat.le_refl _
  | t :: r, id => by
    have := atV_le r id
    unfold atV
    split <;> simp <;> omega
theorem atV_lt : ∀ (l : List Trb) (id : Int) (j : Nat) (t : Trb), j < atV l id → l[j]? = some t → t.id < id
  | [], _, j, t, h, _ => by simp [atV] at h
  | u :: r, id, j, t, h, hg => by
    unfold atV at h
    split at h
    · rename_i hu
      cases j with
      | zero => cases hg; exact hu
      | succ j => exact atV_lt r id j t (by omega) hg
    · omega
theorem atV_ge : ∀ (l : List Trb) (id : Int) (t : Trb), l[atV l id]? = some t → ¬ t.id < id
  | [], _, t, hg => by simp [atV] at hg
  | u :: r, id, t, hg => by
    unfold atV at hg
    split at hg
    · exact atV_ge r id t hg
    · rename_i hu
      cases hg
      exact hu
def freshT (id : Int) : Trb := ⟨id, 8, 0, 0⟩
theorem fresh_okR {id : Int} (h : 0 ≤ id ∧ id ≤ 65535) : (freshT id).okR = true := by
  have e : (freshT id).okR = (!decide (id < 0) && !decide (id > 65535) && !decide ((8 : Int) < 0) && !decide ((8 : Int) > 15) && !(hasV 8 1 && !hasV 8 2) && !decide ((0 : Int) < -4) && !decide ((0 : Int) > 4) && !decide ((0 : Int) < 0) && !decide ((0 : Int) > 2) && !(decide ((0 : Int) > 0) && !hasV 8 4)) := rfl
  have e0 : (!false && !false && !decide ((8 : Int) < 0) && !decide ((8 : Int) > 15) && !(hasV 8 1 && !hasV 8 2) && !decide ((0 : Int) < -4) && !decide ((0 : Int) > 4) && !decide ((0 : Int) < 0) && !decide ((0 : Int) > 2) && !(decide ((0 : Int) > 0) && !hasV 8 4)) = true := by decide +kernel
  rw [e, decide_eq_false (show ¬ id < 0 by omega), decide_eq_false (show ¬ id > 65535 by omega)]
  exact e0
def isV (l : List Trb) (id : Int) : Bool := match l[atV l id]? with | some t => decide (t.id = id) | none => false
/-- Troubles behind a report. -/
def reportV (l : List Trb) (id : Int) (f : Bool) : List Trb :=
  if id < 0 ∨ id > 65535 ∨ (isV l id = false ∧ 16 ≤ l.length) then l
  else match l[atV l id]? with
    | some t => if t.id = id then l.take (atV l id) ++ (testedV t f :: l.drop (atV l id + 1)) else l.take (atV l id) ++ (testedV (freshT id) f :: l.drop (atV l id))
    | none => l ++ [testedV (freshT id) f]
theorem okFrom_mem : ∀ {l : List Trb} {p : Option Int}, okFrom p l = true → ∀ t ∈ l, t.okR = true
  | [], _, _, t, h => by simp at h
  | u :: r, p, h, t, ht => by
    simp only [okFrom, Bool.and_eq_true] at h
    rcases List.mem_cons.1 ht with rfl | ht
    · exact h.1.1
    · exact okFrom_mem h.2 t ht
theorem rightL_mem {l : List Trb} (h : rightL l = true) : ∀ t ∈ l, t.okR = true := by
  simp only [rightL, Bool.and_eq_true] at h
  exact okFrom_mem h.2
theorem rightL_len {l : List Trb} (h : rightL l = true) : l.length ≤ 16 := by
  simp only [rightL, Bool.and_eq_true, Bool.not_eq_true', decide_eq_false_iff_not] at h
  omega
def repRSt (l : List Trb) (id : Int) (f : Bool) (i : Nat) : St := ⟨84, [(0, trbsPV l), (1, PI id), (2, PB f), (7, PI i)], [], 20, 0⟩
def repRI (l : List Trb) (id : Int) (f : Bool) (m : Nat) (st : St) : Prop := ∃ i : Nat, i ≤ atV l id ∧ m = atV l id - i ∧ st = repRSt l id f i
theorem repR_calls (l : List Trb) (id : Int) (f : Bool) (hr : rightL l = true) : PureCalls Try.prog 41 [trbsPV l, PI id, PB f] (trbsPV (reportV l id f)) := by
  refine PureCalls.of tabOK mixed Try.func41 rfl rfl (by decide +kernel) (by simp [Try.ntmps41]) ?_
  have la := trbRows_len l
  have hll := rightL_len hr
  have hmem := rightL_mem hr
  have hle := atV_le l id
  simp only [go_sem, Nat.reduceAdd, Nat.reduceSub, Nat.reduceMul, Nat.reduceLT, Nat.reduceLeDiff, Nat.reduceEqDiff, Nat.reduceBEq, Int.reduceToNat, Int.reduceLT, Int.reduceLE, Int.reduceEq, Int.reduceNe, Int.reduceAdd, Int.reduceSub, Int.reduceMul, Int.reduceNeg, ↓reduceIte, reduceCtorEq, Try.ntmps41, Try.results41]
  refine wpA_loop (repRI l id f) ⟨_, _, ?_, 0, Nat.zero_le _, rfl, rfl⟩ ?_
  · simp only [go_sem, Nat.reduceAdd, Nat.reduceSub, Nat.reduceMul, Nat.reduceLT, Nat.reduceLeDiff, Nat.reduceEqDiff, Nat.reduceBEq, Int.reduceToNat, Int.reduceLT, Int.reduceLE, Int.reduceEq, Int.reduceNe, Int.reduceAdd, Int.reduceSub, Int.reduceMul, Int.reduceNeg, ↓reduceIte, reduceCtorEq, repRSt, Int.natCast_zero]
  rintro m st ⟨i, hi, rfl, rfl⟩
  by_cases hc : i < atV l id
  · have f1 : decide ((i : Int) < (l.length : Int)) = true := decide_eq_true (by omega)
    have f2 : (i : Int) < (l.length : Int) := by omega
    have f0 : (0 : Int) ≤ (i : Int) := by omega
    have hw := wrapIN (i := i) (by omega)
    have hil : i < l.length := by omega
    have r1 := trbRows_get hil
    have hlt := atV_lt l id i l[i] hc (List.getElem?_eq_getElem hil)
    have g1 : decide (l[i].id < id) = true := decide_eq_true hlt
    simp only [go_sem, Nat.reduceAdd, Nat.reduceSub, Nat.reduceMul, Nat.reduceLT, Nat.reduceLeDiff, Nat.reduceEqDiff, Nat.reduceBEq, Int.reduceToNat, Int.reduceLT, Int.reduceLE, Int.reduceEq, Int.reduceNe, Int.reduceAdd, Int.reduceSub, Int.reduceMul, Int.reduceNeg, ↓reduceIte, reduceCtorEq, repRSt, la, f1, f2, f0, Int.toNat_natCast, r1, Trb.cells, g1, hw]
    refine ⟨atV l id - (i + 1), _, by omega, ?_, i + 1, by omega, rfl, rfl⟩
    simp only [go_sem, Nat.reduceAdd, Nat.reduceSub, Nat.reduceMul, Nat.reduceLT, Nat.reduceLeDiff, Nat.reduceEqDiff, Nat.reduceBEq, Int.reduceToNat, Int.reduceLT, Int.reduceLE, Int.reduceEq, Int.reduceNe, Int.reduceAdd, Int.reduceSub, Int.reduceMul, Int.reduceNeg, ↓reduceIte, reduceCtorEq, repRSt]
  have hia : i = atV l id := by omega
  obtain ⟨a, ha⟩ : ∃ a, atV l id = a := ⟨_, rfl⟩
  rw [ha] at hia hle
  subst hia
  have hw := wrapIN (i := i) (by omega)
  have f0 : (0 : Int) ≤ (i : Int) := by omega
  have f2 : (i : Int) ≤ (l.length : Int) := by omega
  have hrep : reportV l id f = (if id < 0 ∨ id > 65535 ∨ (isV l id = false ∧ 16 ≤ l.length) then l
    else match l[i]? with
      | some t => if t.id = id then l.take i ++ (testedV t f :: l.drop (i + 1)) else l.take i ++ (testedV (freshT id) f :: l.drop i)
      | none => l ++ [testedV (freshT id) f]) := by rw [reportV, ha]
  have his : isV l id = (match l[i]? with | some t => decide (t.id = id) | none => false) := by rw [isV, ha]
  have cF := fun h => testedR_calls (freshT id) f (fresh_okR h)
  -- the guards
  have guard : ∀ {st : St} {Q : Cont}, True := fun {_ _} => trivial
  by_cases hil : i < l.length
  · have f1 : decide ((i : Int) < (l.length : Int)) = true := decide_eq_true (by omega)
    have f1' : (i : Int) < (l.length : Int) := by omega
    have r1 := trbRows_get hil
    have hge : l[i]? = some l[i] := List.getElem?_eq_getElem hil
    have hnl := atV_ge l id l[i] (by rw [ha]; exact hge)
    have g1 : decide (l[i].id < id) = false := decide_eq_false hnl
    rw [hge] at hrep his
    have cT := testedR_calls l[i] f (hmem _ (List.getElem_mem _))
    have hok := hmem l[i] (List.getElem_mem _)
    have ht : (List.take i (trbRows l)).length = i := by simp; omega
    have f3 : (0 : Int) ≤ ((i + 1 : Nat) : Int) := by omega
    have f3' : ((i + 1 : Nat) : Int) ≤ (l.length : Int) := by omega
    have hdl : (List.drop (i + 1) (trbRows l)).length ≤ 16 := by simp; omega
    have htk : List.take l.length (trbRows l) = trbRows l := List.take_of_length_le (by simp)
    have hdl2 : (List.drop i (trbRows l)).length ≤ 16 := by simp; omega
    generalize l[i] = t at *
    by_cases h1 : id < 0
    · have e1 : decide (id < 0) = true := decide_eq_true h1
      rw [if_pos (.inl h1)] at hrep
      simp only [go_sem, Nat.reduceAdd, Nat.reduceSub, Nat.reduceMul, Nat.reduceLT, Nat.reduceLeDiff, Nat.reduceEqDiff, Nat.reduceBEq, Int.reduceToNat, Int.reduceLT, Int.reduceLE, Int.reduceEq, Int.reduceNe, Int.reduceAdd, Int.reduceSub, Int.reduceMul, Int.reduceNeg, ↓reduceIte, reduceCtorEq, repRSt, la, f1, f1', f0, Int.toNat_natCast, r1, Trb.cells, g1, e1, hrep, Try.ntmps41, Try.results41]
    have e1 : decide (id < 0) = false := decide_eq_false h1
    by_cases h2 : id > 65535
    · have e2 : decide (id > 65535) = true := decide_eq_true h2
      rw [if_pos (.inr (.inl h2))] at hrep
      simp only [go_sem, Nat.reduceAdd, Nat.reduceSub, Nat.reduceMul, Nat.reduceLT, Nat.reduceLeDiff, Nat.reduceEqDiff, Nat.reduceBEq, Int.reduceToNat, Int.reduceLT, Int.reduceLE, Int.reduceEq, Int.reduceNe, Int.reduceAdd, Int.reduceSub, Int.reduceMul, Int.reduceNeg, ↓reduceIte, reduceCtorEq, repRSt, la, f1, f1', f0, Int.toNat_natCast, r1, Trb.cells, g1, e1, e2, hrep, Try.ntmps41, Try.results41]
    have e2 : decide (id > 65535) = false := decide_eq_false h2
    by_cases h3 : t.id = id
    · have g3 : decide (t.id = id) = true := decide_eq_true h3
      simp only [g3] at his
      rw [if_neg (by rw [his]; simp; omega)] at hrep
      simp only [if_pos h3] at hrep
      simp only [go_sem, Nat.reduceAdd, Nat.reduceSub, Nat.reduceMul, Nat.reduceLT, Nat.reduceLeDiff, Nat.reduceEqDiff, Nat.reduceBEq, Int.reduceToNat, Int.reduceLT, Int.reduceLE, Int.reduceEq, Int.reduceNe, Int.reduceAdd, Int.reduceSub, Int.reduceMul, Int.reduceNeg, ↓reduceIte, reduceCtorEq, repRSt, la, f1, f1', f0, f2, Int.toNat_natCast, r1, Trb.cells, g1, e1, e2, g3]
      refine ⟨⟨by rw [ht]; omega, by rw [ht]; omega⟩, ?_⟩
      (refine CallA.pure (cT) (by simp only [go_sem, Nat.reduceAdd, Nat.reduceSub, Nat.reduceMul, Nat.reduceLT, Nat.reduceLeDiff, Nat.reduceEqDiff, Nat.reduceBEq, Int.reduceToNat, Int.reduceLT, Int.reduceLE, Int.reduceEq, Int.reduceNe, Int.reduceAdd, Int.reduceSub, Int.reduceMul, Int.reduceNeg, ↓reduceIte, reduceCtorEq, Trb.pv, Trb.cells] <;> first | rfl | decide) ?_; simp only [go_sem, Nat.reduceAdd, Nat.reduceSub, Nat.reduceMul, Nat.reduceLT, Nat.reduceLeDiff, Nat.reduceEqDiff, Nat.reduceBEq, Int.reduceToNat, Int.reduceLT, Int.reduceLE, Int.reduceEq, Int.reduceNe, Int.reduceAdd, Int.reduceSub, Int.reduceMul, Int.reduceNeg, ↓reduceIte, reduceCtorEq, Trb.pv, Trb.cells])
      simp only [go_sem, Nat.reduceAdd, Nat.reduceSub, Nat.reduceMul, Nat.reduceLT, Nat.reduceLeDiff, Nat.reduceEqDiff, Nat.reduceBEq, Int.reduceToNat, Int.reduceLT, Int.reduceLE, Int.reduceEq, Int.reduceNe, Int.reduceAdd, Int.reduceSub, Int.reduceMul, Int.reduceNeg, ↓reduceIte, reduceCtorEq, hw, la, f3, f3', f0, f2, ht, htk, Int.toNat_natCast, Trb.cells, List.length_append, List.length_cons, List.length_nil]
      refine ⟨⟨by omega, by omega⟩, ?_⟩
      simp only [go_sem, Nat.reduceAdd, Nat.reduceSub, Nat.reduceMul, Nat.reduceLT, Nat.reduceLeDiff, Nat.reduceEqDiff, Nat.reduceBEq, Int.reduceToNat, Int.reduceLT, Int.reduceLE, Int.reduceEq, Int.reduceNe, Int.reduceAdd, Int.reduceSub, Int.reduceMul, Int.reduceNeg, ↓reduceIte, reduceCtorEq, hw, la, f3, f3', f0, f2, ht, htk, Int.toNat_natCast, Trb.cells, List.length_append, List.length_cons, List.length_nil, Try.ntmps41, Try.results41]
      refine ⟨Int.le_refl _, ⟨by omega, by omega⟩, ?_⟩
      rw [hrep]
      simp [trbRows, Trb.cells, List.map_take, List.map_drop]
    · have g3 : decide (t.id = id) = false := decide_eq_false h3
      simp only [g3] at his
      by_cases h4 : 16 ≤ l.length
      · have g4 : decide ((l.length : Int) ≥ 16) = true := decide_eq_true (by omega)
        rw [if_pos (.inr (.inr ⟨his, h4⟩))] at hrep
        simp only [go_sem, Nat.reduceAdd, Nat.reduceSub, Nat.reduceMul, Nat.reduceLT, Nat.reduceLeDiff, Nat.reduceEqDiff, Nat.reduceBEq, Int.reduceToNat, Int.reduceLT, Int.reduceLE, Int.reduceEq, Int.reduceNe, Int.reduceAdd, Int.reduceSub, Int.reduceMul, Int.reduceNeg, ↓reduceIte, reduceCtorEq, repRSt, la, f1, f1', f0, Int.toNat_natCast, r1, Trb.cells, g1, e1, e2, g3, g4, hrep, Try.ntmps41, Try.results41]
      have g4 : decide ((l.length : Int) ≥ 16) = false := decide_eq_false (by omega)
      rw [if_neg (by omega)] at hrep
      simp only [if_neg h3] at hrep
      have cF := cF (by omega)
      simp only [go_sem, Nat.reduceAdd, Nat.reduceSub, Nat.reduceMul, Nat.reduceLT, Nat.reduceLeDiff, Nat.reduceEqDiff, Nat.reduceBEq, Int.reduceToNat, Int.reduceLT, Int.reduceLE, Int.reduceEq, Int.reduceNe, Int.reduceAdd, Int.reduceSub, Int.reduceMul, Int.reduceNeg, ↓reduceIte, reduceCtorEq, repRSt, la, f1, f1', f0, f2, Int.toNat_natCast, r1, Trb.cells, g1, e1, e2, g3, g4]
      refine ⟨⟨by rw [ht]; omega, by rw [ht]; omega⟩, ?_⟩
      (refine CallA.pure (cF) (by simp only [go_sem, Nat.reduceAdd, Nat.reduceSub, Nat.reduceMul, Nat.reduceLT, Nat.reduceLeDiff, Nat.reduceEqDiff, Nat.reduceBEq, Int.reduceToNat, Int.reduceLT, Int.reduceLE, Int.reduceEq, Int.reduceNe, Int.reduceAdd, Int.reduceSub, Int.reduceMul, Int.reduceNeg, ↓reduceIte, reduceCtorEq, Trb.pv, Trb.cells, freshT] <;> first | rfl | decide) ?_; simp only [go_sem, Nat.reduceAdd, Nat.reduceSub, Nat.reduceMul, Nat.reduceLT, Nat.reduceLeDiff, Nat.reduceEqDiff, Nat.reduceBEq, Int.reduceToNat, Int.reduceLT, Int.reduceLE, Int.reduceEq, Int.reduceNe, Int.reduceAdd, Int.reduceSub, Int.reduceMul, Int.reduceNeg, ↓reduceIte, reduceCtorEq, Trb.pv, Trb.cells, freshT])
      simp only [go_sem, Nat.reduceAdd, Nat.reduceSub, Nat.reduceMul, Nat.reduceLT, Nat.reduceLeDiff, Nat.reduceEqDiff, Nat.reduceBEq, Int.reduceToNat, Int.reduceLT, Int.reduceLE, Int.reduceEq, Int.reduceNe, Int.reduceAdd, Int.reduceSub, Int.reduceMul, Int.reduceNeg, ↓reduceIte, reduceCtorEq, la, f3, f3', f0, f2, ht, htk, Int.toNat_natCast, Trb.cells, List.length_append, List.length_cons, List.length_nil]
      refine ⟨⟨by omega, by omega⟩, ?_⟩
      simp only [go_sem, Nat.reduceAdd, Nat.reduceSub, Nat.reduceMul, Nat.reduceLT, Nat.reduceLeDiff, Nat.reduceEqDiff, Nat.reduceBEq, Int.reduceToNat, Int.reduceLT, Int.reduceLE, Int.reduceEq, Int.reduceNe, Int.reduceAdd, Int.reduceSub, Int.reduceMul, Int.reduceNeg, ↓reduceIte, reduceCtorEq, la, f3, f3', f0, f2, ht, htk, Int.toNat_natCast, Trb.cells, List.length_append, List.length_cons, List.length_nil, Try.ntmps41, Try.results41]
      refine ⟨Int.le_refl _, ⟨by omega, by omega⟩, ?_⟩
      rw [hrep]
      simp [trbRows, Trb.cells, List.map_take, List.map_drop, freshT]
  · have f1 : decide ((i : Int) < (l.length : Int)) = false := decide_eq_false (by omega)
    have hge : l[i]? = none := List.getElem?_eq_none (by omega)
    rw [hge] at hrep his
    simp only at his hrep
    have hil : i = l.length := by omega
    have ht : (List.take i (trbRows l)).length = i := by simp; omega
    have htk : List.take l.length (trbRows l) = trbRows l := List.take_of_length_le (by simp)
    have htk' : List.take i (trbRows l) = trbRows l := List.take_of_length_le (by simp; omega)
    have hdr : List.drop i (trbRows l) = [] := List.drop_of_length_le (by simp; omega)
    by_cases h1 : id < 0
    · have e1 : decide (id < 0) = true := decide_eq_true h1
      rw [if_pos (.inl h1)] at hrep
      simp only [go_sem, Nat.reduceAdd, Nat.reduceSub, Nat.reduceMul, Nat.reduceLT, Nat.reduceLeDiff, Nat.reduceEqDiff, Nat.reduceBEq, Int.reduceToNat, Int.reduceLT, Int.reduceLE, Int.reduceEq, Int.reduceNe, Int.reduceAdd, Int.reduceSub, Int.reduceMul, Int.reduceNeg, ↓reduceIte, reduceCtorEq, repRSt, la, f1, f0, Int.toNat_natCast, e1, hrep, Try.ntmps41, Try.results41]
    have e1 : decide (id < 0) = false := decide_eq_false h1
    by_cases h2 : id > 65535
    · have e2 : decide (id > 65535) = true := decide_eq_true h2
      rw [if_pos (.inr (.inl h2))] at hrep
      simp only [go_sem, Nat.reduceAdd, Nat.reduceSub, Nat.reduceMul, Nat.reduceLT, Nat.reduceLeDiff, Nat.reduceEqDiff, Nat.reduceBEq, Int.reduceToNat, Int.reduceLT, Int.reduceLE, Int.reduceEq, Int.reduceNe, Int.reduceAdd, Int.reduceSub, Int.reduceMul, Int.reduceNeg, ↓reduceIte, reduceCtorEq, repRSt, la, f1, f0, Int.toNat_natCast, e1, e2, hrep, Try.ntmps41, Try.results41]
    have e2 : decide (id > 65535) = false := decide_eq_false h2
    by_cases h4 : 16 ≤ l.length
    · have g4 : decide ((l.length : Int) ≥ 16) = true := decide_eq_true (by omega)
      rw [if_pos (.inr (.inr ⟨his, h4⟩))] at hrep
      simp only [go_sem, Nat.reduceAdd, Nat.reduceSub, Nat.reduceMul, Nat.reduceLT, Nat.reduceLeDiff, Nat.reduceEqDiff, Nat.reduceBEq, Int.reduceToNat, Int.reduceLT, Int.reduceLE, Int.reduceEq, Int.reduceNe, Int.reduceAdd, Int.reduceSub, Int.reduceMul, Int.reduceNeg, ↓reduceIte, reduceCtorEq, repRSt, la, f1, f0, Int.toNat_natCast, e1, e2, g4, hrep, Try.ntmps41, Try.results41]
    have g4 : decide ((l.length : Int) ≥ 16) = false := decide_eq_false (by omega)
    rw [if_neg (by omega)] at hrep
    have cF := cF (by omega)
    simp only [go_sem, Nat.reduceAdd, Nat.reduceSub, Nat.reduceMul, Nat.reduceLT, Nat.reduceLeDiff, Nat.reduceEqDiff, Nat.reduceBEq, Int.reduceToNat, Int.reduceLT, Int.reduceLE, Int.reduceEq, Int.reduceNe, Int.reduceAdd, Int.reduceSub, Int.reduceMul, Int.reduceNeg, ↓reduceIte, reduceCtorEq, repRSt, la, f1, f0, f2, Int.toNat_natCast, e1, e2, g4]
    refine ⟨⟨by rw [ht]; omega, by rw [ht]; omega⟩, ?_⟩
    (refine CallA.pure (cF) (by simp only [go_sem, Nat.reduceAdd, Nat.reduceSub, Nat.reduceMul, Nat.reduceLT, Nat.reduceLeDiff, Nat.reduceEqDiff, Nat.reduceBEq, Int.reduceToNat, Int.reduceLT, Int.reduceLE, Int.reduceEq, Int.reduceNe, Int.reduceAdd, Int.reduceSub, Int.reduceMul, Int.reduceNeg, ↓reduceIte, reduceCtorEq, Trb.pv, Trb.cells, freshT] <;> first | rfl | decide) ?_; simp only [go_sem, Nat.reduceAdd, Nat.reduceSub, Nat.reduceMul, Nat.reduceLT, Nat.reduceLeDiff, Nat.reduceEqDiff, Nat.reduceBEq, Int.reduceToNat, Int.reduceLT, Int.reduceLE, Int.reduceEq, Int.reduceNe, Int.reduceAdd, Int.reduceSub, Int.reduceMul, Int.reduceNeg, ↓reduceIte, reduceCtorEq, Trb.pv, Trb.cells, freshT])
    simp only [go_sem, Nat.reduceAdd, Nat.reduceSub, Nat.reduceMul, Nat.reduceLT, Nat.reduceLeDiff, Nat.reduceEqDiff, Nat.reduceBEq, Int.reduceToNat, Int.reduceLT, Int.reduceLE, Int.reduceEq, Int.reduceNe, Int.reduceAdd, Int.reduceSub, Int.reduceMul, Int.reduceNeg, ↓reduceIte, reduceCtorEq, la, f0, f2, ht, htk, hdr, Int.toNat_natCast, Trb.cells, List.length_append, List.length_cons, List.length_nil]
    refine ⟨⟨by omega, by omega⟩, ?_⟩
    simp only [go_sem, Nat.reduceAdd, Nat.reduceSub, Nat.reduceMul, Nat.reduceLT, Nat.reduceLeDiff, Nat.reduceEqDiff, Nat.reduceBEq, Int.reduceToNat, Int.reduceLT, Int.reduceLE, Int.reduceEq, Int.reduceNe, Int.reduceAdd, Int.reduceSub, Int.reduceMul, Int.reduceNeg, ↓reduceIte, reduceCtorEq, la, f0, f2, ht, htk, hdr, Int.toNat_natCast, Trb.cells, List.length_append, List.length_cons, List.length_nil, Try.ntmps41, Try.results41]
    refine ⟨Int.le_refl _, ⟨by omega, by omega⟩, ?_⟩
    rw [hrep, htk']
    simp [trbRows, Trb.cells, freshT]
end Go.Proofs.Ytokilmnlabcpoaa.Pe
