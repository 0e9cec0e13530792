import Derived.Test.YtokilmnlabcpoaaDT4
namespace Go.Proofs.Ytokilmnlabcpoaa.Pe
open Go.Pe Go.RowKit
set_option maxRecDepth 20000
set_option maxHeartbeats 4000000
set_option linter.unusedSimpArgs false
set_option linter.unusedVariables false

/-- Rows of which the first ones were made anew. -/
abbrev midRows (f : Trb → Trb) (l : List Trb) (i : Nat) : List (List PV) := trbRows ((l.take i).map f ++ l.drop i)
theorem mid_len (f : Trb → Trb) (l : List Trb) (i : Nat) : (midRows f l i).length = l.length := by simp [midRows]; omega
theorem mid_get (f : Trb → Trb) {l : List Trb} {i : Nat} (h : i < l.length) : (midRows f l i).getD i [] = l[i].cells := by
  simp only [midRows, trbRows, List.getD_eq_getElem?_getD, List.getElem?_map]
  rw [List.getElem?_append_right (by simp; omega)]
  simp [Nat.min_eq_left (Nat.le_of_lt h), h]
theorem mid_next (f : Trb → Trb) {l : List Trb} {i : Nat} (h : i < l.length) : midRows f l (i + 1) = (midRows f l i).set i (f l[i]).cells := by
  unfold midRows trbRows
  rw [← List.map_set]
  congr 1
  rw [List.take_succ_eq_append_getElem h, List.map_append, List.append_assoc, List.set_append, if_neg (by simp; omega)]
  congr 1
  rw [show i - ((l.take i).map f).length = 0 by simp; omega, List.drop_eq_getElem_cons h]
  rfl
theorem set_getD {rows : List (List PV)} {i : Nat} (h : i < rows.length) (x : List PV) : (rows.set i x).getD i [] = x := by
  simp [List.getD_eq_getElem?_getD, h]
def cycDSt (l : List Trb) (i : Nat) : St := ⟨19, [(3, .own 0 1), (8, PI l.length), (9, PI i)], [(0, .arr 67 4 (midRows riddenV l i) 1 false)], 20, 0⟩
def cycDI (l : List Trb) (m : Nat) (st : St) : Prop := ∃ i : Nat, i ≤ l.length ∧ m = l.length - i ∧ st = cycDSt l i
theorem cycD_calls (l : List Trb) (hbig : l.length < 1000000) : PureCalls Try.prog 42 [trbsPV l] (trbsPV (cycL l)) := by
  refine PureCalls.of tabOK mixed Try.func42 rfl rfl (by decide +kernel) (by simp [Try.ntmps42]) ?_
  have la := trbRows_len l
  simp only [go_sem, Nat.reduceAdd, Nat.reduceSub, Nat.reduceMul, Nat.reduceLT, Nat.reduceLeDiff, Nat.reduceEqDiff, Nat.reduceBEq, Int.reduceToNat, Int.reduceLT, Int.reduceLE, Int.reduceEq, Int.reduceNe, Int.reduceAdd, Int.reduceSub, Int.reduceMul, Int.reduceNeg, ↓reduceIte, reduceCtorEq, Try.ntmps42, Try.results42, la]
  refine CallA.into tabOK mixed Try.func64 rfl rfl (by decide +kernel) (by simp [Try.ntmps64]) ?_
  simp only [go_sem, Nat.reduceAdd, Nat.reduceSub, Nat.reduceMul, Nat.reduceLT, Nat.reduceLeDiff, Nat.reduceEqDiff, Nat.reduceBEq, Int.reduceToNat, Int.reduceLT, Int.reduceLE, Int.reduceEq, Int.reduceNe, Int.reduceAdd, Int.reduceSub, Int.reduceMul, Int.reduceNeg, ↓reduceIte, reduceCtorEq, Try.ntmps64, Try.results64, la]
  intro b hb
  cases b with
  | true =>
    have hn : l = [] := by
      have := hb rfl
      cases l with
      | nil => rfl
      | cons _ _ => simp [trbRows] at this
    simp only [go_sem, Nat.reduceAdd, Nat.reduceSub, Nat.reduceMul, Nat.reduceLT, Nat.reduceLeDiff, Nat.reduceEqDiff, Nat.reduceBEq, Int.reduceToNat, Int.reduceLT, Int.reduceLE, Int.reduceEq, Int.reduceNe, Int.reduceAdd, Int.reduceSub, Int.reduceMul, Int.reduceNeg, ↓reduceIte, reduceCtorEq, Try.ntmps64, Try.results64, la]
    refine wpA_loop (fun _ st => st = ⟨19, [(3, .lit (.slice none 0 0)), (8, PI 0), (9, PI 0)], [], 20, 0⟩) ⟨0, _, ?_, rfl⟩ ?_
    · simp only [go_sem, Nat.reduceAdd, Nat.reduceSub, Nat.reduceMul, Nat.reduceLT, Nat.reduceLeDiff, Nat.reduceEqDiff, Nat.reduceBEq, Int.reduceToNat, Int.reduceLT, Int.reduceLE, Int.reduceEq, Int.reduceNe, Int.reduceAdd, Int.reduceSub, Int.reduceMul, Int.reduceNeg, ↓reduceIte, reduceCtorEq]
    rintro m st rfl
    simp only [go_sem, Nat.reduceAdd, Nat.reduceSub, Nat.reduceMul, Nat.reduceLT, Nat.reduceLeDiff, Nat.reduceEqDiff, Nat.reduceBEq, Int.reduceToNat, Int.reduceLT, Int.reduceLE, Int.reduceEq, Int.reduceNe, Int.reduceAdd, Int.reduceSub, Int.reduceMul, Int.reduceNeg, ↓reduceIte, reduceCtorEq, Try.ntmps42, Try.results42]
    rw [hn]; rfl
  | false =>
    simp only [go_sem, Nat.reduceAdd, Nat.reduceSub, Nat.reduceMul, Nat.reduceLT, Nat.reduceLeDiff, Nat.reduceEqDiff, Nat.reduceBEq, Int.reduceToNat, Int.reduceLT, Int.reduceLE, Int.reduceEq, Int.reduceNe, Int.reduceAdd, Int.reduceSub, Int.reduceMul, Int.reduceNeg, ↓reduceIte, reduceCtorEq, Try.ntmps64, Try.results64, la]
    refine ⟨⟨by omega, by omega⟩, ?_⟩
    refine wpA_loop (cycDI l) ⟨_, _, ?_, 0, by omega, rfl, rfl⟩ ?_
    · simp only [go_sem, Nat.reduceAdd, Nat.reduceSub, Nat.reduceMul, Nat.reduceLT, Nat.reduceLeDiff, Nat.reduceEqDiff, Nat.reduceBEq, Int.reduceToNat, Int.reduceLT, Int.reduceLE, Int.reduceEq, Int.reduceNe, Int.reduceAdd, Int.reduceSub, Int.reduceMul, Int.reduceNeg, ↓reduceIte, reduceCtorEq, cycDSt, Int.natCast_zero]
      rfl
    rintro m st ⟨i, hi, rfl, rfl⟩
    have hlen := mid_len riddenV l i
    by_cases hc : i < l.length
    rotate_left 1
    · have f1 : decide ((i : Int) < (l.length : Int)) = false := decide_eq_false (by omega)
      have hall : midRows riddenV l i = trbRows (cycL l) := by
        rw [midRows, List.take_of_length_le (by omega), List.drop_of_length_le (by omega), List.append_nil]; rfl
      simp only [go_sem, Nat.reduceAdd, Nat.reduceSub, Nat.reduceMul, Nat.reduceLT, Nat.reduceLeDiff, Nat.reduceEqDiff, Nat.reduceBEq, Int.reduceToNat, Int.reduceLT, Int.reduceLE, Int.reduceEq, Int.reduceNe, Int.reduceAdd, Int.reduceSub, Int.reduceMul, Int.reduceNeg, ↓reduceIte, reduceCtorEq, cycDSt, f1, hall, Try.ntmps42, Try.results42]
    have f1 : decide ((i : Int) < (l.length : Int)) = true := decide_eq_true (by omega)
    have f2 : (i : Int) < (l.length : Int) := by omega
    have f0 : (0 : Int) ≤ (i : Int) := by omega
    have hw := wrapIN (i := i) (by omega)
    have hget := mid_get riddenV hc
    have hnx := mid_next riddenV hc
    have hset := fun x => set_getD (rows := midRows riddenV l i) (i := i) (by rw [hlen]; exact hc) x
    generalize l[i] = t at hget hnx
    obtain ⟨rows, hrows⟩ : ∃ rows, rows = midRows riddenV l i := ⟨_, rfl⟩
    rw [← hrows] at hlen hget hnx hset
    simp only [go_sem, Nat.reduceAdd, Nat.reduceSub, Nat.reduceMul, Nat.reduceLT, Nat.reduceLeDiff, Nat.reduceEqDiff, Nat.reduceBEq, Int.reduceToNat, Int.reduceLT, Int.reduceLE, Int.reduceEq, Int.reduceNe, Int.reduceAdd, Int.reduceSub, Int.reduceMul, Int.reduceNeg, ↓reduceIte, reduceCtorEq, cycDSt, f1, f2, f0, Int.toNat_natCast, ← hrows, hlen]
    clear hrows
    refine CallA.into tabOK mixed Try.func68 rfl rfl (by decide +kernel) (by simp [Try.ntmps68]) ?_
    simp only [go_sem, Nat.reduceAdd, Nat.reduceSub, Nat.reduceMul, Nat.reduceLT, Nat.reduceLeDiff, Nat.reduceEqDiff, Nat.reduceBEq, Int.reduceToNat, Int.reduceLT, Int.reduceLE, Int.reduceEq, Int.reduceNe, Int.reduceAdd, Int.reduceSub, Int.reduceMul, Int.reduceNeg, ↓reduceIte, reduceCtorEq, Try.ntmps68, Try.results68, Try.ntmps80, Try.results80, Try.ntmps75, Try.results75, Try.ntmps79, Try.results79, Try.ntmps42, Try.results42, hlen, hget, hset, List.set_set, List.length_set, hc, Trb.cells, hw]
    refine CallA.into tabOK mixed Try.func80 rfl rfl (by decide +kernel) (by simp [Try.ntmps80]) ?_
    simp only [go_sem, Nat.reduceAdd, Nat.reduceSub, Nat.reduceMul, Nat.reduceLT, Nat.reduceLeDiff, Nat.reduceEqDiff, Nat.reduceBEq, Int.reduceToNat, Int.reduceLT, Int.reduceLE, Int.reduceEq, Int.reduceNe, Int.reduceAdd, Int.reduceSub, Int.reduceMul, Int.reduceNeg, ↓reduceIte, reduceCtorEq, Try.ntmps68, Try.results68, Try.ntmps80, Try.results80, Try.ntmps75, Try.results75, Try.ntmps79, Try.results79, Try.ntmps42, Try.results42, hlen, hget, hset, List.set_set, List.length_set, hc, Trb.cells, hw]
    refine CallA.into tabOK mixed Try.func75 rfl rfl (by decide +kernel) (by simp [Try.ntmps75]) ?_
    simp only [go_sem, Nat.reduceAdd, Nat.reduceSub, Nat.reduceMul, Nat.reduceLT, Nat.reduceLeDiff, Nat.reduceEqDiff, Nat.reduceBEq, Int.reduceToNat, Int.reduceLT, Int.reduceLE, Int.reduceEq, Int.reduceNe, Int.reduceAdd, Int.reduceSub, Int.reduceMul, Int.reduceNeg, ↓reduceIte, reduceCtorEq, Try.ntmps68, Try.results68, Try.ntmps80, Try.results80, Try.ntmps75, Try.results75, Try.ntmps79, Try.results79, Try.ntmps42, Try.results42, hlen, hget, hset, List.set_set, List.length_set, hc, Trb.cells, hw]
    cases g1 : decide (bitsA .and .i64 (setV t.st 8) 1 = 0) with
    | false =>
      have hr : riddenV t = ⟨t.id, setV t.st 8, t.sc, 0⟩ := by simp [riddenV, hasV, g1]
      simp only [go_sem, Nat.reduceAdd, Nat.reduceSub, Nat.reduceMul, Nat.reduceLT, Nat.reduceLeDiff, Nat.reduceEqDiff, Nat.reduceBEq, Int.reduceToNat, Int.reduceLT, Int.reduceLE, Int.reduceEq, Int.reduceNe, Int.reduceAdd, Int.reduceSub, Int.reduceMul, Int.reduceNeg, ↓reduceIte, reduceCtorEq, Try.ntmps68, Try.results68, Try.ntmps80, Try.results80, Try.ntmps75, Try.results75, Try.ntmps79, Try.results79, Try.ntmps42, Try.results42, hlen, hget, hset, List.set_set, List.length_set, hc, Trb.cells, hw]
      refine ⟨l.length - (i + 1), _, by omega, ?_, i + 1, by omega, rfl, rfl⟩
      simp only [go_sem, Nat.reduceAdd, Nat.reduceSub, Nat.reduceMul, Nat.reduceLT, Nat.reduceLeDiff, Nat.reduceEqDiff, Nat.reduceBEq, Int.reduceToNat, Int.reduceLT, Int.reduceLE, Int.reduceEq, Int.reduceNe, Int.reduceAdd, Int.reduceSub, Int.reduceMul, Int.reduceNeg, ↓reduceIte, reduceCtorEq, cycDSt, hnx, hr, Trb.cells]
    | true =>
    simp only [go_sem, Nat.reduceAdd, Nat.reduceSub, Nat.reduceMul, Nat.reduceLT, Nat.reduceLeDiff, Nat.reduceEqDiff, Nat.reduceBEq, Int.reduceToNat, Int.reduceLT, Int.reduceLE, Int.reduceEq, Int.reduceNe, Int.reduceAdd, Int.reduceSub, Int.reduceMul, Int.reduceNeg, ↓reduceIte, reduceCtorEq, Try.ntmps68, Try.results68, Try.ntmps80, Try.results80, Try.ntmps75, Try.results75, Try.ntmps79, Try.results79, Try.ntmps42, Try.results42, hlen, hget, hset, List.set_set, List.length_set, hc, Trb.cells, hw]
    refine CallA.into tabOK mixed Try.func79 rfl rfl (by decide +kernel) (by simp [Try.ntmps79]) ?_
    simp only [go_sem, Nat.reduceAdd, Nat.reduceSub, Nat.reduceMul, Nat.reduceLT, Nat.reduceLeDiff, Nat.reduceEqDiff, Nat.reduceBEq, Int.reduceToNat, Int.reduceLT, Int.reduceLE, Int.reduceEq, Int.reduceNe, Int.reduceAdd, Int.reduceSub, Int.reduceMul, Int.reduceNeg, ↓reduceIte, reduceCtorEq, Try.ntmps68, Try.results68, Try.ntmps80, Try.results80, Try.ntmps75, Try.results75, Try.ntmps79, Try.results79, Try.ntmps42, Try.results42, hlen, hget, hset, List.set_set, List.length_set, hc, Trb.cells, hw]
    refine CallA.into tabOK mixed Try.func75 rfl rfl (by decide +kernel) (by simp [Try.ntmps75]) ?_
    simp only [go_sem, Nat.reduceAdd, Nat.reduceSub, Nat.reduceMul, Nat.reduceLT, Nat.reduceLeDiff, Nat.reduceEqDiff, Nat.reduceBEq, Int.reduceToNat, Int.reduceLT, Int.reduceLE, Int.reduceEq, Int.reduceNe, Int.reduceAdd, Int.reduceSub, Int.reduceMul, Int.reduceNeg, ↓reduceIte, reduceCtorEq, Try.ntmps68, Try.results68, Try.ntmps80, Try.results80, Try.ntmps75, Try.results75, Try.ntmps79, Try.results79, Try.ntmps42, Try.results42, hlen, hget, hset, List.set_set, List.length_set, hc, Trb.cells, hw]
    cases g2 : decide (bitsA .and .i64 (dropV (setV t.st 8) 2) 4 = 0) with
    | false =>
      by_cases h3 : IntKind.wrap .i64 (t.ca + 1) = 3
      · have g3 : decide (IntKind.wrap .i64 (t.ca + 1) = 3) = true := decide_eq_true h3
        have hr : riddenV t = ⟨t.id, dropV (dropV (setV t.st 8) 2) 4, t.sc, 0⟩ := by simp [riddenV, hasV, g1, g2, h3]
        simp only [go_sem, Nat.reduceAdd, Nat.reduceSub, Nat.reduceMul, Nat.reduceLT, Nat.reduceLeDiff, Nat.reduceEqDiff, Nat.reduceBEq, Int.reduceToNat, Int.reduceLT, Int.reduceLE, Int.reduceEq, Int.reduceNe, Int.reduceAdd, Int.reduceSub, Int.reduceMul, Int.reduceNeg, ↓reduceIte, reduceCtorEq, g3, Try.ntmps68, Try.results68, Try.ntmps80, Try.results80, Try.ntmps75, Try.results75, Try.ntmps79, Try.results79, Try.ntmps42, Try.results42, hlen, hget, hset, List.set_set, List.length_set, hc, Trb.cells, hw]
        refine CallA.into tabOK mixed Try.func79 rfl rfl (by decide +kernel) (by simp [Try.ntmps79]) ?_
        simp only [go_sem, Nat.reduceAdd, Nat.reduceSub, Nat.reduceMul, Nat.reduceLT, Nat.reduceLeDiff, Nat.reduceEqDiff, Nat.reduceBEq, Int.reduceToNat, Int.reduceLT, Int.reduceLE, Int.reduceEq, Int.reduceNe, Int.reduceAdd, Int.reduceSub, Int.reduceMul, Int.reduceNeg, ↓reduceIte, reduceCtorEq, Try.ntmps68, Try.results68, Try.ntmps80, Try.results80, Try.ntmps75, Try.results75, Try.ntmps79, Try.results79, Try.ntmps42, Try.results42, hlen, hget, hset, List.set_set, List.length_set, hc, Trb.cells, hw]
        refine ⟨l.length - (i + 1), _, by omega, ?_, i + 1, by omega, rfl, rfl⟩
        simp only [go_sem, Nat.reduceAdd, Nat.reduceSub, Nat.reduceMul, Nat.reduceLT, Nat.reduceLeDiff, Nat.reduceEqDiff, Nat.reduceBEq, Int.reduceToNat, Int.reduceLT, Int.reduceLE, Int.reduceEq, Int.reduceNe, Int.reduceAdd, Int.reduceSub, Int.reduceMul, Int.reduceNeg, ↓reduceIte, reduceCtorEq, cycDSt, hnx, hr, Trb.cells]
      · have g3 : decide (IntKind.wrap .i64 (t.ca + 1) = 3) = false := decide_eq_false h3
        have hr : riddenV t = ⟨t.id, dropV (setV t.st 8) 2, t.sc, IntKind.wrap .i64 (t.ca + 1)⟩ := by simp [riddenV, hasV, g1, g2, h3]
        simp only [go_sem, Nat.reduceAdd, Nat.reduceSub, Nat.reduceMul, Nat.reduceLT, Nat.reduceLeDiff, Nat.reduceEqDiff, Nat.reduceBEq, Int.reduceToNat, Int.reduceLT, Int.reduceLE, Int.reduceEq, Int.reduceNe, Int.reduceAdd, Int.reduceSub, Int.reduceMul, Int.reduceNeg, ↓reduceIte, reduceCtorEq, g3, Try.ntmps68, Try.results68, Try.ntmps80, Try.results80, Try.ntmps75, Try.results75, Try.ntmps79, Try.results79, Try.ntmps42, Try.results42, hlen, hget, hset, List.set_set, List.length_set, hc, Trb.cells, hw]
        refine ⟨l.length - (i + 1), _, by omega, ?_, i + 1, by omega, rfl, rfl⟩
        simp only [go_sem, Nat.reduceAdd, Nat.reduceSub, Nat.reduceMul, Nat.reduceLT, Nat.reduceLeDiff, Nat.reduceEqDiff, Nat.reduceBEq, Int.reduceToNat, Int.reduceLT, Int.reduceLE, Int.reduceEq, Int.reduceNe, Int.reduceAdd, Int.reduceSub, Int.reduceMul, Int.reduceNeg, ↓reduceIte, reduceCtorEq, cycDSt, hnx, hr, Trb.cells]
    | true =>
      by_cases h3 : t.ca = 3
      · have g3 : decide (t.ca = 3) = true := decide_eq_true h3
        have hr : riddenV t = ⟨t.id, dropV (dropV (setV t.st 8) 2) 4, t.sc, 0⟩ := by simp [riddenV, hasV, g1, g2, h3]
        simp only [go_sem, Nat.reduceAdd, Nat.reduceSub, Nat.reduceMul, Nat.reduceLT, Nat.reduceLeDiff, Nat.reduceEqDiff, Nat.reduceBEq, Int.reduceToNat, Int.reduceLT, Int.reduceLE, Int.reduceEq, Int.reduceNe, Int.reduceAdd, Int.reduceSub, Int.reduceMul, Int.reduceNeg, ↓reduceIte, reduceCtorEq, g3, Try.ntmps68, Try.results68, Try.ntmps80, Try.results80, Try.ntmps75, Try.results75, Try.ntmps79, Try.results79, Try.ntmps42, Try.results42, hlen, hget, hset, List.set_set, List.length_set, hc, Trb.cells, hw]
        refine CallA.into tabOK mixed Try.func79 rfl rfl (by decide +kernel) (by simp [Try.ntmps79]) ?_
        simp only [go_sem, Nat.reduceAdd, Nat.reduceSub, Nat.reduceMul, Nat.reduceLT, Nat.reduceLeDiff, Nat.reduceEqDiff, Nat.reduceBEq, Int.reduceToNat, Int.reduceLT, Int.reduceLE, Int.reduceEq, Int.reduceNe, Int.reduceAdd, Int.reduceSub, Int.reduceMul, Int.reduceNeg, ↓reduceIte, reduceCtorEq, Try.ntmps68, Try.results68, Try.ntmps80, Try.results80, Try.ntmps75, Try.results75, Try.ntmps79, Try.results79, Try.ntmps42, Try.results42, hlen, hget, hset, List.set_set, List.length_set, hc, Trb.cells, hw]
        refine ⟨l.length - (i + 1), _, by omega, ?_, i + 1, by omega, rfl, rfl⟩
        simp only [go_sem, Nat.reduceAdd, Nat.reduceSub, Nat.reduceMul, Nat.reduceLT, Nat.reduceLeDiff, Nat.reduceEqDiff, Nat.reduceBEq, Int.reduceToNat, Int.reduceLT, Int.reduceLE, Int.reduceEq, Int.reduceNe, Int.reduceAdd, Int.reduceSub, Int.reduceMul, Int.reduceNeg, ↓reduceIte, reduceCtorEq, cycDSt, hnx, hr, Trb.cells]
      · have g3 : decide (t.ca = 3) = false := decide_eq_false h3
        have hr : riddenV t = ⟨t.id, dropV (setV t.st 8) 2, t.sc, t.ca⟩ := by simp [riddenV, hasV, g1, g2, h3]
        simp only [go_sem, Nat.reduceAdd, Nat.reduceSub, Nat.reduceMul, Nat.reduceLT, Nat.reduceLeDiff, Nat.reduceEqDiff, Nat.reduceBEq, Int.reduceToNat, Int.reduceLT, Int.reduceLE, Int.reduceEq, Int.reduceNe, Int.reduceAdd, Int.reduceSub, Int.reduceMul, Int.reduceNeg, ↓reduceIte, reduceCtorEq, g3, Try.ntmps68, Try.results68, Try.ntmps80, Try.results80, Try.ntmps75, Try.results75, Try.ntmps79, Try.results79, Try.ntmps42, Try.results42, hlen, hget, hset, List.set_set, List.length_set, hc, Trb.cells, hw]
        refine ⟨l.length - (i + 1), _, by omega, ?_, i + 1, by omega, rfl, rfl⟩
        simp only [go_sem, Nat.reduceAdd, Nat.reduceSub, Nat.reduceMul, Nat.reduceLT, Nat.reduceLeDiff, Nat.reduceEqDiff, Nat.reduceBEq, Int.reduceToNat, Int.reduceLT, Int.reduceLE, Int.reduceEq, Int.reduceNe, Int.reduceAdd, Int.reduceSub, Int.reduceMul, Int.reduceNeg, ↓reduceIte, reduceCtorEq, cycDSt, hnx, hr, Trb.cells]
end Go.Proofs.Ytokilmnlabcpoaa.Pe
