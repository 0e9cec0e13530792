import Derived.Test.YtokilmnlabcpoaaDTh
namespace Go.Proofs.Ytokilmnlabcpoaa.Pe
open Go.Pe Go.RowKit
set_option maxRecDepth 20000
set_option maxHeartbeats 8000000
set_option linter.unusedSimpArgs false
set_option linter.unusedVariables false

theorem packL_get {l : List Trb} {k : Nat} {t : Trb} (h : l[k]? = some t) : (packL l).getD (3 * k) 0 = u8of (t.id.fdiv (2 ^ min 8 64)) ∧ (packL l).getD (3 * k + 1) 0 = u8of t.id ∧ (packL l).getD (3 * k + 2) 0 = u8of t.st := by
  have hk := (List.getElem?_eq_some_iff.1 h).1
  have e : packL l = packL (l.take k) ++ (packB t ++ packL (l.drop (k + 1))) := by
    have e1 : l = l.take k ++ t :: l.drop (k + 1) := by
      conv => lhs; rw [← List.take_append_drop k l, List.drop_eq_getElem_cons hk]
      rw [show l[k] = t from Option.some.inj ((List.getElem?_eq_getElem hk).symm.trans h)]
    conv => lhs; rw [e1]
    simp [packL, List.flatMap_append]
  have hl : (packL (l.take k)).length = 3 * k := by rw [packL_len]; simp; omega
  have g : ∀ j, j < 3 → (packL l).getD (3 * k + j) 0 = (packB t).getD j 0 := by
    intro j hj
    rw [e, List.getD_eq_getElem?_getD, List.getElem?_append_right (by omega), List.getElem?_append_left (by simp [packB]; omega), List.getD_eq_getElem?_getD]
    congr 2
    omega
  exact ⟨g 0 (by omega), g 1 (by omega), g 2 (by omega)⟩
def lsSt (l m : List Trb) (p : List UInt8) (w : UInt8) (k i : Nat) : St := ⟨125, [(0, trbsPV l), (1, .lit (.int .u8 w.toNat)), (5, PB true), (6, trbsPV m), (7, bytesPV p), (8, PI k), (9, PI i)], [], 20, 0⟩
def lsI (l : List Trb) (w : UInt8) (x : Nat) (st : St) : Prop := ∃ i k : Nat, i ≤ l.length ∧ x = l.length - i ∧ k = (listV w.toNat (l.take i)).length ∧ st = lsSt l (listV w.toNat l) (packV w.toNat l) w k i
theorem list21_calls (l : List Trb) (w : UInt8) : PureCalls Try.prog 15 [trbsPV l, .lit (.int .u8 w.toNat)] (PB true) := by
  refine PureCalls.of tabOK mixed Try.func15 rfl rfl (by decide +kernel) (by simp [Try.ntmps15]) ?_
  have la := trbRows_len l
  have bw : w.toNat < 256 := w.toNat_lt
  have ww : IntKind.wrap .i64 (w.toNat : Int) = w.toNat := wrapI64 (by omega)
  simp only [go_sem, Nat.reduceAdd, Nat.reduceSub, Nat.reduceMul, Nat.reduceLT, Nat.reduceLeDiff, Nat.reduceEqDiff, Nat.reduceBEq, Int.reduceToNat, Int.reduceLT, Int.reduceLE, Int.reduceEq, Int.reduceNe, Int.reduceAdd, Int.reduceSub, Int.reduceMul, Int.reduceNeg, ↓reduceIte, reduceCtorEq, Try.ntmps15, Try.results15]
  (refine CallA.pure (head21_calls) (by simp only [go_sem, Nat.reduceAdd, Nat.reduceSub, Nat.reduceMul, Nat.reduceLT, Nat.reduceLeDiff, Nat.reduceEqDiff, Nat.reduceBEq, Int.reduceToNat, Int.reduceLT, Int.reduceLE, Int.reduceEq, Int.reduceNe, Int.reduceAdd, Int.reduceSub, Int.reduceMul, Int.reduceNeg, ↓reduceIte, reduceCtorEq] <;> first | rfl | decide) ?_; simp only [go_sem, Nat.reduceAdd, Nat.reduceSub, Nat.reduceMul, Nat.reduceLT, Nat.reduceLeDiff, Nat.reduceEqDiff, Nat.reduceBEq, Int.reduceToNat, Int.reduceLT, Int.reduceLE, Int.reduceEq, Int.reduceNe, Int.reduceAdd, Int.reduceSub, Int.reduceMul, Int.reduceNeg, ↓reduceIte, reduceCtorEq])
  by_cases h : l.length > 100
  · have g : decide ((l.length : Int) > 100) = true := decide_eq_true (by omega)
    simp only [go_sem, Nat.reduceAdd, Nat.reduceSub, Nat.reduceMul, Nat.reduceLT, Nat.reduceLeDiff, Nat.reduceEqDiff, Nat.reduceBEq, Int.reduceToNat, Int.reduceLT, Int.reduceLE, Int.reduceEq, Int.reduceNe, Int.reduceAdd, Int.reduceSub, Int.reduceMul, Int.reduceNeg, ↓reduceIte, reduceCtorEq, la, g, Try.ntmps15, Try.results15]
  have g : decide ((l.length : Int) > 100) = false := decide_eq_false (by omega)
  have c1 := rightD_calls l (by omega)
  simp only [go_sem, Nat.reduceAdd, Nat.reduceSub, Nat.reduceMul, Nat.reduceLT, Nat.reduceLeDiff, Nat.reduceEqDiff, Nat.reduceBEq, Int.reduceToNat, Int.reduceLT, Int.reduceLE, Int.reduceEq, Int.reduceNe, Int.reduceAdd, Int.reduceSub, Int.reduceMul, Int.reduceNeg, ↓reduceIte, reduceCtorEq, la, g]
  (refine CallA.pure (c1) (by simp only [go_sem, Nat.reduceAdd, Nat.reduceSub, Nat.reduceMul, Nat.reduceLT, Nat.reduceLeDiff, Nat.reduceEqDiff, Nat.reduceBEq, Int.reduceToNat, Int.reduceLT, Int.reduceLE, Int.reduceEq, Int.reduceNe, Int.reduceAdd, Int.reduceSub, Int.reduceMul, Int.reduceNeg, ↓reduceIte, reduceCtorEq] <;> first | rfl | decide) ?_; simp only [go_sem, Nat.reduceAdd, Nat.reduceSub, Nat.reduceMul, Nat.reduceLT, Nat.reduceLeDiff, Nat.reduceEqDiff, Nat.reduceBEq, Int.reduceToNat, Int.reduceLT, Int.reduceLE, Int.reduceEq, Int.reduceNe, Int.reduceAdd, Int.reduceSub, Int.reduceMul, Int.reduceNeg, ↓reduceIte, reduceCtorEq])
  cases hr : rightL l with
  | false => simp only [go_sem, Nat.reduceAdd, Nat.reduceSub, Nat.reduceMul, Nat.reduceLT, Nat.reduceLeDiff, Nat.reduceEqDiff, Nat.reduceBEq, Int.reduceToNat, Int.reduceLT, Int.reduceLE, Int.reduceEq, Int.reduceNe, Int.reduceAdd, Int.reduceSub, Int.reduceMul, Int.reduceNeg, ↓reduceIte, reduceCtorEq, hr, Try.ntmps15, Try.results15]
  | true =>
  have hll := rightL_len hr
  have hmem := rightL_mem hr
  have hmw := listV_len w.toNat l
  have hm15 := listV_len 15 l
  have hpl : (packV w.toNat l).length = 3 * (listV w.toNat l).length := packL_len _
  have h0 : listV 0 l = [] := by
    rw [listV, List.filter_eq_nil_iff]
    intro t ht
    obtain ⟨n, hn⟩ : ∃ n : Nat, t.st = n := ⟨t.st.toNat, by have := okR_bounds (hmem t ht); omega⟩
    have h16 : n < 16 := by have := okR_bounds (hmem t ht); omega
    have key : ∀ n : Nat, n < 16 → hasV n 0 = false := by decide +kernel
    rw [hn, key n h16]; simp
  have c2 := listD_calls l w.toNat (by omega)
  have c3 := packD_calls l w.toNat (by omega)
  have c4 := listD_calls l 0 (by omega)
  rw [h0] at c4
  have c5 := listD_calls l 15 (by omega)
  have lam := trbRows_len (listV w.toNat l)
  have lam5 := trbRows_len (listV 15 l)
  have lap : (rowsB (packV w.toNat l)).length = (packV w.toNat l).length := rowsB_length _
  have w3 : IntKind.wrap .i64 (3 * ((listV w.toNat l).length : Int)) = ((packV w.toNat l).length : Int) := by rw [wrapI64 (by omega), hpl]; omega
  have g1 : decide (((packV w.toNat l).length : Int) = ((packV w.toNat l).length : Int)) = true := decide_eq_true rfl
  have g5 : decide (((listV 15 l).length : Int) > (l.length : Int)) = false := decide_eq_false (by omega)
  simp only [go_sem, Nat.reduceAdd, Nat.reduceSub, Nat.reduceMul, Nat.reduceLT, Nat.reduceLeDiff, Nat.reduceEqDiff, Nat.reduceBEq, Int.reduceToNat, Int.reduceLT, Int.reduceLE, Int.reduceEq, Int.reduceNe, Int.reduceAdd, Int.reduceSub, Int.reduceMul, Int.reduceNeg, ↓reduceIte, reduceCtorEq, hr, ww]
  (refine CallA.pure (c2) (by simp only [go_sem, Nat.reduceAdd, Nat.reduceSub, Nat.reduceMul, Nat.reduceLT, Nat.reduceLeDiff, Nat.reduceEqDiff, Nat.reduceBEq, Int.reduceToNat, Int.reduceLT, Int.reduceLE, Int.reduceEq, Int.reduceNe, Int.reduceAdd, Int.reduceSub, Int.reduceMul, Int.reduceNeg, ↓reduceIte, reduceCtorEq, ww] <;> first | rfl | decide) ?_; simp only [go_sem, Nat.reduceAdd, Nat.reduceSub, Nat.reduceMul, Nat.reduceLT, Nat.reduceLeDiff, Nat.reduceEqDiff, Nat.reduceBEq, Int.reduceToNat, Int.reduceLT, Int.reduceLE, Int.reduceEq, Int.reduceNe, Int.reduceAdd, Int.reduceSub, Int.reduceMul, Int.reduceNeg, ↓reduceIte, reduceCtorEq, ww])
  (refine CallA.pure (c3) (by simp only [go_sem, Nat.reduceAdd, Nat.reduceSub, Nat.reduceMul, Nat.reduceLT, Nat.reduceLeDiff, Nat.reduceEqDiff, Nat.reduceBEq, Int.reduceToNat, Int.reduceLT, Int.reduceLE, Int.reduceEq, Int.reduceNe, Int.reduceAdd, Int.reduceSub, Int.reduceMul, Int.reduceNeg, ↓reduceIte, reduceCtorEq, ww, lap, lam, w3, g1] <;> first | rfl | decide) ?_; simp only [go_sem, Nat.reduceAdd, Nat.reduceSub, Nat.reduceMul, Nat.reduceLT, Nat.reduceLeDiff, Nat.reduceEqDiff, Nat.reduceBEq, Int.reduceToNat, Int.reduceLT, Int.reduceLE, Int.reduceEq, Int.reduceNe, Int.reduceAdd, Int.reduceSub, Int.reduceMul, Int.reduceNeg, ↓reduceIte, reduceCtorEq, ww, lap, lam, w3, g1])
  (refine CallA.pure (c4) (by simp only [go_sem, Nat.reduceAdd, Nat.reduceSub, Nat.reduceMul, Nat.reduceLT, Nat.reduceLeDiff, Nat.reduceEqDiff, Nat.reduceBEq, Int.reduceToNat, Int.reduceLT, Int.reduceLE, Int.reduceEq, Int.reduceNe, Int.reduceAdd, Int.reduceSub, Int.reduceMul, Int.reduceNeg, ↓reduceIte, reduceCtorEq] <;> first | rfl | decide) ?_; simp only [go_sem, Nat.reduceAdd, Nat.reduceSub, Nat.reduceMul, Nat.reduceLT, Nat.reduceLeDiff, Nat.reduceEqDiff, Nat.reduceBEq, Int.reduceToNat, Int.reduceLT, Int.reduceLE, Int.reduceEq, Int.reduceNe, Int.reduceAdd, Int.reduceSub, Int.reduceMul, Int.reduceNeg, ↓reduceIte, reduceCtorEq])
  (refine CallA.pure (c5) (by simp only [go_sem, Nat.reduceAdd, Nat.reduceSub, Nat.reduceMul, Nat.reduceLT, Nat.reduceLeDiff, Nat.reduceEqDiff, Nat.reduceBEq, Int.reduceToNat, Int.reduceLT, Int.reduceLE, Int.reduceEq, Int.reduceNe, Int.reduceAdd, Int.reduceSub, Int.reduceMul, Int.reduceNeg, ↓reduceIte, reduceCtorEq, la, lam5, g5, List.length_nil, trbRows, List.map_nil, Int.natCast_zero] <;> first | rfl | decide) ?_; simp only [go_sem, Nat.reduceAdd, Nat.reduceSub, Nat.reduceMul, Nat.reduceLT, Nat.reduceLeDiff, Nat.reduceEqDiff, Nat.reduceBEq, Int.reduceToNat, Int.reduceLT, Int.reduceLE, Int.reduceEq, Int.reduceNe, Int.reduceAdd, Int.reduceSub, Int.reduceMul, Int.reduceNeg, ↓reduceIte, reduceCtorEq, la, lam5, g5, List.length_nil, trbRows, List.map_nil, Int.natCast_zero])
  refine wpA_loop (lsI l w) ⟨_, _, ?_, 0, 0, by omega, rfl, rfl, rfl⟩ ?_
  · simp only [go_sem, Nat.reduceAdd, Nat.reduceSub, Nat.reduceMul, Nat.reduceLT, Nat.reduceLeDiff, Nat.reduceEqDiff, Nat.reduceBEq, Int.reduceToNat, Int.reduceLT, Int.reduceLE, Int.reduceEq, Int.reduceNe, Int.reduceAdd, Int.reduceSub, Int.reduceMul, Int.reduceNeg, ↓reduceIte, reduceCtorEq, lsSt, Int.natCast_zero]
  rintro x st ⟨i, k, hi, rfl, hk, rfl⟩
  by_cases hc : i < l.length
  rotate_left 1
  · have f1 : decide ((i : Int) < (l.length : Int)) = false := decide_eq_false (by omega)
    rw [List.take_of_length_le (by omega)] at hk
    have g2 : decide ((k : Int) = ((listV w.toNat l).length : Int)) = true := decide_eq_true (by omega)
    simp only [go_sem, Nat.reduceAdd, Nat.reduceSub, Nat.reduceMul, Nat.reduceLT, Nat.reduceLeDiff, Nat.reduceEqDiff, Nat.reduceBEq, Int.reduceToNat, Int.reduceLT, Int.reduceLE, Int.reduceEq, Int.reduceNe, Int.reduceAdd, Int.reduceSub, Int.reduceMul, Int.reduceNeg, ↓reduceIte, reduceCtorEq, lsSt, la, lam, f1, g2, Try.ntmps15, Try.results15]
  have f1 : decide ((i : Int) < (l.length : Int)) = true := decide_eq_true (by omega)
  have f2 : (i : Int) < (l.length : Int) := by omega
  have f0 : (0 : Int) ≤ (i : Int) := by omega
  have hw := wrapIN (i := i) (by omega)
  have r1 := trbRows_get hc
  have hsn := listV_snoc w.toNat hc
  have hok := hmem l[i] (List.getElem_mem hc)
  have hsplit : listV w.toNat l = listV w.toNat (l.take i) ++ ((if hasV l[i].st w.toNat then [l[i]] else []) ++ listV w.toNat (l.drop (i + 1))) := by
    conv => lhs; rw [← List.take_append_drop i l, List.drop_eq_getElem_cons hc]
    simp only [listV, List.filter_append, List.filter_cons]
    split <;> rfl
  generalize l[i] = t at r1 hsn hsplit hok
  obtain ⟨b1, b2, b3, b4, _, _, _, _⟩ := okR_bounds hok
  cases g2 : decide (bitsA .and .i64 t.st w.toNat = 0) with
  | true =>
    have hp : hasV t.st w.toNat = false := by rw [hasV, g2]; rfl
    simp only [go_sem, Nat.reduceAdd, Nat.reduceSub, Nat.reduceMul, Nat.reduceLT, Nat.reduceLeDiff, Nat.reduceEqDiff, Nat.reduceBEq, Int.reduceToNat, Int.reduceLT, Int.reduceLE, Int.reduceEq, Int.reduceNe, Int.reduceAdd, Int.reduceSub, Int.reduceMul, Int.reduceNeg, ↓reduceIte, reduceCtorEq, lsSt, la, f1, f2, f0, Int.toNat_natCast, r1, Trb.cells, ww, g2, hw]
    refine ⟨l.length - (i + 1), _, by omega, ?_, i + 1, k, by omega, rfl, by rw [hsn, hp, hk]; simp, rfl⟩
    simp only [go_sem, Nat.reduceAdd, Nat.reduceSub, Nat.reduceMul, Nat.reduceLT, Nat.reduceLeDiff, Nat.reduceEqDiff, Nat.reduceBEq, Int.reduceToNat, Int.reduceLT, Int.reduceLE, Int.reduceEq, Int.reduceNe, Int.reduceAdd, Int.reduceSub, Int.reduceMul, Int.reduceNeg, ↓reduceIte, reduceCtorEq, lsSt]
  | false =>
    have hp : hasV t.st w.toNat = true := by rw [hasV, g2]; rfl
    rw [if_pos hp] at hsplit hsn
    have hkm : (listV w.toNat l)[k]? = some t := by rw [hsplit, hk, List.getElem?_append_right (Nat.le_refl _), Nat.sub_self]; rfl
    have hkl := (List.getElem?_eq_some_iff.1 hkm).1
    obtain ⟨y1, y2, y3⟩ := packL_get hkm
    have hp3 : (packV w.toNat l).length = 3 * (listV w.toNat l).length := hpl
    have rm : (trbRows (listV w.toNat l)).getD k [] = t.cells := by rw [trbRows_get hkl]; congr 1; exact Option.some.inj ((List.getElem?_eq_getElem hkl).symm.trans hkm)
    have rp : ∀ j, j < 3 → (rowsB (packV w.toNat l)).getD (3 * k + j) [] = rowB ((packV w.toNat l).getD (3 * k + j) 0) := fun j hj => rowsB_getD (by omega)
    have rp0 := rp 0 (by omega)
    have rp1 := rp 1 (by omega)
    have rp2 := rp 2 (by omega)
    rw [show (packV w.toNat l).getD (3 * k + 0) 0 = _ from y1] at rp0
    rw [show (packV w.toNat l).getD (3 * k + 1) 0 = _ from y2] at rp1
    rw [show (packV w.toNat l).getD (3 * k + 2) 0 = _ from y3] at rp2
    rw [Nat.add_zero] at rp0
    have a1 : ((u8of (t.id.fdiv (2 ^ min 8 64))).toNat : Int) = t.id / 256 := by
      rw [← u8of_eq, IntKind.wrap_u8]
      show t.id.fdiv 256 % 256 = _
      rw [Int.fdiv_eq_ediv_of_nonneg _ (by decide)]
      omega
    have a2 : ((u8of t.id).toNat : Int) = t.id % 256 := by rw [← u8of_eq, IntKind.wrap_u8]
    have a3 : ((u8of t.st).toNat : Int) = t.st := by rw [← u8of_eq, IntKind.wrap_u8]; omega
    rw [rowB_eq, a1] at rp0
    rw [rowB_eq, a2] at rp1
    rw [rowB_eq, a3] at rp2
    have v1 : IntKind.wrap .i64 (3 * (k : Int)) = ((3 * k : Nat) : Int) := by rw [wrapI64 (by omega)]; omega
    have v2 : IntKind.wrap .i64 (((3 * k : Nat) : Int) + 1) = ((3 * k + 1 : Nat) : Int) := by rw [wrapI64 (by omega)]; omega
    have v3 : IntKind.wrap .i64 (((3 * k : Nat) : Int) + 2) = ((3 * k + 2 : Nat) : Int) := by rw [wrapI64 (by omega)]; omega
    have u1 : IntKind.wrap .i64 (t.id / 256) = t.id / 256 := wrapI64 (by omega)
    have u2 : IntKind.wrap .i64 (t.id % 256) = t.id % 256 := wrapI64 (by omega)
    have u3 : IntKind.wrap .i64 t.st = t.st := wrapI64 (by omega)
    have u4 : IntKind.wrap .i64 (t.id / 256 * 256) = t.id / 256 * 256 := wrapI64 (by omega)
    have u5 : IntKind.wrap .i64 (t.id / 256 * 256 + t.id % 256) = t.id := by rw [wrapI64 (by omega)]; omega
    have l0 : ((3 * k : Nat) : Int) < ((packV w.toNat l).length : Int) := by omega
    have l1 : ((3 * k + 1 : Nat) : Int) < ((packV w.toNat l).length : Int) := by omega
    have l2 : ((3 * k + 2 : Nat) : Int) < ((packV w.toNat l).length : Int) := by omega
    have n0 : (0 : Int) ≤ ((3 * k : Nat) : Int) := by omega
    have n1 : (0 : Int) ≤ ((3 * k + 1 : Nat) : Int) := by omega
    have n2 : (0 : Int) ≤ ((3 * k + 2 : Nat) : Int) := by omega
    have m1 : decide ((k : Int) ≥ ((listV w.toNat l).length : Int)) = false := decide_eq_false (by omega)
    have m2 : (k : Int) < ((listV w.toNat l).length : Int) := by omega
    have m0 : (0 : Int) ≤ (k : Int) := by omega
    have hwk := wrapIN (i := k) (by omega)
    have s1 : ∀ z : Int, decide (z = z) = true := fun z => decide_eq_true rfl
    simp only [go_sem, Nat.reduceAdd, Nat.reduceSub, Nat.reduceMul, Nat.reduceLT, Nat.reduceLeDiff, Nat.reduceEqDiff, Nat.reduceBEq, Int.reduceToNat, Int.reduceLT, Int.reduceLE, Int.reduceEq, Int.reduceNe, Int.reduceAdd, Int.reduceSub, Int.reduceMul, Int.reduceNeg, ↓reduceIte, reduceCtorEq, lsSt, la, lam, lap, f1, f2, f0, Int.toNat_natCast, r1, rm, Trb.cells, ww, g2, m1, m2, m0, s1, v1, v2, v3, l0, l1, l2, n0, n1, n2, rp0, rp1, rp2, u1, u2, u3, u4, u5, Bool.true_and, Bool.and_self]
    refine endD_intro (by decide +kernel) ?_
    simp only [go_sem, Nat.reduceAdd, Nat.reduceSub, Nat.reduceMul, Nat.reduceLT, Nat.reduceLeDiff, Nat.reduceEqDiff, Nat.reduceBEq, Int.reduceToNat, Int.reduceLT, Int.reduceLE, Int.reduceEq, Int.reduceNe, Int.reduceAdd, Int.reduceSub, Int.reduceMul, Int.reduceNeg, ↓reduceIte, reduceCtorEq, hwk, hw]
    refine ⟨l.length - (i + 1), _, by omega, ?_, i + 1, k + 1, by omega, rfl, by rw [hsn, hk]; simp, rfl⟩
    simp only [go_sem, Nat.reduceAdd, Nat.reduceSub, Nat.reduceMul, Nat.reduceLT, Nat.reduceLeDiff, Nat.reduceEqDiff, Nat.reduceBEq, Int.reduceToNat, Int.reduceLT, Int.reduceLE, Int.reduceEq, Int.reduceNe, Int.reduceAdd, Int.reduceSub, Int.reduceMul, Int.reduceNeg, ↓reduceIte, reduceCtorEq, lsSt]
end Go.Proofs.Ytokilmnlabcpoaa.Pe
