import Derived.Test.YtcdmhigmgpflbaaDT2
import Derived.Test.YtcdmhigmgpflbaaPe20
namespace Go.Proofs.Ytcdmhigmgpflbaa.Pe
open Go.Pe Go.RowKit
set_option maxRecDepth 20000
set_option maxHeartbeats 4000000
set_option linter.unusedSimpArgs false
set_option linter.unusedVariables false

def rightDSt (l : List Trb) (i : Nat) : St := ⟨37, [(0, trbsPV l), (5, PI l.length), (6, PI i)], [], 20, 0⟩
def rightDI (l : List Trb) (m : Nat) (st : St) : Prop := ∃ (i : Nat) (p : Option Int), i ≤ l.length ∧ m = l.length - i ∧ prevR l i p ∧ okFrom p (l.drop i) = okFrom none l ∧ st = rightDSt l i
theorem rightD_calls (l : List Trb) (hbig : l.length ≤ 9223372036854775807) : PureCalls Try.prog 76 [trbsPV l] (PB (rightL l)) := by
  refine PureCalls.of tabOK mixed Try.func76 rfl rfl (by decide +kernel) (by simp [Try.ntmps76]) ?_
  have la := trbRows_len l
  simp only [go_sem, Nat.reduceAdd, Nat.reduceSub, Nat.reduceMul, Nat.reduceLT, Nat.reduceLeDiff, Nat.reduceEqDiff, Nat.reduceBEq, Int.reduceToNat, Int.reduceLT, Int.reduceLE, Int.reduceEq, Int.reduceNe, Int.reduceAdd, Int.reduceSub, Int.reduceMul, Int.reduceNeg, ↓reduceIte, reduceCtorEq, Try.ntmps76, Try.results76, la]
  refine wpA_loop (rightDI l) ⟨_, _, ?_, 0, none, by omega, rfl, .inl ⟨rfl, rfl⟩, rfl, rfl⟩ ?_
  · simp only [go_sem, Nat.reduceAdd, Nat.reduceSub, Nat.reduceMul, Nat.reduceLT, Nat.reduceLeDiff, Nat.reduceEqDiff, Nat.reduceBEq, Int.reduceToNat, Int.reduceLT, Int.reduceLE, Int.reduceEq, Int.reduceNe, Int.reduceAdd, Int.reduceSub, Int.reduceMul, Int.reduceNeg, ↓reduceIte, reduceCtorEq, rightDSt, Int.natCast_zero]
  rintro m st ⟨i, p, hi, rfl, hp, hd, rfl⟩
  by_cases hc : i < l.length
  rotate_left 1
  · have f1 : decide ((i : Int) < (l.length : Int)) = false := decide_eq_false (by omega)
    have g : okFrom none l = true := by
      rw [← hd, List.drop_of_length_le (by omega)]
      cases p <;> rfl
    have g2 : decide ((l.length : Int) ≤ 16) = rightL l := by
      rw [rightL, g, Bool.and_true, Bool.eq_iff_iff]
      simp; omega
    simp only [go_sem, Nat.reduceAdd, Nat.reduceSub, Nat.reduceMul, Nat.reduceLT, Nat.reduceLeDiff, Nat.reduceEqDiff, Nat.reduceBEq, Int.reduceToNat, Int.reduceLT, Int.reduceLE, Int.reduceEq, Int.reduceNe, Int.reduceAdd, Int.reduceSub, Int.reduceMul, Int.reduceNeg, ↓reduceIte, reduceCtorEq, rightDSt, la, f1, g2, Try.ntmps76, Try.results76]
  have f1 : decide ((i : Int) < (l.length : Int)) = true := decide_eq_true (by omega)
  have f2 : (i : Int) < (l.length : Int) := by omega
  have f0 : (0 : Int) ≤ (i : Int) := by omega
  have hw := wrapIN (i := i) (by omega)
  have r1 := trbRows_get hc
  have hda : l.drop i = l[i] :: l.drop (i + 1) := by rw [List.drop_eq_getElem_cons hc]
  have hge : l[i]? = some l[i] := List.getElem?_eq_getElem hc
  have hnx := prevR_next hge
  generalize l[i] = t at r1 hda hnx hge
  rw [hda] at hd
  have fin : t.okR = true → ordR p t.id = true → ∀ st', Weak st' (rightDSt l (i + 1)) → ∃ m' s'', m' < l.length - i ∧ Weak st' s'' ∧ rightDI l m' s'' := by
    intro h1 h2 st' h
    refine ⟨l.length - (i + 1), _, by omega, h, i + 1, some t.id, by omega, rfl, hnx, ?_, rfl⟩
    rw [← hd, okFrom, h1, h2]
    rfl
  have bad : t.okR = false ∨ ordR p t.id = false → rightL l = false := by
    intro h
    rw [rightL, ← hd, okFrom]
    rcases h with h | h <;> simp [h]
  have ord : (i = 0 ∧ p = none ∧ decide ((i : Int) > 0) = false) ∨ ∃ q : Trb, ordR p t.id = !decide (t.id ≤ q.id) ∧ decide ((i : Int) > 0) = true ∧ IntKind.wrap .i64 ((i : Int) - 1) = ((i - 1 : Nat) : Int) ∧ (trbRows l).getD (i - 1) [] = q.cells ∧ ((i - 1 : Nat) : Int) < (l.length : Int) ∧ (0 : Int) ≤ ((i - 1 : Nat) : Int) := by
    rcases hp with ⟨rfl, rfl⟩ | ⟨h0, q, hq, rfl⟩
    · exact .inl ⟨rfl, rfl, rfl⟩
    · refine .inr ⟨q, rfl, decide_eq_true (by omega), ?_, ?_, by omega, by omega⟩
      · rw [wrapI64 (by omega)]; omega
      · simp [trbRows, List.getD_eq_getElem?_getD, hq]
  clear hp hda hge hnx
  have eid : decide (t.id.fdiv (2 ^ min 16 64) = 0) = (!decide (t.id < 0) && !decide (t.id > 65535)) := by
    show decide (t.id.fdiv 65536 = 0) = _
    rw [Int.fdiv_eq_ediv_of_nonneg _ (by decide), Bool.eq_iff_iff]
    simp
    omega
  have est : decide (t.st.fdiv (2 ^ min 4 64) = 0) = (!decide (t.st < 0) && !decide (t.st > 15)) := by
    show decide (t.st.fdiv 16 = 0) = _
    rw [Int.fdiv_eq_ediv_of_nonneg _ (by decide), Bool.eq_iff_iff]
    simp
    omega
  rcases ord with ⟨hi0, rfl, g0⟩ | ⟨q, ho, g0, w1, r2, b1, b2⟩
  · have ho : ordR none t.id = true := rfl
    simp only [go_sem, Nat.reduceAdd, Nat.reduceSub, Nat.reduceMul, Nat.reduceLT, Nat.reduceLeDiff, Nat.reduceEqDiff, Nat.reduceBEq, Int.reduceToNat, Int.reduceLT, Int.reduceLE, Int.reduceEq, Int.reduceNe, Int.reduceAdd, Int.reduceSub, Int.reduceMul, Int.reduceNeg, ↓reduceIte, reduceCtorEq, rightDSt, la, f1, f2, f0, Int.toNat_natCast, r1, Trb.cells, g0]
    refine callD_tail (by decide +kernel) (by decide +kernel) ?_
    simp only [go_sem, Nat.reduceAdd, Nat.reduceSub, Nat.reduceMul, Nat.reduceLT, Nat.reduceLeDiff, Nat.reduceEqDiff, Nat.reduceBEq, Int.reduceToNat, Int.reduceLT, Int.reduceLE, Int.reduceEq, Int.reduceNe, Int.reduceAdd, Int.reduceSub, Int.reduceMul, Int.reduceNeg, ↓reduceIte, reduceCtorEq]
    refine CallA.into tabOK mixed Try.func119 rfl rfl (by decide +kernel) (by simp [Try.ntmps119]) ?_
    simp only [go_sem, Nat.reduceAdd, Nat.reduceSub, Nat.reduceMul, Nat.reduceLT, Nat.reduceLeDiff, Nat.reduceEqDiff, Nat.reduceBEq, Int.reduceToNat, Int.reduceLT, Int.reduceLE, Int.reduceEq, Int.reduceNe, Int.reduceAdd, Int.reduceSub, Int.reduceMul, Int.reduceNeg, ↓reduceIte, reduceCtorEq, Try.ntmps119, Try.results119, Try.ntmps142, Try.results142, Try.ntmps76, Try.results76, Trb.cells, la, hw]
    repeat' (first | (refine wantK_splitN (fun h => ?_) (fun h => ?_) <;> simp only [go_sem, Nat.reduceAdd, Nat.reduceSub, Nat.reduceMul, Nat.reduceLT, Nat.reduceLeDiff, Nat.reduceEqDiff, Nat.reduceBEq, Int.reduceToNat, Int.reduceLT, Int.reduceLE, Int.reduceEq, Int.reduceNe, Int.reduceAdd, Int.reduceSub, Int.reduceMul, Int.reduceNeg, ↓reduceIte, reduceCtorEq, Try.ntmps119, Try.results119, Try.ntmps142, Try.results142, Try.ntmps76, Try.results76, Trb.cells, la, hw, h]) | (refine wantK_split (fun h => ?_) (fun h => ?_) <;> simp only [go_sem, Nat.reduceAdd, Nat.reduceSub, Nat.reduceMul, Nat.reduceLT, Nat.reduceLeDiff, Nat.reduceEqDiff, Nat.reduceBEq, Int.reduceToNat, Int.reduceLT, Int.reduceLE, Int.reduceEq, Int.reduceNe, Int.reduceAdd, Int.reduceSub, Int.reduceMul, Int.reduceNeg, ↓reduceIte, reduceCtorEq, Try.ntmps119, Try.results119, Try.ntmps142, Try.results142, Try.ntmps76, Try.results76, Trb.cells, la, hw, h]) | (refine condK_splitN (fun h => ?_) (fun h => ?_) <;> simp only [go_sem, Nat.reduceAdd, Nat.reduceSub, Nat.reduceMul, Nat.reduceLT, Nat.reduceLeDiff, Nat.reduceEqDiff, Nat.reduceBEq, Int.reduceToNat, Int.reduceLT, Int.reduceLE, Int.reduceEq, Int.reduceNe, Int.reduceAdd, Int.reduceSub, Int.reduceMul, Int.reduceNeg, ↓reduceIte, reduceCtorEq, Try.ntmps119, Try.results119, Try.ntmps142, Try.results142, Try.ntmps76, Try.results76, Trb.cells, la, hw, h]) | (refine condK_split (fun h => ?_) (fun h => ?_) <;> simp only [go_sem, Nat.reduceAdd, Nat.reduceSub, Nat.reduceMul, Nat.reduceLT, Nat.reduceLeDiff, Nat.reduceEqDiff, Nat.reduceBEq, Int.reduceToNat, Int.reduceLT, Int.reduceLE, Int.reduceEq, Int.reduceNe, Int.reduceAdd, Int.reduceSub, Int.reduceMul, Int.reduceNeg, ↓reduceIte, reduceCtorEq, Try.ntmps119, Try.results119, Try.ntmps142, Try.results142, Try.ntmps76, Try.results76, Trb.cells, la, hw, h]) | (refine CallA.into tabOK mixed Try.func142 rfl rfl (by decide +kernel) (by simp [Try.ntmps142]) ?_; simp only [go_sem, Nat.reduceAdd, Nat.reduceSub, Nat.reduceMul, Nat.reduceLT, Nat.reduceLeDiff, Nat.reduceEqDiff, Nat.reduceBEq, Int.reduceToNat, Int.reduceLT, Int.reduceLE, Int.reduceEq, Int.reduceNe, Int.reduceAdd, Int.reduceSub, Int.reduceMul, Int.reduceNeg, ↓reduceIte, reduceCtorEq, Try.ntmps119, Try.results119, Try.ntmps142, Try.results142, Try.ntmps76, Try.results76, Trb.cells, la, hw]))
    all_goals (first | exact bad (.inl (by clear bad fin hd la f1 f2 f0 hw r1; simp_all [Trb.okR, hasV] <;> first | omega | (intros; omega))) | (refine fin (by clear bad fin hd la f1 f2 f0 hw r1; simp_all [Trb.okR, hasV] <;> first | omega | (intros; omega)) ho _ ?_; simp only [go_sem, Nat.reduceAdd, Nat.reduceSub, Nat.reduceMul, Nat.reduceLT, Nat.reduceLeDiff, Nat.reduceEqDiff, Nat.reduceBEq, Int.reduceToNat, Int.reduceLT, Int.reduceLE, Int.reduceEq, Int.reduceNe, Int.reduceAdd, Int.reduceSub, Int.reduceMul, Int.reduceNeg, ↓reduceIte, reduceCtorEq, rightDSt]; done))
  · cases hq : decide (t.id ≤ q.id) with
    | true =>
      rw [hq] at ho
      have gb : rightL l = false := bad (.inr ho)
      simp only [go_sem, Nat.reduceAdd, Nat.reduceSub, Nat.reduceMul, Nat.reduceLT, Nat.reduceLeDiff, Nat.reduceEqDiff, Nat.reduceBEq, Int.reduceToNat, Int.reduceLT, Int.reduceLE, Int.reduceEq, Int.reduceNe, Int.reduceAdd, Int.reduceSub, Int.reduceMul, Int.reduceNeg, ↓reduceIte, reduceCtorEq, rightDSt, la, f1, f2, f0, Int.toNat_natCast, r1, Trb.cells, g0, w1, r2, b1, b2, hq]
      refine endD_intro (by decide +kernel) ?_
      simp only [go_sem, Nat.reduceAdd, Nat.reduceSub, Nat.reduceMul, Nat.reduceLT, Nat.reduceLeDiff, Nat.reduceEqDiff, Nat.reduceBEq, Int.reduceToNat, Int.reduceLT, Int.reduceLE, Int.reduceEq, Int.reduceNe, Int.reduceAdd, Int.reduceSub, Int.reduceMul, Int.reduceNeg, ↓reduceIte, reduceCtorEq, gb, Try.ntmps76, Try.results76]
    | false =>
    rw [hq] at ho
    replace ho : ordR p t.id = true := ho
    simp only [go_sem, Nat.reduceAdd, Nat.reduceSub, Nat.reduceMul, Nat.reduceLT, Nat.reduceLeDiff, Nat.reduceEqDiff, Nat.reduceBEq, Int.reduceToNat, Int.reduceLT, Int.reduceLE, Int.reduceEq, Int.reduceNe, Int.reduceAdd, Int.reduceSub, Int.reduceMul, Int.reduceNeg, ↓reduceIte, reduceCtorEq, rightDSt, la, f1, f2, f0, Int.toNat_natCast, r1, Trb.cells, g0, w1, r2, b1, b2, hq]
    refine callD_tail (by decide +kernel) (by decide +kernel) ?_
    simp only [go_sem, Nat.reduceAdd, Nat.reduceSub, Nat.reduceMul, Nat.reduceLT, Nat.reduceLeDiff, Nat.reduceEqDiff, Nat.reduceBEq, Int.reduceToNat, Int.reduceLT, Int.reduceLE, Int.reduceEq, Int.reduceNe, Int.reduceAdd, Int.reduceSub, Int.reduceMul, Int.reduceNeg, ↓reduceIte, reduceCtorEq]
    refine CallA.into tabOK mixed Try.func119 rfl rfl (by decide +kernel) (by simp [Try.ntmps119]) ?_
    simp only [go_sem, Nat.reduceAdd, Nat.reduceSub, Nat.reduceMul, Nat.reduceLT, Nat.reduceLeDiff, Nat.reduceEqDiff, Nat.reduceBEq, Int.reduceToNat, Int.reduceLT, Int.reduceLE, Int.reduceEq, Int.reduceNe, Int.reduceAdd, Int.reduceSub, Int.reduceMul, Int.reduceNeg, ↓reduceIte, reduceCtorEq, Try.ntmps119, Try.results119, Try.ntmps142, Try.results142, Try.ntmps76, Try.results76, Trb.cells, la, hw]
    repeat' (first | (refine wantK_splitN (fun h => ?_) (fun h => ?_) <;> simp only [go_sem, Nat.reduceAdd, Nat.reduceSub, Nat.reduceMul, Nat.reduceLT, Nat.reduceLeDiff, Nat.reduceEqDiff, Nat.reduceBEq, Int.reduceToNat, Int.reduceLT, Int.reduceLE, Int.reduceEq, Int.reduceNe, Int.reduceAdd, Int.reduceSub, Int.reduceMul, Int.reduceNeg, ↓reduceIte, reduceCtorEq, Try.ntmps119, Try.results119, Try.ntmps142, Try.results142, Try.ntmps76, Try.results76, Trb.cells, la, hw, h]) | (refine wantK_split (fun h => ?_) (fun h => ?_) <;> simp only [go_sem, Nat.reduceAdd, Nat.reduceSub, Nat.reduceMul, Nat.reduceLT, Nat.reduceLeDiff, Nat.reduceEqDiff, Nat.reduceBEq, Int.reduceToNat, Int.reduceLT, Int.reduceLE, Int.reduceEq, Int.reduceNe, Int.reduceAdd, Int.reduceSub, Int.reduceMul, Int.reduceNeg, ↓reduceIte, reduceCtorEq, Try.ntmps119, Try.results119, Try.ntmps142, Try.results142, Try.ntmps76, Try.results76, Trb.cells, la, hw, h]) | (refine condK_splitN (fun h => ?_) (fun h => ?_) <;> simp only [go_sem, Nat.reduceAdd, Nat.reduceSub, Nat.reduceMul, Nat.reduceLT, Nat.reduceLeDiff, Nat.reduceEqDiff, Nat.reduceBEq, Int.reduceToNat, Int.reduceLT, Int.reduceLE, Int.reduceEq, Int.reduceNe, Int.reduceAdd, Int.reduceSub, Int.reduceMul, Int.reduceNeg, ↓reduceIte, reduceCtorEq, Try.ntmps119, Try.results119, Try.ntmps142, Try.results142, Try.ntmps76, Try.results76, Trb.cells, la, hw, h]) | (refine condK_split (fun h => ?_) (fun h => ?_) <;> simp only [go_sem, Nat.reduceAdd, Nat.reduceSub, Nat.reduceMul, Nat.reduceLT, Nat.reduceLeDiff, Nat.reduceEqDiff, Nat.reduceBEq, Int.reduceToNat, Int.reduceLT, Int.reduceLE, Int.reduceEq, Int.reduceNe, Int.reduceAdd, Int.reduceSub, Int.reduceMul, Int.reduceNeg, ↓reduceIte, reduceCtorEq, Try.ntmps119, Try.results119, Try.ntmps142, Try.results142, Try.ntmps76, Try.results76, Trb.cells, la, hw, h]) | (refine CallA.into tabOK mixed Try.func142 rfl rfl (by decide +kernel) (by simp [Try.ntmps142]) ?_; simp only [go_sem, Nat.reduceAdd, Nat.reduceSub, Nat.reduceMul, Nat.reduceLT, Nat.reduceLeDiff, Nat.reduceEqDiff, Nat.reduceBEq, Int.reduceToNat, Int.reduceLT, Int.reduceLE, Int.reduceEq, Int.reduceNe, Int.reduceAdd, Int.reduceSub, Int.reduceMul, Int.reduceNeg, ↓reduceIte, reduceCtorEq, Try.ntmps119, Try.results119, Try.ntmps142, Try.results142, Try.ntmps76, Try.results76, Trb.cells, la, hw]))
    all_goals (first | exact bad (.inl (by clear bad fin hd la f1 f2 f0 hw r1; simp_all [Trb.okR, hasV] <;> first | omega | (intros; omega))) | (refine fin (by clear bad fin hd la f1 f2 f0 hw r1; simp_all [Trb.okR, hasV] <;> first | omega | (intros; omega)) ho _ ?_; simp only [go_sem, Nat.reduceAdd, Nat.reduceSub, Nat.reduceMul, Nat.reduceLT, Nat.reduceLeDiff, Nat.reduceEqDiff, Nat.reduceBEq, Int.reduceToNat, Int.reduceLT, Int.reduceLE, Int.reduceEq, Int.reduceNe, Int.reduceAdd, Int.reduceSub, Int.reduceMul, Int.reduceNeg, ↓reduceIte, reduceCtorEq, rightDSt]; done))
end Go.Proofs.Ytcdmhigmgpflbaa.Pe
