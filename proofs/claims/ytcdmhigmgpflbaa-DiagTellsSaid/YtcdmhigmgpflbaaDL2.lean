import Derived.Test.YtcdmhigmgpflbaaDL1
namespace Go.Proofs.Ytcdmhigmgpflbaa.Pe
open Go.Pe Go.RowKit
set_option maxRecDepth 20000
set_option maxHeartbeats 4000000
set_option linter.unusedSimpArgs false
set_option linter.unusedVariables false

theorem u8_eq_iff {c d : UInt8} {n : Int} (h : (d.toNat : Int) = n) : c = d ↔ (c.toNat : Int) = n := by
  subst h
  rw [← UInt8.toNat_inj]
  omega
/-- Whether a question is one of those that are handed on. -/
def isH (c : UInt8) : Prop := c = 0x34 ∨ c = 0x36 ∨ c = 0x37
instance (c : UInt8) : Decidable (isH c) := by unfold isH; infer_instance
theorem askV_hand (s : Srv) {c : UInt8} (r : List UInt8) (h : isH c) : askV s (c :: r) = handA { s with quiet := 0 } c := by
  rcases h with rfl | rfl | rfl <;> rfl
theorem askV_kept (s : Srv) {c : UInt8} (r : List UInt8) (h : ¬ isH c) : (askV s (c :: r)).2.2 = false := by
  unfold askV
  generalize ({ s with quiet := 0 } : Srv) = t
  simp only
  split
  · unfold sesA; repeat' split
    all_goals rfl
  split
  · unfold unlA seedA keyA; repeat' split
    all_goals rfl
  split
  · unfold readA; repeat' split
    all_goals rfl
  split
  · unfold writeA; repeat' split
    all_goals rfl
  split
  · unfold forgetA; repeat' split
    all_goals rfl
  split
  · unfold maskA; repeat' split
    all_goals rfl
  split
  · unfold hereA; repeat' split
    all_goals rfl
  split
  · rename_i h1; exact absurd h1 h
  · rfl
/-- What the law asks of an answer: handed on, or not. -/
def wantH (s : Srv) : List UInt8 → Bool
  | [] => false
  | c :: _ => decide (isH c) && (decide (s.ses = 3) && s.op)
theorem ask_hands (s : Srv) (q : List UInt8) : (askV s q).2.2 = wantH s q := by
  cases q with
  | nil => rfl
  | cons c r =>
    by_cases h : isH c
    · rw [askV_hand s r h]
      unfold handA wantH denyA
      by_cases h3 : s.ses = 3
      · cases ho : s.op <;> simp [h, h3, ho]
      · simp [h, h3]
    · rw [askV_kept s r h]
      simp [wantH, h]
theorem ask_handed (s : Srv) (q : List UInt8) (h : (askV s q).2.2 = true) : askV s q = ({ s with quiet := 0 }, [], true) := by
  cases q with
  | nil => cases h
  | cons c r =>
    by_cases hc : isH c
    · rw [askV_hand s r hc] at h ⊢
      unfold handA denyA at h ⊢
      split at h
      · cases h
      · split at h
        · cases h
        · rename_i h1 h2
          rw [if_neg h1, if_neg h2]
    · rw [askV_kept s r hc] at h
      cases h
theorem diagHands_calls (s : Srv) (q : List UInt8) : PureCalls Try.prog 9 [s.pv, bytesPV q] (PB true) := by
  refine PureCalls.of tabOK mixed Try.func9 rfl rfl (by decide +kernel) (by simp [Try.ntmps9]) ?_
  have cm := made_calls s
  have hr := made_right s
  generalize madeV s = m at cm hr
  have lq := rowsB_length q
  have hmin : (if (80 : Int) < (q.length : Int) then 80 else (q.length : Int)) = ((min q.length 80 : Nat) : Int) := by split <;> omega
  have hmin0 : (0 : Int) ≤ ((min q.length 80 : Nat) : Int) := by omega
  have hmin1 : ((min q.length 80 : Nat) : Int) ≤ (q.length : Int) := by omega
  have ca := ask_calls m (q.take (min q.length 80)) hr.fits
  have e1 := ask_hands m (q.take (min q.length 80))
  have e2 := ask_handed m (q.take (min q.length 80))
  have lt80 : (q.take (min q.length 80)).length ≤ 80 := by simp; omega
  have lp := rowsB_length (q.take (min q.length 80))
  simp only [go_sem, Nat.reduceAdd, Nat.reduceSub, Nat.reduceMul, Nat.reduceLT, Nat.reduceLeDiff, Nat.reduceEqDiff, Nat.reduceBEq, Int.reduceToNat, Int.reduceLT, Int.reduceLE, Int.reduceEq, Int.reduceNe, Int.reduceAdd, Int.reduceSub, Int.reduceMul, Int.reduceNeg, ↓reduceIte, reduceCtorEq, Try.ntmps9, Try.results9, Srv.pv, Srv.cells]
  (refine CallA.pure (h22_calls) (by simp only [go_sem, Nat.reduceAdd, Nat.reduceSub, Nat.reduceMul, Nat.reduceLT, Nat.reduceLeDiff, Nat.reduceEqDiff, Nat.reduceBEq, Int.reduceToNat, Int.reduceLT, Int.reduceLE, Int.reduceEq, Int.reduceNe, Int.reduceAdd, Int.reduceSub, Int.reduceMul, Int.reduceNeg, ↓reduceIte, reduceCtorEq, Srv.pv, Srv.cells] <;> first | rfl | decide) ?_; simp only [go_sem, Nat.reduceAdd, Nat.reduceSub, Nat.reduceMul, Nat.reduceLT, Nat.reduceLeDiff, Nat.reduceEqDiff, Nat.reduceBEq, Int.reduceToNat, Int.reduceLT, Int.reduceLE, Int.reduceEq, Int.reduceNe, Int.reduceAdd, Int.reduceSub, Int.reduceMul, Int.reduceNeg, ↓reduceIte, reduceCtorEq, Srv.pv, Srv.cells])
  (refine CallA.pure (cm) (by simp only [go_sem, Nat.reduceAdd, Nat.reduceSub, Nat.reduceMul, Nat.reduceLT, Nat.reduceLeDiff, Nat.reduceEqDiff, Nat.reduceBEq, Int.reduceToNat, Int.reduceLT, Int.reduceLE, Int.reduceEq, Int.reduceNe, Int.reduceAdd, Int.reduceSub, Int.reduceMul, Int.reduceNeg, ↓reduceIte, reduceCtorEq, Srv.pv, Srv.cells, lq, hmin, hmin0, hmin1, Int.toNat_natCast] <;> first | rfl | decide) ?_; simp only [go_sem, Nat.reduceAdd, Nat.reduceSub, Nat.reduceMul, Nat.reduceLT, Nat.reduceLeDiff, Nat.reduceEqDiff, Nat.reduceBEq, Int.reduceToNat, Int.reduceLT, Int.reduceLE, Int.reduceEq, Int.reduceNe, Int.reduceAdd, Int.reduceSub, Int.reduceMul, Int.reduceNeg, ↓reduceIte, reduceCtorEq, Srv.pv, Srv.cells, lq, hmin, hmin0, hmin1, Int.toNat_natCast])
  refine ⟨⟨by omega, by omega⟩, ?_⟩
  generalize q.take (min q.length 80) = p at ca e1 e2 lt80 lp
  cases p with
  | nil =>
    have z : decide ((0 : Int) > 0) = false := rfl
    (refine CallA.pure (ca) (by simp only [go_sem, Nat.reduceAdd, Nat.reduceSub, Nat.reduceMul, Nat.reduceLT, Nat.reduceLeDiff, Nat.reduceEqDiff, Nat.reduceBEq, Int.reduceToNat, Int.reduceLT, Int.reduceLE, Int.reduceEq, Int.reduceNe, Int.reduceAdd, Int.reduceSub, Int.reduceMul, Int.reduceNeg, ↓reduceIte, reduceCtorEq, Srv.pv, Srv.cells, rowsB, List.map_nil, List.length_nil, Int.natCast_zero, z, askV, Try.ntmps9, Try.results9] <;> first | rfl | decide) ?_; simp only [go_sem, Nat.reduceAdd, Nat.reduceSub, Nat.reduceMul, Nat.reduceLT, Nat.reduceLeDiff, Nat.reduceEqDiff, Nat.reduceBEq, Int.reduceToNat, Int.reduceLT, Int.reduceLE, Int.reduceEq, Int.reduceNe, Int.reduceAdd, Int.reduceSub, Int.reduceMul, Int.reduceNeg, ↓reduceIte, reduceCtorEq, Srv.pv, Srv.cells, rowsB, List.map_nil, List.length_nil, Int.natCast_zero, z, askV, Try.ntmps9, Try.results9])
  | cons c r =>
  have lc : decide ((((c :: r).length : Nat) : Int) > 0) = true := decide_eq_true (by simp only [List.length_cons]; omega)
  have hz : (0 : Int) < (((r.length + 1 : Nat)) : Int) := by omega
  have lc3 : decide ((((r.length + 1 : Nat)) : Int) > 0) = true := decide_eq_true hz
  have hn : 0 < r.length + 1 := Nat.succ_pos _
  have lc2 : decide ((((List.map rowB r).length + 1 : Nat) : Int) > 0) = true := decide_eq_true (by omega)
  have gc : (rowsB (c :: r)).getD 0 [] = [.lit (.int .u8 c.toNat)] := rfl
  have hw : wantH m (c :: r) = ((decide ((c.toNat : Int) = 52) || decide ((c.toNat : Int) = 54) || decide ((c.toNat : Int) = 55)) && decide (m.ses = 3) && m.op) := by
    have k1 : (c = 0x34) ↔ (c.toNat : Int) = 52 := u8_eq_iff (by decide +kernel)
    have k2 : (c = 0x36) ↔ (c.toNat : Int) = 54 := u8_eq_iff (by decide +kernel)
    have k3 : (c = 0x37) ↔ (c.toNat : Int) = 55 := u8_eq_iff (by decide +kernel)
    simp [wantH, isH, k1, k2, k3, Bool.and_assoc, Bool.or_assoc]
  rw [hw] at e1
  cases hon : (askV m (c :: r)).2.2 with
  | true =>
    have e := e2 hon
    rw [hon] at e1
    rw [e] at ca
    have cs := same_at (a := { m with quiet := 0 }) (b := { m with quiet := 0 }) (r := true) (by simp) hr.fits.items hr.fits.dtc
    cases hb1 : decide ((c.toNat : Int) = 52) <;> cases hb2 : decide ((c.toNat : Int) = 54) <;> cases hb3 : decide ((c.toNat : Int) = 55) <;> cases hs3 : decide (m.ses = 3) <;> cases hop : m.op <;> rw [hb1, hb2, hb3, hs3, hop] at e1 <;> first | (exfalso; revert e1; decide; done) | skip
    all_goals (refine CallA.pure (ca) (by simp only [go_sem, Nat.reduceAdd, Nat.reduceSub, Nat.reduceMul, Nat.reduceLT, Nat.reduceLeDiff, Nat.reduceEqDiff, Nat.reduceBEq, Int.reduceToNat, Int.reduceLT, Int.reduceLE, Int.reduceEq, Int.reduceNe, Int.reduceAdd, Int.reduceSub, Int.reduceMul, Int.reduceNeg, ↓reduceIte, reduceCtorEq, Srv.pv, Srv.cells, lp, lc, lc2, gc, hb1, hb2, hb3, hs3, hop, lc3, hz, hn, List.length_map, List.length_cons, rowB] <;> first | rfl | decide) ?_; simp only [go_sem, Nat.reduceAdd, Nat.reduceSub, Nat.reduceMul, Nat.reduceLT, Nat.reduceLeDiff, Nat.reduceEqDiff, Nat.reduceBEq, Int.reduceToNat, Int.reduceLT, Int.reduceLE, Int.reduceEq, Int.reduceNe, Int.reduceAdd, Int.reduceSub, Int.reduceMul, Int.reduceNeg, ↓reduceIte, reduceCtorEq, Srv.pv, Srv.cells, lp, lc, lc2, gc, hb1, hb2, hb3, hs3, hop, lc3, hz, hn, List.length_map, List.length_cons, rowB])
    all_goals (refine CallA.pure (cs) (by simp only [go_sem, Nat.reduceAdd, Nat.reduceSub, Nat.reduceMul, Nat.reduceLT, Nat.reduceLeDiff, Nat.reduceEqDiff, Nat.reduceBEq, Int.reduceToNat, Int.reduceLT, Int.reduceLE, Int.reduceEq, Int.reduceNe, Int.reduceAdd, Int.reduceSub, Int.reduceMul, Int.reduceNeg, ↓reduceIte, reduceCtorEq, Srv.pv, Srv.cells, lp, hb1, hb2, hb3, hs3, hop, Try.ntmps9, Try.results9] <;> first | rfl | decide) ?_; simp only [go_sem, Nat.reduceAdd, Nat.reduceSub, Nat.reduceMul, Nat.reduceLT, Nat.reduceLeDiff, Nat.reduceEqDiff, Nat.reduceBEq, Int.reduceToNat, Int.reduceLT, Int.reduceLE, Int.reduceEq, Int.reduceNe, Int.reduceAdd, Int.reduceSub, Int.reduceMul, Int.reduceNeg, ↓reduceIte, reduceCtorEq, Srv.pv, Srv.cells, lp, hb1, hb2, hb3, hs3, hop, Try.ntmps9, Try.results9])
  | false =>
    generalize askV m (c :: r) = rr at ca e1 hon
    obtain ⟨t, a, on⟩ := rr
    simp only at hon e1
    subst hon
    cases hb1 : decide ((c.toNat : Int) = 52) <;> cases hb2 : decide ((c.toNat : Int) = 54) <;> cases hb3 : decide ((c.toNat : Int) = 55) <;> cases hs3 : decide (m.ses = 3) <;> cases hop : m.op <;> rw [hb1, hb2, hb3, hs3, hop] at e1 <;> first | (exfalso; revert e1; decide; done) | skip
    all_goals (refine CallA.pure (ca) (by simp only [go_sem, Nat.reduceAdd, Nat.reduceSub, Nat.reduceMul, Nat.reduceLT, Nat.reduceLeDiff, Nat.reduceEqDiff, Nat.reduceBEq, Int.reduceToNat, Int.reduceLT, Int.reduceLE, Int.reduceEq, Int.reduceNe, Int.reduceAdd, Int.reduceSub, Int.reduceMul, Int.reduceNeg, ↓reduceIte, reduceCtorEq, Srv.pv, Srv.cells, lp, lc, lc2, gc, hb1, hb2, hb3, hs3, hop, lc3, hz, hn, List.length_map, List.length_cons, rowB, Try.ntmps9, Try.results9] <;> first | rfl | decide) ?_; simp only [go_sem, Nat.reduceAdd, Nat.reduceSub, Nat.reduceMul, Nat.reduceLT, Nat.reduceLeDiff, Nat.reduceEqDiff, Nat.reduceBEq, Int.reduceToNat, Int.reduceLT, Int.reduceLE, Int.reduceEq, Int.reduceNe, Int.reduceAdd, Int.reduceSub, Int.reduceMul, Int.reduceNeg, ↓reduceIte, reduceCtorEq, Srv.pv, Srv.cells, lp, lc, lc2, gc, hb1, hb2, hb3, hs3, hop, lc3, hz, hn, List.length_map, List.length_cons, rowB, Try.ntmps9, Try.results9])
end Go.Proofs.Ytcdmhigmgpflbaa.Pe
