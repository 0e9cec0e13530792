import Derived.Test.YtpnhnobnjcknjaaD3
namespace Go.Proofs.Ytpnhnobnjcknjaa.Pe
open Go.Pe Go.RowKit
set_option maxRecDepth 20000
set_option maxHeartbeats 4000000
set_option linter.unusedSimpArgs false
set_option linter.unusedVariables false
attribute [go_sem] pduRows_length

abbrev U8 (n : UInt8) : PV := .lit (.int .u8 n.toNat)
abbrev U16 (n : UInt16) : PV := .lit (.int .u16 n.toNat)
theorem wrapIN {i : Nat} (h : i ≤ 1000000) : IntKind.wrap .i64 ((i : Int) + 1) = ((i + 1 : Nat) : Int) := by rw [wrapI64 (by omega)]; rfl
structure Op19 where
  n : UInt8
  p : Pdu
abbrev Op19.row (o : Op19) : List PV := [.lit (.int .u8 o.n.toNat), PI o.p.k, PI o.p.l, PI o.p.n, PI o.p.s, PI o.p.b, PI o.p.g, bytesPV o.p.d]
abbrev ops19 (l : List Op19) : List (List PV) := l.map Op19.row
theorem ops19_length (l : List Op19) : (ops19 l).length = l.length := by simp [ops19]
theorem ops19_getD {l : List Op19} {i : Nat} (h : i < l.length) : (ops19 l).getD i [] = Op19.row l[i] := by
  simp [ops19, List.getD_eq_getElem?_getD, h]
attribute [go_sem] ops19_length
theorem fresh_calls (room : UInt16) (block gap : UInt8) : PureCalls Try.prog 22 [U16 room, U8 block, U8 gap] (freshR ((room.toNat : Int).tmod 4096) block.toNat ((gap.toNat : Int).tmod 128)).pv := by
  refine PureCalls.of tabOK mixed Try.func22 rfl rfl (by decide +kernel) (by simp [Try.ntmps22]) ?_
  have h1 : IntKind.wrap .i64 (room.toNat : Int) = room.toNat := wrapI64 (by have := room.toNat_lt; omega)
  have h2 : IntKind.wrap .i64 (block.toNat : Int) = block.toNat := wrapI64 (by have := block.toNat_lt; omega)
  have h3 : IntKind.wrap .i64 (gap.toNat : Int) = gap.toNat := wrapI64 (by have := gap.toNat_lt; omega)
  simp only [go_sem, Nat.reduceAdd, Nat.reduceSub, Nat.reduceMul, Nat.reduceLT, Nat.reduceLeDiff, Nat.reduceEqDiff, Nat.reduceBEq, Int.reduceToNat, Int.reduceLT, Int.reduceLE, Int.reduceEq, Int.reduceNe, Int.reduceAdd, Int.reduceSub, Int.reduceMul, Int.reduceNeg, ↓reduceIte, reduceCtorEq, Try.ntmps22, Try.results22, h1, h2, h3]
  refine CallA.same (newT_calls _ _ _) (by simp only [go_sem, Nat.reduceAdd, Nat.reduceSub, Nat.reduceMul, Nat.reduceLT, Nat.reduceLeDiff, Nat.reduceEqDiff, Nat.reduceBEq, Int.reduceToNat, Int.reduceLT, Int.reduceLE, Int.reduceEq, Int.reduceNe, Int.reduceAdd, Int.reduceSub, Int.reduceMul, Int.reduceNeg, ↓reduceIte, reduceCtorEq]) ?_
  simp only [go_sem, Nat.reduceAdd, Nat.reduceSub, Nat.reduceMul, Nat.reduceLT, Nat.reduceLeDiff, Nat.reduceEqDiff, Nat.reduceBEq, Int.reduceToNat, Int.reduceLT, Int.reduceLE, Int.reduceEq, Int.reduceNe, Int.reduceAdd, Int.reduceSub, Int.reduceMul, Int.reduceNeg, ↓reduceIte, reduceCtorEq, freshR, Rcv.pv, Try.ntmps22, Try.results22]
theorem fresh_fine (room gap : Int) (block : UInt8) : (freshR room block.toNat gap).fine := by
  have := block.toNat_lt
  simp [freshR, Rcv.fine]
  omega
theorem right_l {p : Pdu} (h : p.right = true) : 0 ≤ p.l ∧ p.l ≤ 4095 ∧ (p.k = 1 → p.l = p.d.length) ∧ (p.k = 2 → 8 ≤ p.l ∧ p.d.length = 6) := by
  unfold Pdu.right at h
  split at h
  · simp at h; omega
  · split at h
    · simp at h; omega
    · split at h
      · simp [z4] at h; omega
      · split at h
        · simp at h; omega
        · simp at h
theorem fine_fail {r : Rcv} (h : r.fine) (e : Int) : (failR r e).fine := h
theorem fine_tick {r : Rcv} (h : r.fine) : (tickV r).fine := by
  unfold tickV
  split
  · split <;> exact h
  · exact h
theorem fine_begin {r : Rcv} (h : r.fine) {p : Pdu} (hp : p.right = true) (st : Int) (hk : p.k = 1 ∨ p.k = 2) : (beginR r p st).fine := by
  obtain ⟨q1, q2, q3, q4⟩ := right_l hp
  obtain ⟨h1, h2, h3, h4, h5, h6, h7, h8, h9⟩ := h
  unfold beginR failR freshR Rcv.fine
  split
  · simp; omega
  · simp
    rcases hk with hk | hk
    · have := q3 hk; omega
    · have := q4 hk; omega
theorem fine_recv {r : Rcv} (h : r.fine) {p : Pdu} (hp : p.right = true) : (recvV r p).1.fine := by
  unfold recvV
  by_cases h1 : p.k = 1
  · rw [if_pos h1]; exact fine_begin h hp 3 (.inl h1)
  rw [if_neg h1]
  by_cases h2 : p.k = 2
  · rw [if_pos h2]
    have hb := fine_begin h hp 2 (.inr h2)
    split
    · exact hb
    · rename_i hr
      unfold beginR at hb ⊢
      rw [if_neg hr] at hb ⊢
      obtain ⟨a1, a2, a3, a4, a5, a6, a7, a8, a9⟩ := h
      unfold Rcv.fine freshR at *
      simp at hb ⊢
      split <;> omega
  rw [if_neg h2]
  by_cases h3 : p.k = 3 ∧ r.st = 2
  · rw [if_pos h3]
    unfold nextV
    obtain ⟨a1, a2, a3, a4, a5, a6, a7, a8, a9⟩ := h
    have hm0 : 0 ≤ (r.num + 1).tmod 16 := Int.tmod_nonneg _ (by omega)
    have hm1 : (r.num + 1).tmod 16 < 16 := Int.tmod_lt_of_pos _ (by omega)
    by_cases hc : p.n ≠ r.num ∨ (p.d.length : Int) ≠ (if missR r < 7 then missR r else 7)
    · rw [if_pos hc]
      exact ⟨a1, a2, a3, a4, a5, a6, a7, a8, a9⟩
    · rw [if_neg hc]
      have hl : (p.d.length : Int) ≤ missR r := by
        have : (p.d.length : Int) = if missR r < 7 then missR r else 7 := by
          apply Classical.byContradiction; intro hh; exact hc (.inr hh)
        rw [this]; split <;> omega
      unfold missR at hl
      have hg : ((r.got ++ p.d).length : Int) ≤ r.len := by simp; omega
      repeat' split
      · exact ⟨hm0, by simp only [moreR]; omega, a3, a4, hg, a6, a7, a8, a9⟩
      · exact ⟨hm0, by simp only [moreR]; omega, a3, a4, hg, a6, a7, a8, a9⟩
      · exact ⟨hm0, by simp only [moreR]; omega, a3, a4, hg, by simp only; omega, by simp only; omega, a8, a9⟩
      · exact ⟨hm0, by simp only [moreR]; omega, a3, a4, hg, by simp only; omega, by simp only; omega, a8, a9⟩
  · rw [if_neg h3]
    exact h
def greatV (l : List Op19) : Bool := decide (100 < l.length) || l.any fun o => decide (20 < o.p.d.length)
theorem great_calls (l : List Op19) : PureCalls Try.prog 21 [.im 8 (ops19 l)] (PB (greatV l)) := by
  refine PureCalls.of tabOK mixed Try.func21 rfl rfl (by decide +kernel) (by simp [Try.ntmps21]) ?_
  by_cases h : 100 < l.length
  · have e1 : decide ((l.length : Int) > 100) = true := by simp; omega
    have e2 : greatV l = true := by simp [greatV, h]
    simp only [go_sem, Nat.reduceAdd, Nat.reduceSub, Nat.reduceMul, Nat.reduceLT, Nat.reduceLeDiff, Nat.reduceEqDiff, Nat.reduceBEq, Int.reduceToNat, Int.reduceLT, Int.reduceLE, Int.reduceEq, Int.reduceNe, Int.reduceAdd, Int.reduceSub, Int.reduceMul, Int.reduceNeg, ↓reduceIte, reduceCtorEq, Try.ntmps21, Try.results21, e1, e2]
  have e1 : decide ((l.length : Int) > 100) = false := by simp; omega
  simp only [go_sem, Nat.reduceAdd, Nat.reduceSub, Nat.reduceMul, Nat.reduceLT, Nat.reduceLeDiff, Nat.reduceEqDiff, Nat.reduceBEq, Int.reduceToNat, Int.reduceLT, Int.reduceLE, Int.reduceEq, Int.reduceNe, Int.reduceAdd, Int.reduceSub, Int.reduceMul, Int.reduceNeg, ↓reduceIte, reduceCtorEq, Try.ntmps21, Try.results21, e1]
  refine wpA_loop (fun m s => ∃ i : Nat, i ≤ l.length ∧ m = l.length - i ∧ (∀ j (hj : j < l.length), j < i → ¬ 20 < l[j].p.d.length) ∧ s = ⟨21, [(0, .im 8 (ops19 l)), (3, PI i)], [], 0, 0⟩) ⟨_, _, ?_, 0, by omega, rfl, fun _ _ h => by omega, rfl⟩ ?_
  · simp only [go_sem, Nat.reduceAdd, Nat.reduceSub, Nat.reduceMul, Nat.reduceLT, Nat.reduceLeDiff, Nat.reduceEqDiff, Nat.reduceBEq, Int.reduceToNat, Int.reduceLT, Int.reduceLE, Int.reduceEq, Int.reduceNe, Int.reduceAdd, Int.reduceSub, Int.reduceMul, Int.reduceNeg, ↓reduceIte, reduceCtorEq, Int.natCast_zero]
  rintro m s ⟨i, hi, rfl, hj, rfl⟩
  by_cases hc : i < l.length
  · have f1 : decide ((i : Int) < (l.length : Int)) = true := by simp; omega
    have f1' : (i : Int) < (l.length : Int) := by omega
    have f0 : (0 : Int) ≤ (i : Int) := by omega
    have hw : IntKind.wrap .i64 ((i : Int) + 1) = ((i + 1 : Nat) : Int) := by rw [wrapI64 (by omega)]; rfl
    by_cases hd : 20 < l[i].p.d.length
    · have f2 : decide ((l[i].p.d.length : Int) > 20) = true := by simp; omega
      have e2 : greatV l = true := by
        simp only [greatV, Bool.or_eq_true, List.any_eq_true]
        exact .inr ⟨l[i], List.getElem_mem hc, by simpa using hd⟩
      simp only [go_sem, Nat.reduceAdd, Nat.reduceSub, Nat.reduceMul, Nat.reduceLT, Nat.reduceLeDiff, Nat.reduceEqDiff, Nat.reduceBEq, Int.reduceToNat, Int.reduceLT, Int.reduceLE, Int.reduceEq, Int.reduceNe, Int.reduceAdd, Int.reduceSub, Int.reduceMul, Int.reduceNeg, ↓reduceIte, reduceCtorEq, f1, f1', f0, Int.toNat_natCast, ops19_getD hc, Op19.row, f2, e2, Try.ntmps21, Try.results21]
    · have f2 : decide ((l[i].p.d.length : Int) > 20) = false := by simp; omega
      simp only [go_sem, Nat.reduceAdd, Nat.reduceSub, Nat.reduceMul, Nat.reduceLT, Nat.reduceLeDiff, Nat.reduceEqDiff, Nat.reduceBEq, Int.reduceToNat, Int.reduceLT, Int.reduceLE, Int.reduceEq, Int.reduceNe, Int.reduceAdd, Int.reduceSub, Int.reduceMul, Int.reduceNeg, ↓reduceIte, reduceCtorEq, f1, f1', f0, Int.toNat_natCast, ops19_getD hc, Op19.row, f2, hw]
      refine ⟨l.length - (i + 1), _, by omega, ?_, i + 1, by omega, rfl, fun j hj' hlt => ?_, rfl⟩
      · simp only [go_sem, Nat.reduceAdd, Nat.reduceSub, Nat.reduceMul, Nat.reduceLT, Nat.reduceLeDiff, Nat.reduceEqDiff, Nat.reduceBEq, Int.reduceToNat, Int.reduceLT, Int.reduceLE, Int.reduceEq, Int.reduceNe, Int.reduceAdd, Int.reduceSub, Int.reduceMul, Int.reduceNeg, ↓reduceIte, reduceCtorEq]
      · by_cases e : j = i
        · subst e; exact hd
        · exact hj j hj' (by omega)
  · have f1 : decide ((i : Int) < (l.length : Int)) = false := by simp; omega
    have e2 : greatV l = false := by
      simp only [greatV, Bool.or_eq_false_iff, List.any_eq_false]
      refine ⟨by simpa using h, fun o ho => ?_⟩
      obtain ⟨j, hj', rfl⟩ := List.getElem_of_mem ho
      simpa using hj j hj' (by omega)
    simp only [go_sem, Nat.reduceAdd, Nat.reduceSub, Nat.reduceMul, Nat.reduceLT, Nat.reduceLeDiff, Nat.reduceEqDiff, Nat.reduceBEq, Int.reduceToNat, Int.reduceLT, Int.reduceLE, Int.reduceEq, Int.reduceNe, Int.reduceAdd, Int.reduceSub, Int.reduceMul, Int.reduceNeg, ↓reduceIte, reduceCtorEq, f1, e2, Try.ntmps21, Try.results21]
theorem takeT_at {r r' : Rcv} {p a : Pdu} {b : Bool} (h : recvV r p = (r', a, b)) (hr : r.fine) (hp : p.right = true) : PureCalls Try.prog 27 [r.pv, p.pv] (.tup [r'.pv, a.pv, PB b]) := by
  have := takeT_calls r p hr hp
  rwa [h] at this
instance (r : Rcv) : Decidable r.fine := by unfold Rcv.fine; infer_instance
def b8 : List UInt8 := [1, 2, 3, 4, 5, 6, 7, 8]
def h19 : Pdu := ⟨2, 8, 0, 0, 0, 0, [1, 2, 3, 4, 5, 6]⟩
def n19 : Pdu := ⟨3, 0, 1, 0, 0, 0, [7, 8]⟩
theorem parts8 : partsL b8 = [h19, n19] := by decide
theorem parts8_calls : PureCalls Try.prog 37 [bytesPV b8] (.tup [.im 7 [h19.cells, n19.cells], PB true]) := by
  have := partsR_calls b8
  rw [parts8] at this
  exact this
theorem t19a : recvV (freshR 20 3 5) h19 = (⟨2, 8, [1, 2, 3, 4, 5, 6], 1, 3, 3, 5, 0, 20, 0⟩, ⟨4, 0, 0, 0, 3, 5, []⟩, true) := by decide
theorem t19b : recvV ⟨2, 8, [1, 2, 3, 4, 5, 6], 1, 3, 3, 5, 0, 20, 0⟩ n19 = (⟨3, 8, b8, 2, 3, 3, 5, 0, 20, 0⟩, Pdu.none, false) := by decide
theorem t19c : recvV (freshR 7 0 0) h19 = (⟨4, 0, [], 0, 0, 0, 0, 0, 7, 182⟩, ⟨4, 0, 0, 2, 0, 0, []⟩, true) := by decide
theorem t19d : recvV (freshR 20 0 0) h19 = (⟨2, 8, [1, 2, 3, 4, 5, 6], 1, -1, 0, 0, 0, 20, 0⟩, ⟨4, 0, 0, 0, 0, 0, []⟩, true) := by decide
theorem t19e : recvV ⟨2, 8, [1, 2, 3, 4, 5, 6], 1, -1, 0, 0, 0, 20, 0⟩ h19 = (⟨2, 8, [1, 2, 3, 4, 5, 6], 1, -1, 0, 0, 0, 20, 0⟩, ⟨4, 0, 0, 0, 0, 0, []⟩, true) := by decide
theorem t19f : recvV ⟨2, 8, [1, 2, 3, 4, 5, 6], 1, -1, 0, 0, 1, 20, 0⟩ ⟨3, 0, 2, 0, 0, 0, [1, 2]⟩ = (⟨4, 8, [1, 2, 3, 4, 5, 6], 1, -1, 0, 0, 1, 20, 183⟩, Pdu.none, false) := by decide
theorem tickT_at (r : Rcv) : PureCalls Try.prog 24 [r.pv] (tickV r).pv := tickT_calls r
theorem same_self (p : Pdu) : PureCalls Try.prog 29 [p.pv, p.pv] (PB true) := by
  have := same_calls p p
  rwa [show decide (p = p) = true by simp] at this
theorem sameB_self (l : List UInt8) : PureCalls Try.prog 33 [bytesPV l, bytesPV l] (PB true) := by
  have := sameB_calls l l
  rwa [show decide (l = l) = true by simp] at this
theorem tick19 : PureCalls Try.prog 24 [Rcv.pv ⟨2, 8, [1, 2, 3, 4, 5, 6], 1, -1, 0, 0, 0, 20, 0⟩] (Rcv.pv ⟨2, 8, [1, 2, 3, 4, 5, 6], 1, -1, 0, 0, 1, 20, 0⟩) := tickT_at _
theorem text19 : PureCalls Try.prog 30 [Rcv.pv ⟨3, 8, b8, 2, 3, 3, 5, 0, 20, 0⟩] (.tup [bytesPV b8, PB true]) := textT_calls _
theorem head19_calls : PureCalls Try.prog 20 [] (PB true) := by
  refine PureCalls.of tabOK mixed Try.func20 rfl rfl (by decide +kernel) (by simp [Try.ntmps20]) ?_
  simp only [go_sem, Nat.reduceAdd, Nat.reduceSub, Nat.reduceMul, Nat.reduceLT, Nat.reduceLeDiff, Nat.reduceEqDiff, Nat.reduceBEq, Int.reduceToNat, Int.reduceLT, Int.reduceLE, Int.reduceEq, Int.reduceNe, Int.reduceAdd, Int.reduceSub, Int.reduceMul, Int.reduceNeg, ↓reduceIte, reduceCtorEq, Try.ntmps20, Try.results20]
  (refine CallA.pure (parts8_calls) (by simp only [go_sem, Nat.reduceAdd, Nat.reduceSub, Nat.reduceMul, Nat.reduceLT, Nat.reduceLeDiff, Nat.reduceEqDiff, Nat.reduceBEq, Int.reduceToNat, Int.reduceLT, Int.reduceLE, Int.reduceEq, Int.reduceNe, Int.reduceAdd, Int.reduceSub, Int.reduceMul, Int.reduceNeg, ↓reduceIte, reduceCtorEq] <;> first | rfl | decide) ?_; simp only [go_sem, Nat.reduceAdd, Nat.reduceSub, Nat.reduceMul, Nat.reduceLT, Nat.reduceLeDiff, Nat.reduceEqDiff, Nat.reduceBEq, Int.reduceToNat, Int.reduceLT, Int.reduceLE, Int.reduceEq, Int.reduceNe, Int.reduceAdd, Int.reduceSub, Int.reduceMul, Int.reduceNeg, ↓reduceIte, reduceCtorEq])
  (refine CallA.pure (newT_calls 20 3 5) (by simp only [go_sem, Nat.reduceAdd, Nat.reduceSub, Nat.reduceMul, Nat.reduceLT, Nat.reduceLeDiff, Nat.reduceEqDiff, Nat.reduceBEq, Int.reduceToNat, Int.reduceLT, Int.reduceLE, Int.reduceEq, Int.reduceNe, Int.reduceAdd, Int.reduceSub, Int.reduceMul, Int.reduceNeg, ↓reduceIte, reduceCtorEq, freshR, Rcv.pv] <;> first | rfl | decide) ?_; simp only [go_sem, Nat.reduceAdd, Nat.reduceSub, Nat.reduceMul, Nat.reduceLT, Nat.reduceLeDiff, Nat.reduceEqDiff, Nat.reduceBEq, Int.reduceToNat, Int.reduceLT, Int.reduceLE, Int.reduceEq, Int.reduceNe, Int.reduceAdd, Int.reduceSub, Int.reduceMul, Int.reduceNeg, ↓reduceIte, reduceCtorEq, freshR, Rcv.pv])
  (refine callD_pure (takeT_at t19a (by decide) (by decide)) (by simp only [go_sem, Nat.reduceAdd, Nat.reduceSub, Nat.reduceMul, Nat.reduceLT, Nat.reduceLeDiff, Nat.reduceEqDiff, Nat.reduceBEq, Int.reduceToNat, Int.reduceLT, Int.reduceLE, Int.reduceEq, Int.reduceNe, Int.reduceAdd, Int.reduceSub, Int.reduceMul, Int.reduceNeg, ↓reduceIte, reduceCtorEq, freshR, Rcv.pv, Pdu.pv, h19, n19, Pdu.none] <;> first | rfl | decide) ?_; simp only [go_sem, Nat.reduceAdd, Nat.reduceSub, Nat.reduceMul, Nat.reduceLT, Nat.reduceLeDiff, Nat.reduceEqDiff, Nat.reduceBEq, Int.reduceToNat, Int.reduceLT, Int.reduceLE, Int.reduceEq, Int.reduceNe, Int.reduceAdd, Int.reduceSub, Int.reduceMul, Int.reduceNeg, ↓reduceIte, reduceCtorEq, freshR, Rcv.pv, Pdu.pv, h19, n19, Pdu.none])
  (refine endD_intro (by decide +kernel) ?_; simp only [go_sem, Nat.reduceAdd, Nat.reduceSub, Nat.reduceMul, Nat.reduceLT, Nat.reduceLeDiff, Nat.reduceEqDiff, Nat.reduceBEq, Int.reduceToNat, Int.reduceLT, Int.reduceLE, Int.reduceEq, Int.reduceNe, Int.reduceAdd, Int.reduceSub, Int.reduceMul, Int.reduceNeg, ↓reduceIte, reduceCtorEq])
  (refine callD_pure (takeT_at t19b (by decide) (by decide)) (by simp only [go_sem, Nat.reduceAdd, Nat.reduceSub, Nat.reduceMul, Nat.reduceLT, Nat.reduceLeDiff, Nat.reduceEqDiff, Nat.reduceBEq, Int.reduceToNat, Int.reduceLT, Int.reduceLE, Int.reduceEq, Int.reduceNe, Int.reduceAdd, Int.reduceSub, Int.reduceMul, Int.reduceNeg, ↓reduceIte, reduceCtorEq, freshR, Rcv.pv, Pdu.pv, h19, n19, Pdu.none] <;> first | rfl | decide) ?_; simp only [go_sem, Nat.reduceAdd, Nat.reduceSub, Nat.reduceMul, Nat.reduceLT, Nat.reduceLeDiff, Nat.reduceEqDiff, Nat.reduceBEq, Int.reduceToNat, Int.reduceLT, Int.reduceLE, Int.reduceEq, Int.reduceNe, Int.reduceAdd, Int.reduceSub, Int.reduceMul, Int.reduceNeg, ↓reduceIte, reduceCtorEq, freshR, Rcv.pv, Pdu.pv, h19, n19, Pdu.none])
  (refine endD_intro (by decide +kernel) ?_; simp only [go_sem, Nat.reduceAdd, Nat.reduceSub, Nat.reduceMul, Nat.reduceLT, Nat.reduceLeDiff, Nat.reduceEqDiff, Nat.reduceBEq, Int.reduceToNat, Int.reduceLT, Int.reduceLE, Int.reduceEq, Int.reduceNe, Int.reduceAdd, Int.reduceSub, Int.reduceMul, Int.reduceNeg, ↓reduceIte, reduceCtorEq])
  (refine CallA.pure (text19) (by simp only [go_sem, Nat.reduceAdd, Nat.reduceSub, Nat.reduceMul, Nat.reduceLT, Nat.reduceLeDiff, Nat.reduceEqDiff, Nat.reduceBEq, Int.reduceToNat, Int.reduceLT, Int.reduceLE, Int.reduceEq, Int.reduceNe, Int.reduceAdd, Int.reduceSub, Int.reduceMul, Int.reduceNeg, ↓reduceIte, reduceCtorEq, Rcv.pv] <;> first | rfl | decide) ?_; simp only [go_sem, Nat.reduceAdd, Nat.reduceSub, Nat.reduceMul, Nat.reduceLT, Nat.reduceLeDiff, Nat.reduceEqDiff, Nat.reduceBEq, Int.reduceToNat, Int.reduceLT, Int.reduceLE, Int.reduceEq, Int.reduceNe, Int.reduceAdd, Int.reduceSub, Int.reduceMul, Int.reduceNeg, ↓reduceIte, reduceCtorEq, Rcv.pv])
  (refine callD_pure (newT_calls 7 0 0) (by simp only [go_sem, Nat.reduceAdd, Nat.reduceSub, Nat.reduceMul, Nat.reduceLT, Nat.reduceLeDiff, Nat.reduceEqDiff, Nat.reduceBEq, Int.reduceToNat, Int.reduceLT, Int.reduceLE, Int.reduceEq, Int.reduceNe, Int.reduceAdd, Int.reduceSub, Int.reduceMul, Int.reduceNeg, ↓reduceIte, reduceCtorEq, freshR, Rcv.pv] <;> first | rfl | decide) ?_; simp only [go_sem, Nat.reduceAdd, Nat.reduceSub, Nat.reduceMul, Nat.reduceLT, Nat.reduceLeDiff, Nat.reduceEqDiff, Nat.reduceBEq, Int.reduceToNat, Int.reduceLT, Int.reduceLE, Int.reduceEq, Int.reduceNe, Int.reduceAdd, Int.reduceSub, Int.reduceMul, Int.reduceNeg, ↓reduceIte, reduceCtorEq, freshR, Rcv.pv])
  (refine callD_pure (takeT_at t19c (by decide) (by decide)) (by simp only [go_sem, Nat.reduceAdd, Nat.reduceSub, Nat.reduceMul, Nat.reduceLT, Nat.reduceLeDiff, Nat.reduceEqDiff, Nat.reduceBEq, Int.reduceToNat, Int.reduceLT, Int.reduceLE, Int.reduceEq, Int.reduceNe, Int.reduceAdd, Int.reduceSub, Int.reduceMul, Int.reduceNeg, ↓reduceIte, reduceCtorEq, freshR, Rcv.pv, Pdu.pv, h19, n19, Pdu.none] <;> first | rfl | decide) ?_; simp only [go_sem, Nat.reduceAdd, Nat.reduceSub, Nat.reduceMul, Nat.reduceLT, Nat.reduceLeDiff, Nat.reduceEqDiff, Nat.reduceBEq, Int.reduceToNat, Int.reduceLT, Int.reduceLE, Int.reduceEq, Int.reduceNe, Int.reduceAdd, Int.reduceSub, Int.reduceMul, Int.reduceNeg, ↓reduceIte, reduceCtorEq, freshR, Rcv.pv, Pdu.pv, h19, n19, Pdu.none])
  (refine endD_intro (by decide +kernel) ?_; simp only [go_sem, Nat.reduceAdd, Nat.reduceSub, Nat.reduceMul, Nat.reduceLT, Nat.reduceLeDiff, Nat.reduceEqDiff, Nat.reduceBEq, Int.reduceToNat, Int.reduceLT, Int.reduceLE, Int.reduceEq, Int.reduceNe, Int.reduceAdd, Int.reduceSub, Int.reduceMul, Int.reduceNeg, ↓reduceIte, reduceCtorEq])
  (refine callD_pure (newT_calls 20 0 0) (by simp only [go_sem, Nat.reduceAdd, Nat.reduceSub, Nat.reduceMul, Nat.reduceLT, Nat.reduceLeDiff, Nat.reduceEqDiff, Nat.reduceBEq, Int.reduceToNat, Int.reduceLT, Int.reduceLE, Int.reduceEq, Int.reduceNe, Int.reduceAdd, Int.reduceSub, Int.reduceMul, Int.reduceNeg, ↓reduceIte, reduceCtorEq, freshR, Rcv.pv] <;> first | rfl | decide) ?_; simp only [go_sem, Nat.reduceAdd, Nat.reduceSub, Nat.reduceMul, Nat.reduceLT, Nat.reduceLeDiff, Nat.reduceEqDiff, Nat.reduceBEq, Int.reduceToNat, Int.reduceLT, Int.reduceLE, Int.reduceEq, Int.reduceNe, Int.reduceAdd, Int.reduceSub, Int.reduceMul, Int.reduceNeg, ↓reduceIte, reduceCtorEq, freshR, Rcv.pv])
  (refine callD_pure (takeT_at t19d (by decide) (by decide)) (by simp only [go_sem, Nat.reduceAdd, Nat.reduceSub, Nat.reduceMul, Nat.reduceLT, Nat.reduceLeDiff, Nat.reduceEqDiff, Nat.reduceBEq, Int.reduceToNat, Int.reduceLT, Int.reduceLE, Int.reduceEq, Int.reduceNe, Int.reduceAdd, Int.reduceSub, Int.reduceMul, Int.reduceNeg, ↓reduceIte, reduceCtorEq, freshR, Rcv.pv, Pdu.pv, h19, n19, Pdu.none] <;> first | rfl | decide) ?_; simp only [go_sem, Nat.reduceAdd, Nat.reduceSub, Nat.reduceMul, Nat.reduceLT, Nat.reduceLeDiff, Nat.reduceEqDiff, Nat.reduceBEq, Int.reduceToNat, Int.reduceLT, Int.reduceLE, Int.reduceEq, Int.reduceNe, Int.reduceAdd, Int.reduceSub, Int.reduceMul, Int.reduceNeg, ↓reduceIte, reduceCtorEq, freshR, Rcv.pv, Pdu.pv, h19, n19, Pdu.none])
  (refine endD_intro (by decide +kernel) ?_; simp only [go_sem, Nat.reduceAdd, Nat.reduceSub, Nat.reduceMul, Nat.reduceLT, Nat.reduceLeDiff, Nat.reduceEqDiff, Nat.reduceBEq, Int.reduceToNat, Int.reduceLT, Int.reduceLE, Int.reduceEq, Int.reduceNe, Int.reduceAdd, Int.reduceSub, Int.reduceMul, Int.reduceNeg, ↓reduceIte, reduceCtorEq])
  (refine callD_pure (takeT_at t19e (by decide) (by decide)) (by simp only [go_sem, Nat.reduceAdd, Nat.reduceSub, Nat.reduceMul, Nat.reduceLT, Nat.reduceLeDiff, Nat.reduceEqDiff, Nat.reduceBEq, Int.reduceToNat, Int.reduceLT, Int.reduceLE, Int.reduceEq, Int.reduceNe, Int.reduceAdd, Int.reduceSub, Int.reduceMul, Int.reduceNeg, ↓reduceIte, reduceCtorEq, freshR, Rcv.pv, Pdu.pv, h19, n19, Pdu.none] <;> first | rfl | decide) ?_; simp only [go_sem, Nat.reduceAdd, Nat.reduceSub, Nat.reduceMul, Nat.reduceLT, Nat.reduceLeDiff, Nat.reduceEqDiff, Nat.reduceBEq, Int.reduceToNat, Int.reduceLT, Int.reduceLE, Int.reduceEq, Int.reduceNe, Int.reduceAdd, Int.reduceSub, Int.reduceMul, Int.reduceNeg, ↓reduceIte, reduceCtorEq, freshR, Rcv.pv, Pdu.pv, h19, n19, Pdu.none])
  (refine endD_intro (by decide +kernel) ?_; simp only [go_sem, Nat.reduceAdd, Nat.reduceSub, Nat.reduceMul, Nat.reduceLT, Nat.reduceLeDiff, Nat.reduceEqDiff, Nat.reduceBEq, Int.reduceToNat, Int.reduceLT, Int.reduceLE, Int.reduceEq, Int.reduceNe, Int.reduceAdd, Int.reduceSub, Int.reduceMul, Int.reduceNeg, ↓reduceIte, reduceCtorEq])
  (refine CallA.pure (tick19) (by simp only [go_sem, Nat.reduceAdd, Nat.reduceSub, Nat.reduceMul, Nat.reduceLT, Nat.reduceLeDiff, Nat.reduceEqDiff, Nat.reduceBEq, Int.reduceToNat, Int.reduceLT, Int.reduceLE, Int.reduceEq, Int.reduceNe, Int.reduceAdd, Int.reduceSub, Int.reduceMul, Int.reduceNeg, ↓reduceIte, reduceCtorEq, Rcv.pv, Pdu.pv] <;> first | rfl | decide) ?_; simp only [go_sem, Nat.reduceAdd, Nat.reduceSub, Nat.reduceMul, Nat.reduceLT, Nat.reduceLeDiff, Nat.reduceEqDiff, Nat.reduceBEq, Int.reduceToNat, Int.reduceLT, Int.reduceLE, Int.reduceEq, Int.reduceNe, Int.reduceAdd, Int.reduceSub, Int.reduceMul, Int.reduceNeg, ↓reduceIte, reduceCtorEq, Rcv.pv, Pdu.pv])
  (refine CallA.pure (takeT_at t19f (by decide) (by decide)) (by simp only [go_sem, Nat.reduceAdd, Nat.reduceSub, Nat.reduceMul, Nat.reduceLT, Nat.reduceLeDiff, Nat.reduceEqDiff, Nat.reduceBEq, Int.reduceToNat, Int.reduceLT, Int.reduceLE, Int.reduceEq, Int.reduceNe, Int.reduceAdd, Int.reduceSub, Int.reduceMul, Int.reduceNeg, ↓reduceIte, reduceCtorEq, Rcv.pv, Pdu.pv, Pdu.none] <;> first | rfl | decide) ?_; simp only [go_sem, Nat.reduceAdd, Nat.reduceSub, Nat.reduceMul, Nat.reduceLT, Nat.reduceLeDiff, Nat.reduceEqDiff, Nat.reduceBEq, Int.reduceToNat, Int.reduceLT, Int.reduceLE, Int.reduceEq, Int.reduceNe, Int.reduceAdd, Int.reduceSub, Int.reduceMul, Int.reduceNeg, ↓reduceIte, reduceCtorEq, Rcv.pv, Pdu.pv, Pdu.none])
  (refine CallA.pure (same_self ⟨4, 0, 0, 0, 3, 5, []⟩) (by simp only [go_sem, Nat.reduceAdd, Nat.reduceSub, Nat.reduceMul, Nat.reduceLT, Nat.reduceLeDiff, Nat.reduceEqDiff, Nat.reduceBEq, Int.reduceToNat, Int.reduceLT, Int.reduceLE, Int.reduceEq, Int.reduceNe, Int.reduceAdd, Int.reduceSub, Int.reduceMul, Int.reduceNeg, ↓reduceIte, reduceCtorEq, Rcv.pv, Pdu.pv, Pdu.none] <;> first | rfl | decide) ?_; simp only [go_sem, Nat.reduceAdd, Nat.reduceSub, Nat.reduceMul, Nat.reduceLT, Nat.reduceLeDiff, Nat.reduceEqDiff, Nat.reduceBEq, Int.reduceToNat, Int.reduceLT, Int.reduceLE, Int.reduceEq, Int.reduceNe, Int.reduceAdd, Int.reduceSub, Int.reduceMul, Int.reduceNeg, ↓reduceIte, reduceCtorEq, Rcv.pv, Pdu.pv, Pdu.none])
  (refine CallA.pure (sameB_self b8) (by simp only [go_sem, Nat.reduceAdd, Nat.reduceSub, Nat.reduceMul, Nat.reduceLT, Nat.reduceLeDiff, Nat.reduceEqDiff, Nat.reduceBEq, Int.reduceToNat, Int.reduceLT, Int.reduceLE, Int.reduceEq, Int.reduceNe, Int.reduceAdd, Int.reduceSub, Int.reduceMul, Int.reduceNeg, ↓reduceIte, reduceCtorEq, Rcv.pv, Pdu.pv, Pdu.none, b8] <;> first | rfl | decide) ?_; simp only [go_sem, Nat.reduceAdd, Nat.reduceSub, Nat.reduceMul, Nat.reduceLT, Nat.reduceLeDiff, Nat.reduceEqDiff, Nat.reduceBEq, Int.reduceToNat, Int.reduceLT, Int.reduceLE, Int.reduceEq, Int.reduceNe, Int.reduceAdd, Int.reduceSub, Int.reduceMul, Int.reduceNeg, ↓reduceIte, reduceCtorEq, Rcv.pv, Pdu.pv, Pdu.none, b8])
  (refine CallA.pure (same_self ⟨4, 0, 0, 2, 0, 0, []⟩) (by simp only [go_sem, Nat.reduceAdd, Nat.reduceSub, Nat.reduceMul, Nat.reduceLT, Nat.reduceLeDiff, Nat.reduceEqDiff, Nat.reduceBEq, Int.reduceToNat, Int.reduceLT, Int.reduceLE, Int.reduceEq, Int.reduceNe, Int.reduceAdd, Int.reduceSub, Int.reduceMul, Int.reduceNeg, ↓reduceIte, reduceCtorEq, Rcv.pv, Pdu.pv, Pdu.none] <;> first | rfl | decide) ?_; simp only [go_sem, Nat.reduceAdd, Nat.reduceSub, Nat.reduceMul, Nat.reduceLT, Nat.reduceLeDiff, Nat.reduceEqDiff, Nat.reduceBEq, Int.reduceToNat, Int.reduceLT, Int.reduceLE, Int.reduceEq, Int.reduceNe, Int.reduceAdd, Int.reduceSub, Int.reduceMul, Int.reduceNeg, ↓reduceIte, reduceCtorEq, Rcv.pv, Pdu.pv, Pdu.none])
  simp only [go_sem, Nat.reduceAdd, Nat.reduceSub, Nat.reduceMul, Nat.reduceLT, Nat.reduceLeDiff, Nat.reduceEqDiff, Nat.reduceBEq, Int.reduceToNat, Int.reduceLT, Int.reduceLE, Int.reduceEq, Int.reduceNe, Int.reduceAdd, Int.reduceSub, Int.reduceMul, Int.reduceNeg, ↓reduceIte, reduceCtorEq, Try.ntmps20, Try.results20]
  trace_state
end Go.Proofs.Ytpnhnobnjcknjaa.Pe
