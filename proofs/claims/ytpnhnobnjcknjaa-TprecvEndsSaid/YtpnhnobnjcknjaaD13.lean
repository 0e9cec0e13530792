import Derived.Test.YtpnhnobnjcknjaaD12
import Derived.KernelRfl
namespace Go.Proofs.Ytpnhnobnjcknjaa.Pe
open Go.Pe Go.RowKit
set_option maxRecDepth 20000
set_option maxHeartbeats 4000000
set_option linter.unusedSimpArgs false
set_option linter.unusedVariables false

def endsSt (l : List Op19) (r : Rcv) (i : Nat) (sv : PV) (hp : List (Nat × Blk)) (nx : Nat) : St := ⟨114, [(1, .im 8 (ops19 l)), (5, PB true), (6, .ptr 0 0), (7, sv), (8, PI i)], (0, .box 29 r.cells) :: hp, nx, 0⟩
abbrev endsA (b : Nat) (since : List Pdu) (ver : Nat) (f : Bool) : List (Nat × Blk) := [(b, .arr 33 7 (pduRows since) ver f)]
def endsC (l : List Op19) (since : List Pdu) (r : Rcv) (i : Nat) (st : St) : Prop :=
  (since = [] ∧ st = endsSt l r i (.lit (.slice none 0 0)) [] 20) ∨ (∃ c ver, st = endsSt l r i (.own (c + 1) ver) (endsA (c + 1) since ver false) (c + 20))
theorem sy1 (c : Nat) : ∀ k, 0 < k → (c + k = 0) = False := fun k h => by simp; omega
theorem sy2 (c : Nat) : ∀ k, 0 < k → (0 = c + k) = False := fun k h => by simp; omega
theorem sy3 (c : Nat) : ∀ j k, (c + j = c + k) = (j = k) := fun j k => by simp
theorem sy4 (c : Nat) : ∀ j k, (c + j < c + k) = (j < k) := fun j k => by simp
theorem sy5 (c : Nat) : ∀ k, 0 < k → (0 < c + k) = True := fun k h => by simp; omega
theorem sy7 (c : Nat) : ∀ k, (c + k < 0) = False := fun k => by simp
theorem sy6 (c : Nat) : ∀ j k, (c + j == c + k) = (j == k) := fun j k => by rw [Bool.eq_iff_iff]; simp
def endsI (l : List Op19) (m : Nat) (st : St) : Prop := ∃ (i : Nat) (r : Rcv) (since : List Pdu), i ≤ l.length ∧ m = l.length - i ∧ since.length ≤ i ∧ r.fine ∧ EAt since r ∧ endsC l since r i st
theorem pduRows_app (a : List Pdu) (p : Pdu) : pduRows a ++ [p.cells] = pduRows (a ++ [p]) := by simp [pduRows]
theorem pduRows_one (p : Pdu) : pduRows [p] = [p.cells] := by simp [pduRows]
theorem EAt.parts {since : List Pdu} {r : Rcv} (h : EAt since r) (hs : r.st = 3) : partsL r.got = since ∧ partsB r.got = true := by
  rcases h.2 with ⟨h', _⟩ | ⟨h', _⟩ | ⟨_, h1, h2, rfl⟩ | ⟨h', _⟩
  · omega
  · omega
  · refine ⟨rfl, ?_⟩
    have : r.got ≠ [] := by intro h; rw [h] at h1; simp at h1
    simp [partsB, this]
    omega
  · omega
theorem EAt.some {since : List Pdu} {r : Rcv} (h : EAt since r) (hs : r.st = 2) : since ≠ [] := by
  rcases h.2 with ⟨h', _⟩ | ⟨_, h'⟩ | ⟨h', _⟩ | ⟨_, i, _, _, _, _, _, _, rfl⟩
  · omega
  · exact h'
  · omega
  · simp [sinceOf]
theorem sameAll_self (a : List Pdu) (ha : a.length ≤ 100000) : PureCalls Try.prog 38 [.im 7 (pduRows a), .im 7 (pduRows a)] (PB true) := by
  have := sameAll_calls a a ha
  rwa [show decide (a = a) = true by simp] at this
theorem partsL_ne {t : List UInt8} (h : partsB t = true) : partsL t ≠ [] := by
  simp [partsB] at h
  have h0 : 1 ≤ t.length := by
    have : t ≠ [] := h.1
    exact List.length_pos_iff.2 this
  have := parts_len (t := t) h0 h.2
  have h1 := partsN_pos t
  intro hh
  rw [hh] at this
  simp at this
  omega
theorem right_k {p : Pdu} (h : p.right = true) : p.k = 1 ∨ p.k = 2 ∨ p.k = 3 ∨ p.k = 4 := by
  unfold Pdu.right at h
  repeat' split at h
  all_goals simp_all
theorem ends_calls (bl : UInt8) (l : List Op19) : PureCalls Try.prog 9 [U8 bl, .im 8 (ops19 l)] (PB true) := by
  refine PureCalls.of tabOK mixed Try.func9 rfl rfl (by decide +kernel) (by simp [Try.ntmps9]) ?_
  simp only [go_sem, Nat.reduceAdd, Nat.reduceSub, Nat.reduceMul, Nat.reduceLT, Nat.reduceLeDiff, Nat.reduceEqDiff, Nat.reduceBEq, Int.reduceToNat, Int.reduceLT, Int.reduceLE, Int.reduceEq, Int.reduceNe, Int.reduceAdd, Int.reduceSub, Int.reduceMul, Int.reduceNeg, ↓reduceIte, reduceCtorEq, Try.ntmps9, Try.results9]
  (refine CallA.pure (head19_calls) (by simp only [go_sem, Nat.reduceAdd, Nat.reduceSub, Nat.reduceMul, Nat.reduceLT, Nat.reduceLeDiff, Nat.reduceEqDiff, Nat.reduceBEq, Int.reduceToNat, Int.reduceLT, Int.reduceLE, Int.reduceEq, Int.reduceNe, Int.reduceAdd, Int.reduceSub, Int.reduceMul, Int.reduceNeg, ↓reduceIte, reduceCtorEq] <;> first | rfl | decide) ?_; simp only [go_sem, Nat.reduceAdd, Nat.reduceSub, Nat.reduceMul, Nat.reduceLT, Nat.reduceLeDiff, Nat.reduceEqDiff, Nat.reduceBEq, Int.reduceToNat, Int.reduceLT, Int.reduceLE, Int.reduceEq, Int.reduceNe, Int.reduceAdd, Int.reduceSub, Int.reduceMul, Int.reduceNeg, ↓reduceIte, reduceCtorEq])
  (refine CallA.pure (great_calls l) (by simp only [go_sem, Nat.reduceAdd, Nat.reduceSub, Nat.reduceMul, Nat.reduceLT, Nat.reduceLeDiff, Nat.reduceEqDiff, Nat.reduceBEq, Int.reduceToNat, Int.reduceLT, Int.reduceLE, Int.reduceEq, Int.reduceNe, Int.reduceAdd, Int.reduceSub, Int.reduceMul, Int.reduceNeg, ↓reduceIte, reduceCtorEq] <;> first | rfl | decide) ?_; simp only [go_sem, Nat.reduceAdd, Nat.reduceSub, Nat.reduceMul, Nat.reduceLT, Nat.reduceLeDiff, Nat.reduceEqDiff, Nat.reduceBEq, Int.reduceToNat, Int.reduceLT, Int.reduceLE, Int.reduceEq, Int.reduceNe, Int.reduceAdd, Int.reduceSub, Int.reduceMul, Int.reduceNeg, ↓reduceIte, reduceCtorEq])
  cases hgr : greatV l with
  | true => simp only [go_sem, Nat.reduceAdd, Nat.reduceSub, Nat.reduceMul, Nat.reduceLT, Nat.reduceLeDiff, Nat.reduceEqDiff, Nat.reduceBEq, Int.reduceToNat, Int.reduceLT, Int.reduceLE, Int.reduceEq, Int.reduceNe, Int.reduceAdd, Int.reduceSub, Int.reduceMul, Int.reduceNeg, ↓reduceIte, reduceCtorEq, Try.ntmps9, Try.results9]
  | false =>
  have hll : l.length ≤ 100 := by simp [greatV] at hgr; omega
  have cF := fresh_at 4095 4095 bl 0 rfl
  have hz : (((0 : UInt8).toNat : Int)).tmod 128 = 0 := rfl
  rw [hz] at cF
  have hf := fresh_fine 4095 0 bl
  simp only [go_sem, Nat.reduceAdd, Nat.reduceSub, Nat.reduceMul, Nat.reduceLT, Nat.reduceLeDiff, Nat.reduceEqDiff, Nat.reduceBEq, Int.reduceToNat, Int.reduceLT, Int.reduceLE, Int.reduceEq, Int.reduceNe, Int.reduceAdd, Int.reduceSub, Int.reduceMul, Int.reduceNeg, ↓reduceIte, reduceCtorEq]
  (refine CallA.pure (cF) (by simp only [go_sem, Nat.reduceAdd, Nat.reduceSub, Nat.reduceMul, Nat.reduceLT, Nat.reduceLeDiff, Nat.reduceEqDiff, Nat.reduceBEq, Int.reduceToNat, Int.reduceLT, Int.reduceLE, Int.reduceEq, Int.reduceNe, Int.reduceAdd, Int.reduceSub, Int.reduceMul, Int.reduceNeg, ↓reduceIte, reduceCtorEq, freshR, Rcv.pv] <;> first | rfl | decide) ?_; simp only [go_sem, Nat.reduceAdd, Nat.reduceSub, Nat.reduceMul, Nat.reduceLT, Nat.reduceLeDiff, Nat.reduceEqDiff, Nat.reduceBEq, Int.reduceToNat, Int.reduceLT, Int.reduceLE, Int.reduceEq, Int.reduceNe, Int.reduceAdd, Int.reduceSub, Int.reduceMul, Int.reduceNeg, ↓reduceIte, reduceCtorEq, freshR, Rcv.pv])
  refine wpA_loop (endsI l) ⟨_, _, ?_, 0, freshR 4095 bl.toNat 0, [], by omega, rfl, by simp, hf, ⟨rfl, .inl ⟨rfl, rfl⟩⟩, .inl ⟨rfl, rfl⟩⟩ ?_
  · simp only [go_sem, Nat.reduceAdd, Nat.reduceSub, Nat.reduceMul, Nat.reduceLT, Nat.reduceLeDiff, Nat.reduceEqDiff, Nat.reduceBEq, Int.reduceToNat, Int.reduceLT, Int.reduceLE, Int.reduceEq, Int.reduceNe, Int.reduceAdd, Int.reduceSub, Int.reduceMul, Int.reduceNeg, ↓reduceIte, reduceCtorEq, endsSt, freshR, Int.natCast_zero]
  clear cF hf
  rintro m st ⟨i, r, since, hi, rfl, hsl, hrf, hE, hC⟩
  by_cases hc : i < l.length
  rotate_left 1
  · have f1 : decide ((i : Int) < (l.length : Int)) = false := by simp; omega
    rcases hC with ⟨rfl, rfl⟩ | ⟨c, ver, rfl⟩
    · simp only [go_sem, Nat.reduceAdd, Nat.reduceSub, Nat.reduceMul, Nat.reduceLT, Nat.reduceLeDiff, Nat.reduceEqDiff, Nat.reduceBEq, Int.reduceToNat, Int.reduceLT, Int.reduceLE, Int.reduceEq, Int.reduceNe, Int.reduceAdd, Int.reduceSub, Int.reduceMul, Int.reduceNeg, ↓reduceIte, reduceCtorEq, endsSt, f1, Try.ntmps9, Try.results9]
    · simp only [go_sem, Nat.reduceAdd, Nat.reduceSub, Nat.reduceMul, Nat.reduceLT, Nat.reduceLeDiff, Nat.reduceEqDiff, Nat.reduceBEq, Int.reduceToNat, Int.reduceLT, Int.reduceLE, Int.reduceEq, Int.reduceNe, Int.reduceAdd, Int.reduceSub, Int.reduceMul, Int.reduceNeg, ↓reduceIte, reduceCtorEq, endsSt, f1, Try.ntmps9, Try.results9]
  have f1 : decide ((i : Int) < (l.length : Int)) = true := by simp; omega
  have f1' : (i : Int) < (l.length : Int) := by omega
  have f0 : (0 : Int) ≤ (i : Int) := by omega
  have hw := wrapIN (i := i) (by omega)
  have hrow := ops19_getD hc
  generalize l[i] = o at hrow
  have fin : ∀ r' since', r'.fine → EAt since' r' → since'.length ≤ i + 1 → ∀ st' st'', Weak st' st'' → endsC l since' r' (i + 1) st'' → ∃ m' s'', m' < l.length - i ∧ Weak st' s'' ∧ endsI l m' s'' :=
    fun r' since' hr' hE' hl' st' st'' h h' => ⟨l.length - (i + 1), _, by omega, h, i + 1, r', since', by omega, rfl, hl', hr', hE', h'⟩
  rcases hC with ⟨rfl, rfl⟩ | ⟨c, ver, rfl⟩
  · simp only [go_sem, Nat.reduceAdd, Nat.reduceSub, Nat.reduceMul, Nat.reduceLT, Nat.reduceLeDiff, Nat.reduceEqDiff, Nat.reduceBEq, Int.reduceToNat, Int.reduceLT, Int.reduceLE, Int.reduceEq, Int.reduceNe, Int.reduceAdd, Int.reduceSub, Int.reduceMul, Int.reduceNeg, ↓reduceIte, reduceCtorEq, endsSt, f1, f1', f0, Int.toNat_natCast, hrow, Op19.row]
    by_cases hz : o.n.toNat = 0
    rotate_left 1
    · have g2 : decide ((o.n.toNat : Int) > 0) = true := by simp; omega
      have c1 := tickT_at r
      have hE1 := hE.tick
      have hf1 := fine_tick hrf
      generalize tickV r = r1 at c1 hE1 hf1
      simp only [go_sem, Nat.reduceAdd, Nat.reduceSub, Nat.reduceMul, Nat.reduceLT, Nat.reduceLeDiff, Nat.reduceEqDiff, Nat.reduceBEq, Int.reduceToNat, Int.reduceLT, Int.reduceLE, Int.reduceEq, Int.reduceNe, Int.reduceAdd, Int.reduceSub, Int.reduceMul, Int.reduceNeg, ↓reduceIte, reduceCtorEq, g2]
      (refine CallA.pure (c1) (by simp only [go_sem, Nat.reduceAdd, Nat.reduceSub, Nat.reduceMul, Nat.reduceLT, Nat.reduceLeDiff, Nat.reduceEqDiff, Nat.reduceBEq, Int.reduceToNat, Int.reduceLT, Int.reduceLE, Int.reduceEq, Int.reduceNe, Int.reduceAdd, Int.reduceSub, Int.reduceMul, Int.reduceNeg, ↓reduceIte, reduceCtorEq, Rcv.pv] <;> first | rfl | decide) ?_; simp only [go_sem, Nat.reduceAdd, Nat.reduceSub, Nat.reduceMul, Nat.reduceLT, Nat.reduceLeDiff, Nat.reduceEqDiff, Nat.reduceBEq, Int.reduceToNat, Int.reduceLT, Int.reduceLE, Int.reduceEq, Int.reduceNe, Int.reduceAdd, Int.reduceSub, Int.reduceMul, Int.reduceNeg, ↓reduceIte, reduceCtorEq, Rcv.pv])
      have cX := textT_calls r1
      by_cases h3 : (r1).st = 3
      · have := (hE1).parts h3
        have hpl := partsL_ne this.2
        exact absurd this.1 hpl
      · have g3 : decide ((r1).st = 3) = false := by simp [h3]
        rw [g3] at cX
        (refine CallA.pure (cX) (by simp only [go_sem, Nat.reduceAdd, Nat.reduceSub, Nat.reduceMul, Nat.reduceLT, Nat.reduceLeDiff, Nat.reduceEqDiff, Nat.reduceBEq, Int.reduceToNat, Int.reduceLT, Int.reduceLE, Int.reduceEq, Int.reduceNe, Int.reduceAdd, Int.reduceSub, Int.reduceMul, Int.reduceNeg, ↓reduceIte, reduceCtorEq, Rcv.pv, hw, pduRows_app, pduRows_one] <;> first | rfl | decide) ?_; simp only [go_sem, Nat.reduceAdd, Nat.reduceSub, Nat.reduceMul, Nat.reduceLT, Nat.reduceLeDiff, Nat.reduceEqDiff, Nat.reduceBEq, Int.reduceToNat, Int.reduceLT, Int.reduceLE, Int.reduceEq, Int.reduceNe, Int.reduceAdd, Int.reduceSub, Int.reduceMul, Int.reduceNeg, ↓reduceIte, reduceCtorEq, Rcv.pv, hw, pduRows_app, pduRows_one])
        refine fin _ _ hf1 hE1 (by simp) _ _ ?_ (.inl ⟨rfl, rfl⟩)
        simp only [go_sem, Nat.reduceAdd, Nat.reduceSub, Nat.reduceMul, Nat.reduceLT, Nat.reduceLeDiff, Nat.reduceEqDiff, Nat.reduceBEq, Int.reduceToNat, Int.reduceLT, Int.reduceLE, Int.reduceEq, Int.reduceNe, Int.reduceAdd, Int.reduceSub, Int.reduceMul, Int.reduceNeg, ↓reduceIte, reduceCtorEq, endsSt]
    have g2 : decide ((o.n.toNat : Int) > 0) = false := by simp; omega
    have cQ := rightR_calls o.p
    simp only [go_sem, Nat.reduceAdd, Nat.reduceSub, Nat.reduceMul, Nat.reduceLT, Nat.reduceLeDiff, Nat.reduceEqDiff, Nat.reduceBEq, Int.reduceToNat, Int.reduceLT, Int.reduceLE, Int.reduceEq, Int.reduceNe, Int.reduceAdd, Int.reduceSub, Int.reduceMul, Int.reduceNeg, ↓reduceIte, reduceCtorEq, g2, f1', f0, Int.toNat_natCast, hrow, Op19.row]
    cases hQ : o.p.right with
    | false =>
      rw [hQ] at cQ
      (refine CallA.pure (cQ) (by simp only [go_sem, Nat.reduceAdd, Nat.reduceSub, Nat.reduceMul, Nat.reduceLT, Nat.reduceLeDiff, Nat.reduceEqDiff, Nat.reduceBEq, Int.reduceToNat, Int.reduceLT, Int.reduceLE, Int.reduceEq, Int.reduceNe, Int.reduceAdd, Int.reduceSub, Int.reduceMul, Int.reduceNeg, ↓reduceIte, reduceCtorEq, Pdu.pv] <;> first | rfl | decide) ?_; simp only [go_sem, Nat.reduceAdd, Nat.reduceSub, Nat.reduceMul, Nat.reduceLT, Nat.reduceLeDiff, Nat.reduceEqDiff, Nat.reduceBEq, Int.reduceToNat, Int.reduceLT, Int.reduceLE, Int.reduceEq, Int.reduceNe, Int.reduceAdd, Int.reduceSub, Int.reduceMul, Int.reduceNeg, ↓reduceIte, reduceCtorEq, Pdu.pv])
      have cX := textT_calls r
      by_cases h3 : (r).st = 3
      · have := (hE).parts h3
        have hpl := partsL_ne this.2
        exact absurd this.1 hpl
      · have g3 : decide ((r).st = 3) = false := by simp [h3]
        rw [g3] at cX
        (refine CallA.pure (cX) (by simp only [go_sem, Nat.reduceAdd, Nat.reduceSub, Nat.reduceMul, Nat.reduceLT, Nat.reduceLeDiff, Nat.reduceEqDiff, Nat.reduceBEq, Int.reduceToNat, Int.reduceLT, Int.reduceLE, Int.reduceEq, Int.reduceNe, Int.reduceAdd, Int.reduceSub, Int.reduceMul, Int.reduceNeg, ↓reduceIte, reduceCtorEq, Rcv.pv, hw, pduRows_app, pduRows_one] <;> first | rfl | decide) ?_; simp only [go_sem, Nat.reduceAdd, Nat.reduceSub, Nat.reduceMul, Nat.reduceLT, Nat.reduceLeDiff, Nat.reduceEqDiff, Nat.reduceBEq, Int.reduceToNat, Int.reduceLT, Int.reduceLE, Int.reduceEq, Int.reduceNe, Int.reduceAdd, Int.reduceSub, Int.reduceMul, Int.reduceNeg, ↓reduceIte, reduceCtorEq, Rcv.pv, hw, pduRows_app, pduRows_one])
        refine fin _ _ hrf hE (by simp) _ _ ?_ (.inl ⟨rfl, rfl⟩)
        simp only [go_sem, Nat.reduceAdd, Nat.reduceSub, Nat.reduceMul, Nat.reduceLT, Nat.reduceLeDiff, Nat.reduceEqDiff, Nat.reduceBEq, Int.reduceToNat, Int.reduceLT, Int.reduceLE, Int.reduceEq, Int.reduceNe, Int.reduceAdd, Int.reduceSub, Int.reduceMul, Int.reduceNeg, ↓reduceIte, reduceCtorEq, endsSt]
    | true =>
      rw [hQ] at cQ
      have c1 := takeT_calls r o.p hrf hQ
      have hE1 := hE.recv hQ
      have hf1 := fine_recv hrf hQ
      have hk := right_k hQ
      generalize recvV r o.p = x at c1 hE1 hf1
      obtain ⟨r1, q, bb⟩ := x
      simp only at c1 hE1 hf1
      (refine CallA.pure (cQ) (by simp only [go_sem, Nat.reduceAdd, Nat.reduceSub, Nat.reduceMul, Nat.reduceLT, Nat.reduceLeDiff, Nat.reduceEqDiff, Nat.reduceBEq, Int.reduceToNat, Int.reduceLT, Int.reduceLE, Int.reduceEq, Int.reduceNe, Int.reduceAdd, Int.reduceSub, Int.reduceMul, Int.reduceNeg, ↓reduceIte, reduceCtorEq, Pdu.pv, f1', f0, Int.toNat_natCast, hrow, Op19.row] <;> first | rfl | decide) ?_; simp only [go_sem, Nat.reduceAdd, Nat.reduceSub, Nat.reduceMul, Nat.reduceLT, Nat.reduceLeDiff, Nat.reduceEqDiff, Nat.reduceBEq, Int.reduceToNat, Int.reduceLT, Int.reduceLE, Int.reduceEq, Int.reduceNe, Int.reduceAdd, Int.reduceSub, Int.reduceMul, Int.reduceNeg, ↓reduceIte, reduceCtorEq, Pdu.pv, f1', f0, Int.toNat_natCast, hrow, Op19.row])
      (refine callD_pure (c1) (by simp only [go_sem, Nat.reduceAdd, Nat.reduceSub, Nat.reduceMul, Nat.reduceLT, Nat.reduceLeDiff, Nat.reduceEqDiff, Nat.reduceBEq, Int.reduceToNat, Int.reduceLT, Int.reduceLE, Int.reduceEq, Int.reduceNe, Int.reduceAdd, Int.reduceSub, Int.reduceMul, Int.reduceNeg, ↓reduceIte, reduceCtorEq, Rcv.pv, Pdu.pv] <;> first | rfl | decide) ?_; simp only [go_sem, Nat.reduceAdd, Nat.reduceSub, Nat.reduceMul, Nat.reduceLT, Nat.reduceLeDiff, Nat.reduceEqDiff, Nat.reduceBEq, Int.reduceToNat, Int.reduceLT, Int.reduceLE, Int.reduceEq, Int.reduceNe, Int.reduceAdd, Int.reduceSub, Int.reduceMul, Int.reduceNeg, ↓reduceIte, reduceCtorEq, Rcv.pv, Pdu.pv])
      (refine endD_intro (by decide +kernel) ?_; simp only [go_sem, Nat.reduceAdd, Nat.reduceSub, Nat.reduceMul, Nat.reduceLT, Nat.reduceLeDiff, Nat.reduceEqDiff, Nat.reduceBEq, Int.reduceToNat, Int.reduceLT, Int.reduceLE, Int.reduceEq, Int.reduceNe, Int.reduceAdd, Int.reduceSub, Int.reduceMul, Int.reduceNeg, ↓reduceIte, reduceCtorEq, f1', f0, Int.toNat_natCast, hrow, Op19.row])
      by_cases hk1 : o.p.k = 1
      · have k1 : decide (o.p.k = 1) = true := by simp [hk1]
        rw [sinceR, if_pos (.inl hk1)] at hE1
        simp only [go_sem, Nat.reduceAdd, Nat.reduceSub, Nat.reduceMul, Nat.reduceLT, Nat.reduceLeDiff, Nat.reduceEqDiff, Nat.reduceBEq, Int.reduceToNat, Int.reduceLT, Int.reduceLE, Int.reduceEq, Int.reduceNe, Int.reduceAdd, Int.reduceSub, Int.reduceMul, Int.reduceNeg, ↓reduceIte, reduceCtorEq, k1, f1', f0, Int.toNat_natCast, hrow, Op19.row]
        have cX := textT_calls r1
        by_cases h3 : (r1).st = 3
        · obtain ⟨hp1, hp2⟩ := (hE1).parts h3
          have g3 : decide ((r1).st = 3) = true := by simp [h3]
          rw [if_pos h3, g3] at cX
          have cP := partsR_calls (r1).got
          rw [hp1, hp2] at cP
          have cS := sameAll_self _ (show ([o.p]).length ≤ 100000 by first | (simp; done) | omega | (simp; omega))
          (refine CallA.pure (cX) (by simp only [go_sem, Nat.reduceAdd, Nat.reduceSub, Nat.reduceMul, Nat.reduceLT, Nat.reduceLeDiff, Nat.reduceEqDiff, Nat.reduceBEq, Int.reduceToNat, Int.reduceLT, Int.reduceLE, Int.reduceEq, Int.reduceNe, Int.reduceAdd, Int.reduceSub, Int.reduceMul, Int.reduceNeg, ↓reduceIte, reduceCtorEq, Rcv.pv] <;> first | rfl | decide) ?_; simp only [go_sem, Nat.reduceAdd, Nat.reduceSub, Nat.reduceMul, Nat.reduceLT, Nat.reduceLeDiff, Nat.reduceEqDiff, Nat.reduceBEq, Int.reduceToNat, Int.reduceLT, Int.reduceLE, Int.reduceEq, Int.reduceNe, Int.reduceAdd, Int.reduceSub, Int.reduceMul, Int.reduceNeg, ↓reduceIte, reduceCtorEq, Rcv.pv])
          (refine CallA.pure (cP) (by simp only [go_sem, Nat.reduceAdd, Nat.reduceSub, Nat.reduceMul, Nat.reduceLT, Nat.reduceLeDiff, Nat.reduceEqDiff, Nat.reduceBEq, Int.reduceToNat, Int.reduceLT, Int.reduceLE, Int.reduceEq, Int.reduceNe, Int.reduceAdd, Int.reduceSub, Int.reduceMul, Int.reduceNeg, ↓reduceIte, reduceCtorEq] <;> first | rfl | decide) ?_; simp only [go_sem, Nat.reduceAdd, Nat.reduceSub, Nat.reduceMul, Nat.reduceLT, Nat.reduceLeDiff, Nat.reduceEqDiff, Nat.reduceBEq, Int.reduceToNat, Int.reduceLT, Int.reduceLE, Int.reduceEq, Int.reduceNe, Int.reduceAdd, Int.reduceSub, Int.reduceMul, Int.reduceNeg, ↓reduceIte, reduceCtorEq])
          (refine CallA.pure (cS) (by simp only [go_sem, Nat.reduceAdd, Nat.reduceSub, Nat.reduceMul, Nat.reduceLT, Nat.reduceLeDiff, Nat.reduceEqDiff, Nat.reduceBEq, Int.reduceToNat, Int.reduceLT, Int.reduceLE, Int.reduceEq, Int.reduceNe, Int.reduceAdd, Int.reduceSub, Int.reduceMul, Int.reduceNeg, ↓reduceIte, reduceCtorEq, hw, pduRows_app, pduRows_one] <;> first | rfl | decide) ?_; simp only [go_sem, Nat.reduceAdd, Nat.reduceSub, Nat.reduceMul, Nat.reduceLT, Nat.reduceLeDiff, Nat.reduceEqDiff, Nat.reduceBEq, Int.reduceToNat, Int.reduceLT, Int.reduceLE, Int.reduceEq, Int.reduceNe, Int.reduceAdd, Int.reduceSub, Int.reduceMul, Int.reduceNeg, ↓reduceIte, reduceCtorEq, hw, pduRows_app, pduRows_one])
          refine fin _ _ hf1 hE1 (by simp) _ _ ?_ (.inr ⟨31, 0, rfl⟩)
          simp only [go_sem, Nat.reduceAdd, Nat.reduceSub, Nat.reduceMul, Nat.reduceLT, Nat.reduceLeDiff, Nat.reduceEqDiff, Nat.reduceBEq, Int.reduceToNat, Int.reduceLT, Int.reduceLE, Int.reduceEq, Int.reduceNe, Int.reduceAdd, Int.reduceSub, Int.reduceMul, Int.reduceNeg, ↓reduceIte, reduceCtorEq, endsSt]
        · have g3 : decide ((r1).st = 3) = false := by simp [h3]
          rw [g3] at cX
          (refine CallA.pure (cX) (by simp only [go_sem, Nat.reduceAdd, Nat.reduceSub, Nat.reduceMul, Nat.reduceLT, Nat.reduceLeDiff, Nat.reduceEqDiff, Nat.reduceBEq, Int.reduceToNat, Int.reduceLT, Int.reduceLE, Int.reduceEq, Int.reduceNe, Int.reduceAdd, Int.reduceSub, Int.reduceMul, Int.reduceNeg, ↓reduceIte, reduceCtorEq, Rcv.pv, hw, pduRows_app, pduRows_one] <;> first | rfl | decide) ?_; simp only [go_sem, Nat.reduceAdd, Nat.reduceSub, Nat.reduceMul, Nat.reduceLT, Nat.reduceLeDiff, Nat.reduceEqDiff, Nat.reduceBEq, Int.reduceToNat, Int.reduceLT, Int.reduceLE, Int.reduceEq, Int.reduceNe, Int.reduceAdd, Int.reduceSub, Int.reduceMul, Int.reduceNeg, ↓reduceIte, reduceCtorEq, Rcv.pv, hw, pduRows_app, pduRows_one])
          refine fin _ _ hf1 hE1 (by simp) _ _ ?_ (.inr ⟨31, 0, rfl⟩)
          simp only [go_sem, Nat.reduceAdd, Nat.reduceSub, Nat.reduceMul, Nat.reduceLT, Nat.reduceLeDiff, Nat.reduceEqDiff, Nat.reduceBEq, Int.reduceToNat, Int.reduceLT, Int.reduceLE, Int.reduceEq, Int.reduceNe, Int.reduceAdd, Int.reduceSub, Int.reduceMul, Int.reduceNeg, ↓reduceIte, reduceCtorEq, endsSt]
      have k1 : decide (o.p.k = 1) = false := by simp [hk1]
      by_cases hk2 : o.p.k = 2
      · have k1 : decide (o.p.k = 1) = false := by simp [hk1]
        have k2 : decide (o.p.k = 2) = true := by simp [hk2]
        rw [sinceR, if_pos (.inr hk2)] at hE1
        simp only [go_sem, Nat.reduceAdd, Nat.reduceSub, Nat.reduceMul, Nat.reduceLT, Nat.reduceLeDiff, Nat.reduceEqDiff, Nat.reduceBEq, Int.reduceToNat, Int.reduceLT, Int.reduceLE, Int.reduceEq, Int.reduceNe, Int.reduceAdd, Int.reduceSub, Int.reduceMul, Int.reduceNeg, ↓reduceIte, reduceCtorEq, k1, k2, f1', f0, Int.toNat_natCast, hrow, Op19.row]
        have cX := textT_calls r1
        by_cases h3 : (r1).st = 3
        · obtain ⟨hp1, hp2⟩ := (hE1).parts h3
          have g3 : decide ((r1).st = 3) = true := by simp [h3]
          rw [if_pos h3, g3] at cX
          have cP := partsR_calls (r1).got
          rw [hp1, hp2] at cP
          have cS := sameAll_self _ (show ([o.p]).length ≤ 100000 by first | (simp; done) | omega | (simp; omega))
          (refine CallA.pure (cX) (by simp only [go_sem, Nat.reduceAdd, Nat.reduceSub, Nat.reduceMul, Nat.reduceLT, Nat.reduceLeDiff, Nat.reduceEqDiff, Nat.reduceBEq, Int.reduceToNat, Int.reduceLT, Int.reduceLE, Int.reduceEq, Int.reduceNe, Int.reduceAdd, Int.reduceSub, Int.reduceMul, Int.reduceNeg, ↓reduceIte, reduceCtorEq, Rcv.pv] <;> first | rfl | decide) ?_; simp only [go_sem, Nat.reduceAdd, Nat.reduceSub, Nat.reduceMul, Nat.reduceLT, Nat.reduceLeDiff, Nat.reduceEqDiff, Nat.reduceBEq, Int.reduceToNat, Int.reduceLT, Int.reduceLE, Int.reduceEq, Int.reduceNe, Int.reduceAdd, Int.reduceSub, Int.reduceMul, Int.reduceNeg, ↓reduceIte, reduceCtorEq, Rcv.pv])
          (refine CallA.pure (cP) (by simp only [go_sem, Nat.reduceAdd, Nat.reduceSub, Nat.reduceMul, Nat.reduceLT, Nat.reduceLeDiff, Nat.reduceEqDiff, Nat.reduceBEq, Int.reduceToNat, Int.reduceLT, Int.reduceLE, Int.reduceEq, Int.reduceNe, Int.reduceAdd, Int.reduceSub, Int.reduceMul, Int.reduceNeg, ↓reduceIte, reduceCtorEq] <;> first | rfl | decide) ?_; simp only [go_sem, Nat.reduceAdd, Nat.reduceSub, Nat.reduceMul, Nat.reduceLT, Nat.reduceLeDiff, Nat.reduceEqDiff, Nat.reduceBEq, Int.reduceToNat, Int.reduceLT, Int.reduceLE, Int.reduceEq, Int.reduceNe, Int.reduceAdd, Int.reduceSub, Int.reduceMul, Int.reduceNeg, ↓reduceIte, reduceCtorEq])
          (refine CallA.pure (cS) (by simp only [go_sem, Nat.reduceAdd, Nat.reduceSub, Nat.reduceMul, Nat.reduceLT, Nat.reduceLeDiff, Nat.reduceEqDiff, Nat.reduceBEq, Int.reduceToNat, Int.reduceLT, Int.reduceLE, Int.reduceEq, Int.reduceNe, Int.reduceAdd, Int.reduceSub, Int.reduceMul, Int.reduceNeg, ↓reduceIte, reduceCtorEq, hw, pduRows_app, pduRows_one] <;> first | rfl | decide) ?_; simp only [go_sem, Nat.reduceAdd, Nat.reduceSub, Nat.reduceMul, Nat.reduceLT, Nat.reduceLeDiff, Nat.reduceEqDiff, Nat.reduceBEq, Int.reduceToNat, Int.reduceLT, Int.reduceLE, Int.reduceEq, Int.reduceNe, Int.reduceAdd, Int.reduceSub, Int.reduceMul, Int.reduceNeg, ↓reduceIte, reduceCtorEq, hw, pduRows_app, pduRows_one])
          refine fin _ _ hf1 hE1 (by simp) _ _ ?_ (.inr ⟨31, 0, rfl⟩)
          simp only [go_sem, Nat.reduceAdd, Nat.reduceSub, Nat.reduceMul, Nat.reduceLT, Nat.reduceLeDiff, Nat.reduceEqDiff, Nat.reduceBEq, Int.reduceToNat, Int.reduceLT, Int.reduceLE, Int.reduceEq, Int.reduceNe, Int.reduceAdd, Int.reduceSub, Int.reduceMul, Int.reduceNeg, ↓reduceIte, reduceCtorEq, endsSt]
        · have g3 : decide ((r1).st = 3) = false := by simp [h3]
          rw [g3] at cX
          (refine CallA.pure (cX) (by simp only [go_sem, Nat.reduceAdd, Nat.reduceSub, Nat.reduceMul, Nat.reduceLT, Nat.reduceLeDiff, Nat.reduceEqDiff, Nat.reduceBEq, Int.reduceToNat, Int.reduceLT, Int.reduceLE, Int.reduceEq, Int.reduceNe, Int.reduceAdd, Int.reduceSub, Int.reduceMul, Int.reduceNeg, ↓reduceIte, reduceCtorEq, Rcv.pv, hw, pduRows_app, pduRows_one] <;> first | rfl | decide) ?_; simp only [go_sem, Nat.reduceAdd, Nat.reduceSub, Nat.reduceMul, Nat.reduceLT, Nat.reduceLeDiff, Nat.reduceEqDiff, Nat.reduceBEq, Int.reduceToNat, Int.reduceLT, Int.reduceLE, Int.reduceEq, Int.reduceNe, Int.reduceAdd, Int.reduceSub, Int.reduceMul, Int.reduceNeg, ↓reduceIte, reduceCtorEq, Rcv.pv, hw, pduRows_app, pduRows_one])
          refine fin _ _ hf1 hE1 (by simp) _ _ ?_ (.inr ⟨31, 0, rfl⟩)
          simp only [go_sem, Nat.reduceAdd, Nat.reduceSub, Nat.reduceMul, Nat.reduceLT, Nat.reduceLeDiff, Nat.reduceEqDiff, Nat.reduceBEq, Int.reduceToNat, Int.reduceLT, Int.reduceLE, Int.reduceEq, Int.reduceNe, Int.reduceAdd, Int.reduceSub, Int.reduceMul, Int.reduceNeg, ↓reduceIte, reduceCtorEq, endsSt]
      have k2 : decide (o.p.k = 2) = false := by simp [hk2]
      rw [sinceR, if_neg (by simp [hk1, hk2])] at hE1
      by_cases hk3 : o.p.k = 3 ∧ r.st = 2
      · exact absurd rfl (hE.some hk3.2)
      rw [if_neg hk3] at hE1
      have k3 : (decide (o.p.k = 3) && decide (r.st = 2)) = false := by rw [← Bool.decide_and]; simpa using hk3
      by_cases hk4 : o.p.k = 3
      · have k4 : decide (o.p.k = 3) = true := by simp [hk4]
        have k5 : decide (r.st = 2) = false := by simp; exact fun h => hk3 ⟨hk4, h⟩
        simp only [go_sem, Nat.reduceAdd, Nat.reduceSub, Nat.reduceMul, Nat.reduceLT, Nat.reduceLeDiff, Nat.reduceEqDiff, Nat.reduceBEq, Int.reduceToNat, Int.reduceLT, Int.reduceLE, Int.reduceEq, Int.reduceNe, Int.reduceAdd, Int.reduceSub, Int.reduceMul, Int.reduceNeg, ↓reduceIte, reduceCtorEq, k1, k2, k4, k5, f1', f0, Int.toNat_natCast, hrow, Op19.row]
        have cX := textT_calls r1
        by_cases h3 : (r1).st = 3
        · have := (hE1).parts h3
          have hpl := partsL_ne this.2
          exact absurd this.1 hpl
        · have g3 : decide ((r1).st = 3) = false := by simp [h3]
          rw [g3] at cX
          (refine CallA.pure (cX) (by simp only [go_sem, Nat.reduceAdd, Nat.reduceSub, Nat.reduceMul, Nat.reduceLT, Nat.reduceLeDiff, Nat.reduceEqDiff, Nat.reduceBEq, Int.reduceToNat, Int.reduceLT, Int.reduceLE, Int.reduceEq, Int.reduceNe, Int.reduceAdd, Int.reduceSub, Int.reduceMul, Int.reduceNeg, ↓reduceIte, reduceCtorEq, Rcv.pv, hw, pduRows_app, pduRows_one] <;> first | rfl | decide) ?_; simp only [go_sem, Nat.reduceAdd, Nat.reduceSub, Nat.reduceMul, Nat.reduceLT, Nat.reduceLeDiff, Nat.reduceEqDiff, Nat.reduceBEq, Int.reduceToNat, Int.reduceLT, Int.reduceLE, Int.reduceEq, Int.reduceNe, Int.reduceAdd, Int.reduceSub, Int.reduceMul, Int.reduceNeg, ↓reduceIte, reduceCtorEq, Rcv.pv, hw, pduRows_app, pduRows_one])
          refine fin _ _ hf1 hE1 (by simp) _ _ ?_ (.inl ⟨rfl, rfl⟩)
          simp only [go_sem, Nat.reduceAdd, Nat.reduceSub, Nat.reduceMul, Nat.reduceLT, Nat.reduceLeDiff, Nat.reduceEqDiff, Nat.reduceBEq, Int.reduceToNat, Int.reduceLT, Int.reduceLE, Int.reduceEq, Int.reduceNe, Int.reduceAdd, Int.reduceSub, Int.reduceMul, Int.reduceNeg, ↓reduceIte, reduceCtorEq, endsSt]
      · have k4 : decide (o.p.k = 3) = false := by simp [hk4]
        simp only [go_sem, Nat.reduceAdd, Nat.reduceSub, Nat.reduceMul, Nat.reduceLT, Nat.reduceLeDiff, Nat.reduceEqDiff, Nat.reduceBEq, Int.reduceToNat, Int.reduceLT, Int.reduceLE, Int.reduceEq, Int.reduceNe, Int.reduceAdd, Int.reduceSub, Int.reduceMul, Int.reduceNeg, ↓reduceIte, reduceCtorEq, k1, k2, k4, f1', f0, Int.toNat_natCast, hrow, Op19.row]
        have cX := textT_calls r1
        by_cases h3 : (r1).st = 3
        · have := (hE1).parts h3
          have hpl := partsL_ne this.2
          exact absurd this.1 hpl
        · have g3 : decide ((r1).st = 3) = false := by simp [h3]
          rw [g3] at cX
          (refine CallA.pure (cX) (by simp only [go_sem, Nat.reduceAdd, Nat.reduceSub, Nat.reduceMul, Nat.reduceLT, Nat.reduceLeDiff, Nat.reduceEqDiff, Nat.reduceBEq, Int.reduceToNat, Int.reduceLT, Int.reduceLE, Int.reduceEq, Int.reduceNe, Int.reduceAdd, Int.reduceSub, Int.reduceMul, Int.reduceNeg, ↓reduceIte, reduceCtorEq, Rcv.pv, hw, pduRows_app, pduRows_one] <;> first | rfl | decide) ?_; simp only [go_sem, Nat.reduceAdd, Nat.reduceSub, Nat.reduceMul, Nat.reduceLT, Nat.reduceLeDiff, Nat.reduceEqDiff, Nat.reduceBEq, Int.reduceToNat, Int.reduceLT, Int.reduceLE, Int.reduceEq, Int.reduceNe, Int.reduceAdd, Int.reduceSub, Int.reduceMul, Int.reduceNeg, ↓reduceIte, reduceCtorEq, Rcv.pv, hw, pduRows_app, pduRows_one])
          refine fin _ _ hf1 hE1 (by simp) _ _ ?_ (.inl ⟨rfl, rfl⟩)
          simp only [go_sem, Nat.reduceAdd, Nat.reduceSub, Nat.reduceMul, Nat.reduceLT, Nat.reduceLeDiff, Nat.reduceEqDiff, Nat.reduceBEq, Int.reduceToNat, Int.reduceLT, Int.reduceLE, Int.reduceEq, Int.reduceNe, Int.reduceAdd, Int.reduceSub, Int.reduceMul, Int.reduceNeg, ↓reduceIte, reduceCtorEq, endsSt]
  · simp only [go_sem, Nat.reduceAdd, Nat.reduceSub, Nat.reduceMul, Nat.reduceLT, Nat.reduceLeDiff, Nat.reduceEqDiff, Nat.reduceBEq, Int.reduceToNat, Int.reduceLT, Int.reduceLE, Int.reduceEq, Int.reduceNe, Int.reduceAdd, Int.reduceSub, Int.reduceMul, Int.reduceNeg, ↓reduceIte, reduceCtorEq, endsSt, f1, f1', f0, Int.toNat_natCast, hrow, Op19.row, Nat.add_assoc, sy1 c, sy2 c, sy3 c, sy4 c, sy5 c, sy6 c, sy7 c, false_imp_iff, implies_true]
    by_cases hz : o.n.toNat = 0
    rotate_left 1
    · have g2 : decide ((o.n.toNat : Int) > 0) = true := by simp; omega
      have c1 := tickT_at r
      have hE1 := hE.tick
      have hf1 := fine_tick hrf
      generalize tickV r = r1 at c1 hE1 hf1
      simp only [go_sem, Nat.reduceAdd, Nat.reduceSub, Nat.reduceMul, Nat.reduceLT, Nat.reduceLeDiff, Nat.reduceEqDiff, Nat.reduceBEq, Int.reduceToNat, Int.reduceLT, Int.reduceLE, Int.reduceEq, Int.reduceNe, Int.reduceAdd, Int.reduceSub, Int.reduceMul, Int.reduceNeg, ↓reduceIte, reduceCtorEq, g2, Nat.add_assoc, sy1 c, sy2 c, sy3 c, sy4 c, sy5 c, sy6 c, sy7 c, false_imp_iff, implies_true]
      (refine CallA.pure (c1) (by simp only [go_sem, Nat.reduceAdd, Nat.reduceSub, Nat.reduceMul, Nat.reduceLT, Nat.reduceLeDiff, Nat.reduceEqDiff, Nat.reduceBEq, Int.reduceToNat, Int.reduceLT, Int.reduceLE, Int.reduceEq, Int.reduceNe, Int.reduceAdd, Int.reduceSub, Int.reduceMul, Int.reduceNeg, ↓reduceIte, reduceCtorEq, Rcv.pv, Nat.add_assoc, sy1 c, sy2 c, sy3 c, sy4 c, sy5 c, sy6 c, sy7 c, false_imp_iff, implies_true] <;> first | rfl | decide) ?_; simp only [go_sem, Nat.reduceAdd, Nat.reduceSub, Nat.reduceMul, Nat.reduceLT, Nat.reduceLeDiff, Nat.reduceEqDiff, Nat.reduceBEq, Int.reduceToNat, Int.reduceLT, Int.reduceLE, Int.reduceEq, Int.reduceNe, Int.reduceAdd, Int.reduceSub, Int.reduceMul, Int.reduceNeg, ↓reduceIte, reduceCtorEq, Rcv.pv, Nat.add_assoc, sy1 c, sy2 c, sy3 c, sy4 c, sy5 c, sy6 c, sy7 c, false_imp_iff, implies_true])
      have cX := textT_calls r1
      by_cases h3 : (r1).st = 3
      · obtain ⟨hp1, hp2⟩ := (hE1).parts h3
        have g3 : decide ((r1).st = 3) = true := by simp [h3]
        rw [if_pos h3, g3] at cX
        have cP := partsR_calls (r1).got
        rw [hp1, hp2] at cP
        have cS := sameAll_self _ (show (since).length ≤ 100000 by first | (simp; done) | omega | (simp; omega))
        (refine CallA.pure (cX) (by simp only [go_sem, Nat.reduceAdd, Nat.reduceSub, Nat.reduceMul, Nat.reduceLT, Nat.reduceLeDiff, Nat.reduceEqDiff, Nat.reduceBEq, Int.reduceToNat, Int.reduceLT, Int.reduceLE, Int.reduceEq, Int.reduceNe, Int.reduceAdd, Int.reduceSub, Int.reduceMul, Int.reduceNeg, ↓reduceIte, reduceCtorEq, Rcv.pv, Nat.add_assoc, sy1 c, sy2 c, sy3 c, sy4 c, sy5 c, sy6 c, sy7 c, false_imp_iff, implies_true] <;> first | rfl | decide) ?_; simp only [go_sem, Nat.reduceAdd, Nat.reduceSub, Nat.reduceMul, Nat.reduceLT, Nat.reduceLeDiff, Nat.reduceEqDiff, Nat.reduceBEq, Int.reduceToNat, Int.reduceLT, Int.reduceLE, Int.reduceEq, Int.reduceNe, Int.reduceAdd, Int.reduceSub, Int.reduceMul, Int.reduceNeg, ↓reduceIte, reduceCtorEq, Rcv.pv, Nat.add_assoc, sy1 c, sy2 c, sy3 c, sy4 c, sy5 c, sy6 c, sy7 c, false_imp_iff, implies_true])
        (refine CallA.pure (cP) (by simp only [go_sem, Nat.reduceAdd, Nat.reduceSub, Nat.reduceMul, Nat.reduceLT, Nat.reduceLeDiff, Nat.reduceEqDiff, Nat.reduceBEq, Int.reduceToNat, Int.reduceLT, Int.reduceLE, Int.reduceEq, Int.reduceNe, Int.reduceAdd, Int.reduceSub, Int.reduceMul, Int.reduceNeg, ↓reduceIte, reduceCtorEq, Nat.add_assoc, sy1 c, sy2 c, sy3 c, sy4 c, sy5 c, sy6 c, sy7 c, false_imp_iff, implies_true] <;> first | rfl | decide) ?_; simp only [go_sem, Nat.reduceAdd, Nat.reduceSub, Nat.reduceMul, Nat.reduceLT, Nat.reduceLeDiff, Nat.reduceEqDiff, Nat.reduceBEq, Int.reduceToNat, Int.reduceLT, Int.reduceLE, Int.reduceEq, Int.reduceNe, Int.reduceAdd, Int.reduceSub, Int.reduceMul, Int.reduceNeg, ↓reduceIte, reduceCtorEq, Nat.add_assoc, sy1 c, sy2 c, sy3 c, sy4 c, sy5 c, sy6 c, sy7 c, false_imp_iff, implies_true])
        (refine CallA.pure (cS) (by simp only [go_sem, Nat.reduceAdd, Nat.reduceSub, Nat.reduceMul, Nat.reduceLT, Nat.reduceLeDiff, Nat.reduceEqDiff, Nat.reduceBEq, Int.reduceToNat, Int.reduceLT, Int.reduceLE, Int.reduceEq, Int.reduceNe, Int.reduceAdd, Int.reduceSub, Int.reduceMul, Int.reduceNeg, ↓reduceIte, reduceCtorEq, hw, pduRows_app, pduRows_one, Nat.add_assoc, sy1 c, sy2 c, sy3 c, sy4 c, sy5 c, sy6 c, sy7 c, false_imp_iff, implies_true] <;> first | rfl | decide) ?_; simp only [go_sem, Nat.reduceAdd, Nat.reduceSub, Nat.reduceMul, Nat.reduceLT, Nat.reduceLeDiff, Nat.reduceEqDiff, Nat.reduceBEq, Int.reduceToNat, Int.reduceLT, Int.reduceLE, Int.reduceEq, Int.reduceNe, Int.reduceAdd, Int.reduceSub, Int.reduceMul, Int.reduceNeg, ↓reduceIte, reduceCtorEq, hw, pduRows_app, pduRows_one, Nat.add_assoc, sy1 c, sy2 c, sy3 c, sy4 c, sy5 c, sy6 c, sy7 c, false_imp_iff, implies_true])
        refine fin _ _ hf1 hE1 (by omega) _ _ ?_ (.inr ⟨c, ver, rfl⟩)
        simp only [go_sem, Nat.reduceAdd, Nat.reduceSub, Nat.reduceMul, Nat.reduceLT, Nat.reduceLeDiff, Nat.reduceEqDiff, Nat.reduceBEq, Int.reduceToNat, Int.reduceLT, Int.reduceLE, Int.reduceEq, Int.reduceNe, Int.reduceAdd, Int.reduceSub, Int.reduceMul, Int.reduceNeg, ↓reduceIte, reduceCtorEq, endsSt, Nat.add_assoc, sy1 c, sy2 c, sy3 c, sy4 c, sy5 c, sy6 c, sy7 c, false_imp_iff, implies_true]
      · have g3 : decide ((r1).st = 3) = false := by simp [h3]
        rw [g3] at cX
        (refine CallA.pure (cX) (by simp only [go_sem, Nat.reduceAdd, Nat.reduceSub, Nat.reduceMul, Nat.reduceLT, Nat.reduceLeDiff, Nat.reduceEqDiff, Nat.reduceBEq, Int.reduceToNat, Int.reduceLT, Int.reduceLE, Int.reduceEq, Int.reduceNe, Int.reduceAdd, Int.reduceSub, Int.reduceMul, Int.reduceNeg, ↓reduceIte, reduceCtorEq, Rcv.pv, hw, pduRows_app, pduRows_one, Nat.add_assoc, sy1 c, sy2 c, sy3 c, sy4 c, sy5 c, sy6 c, sy7 c, false_imp_iff, implies_true] <;> first | rfl | decide) ?_; simp only [go_sem, Nat.reduceAdd, Nat.reduceSub, Nat.reduceMul, Nat.reduceLT, Nat.reduceLeDiff, Nat.reduceEqDiff, Nat.reduceBEq, Int.reduceToNat, Int.reduceLT, Int.reduceLE, Int.reduceEq, Int.reduceNe, Int.reduceAdd, Int.reduceSub, Int.reduceMul, Int.reduceNeg, ↓reduceIte, reduceCtorEq, Rcv.pv, hw, pduRows_app, pduRows_one, Nat.add_assoc, sy1 c, sy2 c, sy3 c, sy4 c, sy5 c, sy6 c, sy7 c, false_imp_iff, implies_true])
        refine fin _ _ hf1 hE1 (by omega) _ _ ?_ (.inr ⟨c, ver, rfl⟩)
        simp only [go_sem, Nat.reduceAdd, Nat.reduceSub, Nat.reduceMul, Nat.reduceLT, Nat.reduceLeDiff, Nat.reduceEqDiff, Nat.reduceBEq, Int.reduceToNat, Int.reduceLT, Int.reduceLE, Int.reduceEq, Int.reduceNe, Int.reduceAdd, Int.reduceSub, Int.reduceMul, Int.reduceNeg, ↓reduceIte, reduceCtorEq, endsSt, Nat.add_assoc, sy1 c, sy2 c, sy3 c, sy4 c, sy5 c, sy6 c, sy7 c, false_imp_iff, implies_true]
    have g2 : decide ((o.n.toNat : Int) > 0) = false := by simp; omega
    have cQ := rightR_calls o.p
    simp only [go_sem, Nat.reduceAdd, Nat.reduceSub, Nat.reduceMul, Nat.reduceLT, Nat.reduceLeDiff, Nat.reduceEqDiff, Nat.reduceBEq, Int.reduceToNat, Int.reduceLT, Int.reduceLE, Int.reduceEq, Int.reduceNe, Int.reduceAdd, Int.reduceSub, Int.reduceMul, Int.reduceNeg, ↓reduceIte, reduceCtorEq, g2, f1', f0, Int.toNat_natCast, hrow, Op19.row, Nat.add_assoc, sy1 c, sy2 c, sy3 c, sy4 c, sy5 c, sy6 c, sy7 c, false_imp_iff, implies_true]
    cases hQ : o.p.right with
    | false =>
      rw [hQ] at cQ
      (refine CallA.pure (cQ) (by simp only [go_sem, Nat.reduceAdd, Nat.reduceSub, Nat.reduceMul, Nat.reduceLT, Nat.reduceLeDiff, Nat.reduceEqDiff, Nat.reduceBEq, Int.reduceToNat, Int.reduceLT, Int.reduceLE, Int.reduceEq, Int.reduceNe, Int.reduceAdd, Int.reduceSub, Int.reduceMul, Int.reduceNeg, ↓reduceIte, reduceCtorEq, Pdu.pv, Nat.add_assoc, sy1 c, sy2 c, sy3 c, sy4 c, sy5 c, sy6 c, sy7 c, false_imp_iff, implies_true] <;> first | rfl | decide) ?_; simp only [go_sem, Nat.reduceAdd, Nat.reduceSub, Nat.reduceMul, Nat.reduceLT, Nat.reduceLeDiff, Nat.reduceEqDiff, Nat.reduceBEq, Int.reduceToNat, Int.reduceLT, Int.reduceLE, Int.reduceEq, Int.reduceNe, Int.reduceAdd, Int.reduceSub, Int.reduceMul, Int.reduceNeg, ↓reduceIte, reduceCtorEq, Pdu.pv, Nat.add_assoc, sy1 c, sy2 c, sy3 c, sy4 c, sy5 c, sy6 c, sy7 c, false_imp_iff, implies_true])
      have cX := textT_calls r
      by_cases h3 : (r).st = 3
      · obtain ⟨hp1, hp2⟩ := (hE).parts h3
        have g3 : decide ((r).st = 3) = true := by simp [h3]
        rw [if_pos h3, g3] at cX
        have cP := partsR_calls (r).got
        rw [hp1, hp2] at cP
        have cS := sameAll_self _ (show (since).length ≤ 100000 by first | (simp; done) | omega | (simp; omega))
        (refine CallA.pure (cX) (by simp only [go_sem, Nat.reduceAdd, Nat.reduceSub, Nat.reduceMul, Nat.reduceLT, Nat.reduceLeDiff, Nat.reduceEqDiff, Nat.reduceBEq, Int.reduceToNat, Int.reduceLT, Int.reduceLE, Int.reduceEq, Int.reduceNe, Int.reduceAdd, Int.reduceSub, Int.reduceMul, Int.reduceNeg, ↓reduceIte, reduceCtorEq, Rcv.pv, Nat.add_assoc, sy1 c, sy2 c, sy3 c, sy4 c, sy5 c, sy6 c, sy7 c, false_imp_iff, implies_true] <;> first | rfl | decide) ?_; simp only [go_sem, Nat.reduceAdd, Nat.reduceSub, Nat.reduceMul, Nat.reduceLT, Nat.reduceLeDiff, Nat.reduceEqDiff, Nat.reduceBEq, Int.reduceToNat, Int.reduceLT, Int.reduceLE, Int.reduceEq, Int.reduceNe, Int.reduceAdd, Int.reduceSub, Int.reduceMul, Int.reduceNeg, ↓reduceIte, reduceCtorEq, Rcv.pv, Nat.add_assoc, sy1 c, sy2 c, sy3 c, sy4 c, sy5 c, sy6 c, sy7 c, false_imp_iff, implies_true])
        (refine CallA.pure (cP) (by simp only [go_sem, Nat.reduceAdd, Nat.reduceSub, Nat.reduceMul, Nat.reduceLT, Nat.reduceLeDiff, Nat.reduceEqDiff, Nat.reduceBEq, Int.reduceToNat, Int.reduceLT, Int.reduceLE, Int.reduceEq, Int.reduceNe, Int.reduceAdd, Int.reduceSub, Int.reduceMul, Int.reduceNeg, ↓reduceIte, reduceCtorEq, Nat.add_assoc, sy1 c, sy2 c, sy3 c, sy4 c, sy5 c, sy6 c, sy7 c, false_imp_iff, implies_true] <;> first | rfl | decide) ?_; simp only [go_sem, Nat.reduceAdd, Nat.reduceSub, Nat.reduceMul, Nat.reduceLT, Nat.reduceLeDiff, Nat.reduceEqDiff, Nat.reduceBEq, Int.reduceToNat, Int.reduceLT, Int.reduceLE, Int.reduceEq, Int.reduceNe, Int.reduceAdd, Int.reduceSub, Int.reduceMul, Int.reduceNeg, ↓reduceIte, reduceCtorEq, Nat.add_assoc, sy1 c, sy2 c, sy3 c, sy4 c, sy5 c, sy6 c, sy7 c, false_imp_iff, implies_true])
        (refine CallA.pure (cS) (by simp only [go_sem, Nat.reduceAdd, Nat.reduceSub, Nat.reduceMul, Nat.reduceLT, Nat.reduceLeDiff, Nat.reduceEqDiff, Nat.reduceBEq, Int.reduceToNat, Int.reduceLT, Int.reduceLE, Int.reduceEq, Int.reduceNe, Int.reduceAdd, Int.reduceSub, Int.reduceMul, Int.reduceNeg, ↓reduceIte, reduceCtorEq, hw, pduRows_app, pduRows_one, Nat.add_assoc, sy1 c, sy2 c, sy3 c, sy4 c, sy5 c, sy6 c, sy7 c, false_imp_iff, implies_true] <;> first | rfl | decide) ?_; simp only [go_sem, Nat.reduceAdd, Nat.reduceSub, Nat.reduceMul, Nat.reduceLT, Nat.reduceLeDiff, Nat.reduceEqDiff, Nat.reduceBEq, Int.reduceToNat, Int.reduceLT, Int.reduceLE, Int.reduceEq, Int.reduceNe, Int.reduceAdd, Int.reduceSub, Int.reduceMul, Int.reduceNeg, ↓reduceIte, reduceCtorEq, hw, pduRows_app, pduRows_one, Nat.add_assoc, sy1 c, sy2 c, sy3 c, sy4 c, sy5 c, sy6 c, sy7 c, false_imp_iff, implies_true])
        refine fin _ _ hrf hE (by omega) _ _ ?_ (.inr ⟨c, ver, rfl⟩)
        simp only [go_sem, Nat.reduceAdd, Nat.reduceSub, Nat.reduceMul, Nat.reduceLT, Nat.reduceLeDiff, Nat.reduceEqDiff, Nat.reduceBEq, Int.reduceToNat, Int.reduceLT, Int.reduceLE, Int.reduceEq, Int.reduceNe, Int.reduceAdd, Int.reduceSub, Int.reduceMul, Int.reduceNeg, ↓reduceIte, reduceCtorEq, endsSt, Nat.add_assoc, sy1 c, sy2 c, sy3 c, sy4 c, sy5 c, sy6 c, sy7 c, false_imp_iff, implies_true]
      · have g3 : decide ((r).st = 3) = false := by simp [h3]
        rw [g3] at cX
        (refine CallA.pure (cX) (by simp only [go_sem, Nat.reduceAdd, Nat.reduceSub, Nat.reduceMul, Nat.reduceLT, Nat.reduceLeDiff, Nat.reduceEqDiff, Nat.reduceBEq, Int.reduceToNat, Int.reduceLT, Int.reduceLE, Int.reduceEq, Int.reduceNe, Int.reduceAdd, Int.reduceSub, Int.reduceMul, Int.reduceNeg, ↓reduceIte, reduceCtorEq, Rcv.pv, hw, pduRows_app, pduRows_one, Nat.add_assoc, sy1 c, sy2 c, sy3 c, sy4 c, sy5 c, sy6 c, sy7 c, false_imp_iff, implies_true] <;> first | rfl | decide) ?_; simp only [go_sem, Nat.reduceAdd, Nat.reduceSub, Nat.reduceMul, Nat.reduceLT, Nat.reduceLeDiff, Nat.reduceEqDiff, Nat.reduceBEq, Int.reduceToNat, Int.reduceLT, Int.reduceLE, Int.reduceEq, Int.reduceNe, Int.reduceAdd, Int.reduceSub, Int.reduceMul, Int.reduceNeg, ↓reduceIte, reduceCtorEq, Rcv.pv, hw, pduRows_app, pduRows_one, Nat.add_assoc, sy1 c, sy2 c, sy3 c, sy4 c, sy5 c, sy6 c, sy7 c, false_imp_iff, implies_true])
        refine fin _ _ hrf hE (by omega) _ _ ?_ (.inr ⟨c, ver, rfl⟩)
        simp only [go_sem, Nat.reduceAdd, Nat.reduceSub, Nat.reduceMul, Nat.reduceLT, Nat.reduceLeDiff, Nat.reduceEqDiff, Nat.reduceBEq, Int.reduceToNat, Int.reduceLT, Int.reduceLE, Int.reduceEq, Int.reduceNe, Int.reduceAdd, Int.reduceSub, Int.reduceMul, Int.reduceNeg, ↓reduceIte, reduceCtorEq, endsSt, Nat.add_assoc, sy1 c, sy2 c, sy3 c, sy4 c, sy5 c, sy6 c, sy7 c, false_imp_iff, implies_true]
    | true =>
      rw [hQ] at cQ
      have c1 := takeT_calls r o.p hrf hQ
      have hE1 := hE.recv hQ
      have hf1 := fine_recv hrf hQ
      have hk := right_k hQ
      generalize recvV r o.p = x at c1 hE1 hf1
      obtain ⟨r1, q, bb⟩ := x
      simp only at c1 hE1 hf1
      (refine CallA.pure (cQ) (by simp only [go_sem, Nat.reduceAdd, Nat.reduceSub, Nat.reduceMul, Nat.reduceLT, Nat.reduceLeDiff, Nat.reduceEqDiff, Nat.reduceBEq, Int.reduceToNat, Int.reduceLT, Int.reduceLE, Int.reduceEq, Int.reduceNe, Int.reduceAdd, Int.reduceSub, Int.reduceMul, Int.reduceNeg, ↓reduceIte, reduceCtorEq, Pdu.pv, f1', f0, Int.toNat_natCast, hrow, Op19.row, Nat.add_assoc, sy1 c, sy2 c, sy3 c, sy4 c, sy5 c, sy6 c, sy7 c, false_imp_iff, implies_true] <;> first | rfl | decide) ?_; simp only [go_sem, Nat.reduceAdd, Nat.reduceSub, Nat.reduceMul, Nat.reduceLT, Nat.reduceLeDiff, Nat.reduceEqDiff, Nat.reduceBEq, Int.reduceToNat, Int.reduceLT, Int.reduceLE, Int.reduceEq, Int.reduceNe, Int.reduceAdd, Int.reduceSub, Int.reduceMul, Int.reduceNeg, ↓reduceIte, reduceCtorEq, Pdu.pv, f1', f0, Int.toNat_natCast, hrow, Op19.row, Nat.add_assoc, sy1 c, sy2 c, sy3 c, sy4 c, sy5 c, sy6 c, sy7 c, false_imp_iff, implies_true])
      (refine callD_pure (c1) (by simp only [go_sem, Nat.reduceAdd, Nat.reduceSub, Nat.reduceMul, Nat.reduceLT, Nat.reduceLeDiff, Nat.reduceEqDiff, Nat.reduceBEq, Int.reduceToNat, Int.reduceLT, Int.reduceLE, Int.reduceEq, Int.reduceNe, Int.reduceAdd, Int.reduceSub, Int.reduceMul, Int.reduceNeg, ↓reduceIte, reduceCtorEq, Rcv.pv, Pdu.pv, Nat.add_assoc, sy1 c, sy2 c, sy3 c, sy4 c, sy5 c, sy6 c, sy7 c, false_imp_iff, implies_true] <;> first | rfl | decide) ?_; simp only [go_sem, Nat.reduceAdd, Nat.reduceSub, Nat.reduceMul, Nat.reduceLT, Nat.reduceLeDiff, Nat.reduceEqDiff, Nat.reduceBEq, Int.reduceToNat, Int.reduceLT, Int.reduceLE, Int.reduceEq, Int.reduceNe, Int.reduceAdd, Int.reduceSub, Int.reduceMul, Int.reduceNeg, ↓reduceIte, reduceCtorEq, Rcv.pv, Pdu.pv, Nat.add_assoc, sy1 c, sy2 c, sy3 c, sy4 c, sy5 c, sy6 c, sy7 c, false_imp_iff, implies_true])
      (refine endD_intro (by kernel_rfl) ?_; simp only [go_sem, Nat.reduceAdd, Nat.reduceSub, Nat.reduceMul, Nat.reduceLT, Nat.reduceLeDiff, Nat.reduceEqDiff, Nat.reduceBEq, Int.reduceToNat, Int.reduceLT, Int.reduceLE, Int.reduceEq, Int.reduceNe, Int.reduceAdd, Int.reduceSub, Int.reduceMul, Int.reduceNeg, ↓reduceIte, reduceCtorEq, f1', f0, Int.toNat_natCast, hrow, Op19.row, Nat.add_assoc, sy1 c, sy2 c, sy3 c, sy4 c, sy5 c, sy6 c, sy7 c, false_imp_iff, implies_true])
      by_cases hk1 : o.p.k = 1
      · have k1 : decide (o.p.k = 1) = true := by simp [hk1]
        rw [sinceR, if_pos (.inl hk1)] at hE1
        simp only [go_sem, Nat.reduceAdd, Nat.reduceSub, Nat.reduceMul, Nat.reduceLT, Nat.reduceLeDiff, Nat.reduceEqDiff, Nat.reduceBEq, Int.reduceToNat, Int.reduceLT, Int.reduceLE, Int.reduceEq, Int.reduceNe, Int.reduceAdd, Int.reduceSub, Int.reduceMul, Int.reduceNeg, ↓reduceIte, reduceCtorEq, k1, f1', f0, Int.toNat_natCast, hrow, Op19.row, Nat.add_assoc, sy1 c, sy2 c, sy3 c, sy4 c, sy5 c, sy6 c, sy7 c, false_imp_iff, implies_true]
        have cX := textT_calls r1
        by_cases h3 : (r1).st = 3
        · obtain ⟨hp1, hp2⟩ := (hE1).parts h3
          have g3 : decide ((r1).st = 3) = true := by simp [h3]
          rw [if_pos h3, g3] at cX
          have cP := partsR_calls (r1).got
          rw [hp1, hp2] at cP
          have cS := sameAll_self _ (show ([o.p]).length ≤ 100000 by first | (simp; done) | omega | (simp; omega))
          (refine CallA.pure (cX) (by simp only [go_sem, Nat.reduceAdd, Nat.reduceSub, Nat.reduceMul, Nat.reduceLT, Nat.reduceLeDiff, Nat.reduceEqDiff, Nat.reduceBEq, Int.reduceToNat, Int.reduceLT, Int.reduceLE, Int.reduceEq, Int.reduceNe, Int.reduceAdd, Int.reduceSub, Int.reduceMul, Int.reduceNeg, ↓reduceIte, reduceCtorEq, Rcv.pv, Nat.add_assoc, sy1 c, sy2 c, sy3 c, sy4 c, sy5 c, sy6 c, sy7 c, false_imp_iff, implies_true] <;> first | rfl | decide) ?_; simp only [go_sem, Nat.reduceAdd, Nat.reduceSub, Nat.reduceMul, Nat.reduceLT, Nat.reduceLeDiff, Nat.reduceEqDiff, Nat.reduceBEq, Int.reduceToNat, Int.reduceLT, Int.reduceLE, Int.reduceEq, Int.reduceNe, Int.reduceAdd, Int.reduceSub, Int.reduceMul, Int.reduceNeg, ↓reduceIte, reduceCtorEq, Rcv.pv, Nat.add_assoc, sy1 c, sy2 c, sy3 c, sy4 c, sy5 c, sy6 c, sy7 c, false_imp_iff, implies_true])
          (refine CallA.pure (cP) (by simp only [go_sem, Nat.reduceAdd, Nat.reduceSub, Nat.reduceMul, Nat.reduceLT, Nat.reduceLeDiff, Nat.reduceEqDiff, Nat.reduceBEq, Int.reduceToNat, Int.reduceLT, Int.reduceLE, Int.reduceEq, Int.reduceNe, Int.reduceAdd, Int.reduceSub, Int.reduceMul, Int.reduceNeg, ↓reduceIte, reduceCtorEq, Nat.add_assoc, sy1 c, sy2 c, sy3 c, sy4 c, sy5 c, sy6 c, sy7 c, false_imp_iff, implies_true] <;> first | rfl | decide) ?_; simp only [go_sem, Nat.reduceAdd, Nat.reduceSub, Nat.reduceMul, Nat.reduceLT, Nat.reduceLeDiff, Nat.reduceEqDiff, Nat.reduceBEq, Int.reduceToNat, Int.reduceLT, Int.reduceLE, Int.reduceEq, Int.reduceNe, Int.reduceAdd, Int.reduceSub, Int.reduceMul, Int.reduceNeg, ↓reduceIte, reduceCtorEq, Nat.add_assoc, sy1 c, sy2 c, sy3 c, sy4 c, sy5 c, sy6 c, sy7 c, false_imp_iff, implies_true])
          (refine CallA.pure (cS) (by simp only [go_sem, Nat.reduceAdd, Nat.reduceSub, Nat.reduceMul, Nat.reduceLT, Nat.reduceLeDiff, Nat.reduceEqDiff, Nat.reduceBEq, Int.reduceToNat, Int.reduceLT, Int.reduceLE, Int.reduceEq, Int.reduceNe, Int.reduceAdd, Int.reduceSub, Int.reduceMul, Int.reduceNeg, ↓reduceIte, reduceCtorEq, hw, pduRows_app, pduRows_one, Nat.add_assoc, sy1 c, sy2 c, sy3 c, sy4 c, sy5 c, sy6 c, sy7 c, false_imp_iff, implies_true] <;> first | rfl | decide) ?_; simp only [go_sem, Nat.reduceAdd, Nat.reduceSub, Nat.reduceMul, Nat.reduceLT, Nat.reduceLeDiff, Nat.reduceEqDiff, Nat.reduceBEq, Int.reduceToNat, Int.reduceLT, Int.reduceLE, Int.reduceEq, Int.reduceNe, Int.reduceAdd, Int.reduceSub, Int.reduceMul, Int.reduceNeg, ↓reduceIte, reduceCtorEq, hw, pduRows_app, pduRows_one, Nat.add_assoc, sy1 c, sy2 c, sy3 c, sy4 c, sy5 c, sy6 c, sy7 c, false_imp_iff, implies_true])
          refine fin _ _ hf1 hE1 (by simp) _ _ ?_ (.inr ⟨c + 31, 0, rfl⟩)
          simp only [go_sem, Nat.reduceAdd, Nat.reduceSub, Nat.reduceMul, Nat.reduceLT, Nat.reduceLeDiff, Nat.reduceEqDiff, Nat.reduceBEq, Int.reduceToNat, Int.reduceLT, Int.reduceLE, Int.reduceEq, Int.reduceNe, Int.reduceAdd, Int.reduceSub, Int.reduceMul, Int.reduceNeg, ↓reduceIte, reduceCtorEq, endsSt, Nat.add_assoc, sy1 c, sy2 c, sy3 c, sy4 c, sy5 c, sy6 c, sy7 c, false_imp_iff, implies_true]
        · have g3 : decide ((r1).st = 3) = false := by simp [h3]
          rw [g3] at cX
          (refine CallA.pure (cX) (by simp only [go_sem, Nat.reduceAdd, Nat.reduceSub, Nat.reduceMul, Nat.reduceLT, Nat.reduceLeDiff, Nat.reduceEqDiff, Nat.reduceBEq, Int.reduceToNat, Int.reduceLT, Int.reduceLE, Int.reduceEq, Int.reduceNe, Int.reduceAdd, Int.reduceSub, Int.reduceMul, Int.reduceNeg, ↓reduceIte, reduceCtorEq, Rcv.pv, hw, pduRows_app, pduRows_one, Nat.add_assoc, sy1 c, sy2 c, sy3 c, sy4 c, sy5 c, sy6 c, sy7 c, false_imp_iff, implies_true] <;> first | rfl | decide) ?_; simp only [go_sem, Nat.reduceAdd, Nat.reduceSub, Nat.reduceMul, Nat.reduceLT, Nat.reduceLeDiff, Nat.reduceEqDiff, Nat.reduceBEq, Int.reduceToNat, Int.reduceLT, Int.reduceLE, Int.reduceEq, Int.reduceNe, Int.reduceAdd, Int.reduceSub, Int.reduceMul, Int.reduceNeg, ↓reduceIte, reduceCtorEq, Rcv.pv, hw, pduRows_app, pduRows_one, Nat.add_assoc, sy1 c, sy2 c, sy3 c, sy4 c, sy5 c, sy6 c, sy7 c, false_imp_iff, implies_true])
          refine fin _ _ hf1 hE1 (by simp) _ _ ?_ (.inr ⟨c + 31, 0, rfl⟩)
          simp only [go_sem, Nat.reduceAdd, Nat.reduceSub, Nat.reduceMul, Nat.reduceLT, Nat.reduceLeDiff, Nat.reduceEqDiff, Nat.reduceBEq, Int.reduceToNat, Int.reduceLT, Int.reduceLE, Int.reduceEq, Int.reduceNe, Int.reduceAdd, Int.reduceSub, Int.reduceMul, Int.reduceNeg, ↓reduceIte, reduceCtorEq, endsSt, Nat.add_assoc, sy1 c, sy2 c, sy3 c, sy4 c, sy5 c, sy6 c, sy7 c, false_imp_iff, implies_true]
      have k1 : decide (o.p.k = 1) = false := by simp [hk1]
      by_cases hk2 : o.p.k = 2
      · have k1 : decide (o.p.k = 1) = false := by simp [hk1]
        have k2 : decide (o.p.k = 2) = true := by simp [hk2]
        rw [sinceR, if_pos (.inr hk2)] at hE1
        simp only [go_sem, Nat.reduceAdd, Nat.reduceSub, Nat.reduceMul, Nat.reduceLT, Nat.reduceLeDiff, Nat.reduceEqDiff, Nat.reduceBEq, Int.reduceToNat, Int.reduceLT, Int.reduceLE, Int.reduceEq, Int.reduceNe, Int.reduceAdd, Int.reduceSub, Int.reduceMul, Int.reduceNeg, ↓reduceIte, reduceCtorEq, k1, k2, f1', f0, Int.toNat_natCast, hrow, Op19.row, Nat.add_assoc, sy1 c, sy2 c, sy3 c, sy4 c, sy5 c, sy6 c, sy7 c, false_imp_iff, implies_true]
        have cX := textT_calls r1
        by_cases h3 : (r1).st = 3
        · obtain ⟨hp1, hp2⟩ := (hE1).parts h3
          have g3 : decide ((r1).st = 3) = true := by simp [h3]
          rw [if_pos h3, g3] at cX
          have cP := partsR_calls (r1).got
          rw [hp1, hp2] at cP
          have cS := sameAll_self _ (show ([o.p]).length ≤ 100000 by first | (simp; done) | omega | (simp; omega))
          (refine CallA.pure (cX) (by simp only [go_sem, Nat.reduceAdd, Nat.reduceSub, Nat.reduceMul, Nat.reduceLT, Nat.reduceLeDiff, Nat.reduceEqDiff, Nat.reduceBEq, Int.reduceToNat, Int.reduceLT, Int.reduceLE, Int.reduceEq, Int.reduceNe, Int.reduceAdd, Int.reduceSub, Int.reduceMul, Int.reduceNeg, ↓reduceIte, reduceCtorEq, Rcv.pv, Nat.add_assoc, sy1 c, sy2 c, sy3 c, sy4 c, sy5 c, sy6 c, sy7 c, false_imp_iff, implies_true] <;> first | rfl | decide) ?_; simp only [go_sem, Nat.reduceAdd, Nat.reduceSub, Nat.reduceMul, Nat.reduceLT, Nat.reduceLeDiff, Nat.reduceEqDiff, Nat.reduceBEq, Int.reduceToNat, Int.reduceLT, Int.reduceLE, Int.reduceEq, Int.reduceNe, Int.reduceAdd, Int.reduceSub, Int.reduceMul, Int.reduceNeg, ↓reduceIte, reduceCtorEq, Rcv.pv, Nat.add_assoc, sy1 c, sy2 c, sy3 c, sy4 c, sy5 c, sy6 c, sy7 c, false_imp_iff, implies_true])
          (refine CallA.pure (cP) (by simp only [go_sem, Nat.reduceAdd, Nat.reduceSub, Nat.reduceMul, Nat.reduceLT, Nat.reduceLeDiff, Nat.reduceEqDiff, Nat.reduceBEq, Int.reduceToNat, Int.reduceLT, Int.reduceLE, Int.reduceEq, Int.reduceNe, Int.reduceAdd, Int.reduceSub, Int.reduceMul, Int.reduceNeg, ↓reduceIte, reduceCtorEq, Nat.add_assoc, sy1 c, sy2 c, sy3 c, sy4 c, sy5 c, sy6 c, sy7 c, false_imp_iff, implies_true] <;> first | rfl | decide) ?_; simp only [go_sem, Nat.reduceAdd, Nat.reduceSub, Nat.reduceMul, Nat.reduceLT, Nat.reduceLeDiff, Nat.reduceEqDiff, Nat.reduceBEq, Int.reduceToNat, Int.reduceLT, Int.reduceLE, Int.reduceEq, Int.reduceNe, Int.reduceAdd, Int.reduceSub, Int.reduceMul, Int.reduceNeg, ↓reduceIte, reduceCtorEq, Nat.add_assoc, sy1 c, sy2 c, sy3 c, sy4 c, sy5 c, sy6 c, sy7 c, false_imp_iff, implies_true])
          (refine CallA.pure (cS) (by simp only [go_sem, Nat.reduceAdd, Nat.reduceSub, Nat.reduceMul, Nat.reduceLT, Nat.reduceLeDiff, Nat.reduceEqDiff, Nat.reduceBEq, Int.reduceToNat, Int.reduceLT, Int.reduceLE, Int.reduceEq, Int.reduceNe, Int.reduceAdd, Int.reduceSub, Int.reduceMul, Int.reduceNeg, ↓reduceIte, reduceCtorEq, hw, pduRows_app, pduRows_one, Nat.add_assoc, sy1 c, sy2 c, sy3 c, sy4 c, sy5 c, sy6 c, sy7 c, false_imp_iff, implies_true] <;> first | rfl | decide) ?_; simp only [go_sem, Nat.reduceAdd, Nat.reduceSub, Nat.reduceMul, Nat.reduceLT, Nat.reduceLeDiff, Nat.reduceEqDiff, Nat.reduceBEq, Int.reduceToNat, Int.reduceLT, Int.reduceLE, Int.reduceEq, Int.reduceNe, Int.reduceAdd, Int.reduceSub, Int.reduceMul, Int.reduceNeg, ↓reduceIte, reduceCtorEq, hw, pduRows_app, pduRows_one, Nat.add_assoc, sy1 c, sy2 c, sy3 c, sy4 c, sy5 c, sy6 c, sy7 c, false_imp_iff, implies_true])
          refine fin _ _ hf1 hE1 (by simp) _ _ ?_ (.inr ⟨c + 31, 0, rfl⟩)
          simp only [go_sem, Nat.reduceAdd, Nat.reduceSub, Nat.reduceMul, Nat.reduceLT, Nat.reduceLeDiff, Nat.reduceEqDiff, Nat.reduceBEq, Int.reduceToNat, Int.reduceLT, Int.reduceLE, Int.reduceEq, Int.reduceNe, Int.reduceAdd, Int.reduceSub, Int.reduceMul, Int.reduceNeg, ↓reduceIte, reduceCtorEq, endsSt, Nat.add_assoc, sy1 c, sy2 c, sy3 c, sy4 c, sy5 c, sy6 c, sy7 c, false_imp_iff, implies_true]
        · have g3 : decide ((r1).st = 3) = false := by simp [h3]
          rw [g3] at cX
          (refine CallA.pure (cX) (by simp only [go_sem, Nat.reduceAdd, Nat.reduceSub, Nat.reduceMul, Nat.reduceLT, Nat.reduceLeDiff, Nat.reduceEqDiff, Nat.reduceBEq, Int.reduceToNat, Int.reduceLT, Int.reduceLE, Int.reduceEq, Int.reduceNe, Int.reduceAdd, Int.reduceSub, Int.reduceMul, Int.reduceNeg, ↓reduceIte, reduceCtorEq, Rcv.pv, hw, pduRows_app, pduRows_one, Nat.add_assoc, sy1 c, sy2 c, sy3 c, sy4 c, sy5 c, sy6 c, sy7 c, false_imp_iff, implies_true] <;> first | rfl | decide) ?_; simp only [go_sem, Nat.reduceAdd, Nat.reduceSub, Nat.reduceMul, Nat.reduceLT, Nat.reduceLeDiff, Nat.reduceEqDiff, Nat.reduceBEq, Int.reduceToNat, Int.reduceLT, Int.reduceLE, Int.reduceEq, Int.reduceNe, Int.reduceAdd, Int.reduceSub, Int.reduceMul, Int.reduceNeg, ↓reduceIte, reduceCtorEq, Rcv.pv, hw, pduRows_app, pduRows_one, Nat.add_assoc, sy1 c, sy2 c, sy3 c, sy4 c, sy5 c, sy6 c, sy7 c, false_imp_iff, implies_true])
          refine fin _ _ hf1 hE1 (by simp) _ _ ?_ (.inr ⟨c + 31, 0, rfl⟩)
          simp only [go_sem, Nat.reduceAdd, Nat.reduceSub, Nat.reduceMul, Nat.reduceLT, Nat.reduceLeDiff, Nat.reduceEqDiff, Nat.reduceBEq, Int.reduceToNat, Int.reduceLT, Int.reduceLE, Int.reduceEq, Int.reduceNe, Int.reduceAdd, Int.reduceSub, Int.reduceMul, Int.reduceNeg, ↓reduceIte, reduceCtorEq, endsSt, Nat.add_assoc, sy1 c, sy2 c, sy3 c, sy4 c, sy5 c, sy6 c, sy7 c, false_imp_iff, implies_true]
      have k2 : decide (o.p.k = 2) = false := by simp [hk2]
      rw [sinceR, if_neg (by simp [hk1, hk2])] at hE1
      by_cases hk3 : o.p.k = 3 ∧ r.st = 2
      · have k3 : decide (o.p.k = 3) = true := by simp [hk3.1]
        have k4 : decide (r.st = 2) = true := by simp [hk3.2]
        rw [if_pos hk3] at hE1
        simp only [go_sem, Nat.reduceAdd, Nat.reduceSub, Nat.reduceMul, Nat.reduceLT, Nat.reduceLeDiff, Nat.reduceEqDiff, Nat.reduceBEq, Int.reduceToNat, Int.reduceLT, Int.reduceLE, Int.reduceEq, Int.reduceNe, Int.reduceAdd, Int.reduceSub, Int.reduceMul, Int.reduceNeg, ↓reduceIte, reduceCtorEq, k1, k2, k3, k4, f1', f0, Int.toNat_natCast, hrow, Op19.row, Nat.add_assoc, sy1 c, sy2 c, sy3 c, sy4 c, sy5 c, sy6 c, sy7 c, false_imp_iff, implies_true]
        have hlen1 : (since ++ [o.p]).length ≤ i + 1 := by simp; omega
        refine ⟨?_, ?_⟩
        · constructor <;> omega
        rw [pduRows_app]
        have cX := textT_calls r1
        by_cases h3 : (r1).st = 3
        · obtain ⟨hp1, hp2⟩ := (hE1).parts h3
          have g3 : decide ((r1).st = 3) = true := by simp [h3]
          rw [if_pos h3, g3] at cX
          have cP := partsR_calls (r1).got
          rw [hp1, hp2] at cP
          have cS := sameAll_self _ (show (since ++ [o.p]).length ≤ 100000 by first | (simp; done) | omega | (simp; omega))
          (refine CallA.pure (cX) (by simp only [go_sem, Nat.reduceAdd, Nat.reduceSub, Nat.reduceMul, Nat.reduceLT, Nat.reduceLeDiff, Nat.reduceEqDiff, Nat.reduceBEq, Int.reduceToNat, Int.reduceLT, Int.reduceLE, Int.reduceEq, Int.reduceNe, Int.reduceAdd, Int.reduceSub, Int.reduceMul, Int.reduceNeg, ↓reduceIte, reduceCtorEq, Rcv.pv, Nat.add_assoc, sy1 c, sy2 c, sy3 c, sy4 c, sy5 c, sy6 c, sy7 c, false_imp_iff, implies_true] <;> first | rfl | decide) ?_; simp only [go_sem, Nat.reduceAdd, Nat.reduceSub, Nat.reduceMul, Nat.reduceLT, Nat.reduceLeDiff, Nat.reduceEqDiff, Nat.reduceBEq, Int.reduceToNat, Int.reduceLT, Int.reduceLE, Int.reduceEq, Int.reduceNe, Int.reduceAdd, Int.reduceSub, Int.reduceMul, Int.reduceNeg, ↓reduceIte, reduceCtorEq, Rcv.pv, Nat.add_assoc, sy1 c, sy2 c, sy3 c, sy4 c, sy5 c, sy6 c, sy7 c, false_imp_iff, implies_true])
          (refine CallA.pure (cP) (by simp only [go_sem, Nat.reduceAdd, Nat.reduceSub, Nat.reduceMul, Nat.reduceLT, Nat.reduceLeDiff, Nat.reduceEqDiff, Nat.reduceBEq, Int.reduceToNat, Int.reduceLT, Int.reduceLE, Int.reduceEq, Int.reduceNe, Int.reduceAdd, Int.reduceSub, Int.reduceMul, Int.reduceNeg, ↓reduceIte, reduceCtorEq, Nat.add_assoc, sy1 c, sy2 c, sy3 c, sy4 c, sy5 c, sy6 c, sy7 c, false_imp_iff, implies_true] <;> first | rfl | decide) ?_; simp only [go_sem, Nat.reduceAdd, Nat.reduceSub, Nat.reduceMul, Nat.reduceLT, Nat.reduceLeDiff, Nat.reduceEqDiff, Nat.reduceBEq, Int.reduceToNat, Int.reduceLT, Int.reduceLE, Int.reduceEq, Int.reduceNe, Int.reduceAdd, Int.reduceSub, Int.reduceMul, Int.reduceNeg, ↓reduceIte, reduceCtorEq, Nat.add_assoc, sy1 c, sy2 c, sy3 c, sy4 c, sy5 c, sy6 c, sy7 c, false_imp_iff, implies_true])
          (refine CallA.pure (cS) (by simp only [go_sem, Nat.reduceAdd, Nat.reduceSub, Nat.reduceMul, Nat.reduceLT, Nat.reduceLeDiff, Nat.reduceEqDiff, Nat.reduceBEq, Int.reduceToNat, Int.reduceLT, Int.reduceLE, Int.reduceEq, Int.reduceNe, Int.reduceAdd, Int.reduceSub, Int.reduceMul, Int.reduceNeg, ↓reduceIte, reduceCtorEq, hw, pduRows_app, pduRows_one, Nat.add_assoc, sy1 c, sy2 c, sy3 c, sy4 c, sy5 c, sy6 c, sy7 c, false_imp_iff, implies_true] <;> first | rfl | decide) ?_; simp only [go_sem, Nat.reduceAdd, Nat.reduceSub, Nat.reduceMul, Nat.reduceLT, Nat.reduceLeDiff, Nat.reduceEqDiff, Nat.reduceBEq, Int.reduceToNat, Int.reduceLT, Int.reduceLE, Int.reduceEq, Int.reduceNe, Int.reduceAdd, Int.reduceSub, Int.reduceMul, Int.reduceNeg, ↓reduceIte, reduceCtorEq, hw, pduRows_app, pduRows_one, Nat.add_assoc, sy1 c, sy2 c, sy3 c, sy4 c, sy5 c, sy6 c, sy7 c, false_imp_iff, implies_true])
          refine fin _ _ hf1 hE1 hlen1 _ _ ?_ (.inr ⟨c, ver + 1, rfl⟩)
          simp only [go_sem, Nat.reduceAdd, Nat.reduceSub, Nat.reduceMul, Nat.reduceLT, Nat.reduceLeDiff, Nat.reduceEqDiff, Nat.reduceBEq, Int.reduceToNat, Int.reduceLT, Int.reduceLE, Int.reduceEq, Int.reduceNe, Int.reduceAdd, Int.reduceSub, Int.reduceMul, Int.reduceNeg, ↓reduceIte, reduceCtorEq, endsSt, Nat.add_assoc, sy1 c, sy2 c, sy3 c, sy4 c, sy5 c, sy6 c, sy7 c, false_imp_iff, implies_true]
        · have g3 : decide ((r1).st = 3) = false := by simp [h3]
          rw [g3] at cX
          (refine CallA.pure (cX) (by simp only [go_sem, Nat.reduceAdd, Nat.reduceSub, Nat.reduceMul, Nat.reduceLT, Nat.reduceLeDiff, Nat.reduceEqDiff, Nat.reduceBEq, Int.reduceToNat, Int.reduceLT, Int.reduceLE, Int.reduceEq, Int.reduceNe, Int.reduceAdd, Int.reduceSub, Int.reduceMul, Int.reduceNeg, ↓reduceIte, reduceCtorEq, Rcv.pv, hw, pduRows_app, pduRows_one, Nat.add_assoc, sy1 c, sy2 c, sy3 c, sy4 c, sy5 c, sy6 c, sy7 c, false_imp_iff, implies_true] <;> first | rfl | decide) ?_; simp only [go_sem, Nat.reduceAdd, Nat.reduceSub, Nat.reduceMul, Nat.reduceLT, Nat.reduceLeDiff, Nat.reduceEqDiff, Nat.reduceBEq, Int.reduceToNat, Int.reduceLT, Int.reduceLE, Int.reduceEq, Int.reduceNe, Int.reduceAdd, Int.reduceSub, Int.reduceMul, Int.reduceNeg, ↓reduceIte, reduceCtorEq, Rcv.pv, hw, pduRows_app, pduRows_one, Nat.add_assoc, sy1 c, sy2 c, sy3 c, sy4 c, sy5 c, sy6 c, sy7 c, false_imp_iff, implies_true])
          refine fin _ _ hf1 hE1 hlen1 _ _ ?_ (.inr ⟨c, ver + 1, rfl⟩)
          simp only [go_sem, Nat.reduceAdd, Nat.reduceSub, Nat.reduceMul, Nat.reduceLT, Nat.reduceLeDiff, Nat.reduceEqDiff, Nat.reduceBEq, Int.reduceToNat, Int.reduceLT, Int.reduceLE, Int.reduceEq, Int.reduceNe, Int.reduceAdd, Int.reduceSub, Int.reduceMul, Int.reduceNeg, ↓reduceIte, reduceCtorEq, endsSt, Nat.add_assoc, sy1 c, sy2 c, sy3 c, sy4 c, sy5 c, sy6 c, sy7 c, false_imp_iff, implies_true]
      rw [if_neg hk3] at hE1
      have k3 : (decide (o.p.k = 3) && decide (r.st = 2)) = false := by rw [← Bool.decide_and]; simpa using hk3
      by_cases hk4 : o.p.k = 3
      · have k4 : decide (o.p.k = 3) = true := by simp [hk4]
        have k5 : decide (r.st = 2) = false := by simp; exact fun h => hk3 ⟨hk4, h⟩
        simp only [go_sem, Nat.reduceAdd, Nat.reduceSub, Nat.reduceMul, Nat.reduceLT, Nat.reduceLeDiff, Nat.reduceEqDiff, Nat.reduceBEq, Int.reduceToNat, Int.reduceLT, Int.reduceLE, Int.reduceEq, Int.reduceNe, Int.reduceAdd, Int.reduceSub, Int.reduceMul, Int.reduceNeg, ↓reduceIte, reduceCtorEq, k1, k2, k4, k5, f1', f0, Int.toNat_natCast, hrow, Op19.row, Nat.add_assoc, sy1 c, sy2 c, sy3 c, sy4 c, sy5 c, sy6 c, sy7 c, false_imp_iff, implies_true]
        have cX := textT_calls r1
        by_cases h3 : (r1).st = 3
        · obtain ⟨hp1, hp2⟩ := (hE1).parts h3
          have g3 : decide ((r1).st = 3) = true := by simp [h3]
          rw [if_pos h3, g3] at cX
          have cP := partsR_calls (r1).got
          rw [hp1, hp2] at cP
          have cS := sameAll_self _ (show (since).length ≤ 100000 by first | (simp; done) | omega | (simp; omega))
          (refine CallA.pure (cX) (by simp only [go_sem, Nat.reduceAdd, Nat.reduceSub, Nat.reduceMul, Nat.reduceLT, Nat.reduceLeDiff, Nat.reduceEqDiff, Nat.reduceBEq, Int.reduceToNat, Int.reduceLT, Int.reduceLE, Int.reduceEq, Int.reduceNe, Int.reduceAdd, Int.reduceSub, Int.reduceMul, Int.reduceNeg, ↓reduceIte, reduceCtorEq, Rcv.pv, Nat.add_assoc, sy1 c, sy2 c, sy3 c, sy4 c, sy5 c, sy6 c, sy7 c, false_imp_iff, implies_true] <;> first | rfl | decide) ?_; simp only [go_sem, Nat.reduceAdd, Nat.reduceSub, Nat.reduceMul, Nat.reduceLT, Nat.reduceLeDiff, Nat.reduceEqDiff, Nat.reduceBEq, Int.reduceToNat, Int.reduceLT, Int.reduceLE, Int.reduceEq, Int.reduceNe, Int.reduceAdd, Int.reduceSub, Int.reduceMul, Int.reduceNeg, ↓reduceIte, reduceCtorEq, Rcv.pv, Nat.add_assoc, sy1 c, sy2 c, sy3 c, sy4 c, sy5 c, sy6 c, sy7 c, false_imp_iff, implies_true])
          (refine CallA.pure (cP) (by simp only [go_sem, Nat.reduceAdd, Nat.reduceSub, Nat.reduceMul, Nat.reduceLT, Nat.reduceLeDiff, Nat.reduceEqDiff, Nat.reduceBEq, Int.reduceToNat, Int.reduceLT, Int.reduceLE, Int.reduceEq, Int.reduceNe, Int.reduceAdd, Int.reduceSub, Int.reduceMul, Int.reduceNeg, ↓reduceIte, reduceCtorEq, Nat.add_assoc, sy1 c, sy2 c, sy3 c, sy4 c, sy5 c, sy6 c, sy7 c, false_imp_iff, implies_true] <;> first | rfl | decide) ?_; simp only [go_sem, Nat.reduceAdd, Nat.reduceSub, Nat.reduceMul, Nat.reduceLT, Nat.reduceLeDiff, Nat.reduceEqDiff, Nat.reduceBEq, Int.reduceToNat, Int.reduceLT, Int.reduceLE, Int.reduceEq, Int.reduceNe, Int.reduceAdd, Int.reduceSub, Int.reduceMul, Int.reduceNeg, ↓reduceIte, reduceCtorEq, Nat.add_assoc, sy1 c, sy2 c, sy3 c, sy4 c, sy5 c, sy6 c, sy7 c, false_imp_iff, implies_true])
          (refine CallA.pure (cS) (by simp only [go_sem, Nat.reduceAdd, Nat.reduceSub, Nat.reduceMul, Nat.reduceLT, Nat.reduceLeDiff, Nat.reduceEqDiff, Nat.reduceBEq, Int.reduceToNat, Int.reduceLT, Int.reduceLE, Int.reduceEq, Int.reduceNe, Int.reduceAdd, Int.reduceSub, Int.reduceMul, Int.reduceNeg, ↓reduceIte, reduceCtorEq, hw, pduRows_app, pduRows_one, Nat.add_assoc, sy1 c, sy2 c, sy3 c, sy4 c, sy5 c, sy6 c, sy7 c, false_imp_iff, implies_true] <;> first | rfl | decide) ?_; simp only [go_sem, Nat.reduceAdd, Nat.reduceSub, Nat.reduceMul, Nat.reduceLT, Nat.reduceLeDiff, Nat.reduceEqDiff, Nat.reduceBEq, Int.reduceToNat, Int.reduceLT, Int.reduceLE, Int.reduceEq, Int.reduceNe, Int.reduceAdd, Int.reduceSub, Int.reduceMul, Int.reduceNeg, ↓reduceIte, reduceCtorEq, hw, pduRows_app, pduRows_one, Nat.add_assoc, sy1 c, sy2 c, sy3 c, sy4 c, sy5 c, sy6 c, sy7 c, false_imp_iff, implies_true])
          refine fin _ _ hf1 hE1 (by omega) _ _ ?_ (.inr ⟨c, ver, rfl⟩)
          simp only [go_sem, Nat.reduceAdd, Nat.reduceSub, Nat.reduceMul, Nat.reduceLT, Nat.reduceLeDiff, Nat.reduceEqDiff, Nat.reduceBEq, Int.reduceToNat, Int.reduceLT, Int.reduceLE, Int.reduceEq, Int.reduceNe, Int.reduceAdd, Int.reduceSub, Int.reduceMul, Int.reduceNeg, ↓reduceIte, reduceCtorEq, endsSt, Nat.add_assoc, sy1 c, sy2 c, sy3 c, sy4 c, sy5 c, sy6 c, sy7 c, false_imp_iff, implies_true]
        · have g3 : decide ((r1).st = 3) = false := by simp [h3]
          rw [g3] at cX
          (refine CallA.pure (cX) (by simp only [go_sem, Nat.reduceAdd, Nat.reduceSub, Nat.reduceMul, Nat.reduceLT, Nat.reduceLeDiff, Nat.reduceEqDiff, Nat.reduceBEq, Int.reduceToNat, Int.reduceLT, Int.reduceLE, Int.reduceEq, Int.reduceNe, Int.reduceAdd, Int.reduceSub, Int.reduceMul, Int.reduceNeg, ↓reduceIte, reduceCtorEq, Rcv.pv, hw, pduRows_app, pduRows_one, Nat.add_assoc, sy1 c, sy2 c, sy3 c, sy4 c, sy5 c, sy6 c, sy7 c, false_imp_iff, implies_true] <;> first | rfl | decide) ?_; simp only [go_sem, Nat.reduceAdd, Nat.reduceSub, Nat.reduceMul, Nat.reduceLT, Nat.reduceLeDiff, Nat.reduceEqDiff, Nat.reduceBEq, Int.reduceToNat, Int.reduceLT, Int.reduceLE, Int.reduceEq, Int.reduceNe, Int.reduceAdd, Int.reduceSub, Int.reduceMul, Int.reduceNeg, ↓reduceIte, reduceCtorEq, Rcv.pv, hw, pduRows_app, pduRows_one, Nat.add_assoc, sy1 c, sy2 c, sy3 c, sy4 c, sy5 c, sy6 c, sy7 c, false_imp_iff, implies_true])
          refine fin _ _ hf1 hE1 (by omega) _ _ ?_ (.inr ⟨c, ver, rfl⟩)
          simp only [go_sem, Nat.reduceAdd, Nat.reduceSub, Nat.reduceMul, Nat.reduceLT, Nat.reduceLeDiff, Nat.reduceEqDiff, Nat.reduceBEq, Int.reduceToNat, Int.reduceLT, Int.reduceLE, Int.reduceEq, Int.reduceNe, Int.reduceAdd, Int.reduceSub, Int.reduceMul, Int.reduceNeg, ↓reduceIte, reduceCtorEq, endsSt, Nat.add_assoc, sy1 c, sy2 c, sy3 c, sy4 c, sy5 c, sy6 c, sy7 c, false_imp_iff, implies_true]
      · have k4 : decide (o.p.k = 3) = false := by simp [hk4]
        simp only [go_sem, Nat.reduceAdd, Nat.reduceSub, Nat.reduceMul, Nat.reduceLT, Nat.reduceLeDiff, Nat.reduceEqDiff, Nat.reduceBEq, Int.reduceToNat, Int.reduceLT, Int.reduceLE, Int.reduceEq, Int.reduceNe, Int.reduceAdd, Int.reduceSub, Int.reduceMul, Int.reduceNeg, ↓reduceIte, reduceCtorEq, k1, k2, k4, f1', f0, Int.toNat_natCast, hrow, Op19.row, Nat.add_assoc, sy1 c, sy2 c, sy3 c, sy4 c, sy5 c, sy6 c, sy7 c, false_imp_iff, implies_true]
        have cX := textT_calls r1
        by_cases h3 : (r1).st = 3
        · obtain ⟨hp1, hp2⟩ := (hE1).parts h3
          have g3 : decide ((r1).st = 3) = true := by simp [h3]
          rw [if_pos h3, g3] at cX
          have cP := partsR_calls (r1).got
          rw [hp1, hp2] at cP
          have cS := sameAll_self _ (show (since).length ≤ 100000 by first | (simp; done) | omega | (simp; omega))
          (refine CallA.pure (cX) (by simp only [go_sem, Nat.reduceAdd, Nat.reduceSub, Nat.reduceMul, Nat.reduceLT, Nat.reduceLeDiff, Nat.reduceEqDiff, Nat.reduceBEq, Int.reduceToNat, Int.reduceLT, Int.reduceLE, Int.reduceEq, Int.reduceNe, Int.reduceAdd, Int.reduceSub, Int.reduceMul, Int.reduceNeg, ↓reduceIte, reduceCtorEq, Rcv.pv, Nat.add_assoc, sy1 c, sy2 c, sy3 c, sy4 c, sy5 c, sy6 c, sy7 c, false_imp_iff, implies_true] <;> first | rfl | decide) ?_; simp only [go_sem, Nat.reduceAdd, Nat.reduceSub, Nat.reduceMul, Nat.reduceLT, Nat.reduceLeDiff, Nat.reduceEqDiff, Nat.reduceBEq, Int.reduceToNat, Int.reduceLT, Int.reduceLE, Int.reduceEq, Int.reduceNe, Int.reduceAdd, Int.reduceSub, Int.reduceMul, Int.reduceNeg, ↓reduceIte, reduceCtorEq, Rcv.pv, Nat.add_assoc, sy1 c, sy2 c, sy3 c, sy4 c, sy5 c, sy6 c, sy7 c, false_imp_iff, implies_true])
          (refine CallA.pure (cP) (by simp only [go_sem, Nat.reduceAdd, Nat.reduceSub, Nat.reduceMul, Nat.reduceLT, Nat.reduceLeDiff, Nat.reduceEqDiff, Nat.reduceBEq, Int.reduceToNat, Int.reduceLT, Int.reduceLE, Int.reduceEq, Int.reduceNe, Int.reduceAdd, Int.reduceSub, Int.reduceMul, Int.reduceNeg, ↓reduceIte, reduceCtorEq, Nat.add_assoc, sy1 c, sy2 c, sy3 c, sy4 c, sy5 c, sy6 c, sy7 c, false_imp_iff, implies_true] <;> first | rfl | decide) ?_; simp only [go_sem, Nat.reduceAdd, Nat.reduceSub, Nat.reduceMul, Nat.reduceLT, Nat.reduceLeDiff, Nat.reduceEqDiff, Nat.reduceBEq, Int.reduceToNat, Int.reduceLT, Int.reduceLE, Int.reduceEq, Int.reduceNe, Int.reduceAdd, Int.reduceSub, Int.reduceMul, Int.reduceNeg, ↓reduceIte, reduceCtorEq, Nat.add_assoc, sy1 c, sy2 c, sy3 c, sy4 c, sy5 c, sy6 c, sy7 c, false_imp_iff, implies_true])
          (refine CallA.pure (cS) (by simp only [go_sem, Nat.reduceAdd, Nat.reduceSub, Nat.reduceMul, Nat.reduceLT, Nat.reduceLeDiff, Nat.reduceEqDiff, Nat.reduceBEq, Int.reduceToNat, Int.reduceLT, Int.reduceLE, Int.reduceEq, Int.reduceNe, Int.reduceAdd, Int.reduceSub, Int.reduceMul, Int.reduceNeg, ↓reduceIte, reduceCtorEq, hw, pduRows_app, pduRows_one, Nat.add_assoc, sy1 c, sy2 c, sy3 c, sy4 c, sy5 c, sy6 c, sy7 c, false_imp_iff, implies_true] <;> first | rfl | decide) ?_; simp only [go_sem, Nat.reduceAdd, Nat.reduceSub, Nat.reduceMul, Nat.reduceLT, Nat.reduceLeDiff, Nat.reduceEqDiff, Nat.reduceBEq, Int.reduceToNat, Int.reduceLT, Int.reduceLE, Int.reduceEq, Int.reduceNe, Int.reduceAdd, Int.reduceSub, Int.reduceMul, Int.reduceNeg, ↓reduceIte, reduceCtorEq, hw, pduRows_app, pduRows_one, Nat.add_assoc, sy1 c, sy2 c, sy3 c, sy4 c, sy5 c, sy6 c, sy7 c, false_imp_iff, implies_true])
          refine fin _ _ hf1 hE1 (by omega) _ _ ?_ (.inr ⟨c, ver, rfl⟩)
          simp only [go_sem, Nat.reduceAdd, Nat.reduceSub, Nat.reduceMul, Nat.reduceLT, Nat.reduceLeDiff, Nat.reduceEqDiff, Nat.reduceBEq, Int.reduceToNat, Int.reduceLT, Int.reduceLE, Int.reduceEq, Int.reduceNe, Int.reduceAdd, Int.reduceSub, Int.reduceMul, Int.reduceNeg, ↓reduceIte, reduceCtorEq, endsSt, Nat.add_assoc, sy1 c, sy2 c, sy3 c, sy4 c, sy5 c, sy6 c, sy7 c, false_imp_iff, implies_true]
        · have g3 : decide ((r1).st = 3) = false := by simp [h3]
          rw [g3] at cX
          (refine CallA.pure (cX) (by simp only [go_sem, Nat.reduceAdd, Nat.reduceSub, Nat.reduceMul, Nat.reduceLT, Nat.reduceLeDiff, Nat.reduceEqDiff, Nat.reduceBEq, Int.reduceToNat, Int.reduceLT, Int.reduceLE, Int.reduceEq, Int.reduceNe, Int.reduceAdd, Int.reduceSub, Int.reduceMul, Int.reduceNeg, ↓reduceIte, reduceCtorEq, Rcv.pv, hw, pduRows_app, pduRows_one, Nat.add_assoc, sy1 c, sy2 c, sy3 c, sy4 c, sy5 c, sy6 c, sy7 c, false_imp_iff, implies_true] <;> first | rfl | decide) ?_; simp only [go_sem, Nat.reduceAdd, Nat.reduceSub, Nat.reduceMul, Nat.reduceLT, Nat.reduceLeDiff, Nat.reduceEqDiff, Nat.reduceBEq, Int.reduceToNat, Int.reduceLT, Int.reduceLE, Int.reduceEq, Int.reduceNe, Int.reduceAdd, Int.reduceSub, Int.reduceMul, Int.reduceNeg, ↓reduceIte, reduceCtorEq, Rcv.pv, hw, pduRows_app, pduRows_one, Nat.add_assoc, sy1 c, sy2 c, sy3 c, sy4 c, sy5 c, sy6 c, sy7 c, false_imp_iff, implies_true])
          refine fin _ _ hf1 hE1 (by omega) _ _ ?_ (.inr ⟨c, ver, rfl⟩)
          simp only [go_sem, Nat.reduceAdd, Nat.reduceSub, Nat.reduceMul, Nat.reduceLT, Nat.reduceLeDiff, Nat.reduceEqDiff, Nat.reduceBEq, Int.reduceToNat, Int.reduceLT, Int.reduceLE, Int.reduceEq, Int.reduceNe, Int.reduceAdd, Int.reduceSub, Int.reduceMul, Int.reduceNeg, ↓reduceIte, reduceCtorEq, endsSt, Nat.add_assoc, sy1 c, sy2 c, sy3 c, sy4 c, sy5 c, sy6 c, sy7 c, false_imp_iff, implies_true]
end Go.Proofs.Ytpnhnobnjcknjaa.Pe
