import Derived.Test.YtpnhnobnjcknjaaD9
namespace Go.Proofs.Ytpnhnobnjcknjaa.Pe
open Go.Pe Go.RowKit
set_option maxRecDepth 20000
set_option maxHeartbeats 4000000
set_option linter.unusedSimpArgs false
set_option linter.unusedVariables false

theorem fail_num {t : List UInt8} {j : Nat} {r : Rcv} {p : Pdu} (h : RAt t j r) (hj : 1 ≤ j) (hn : j < partsN t) (hp : p.k = 3) (hne : p.n ≠ ((j % 16 : Nat) : Int)) : recvV r p = (failR r 183, Pdu.none, false) := by
  have h7 : 7 < t.length := by unfold partsN at hn; split at hn <;> omega
  have hst : r.st = 2 := by rw [h.st, if_neg (by omega)]
  have hnum := h.num h7
  rw [recvV, if_neg (by omega), if_neg (by omega), if_pos ⟨hp, hst⟩, nextV, if_pos (.inl (by rw [hnum]; exact hne))]
def LAt (t : List UInt8) (bl : Int) (k h i : Nat) (r : Rcv) : Prop :=
  (i = 0 ∧ r = freshR 4095 bl 0) ∨ (1 ≤ i ∧ i ≤ k ∧ RAt t i r) ∨
  (k < i ∧ ((h = 0 ∧ i = k + 1 ∧ RAt t k r) ∨ (h = 2 ∧ k + 1 = partsN t ∧ RAt t (partsN t) r) ∨ (¬ (h = 2 ∧ k + 1 = partsN t) ∧ r.st = 4 ∧ r.err = 183)))
theorem part_num {t : List UInt8} (h1 : t.length ≤ 4095) {i : Nat} (hi : 1 ≤ i) (hn : i < partsN t) {p : Pdu} (hp : (partsL t)[i]? = some p) : p.k = 3 ∧ p.n = ((i % 16 : Nat) : Int) := by
  have h7 : 7 < t.length := by unfold partsN at hn; split at hn <;> omega
  have := (parts_long h7 h1).2.2 i hi hn
  rw [this] at hp
  simp only [Option.some.injEq] at hp
  subst hp
  exact ⟨rfl, rfl⟩
theorem lost_other {t : List UInt8} (h0 : 1 ≤ t.length) (h1 : t.length ≤ 4095) {bl : Int} {k h i : Nat} {r : Rcv} (hk : 1 ≤ k) (hkN : k < partsN t) (hL : LAt t bl k h i r) (hi : i < partsN t) (hik : i ≠ k) {p : Pdu} (hp : (partsL t)[i]? = some p) :
    ∃ r' a b, recvV r p = (r', a, b) ∧ LAt t bl k h (i + 1) r' := by
  rcases hL with ⟨rfl, rfl⟩ | ⟨hi1, hi2, hR⟩ | ⟨hki, hL⟩
  · obtain ⟨r', a, q1, q2, _⟩ := RAt.first h0 h1 (r := freshR 4095 bl 0) (show (t.length : Int) ≤ 4095 by omega)
    rw [hp] at q1
    exact ⟨_, _, _, q1, .inr (.inl ⟨by omega, by omega, q2⟩)⟩
  · obtain ⟨r', a, b, q1, q2, _⟩ := hR.step h1 hi1 hi
    rw [hp] at q1
    exact ⟨_, _, _, q1, .inr (.inl ⟨by omega, by omega, q2⟩)⟩
  · obtain ⟨w1, w2⟩ := part_num h1 (by omega) hi hp
    rcases hL with ⟨rfl, rfl, hR⟩ | ⟨rfl, hl, hR⟩ | ⟨hne, hst, herr⟩
    · refine ⟨_, _, _, fail_num hR hk hkN w1 (by rw [w2]; omega), .inr (.inr ⟨by omega, .inr (.inr ⟨by omega, rfl, rfl⟩)⟩)⟩
    · omega
    · exact ⟨_, _, _, recv_other w1 (by omega), .inr (.inr ⟨by omega, .inr (.inr ⟨hne, hst, herr⟩)⟩)⟩
theorem LAt.at {t : List UInt8} {bl : Int} {k h : Nat} {r : Rcv} (hk : 1 ≤ k) (hL : LAt t bl k h k r) : RAt t k r := by
  rcases hL with ⟨h', _⟩ | ⟨_, _, h'⟩ | ⟨h', _⟩
  · omega
  · exact h'
  · omega
theorem lost_again {t : List UInt8} (h1 : t.length ≤ 4095) {bl : Int} {k : Nat} {r : Rcv} (hk : 1 ≤ k) (hkN : k < partsN t) (hR : RAt t k r) {p : Pdu} (hp : (partsL t)[k]? = some p) :
    ∃ r' a b r'', recvV r p = (r', a, b) ∧ recvV r' p = (r'', Pdu.none, false) ∧ LAt t bl k 2 (k + 1) r'' ∧ (r'.st = 3 → r''.st = 3) := by
  obtain ⟨r', a, b, q1, q2, _⟩ := hR.step h1 hk hkN
  rw [hp] at q1
  obtain ⟨w1, w2⟩ := part_num h1 hk hkN hp
  by_cases he : k + 1 = partsN t
  · have hst : r'.st = 3 := by rw [q2.st, if_pos he]
    exact ⟨r', a, b, r', q1, recv_other w1 (by omega), .inr (.inr ⟨by omega, .inr (.inl ⟨rfl, he, by rw [← he]; exact q2⟩)⟩), fun h => h⟩
  · have hst : r'.st = 2 := by rw [q2.st, if_neg he]
    refine ⟨r', a, b, failR r' 183, q1, fail_num q2 (by omega) (by omega) w1 (by rw [w2]; omega), .inr (.inr ⟨by omega, .inr (.inr ⟨by omega, rfl, rfl⟩)⟩), fun h => by omega⟩
def lostSt (t : List UInt8) (hw bl : UInt8) (k : Nat) (r : Rcv) (i : Nat) : St := ⟨160, [(2, U8 hw), (9, PB true), (10, .im 7 (pduRows (partsL t))), (12, PI k), (13, .ptr 0 0), (14, PI i)], [(0, .box 29 r.cells)], 20, 0⟩
def lostI (t : List UInt8) (hw bl : UInt8) (k : Nat) (m : Nat) (st : St) : Prop := ∃ (i : Nat) (r : Rcv), i ≤ partsN t ∧ m = partsN t - i ∧ r.fine ∧ LAt t bl.toNat k (hw.toNat % 3) i r ∧ st = lostSt t hw bl k r i
theorem lost_calls (t : List UInt8) (at' : UInt16) (hw bl : UInt8) : PureCalls Try.prog 6 [bytesPV t, U16 at', U8 hw, U8 bl] (PB true) := by
  refine PureCalls.of tabOK mixed Try.func6 rfl rfl (by decide +kernel) (by simp [Try.ntmps6]) ?_
  have cP := partsR_calls t
  simp only [go_sem, Nat.reduceAdd, Nat.reduceSub, Nat.reduceMul, Nat.reduceLT, Nat.reduceLeDiff, Nat.reduceEqDiff, Nat.reduceBEq, Int.reduceToNat, Int.reduceLT, Int.reduceLE, Int.reduceEq, Int.reduceNe, Int.reduceAdd, Int.reduceSub, Int.reduceMul, Int.reduceNeg, ↓reduceIte, reduceCtorEq, Try.ntmps6, Try.results6]
  (refine CallA.pure (head19_calls) (by simp only [go_sem, Nat.reduceAdd, Nat.reduceSub, Nat.reduceMul, Nat.reduceLT, Nat.reduceLeDiff, Nat.reduceEqDiff, Nat.reduceBEq, Int.reduceToNat, Int.reduceLT, Int.reduceLE, Int.reduceEq, Int.reduceNe, Int.reduceAdd, Int.reduceSub, Int.reduceMul, Int.reduceNeg, ↓reduceIte, reduceCtorEq] <;> first | rfl | decide) ?_; simp only [go_sem, Nat.reduceAdd, Nat.reduceSub, Nat.reduceMul, Nat.reduceLT, Nat.reduceLeDiff, Nat.reduceEqDiff, Nat.reduceBEq, Int.reduceToNat, Int.reduceLT, Int.reduceLE, Int.reduceEq, Int.reduceNe, Int.reduceAdd, Int.reduceSub, Int.reduceMul, Int.reduceNeg, ↓reduceIte, reduceCtorEq])
  (refine CallA.pure (cP) (by simp only [go_sem, Nat.reduceAdd, Nat.reduceSub, Nat.reduceMul, Nat.reduceLT, Nat.reduceLeDiff, Nat.reduceEqDiff, Nat.reduceBEq, Int.reduceToNat, Int.reduceLT, Int.reduceLE, Int.reduceEq, Int.reduceNe, Int.reduceAdd, Int.reduceSub, Int.reduceMul, Int.reduceNeg, ↓reduceIte, reduceCtorEq] <;> first | rfl | decide) ?_; simp only [go_sem, Nat.reduceAdd, Nat.reduceSub, Nat.reduceMul, Nat.reduceLT, Nat.reduceLeDiff, Nat.reduceEqDiff, Nat.reduceBEq, Int.reduceToNat, Int.reduceLT, Int.reduceLE, Int.reduceEq, Int.reduceNe, Int.reduceAdd, Int.reduceSub, Int.reduceMul, Int.reduceNeg, ↓reduceIte, reduceCtorEq])
  by_cases hl : t.length > 1000
  · have f : decide ((t.length : Int) > 1000) = true := by simp; omega
    simp only [go_sem, Nat.reduceAdd, Nat.reduceSub, Nat.reduceMul, Nat.reduceLT, Nat.reduceLeDiff, Nat.reduceEqDiff, Nat.reduceBEq, Int.reduceToNat, Int.reduceLT, Int.reduceLE, Int.reduceEq, Int.reduceNe, Int.reduceAdd, Int.reduceSub, Int.reduceMul, Int.reduceNeg, ↓reduceIte, reduceCtorEq, f, Try.ntmps6, Try.results6]
  have f : decide ((t.length : Int) > 1000) = false := by simp; omega
  by_cases h0 : t.length = 0
  · have e : partsB t = false := by simp [partsB, h0]
    simp only [go_sem, Nat.reduceAdd, Nat.reduceSub, Nat.reduceMul, Nat.reduceLT, Nat.reduceLeDiff, Nat.reduceEqDiff, Nat.reduceBEq, Int.reduceToNat, Int.reduceLT, Int.reduceLE, Int.reduceEq, Int.reduceNe, Int.reduceAdd, Int.reduceSub, Int.reduceMul, Int.reduceNeg, ↓reduceIte, reduceCtorEq, f, e, Try.ntmps6, Try.results6]
  have e : partsB t = true := partsB_true h0 (by omega)
  have hlen := parts_len (t := t) (by omega) (by omega)
  by_cases h7 : t.length ≤ 7
  · have f2 : decide (((partsL t).length : Int) < 2) = true := by rw [hlen, partsN, if_pos h7]; rfl
    simp only [go_sem, Nat.reduceAdd, Nat.reduceSub, Nat.reduceMul, Nat.reduceLT, Nat.reduceLeDiff, Nat.reduceEqDiff, Nat.reduceBEq, Int.reduceToNat, Int.reduceLT, Int.reduceLE, Int.reduceEq, Int.reduceNe, Int.reduceAdd, Int.reduceSub, Int.reduceMul, Int.reduceNeg, ↓reduceIte, reduceCtorEq, f, e, f2, Try.ntmps6, Try.results6]
  have hN : 2 ≤ partsN t := by unfold partsN; split <;> omega
  have hN1 : partsN t ≤ 1000 := by unfold partsN; split <;> omega
  have f2 : decide (((partsL t).length : Int) < 2) = false := by simp; omega
  have hat : (at'.toNat : Int) < 65536 := by have := at'.toNat_lt; omega
  have w1 : IntKind.wrap .i64 (at'.toNat : Int) = at'.toNat := wrapI64 (by omega)
  have w2 : IntKind.wrap .i64 (((partsL t).length : Int) - 1) = ((partsN t - 1 : Nat) : Int) := by rw [wrapI64 (by omega)]; omega
  have w3 : (at'.toNat : Int).tmod ((partsN t - 1 : Nat) : Int) = ((at'.toNat % (partsN t - 1) : Nat) : Int) := rfl
  have hmod := Nat.mod_lt at'.toNat (show 0 < partsN t - 1 by omega)
  have w4 : IntKind.wrap .i64 (1 + ((at'.toNat % (partsN t - 1) : Nat) : Int)) = ((1 + at'.toNat % (partsN t - 1) : Nat) : Int) := by rw [wrapI64 (by omega)]; omega
  have w5 : ¬ (((partsN t - 1 : Nat) : Int) = 0) := by omega
  obtain ⟨k, hk⟩ : ∃ k, 1 + at'.toNat % (partsN t - 1) = k := ⟨_, rfl⟩
  have hk1 : 1 ≤ k := by omega
  have hkN : k < partsN t := by omega
  rw [hk] at w4
  have cF := fresh_at 4095 4095 bl 0 rfl
  have hz : (((0 : UInt8).toNat : Int)).tmod 128 = 0 := rfl
  rw [hz] at cF
  have hf := fresh_fine 4095 0 bl
  simp only [go_sem, Nat.reduceAdd, Nat.reduceSub, Nat.reduceMul, Nat.reduceLT, Nat.reduceLeDiff, Nat.reduceEqDiff, Nat.reduceBEq, Int.reduceToNat, Int.reduceLT, Int.reduceLE, Int.reduceEq, Int.reduceNe, Int.reduceAdd, Int.reduceSub, Int.reduceMul, Int.reduceNeg, ↓reduceIte, reduceCtorEq, f, e, f2, w1, w2, w3, w4, w5]
  (refine CallA.pure (cF) (by simp only [go_sem, Nat.reduceAdd, Nat.reduceSub, Nat.reduceMul, Nat.reduceLT, Nat.reduceLeDiff, Nat.reduceEqDiff, Nat.reduceBEq, Int.reduceToNat, Int.reduceLT, Int.reduceLE, Int.reduceEq, Int.reduceNe, Int.reduceAdd, Int.reduceSub, Int.reduceMul, Int.reduceNeg, ↓reduceIte, reduceCtorEq, freshR, Rcv.pv] <;> first | rfl | decide) ?_; simp only [go_sem, Nat.reduceAdd, Nat.reduceSub, Nat.reduceMul, Nat.reduceLT, Nat.reduceLeDiff, Nat.reduceEqDiff, Nat.reduceBEq, Int.reduceToNat, Int.reduceLT, Int.reduceLE, Int.reduceEq, Int.reduceNe, Int.reduceAdd, Int.reduceSub, Int.reduceMul, Int.reduceNeg, ↓reduceIte, reduceCtorEq, freshR, Rcv.pv])
  refine wpA_loop (lostI t hw bl k) ⟨_, _, ?_, 0, freshR 4095 bl.toNat 0, by omega, rfl, hf, .inl ⟨rfl, rfl⟩, rfl⟩ ?_
  · simp only [go_sem, Nat.reduceAdd, Nat.reduceSub, Nat.reduceMul, Nat.reduceLT, Nat.reduceLeDiff, Nat.reduceEqDiff, Nat.reduceBEq, Int.reduceToNat, Int.reduceLT, Int.reduceLE, Int.reduceEq, Int.reduceNe, Int.reduceAdd, Int.reduceSub, Int.reduceMul, Int.reduceNeg, ↓reduceIte, reduceCtorEq, lostSt, freshR, Int.natCast_zero]
  clear cF hf w1 w3 w4 w5
  rintro m st ⟨i, r, hi, rfl, hrf, hL, rfl⟩
  have hm3 : (hw.toNat : Int).tmod 3 = ((hw.toNat % 3 : Nat) : Int) := rfl
  generalize hhe : hw.toNat % 3 = h at hm3 hL
  have hh3 : h < 3 := by omega
  by_cases hc : i < partsN t
  · have f1 : decide ((i : Int) < ((partsL t).length : Int)) = true := by simp; omega
    have f1' : (i : Int) < ((partsL t).length : Int) := by omega
    have f0 : (0 : Int) ≤ (i : Int) := by omega
    have hw' := wrapIN (i := i) (by omega)
    obtain ⟨pi, hpi⟩ : ∃ pi : Pdu, (partsL t)[i]? = some pi := ⟨_, List.getElem?_eq_getElem (by omega)⟩
    have hpr := parts_right (t := t) (by omega) (by omega) pi (List.mem_of_getElem? hpi)
    have hrow : (pduRows (partsL t)).getD i [] = pi.cells := by simp [pduRows, List.getD_eq_getElem?_getD, hpi]
    have fin : ∀ r', r'.fine → LAt t bl.toNat k h (i + 1) r' → ∀ st', Weak st' (lostSt t hw bl k r' (i + 1)) → ∃ m' s'', m' < partsN t - i ∧ Weak st' s'' ∧ lostI t hw bl k m' s'' :=
      fun r' hr' hL' st' h' => ⟨partsN t - (i + 1), _, by omega, h', i + 1, r', by omega, rfl, hr', by rw [hhe]; exact hL', rfl⟩
    by_cases hik : i = k
    rotate_left 1
    · have g1 : decide ((i : Int) = (k : Int)) = false := by simp; omega
      obtain ⟨r', a, b, q1, q2⟩ := lost_other (by omega) (by omega) hk1 hkN hL hc hik hpi
      have hr' : r'.fine := by have := fine_recv hrf (p := pi) hpr; rw [q1] at this; exact this
      have cT := takeT_at q1 hrf hpr
      simp only [go_sem, Nat.reduceAdd, Nat.reduceSub, Nat.reduceMul, Nat.reduceLT, Nat.reduceLeDiff, Nat.reduceEqDiff, Nat.reduceBEq, Int.reduceToNat, Int.reduceLT, Int.reduceLE, Int.reduceEq, Int.reduceNe, Int.reduceAdd, Int.reduceSub, Int.reduceMul, Int.reduceNeg, ↓reduceIte, reduceCtorEq, lostSt, f1, f1', f0, Int.toNat_natCast, hrow, g1]
      (refine CallA.pure (cT) (by simp only [go_sem, Nat.reduceAdd, Nat.reduceSub, Nat.reduceMul, Nat.reduceLT, Nat.reduceLeDiff, Nat.reduceEqDiff, Nat.reduceBEq, Int.reduceToNat, Int.reduceLT, Int.reduceLE, Int.reduceEq, Int.reduceNe, Int.reduceAdd, Int.reduceSub, Int.reduceMul, Int.reduceNeg, ↓reduceIte, reduceCtorEq, Rcv.pv, Pdu.pv, hw', g1] <;> first | rfl | decide) ?_; simp only [go_sem, Nat.reduceAdd, Nat.reduceSub, Nat.reduceMul, Nat.reduceLT, Nat.reduceLeDiff, Nat.reduceEqDiff, Nat.reduceBEq, Int.reduceToNat, Int.reduceLT, Int.reduceLE, Int.reduceEq, Int.reduceNe, Int.reduceAdd, Int.reduceSub, Int.reduceMul, Int.reduceNeg, ↓reduceIte, reduceCtorEq, Rcv.pv, Pdu.pv, hw', g1])
      refine fin r' hr' q2 _ ?_
      simp only [go_sem, Nat.reduceAdd, Nat.reduceSub, Nat.reduceMul, Nat.reduceLT, Nat.reduceLeDiff, Nat.reduceEqDiff, Nat.reduceBEq, Int.reduceToNat, Int.reduceLT, Int.reduceLE, Int.reduceEq, Int.reduceNe, Int.reduceAdd, Int.reduceSub, Int.reduceMul, Int.reduceNeg, ↓reduceIte, reduceCtorEq, lostSt]
    · have g1 : decide ((i : Int) = (k : Int)) = true := by simp; omega
      rw [hik] at hpi hL
      have hR := hL.at hk1
      obtain ⟨n1, n2⟩ := part_num (by omega) hk1 hkN hpi
      have hrange : h = 0 ∨ h = 1 ∨ h = 2 := by omega
      rcases hrange with rfl | rfl | rfl
      · simp only [go_sem, Nat.reduceAdd, Nat.reduceSub, Nat.reduceMul, Nat.reduceLT, Nat.reduceLeDiff, Nat.reduceEqDiff, Nat.reduceBEq, Int.reduceToNat, Int.reduceLT, Int.reduceLE, Int.reduceEq, Int.reduceNe, Int.reduceAdd, Int.reduceSub, Int.reduceMul, Int.reduceNeg, ↓reduceIte, reduceCtorEq, lostSt, f1, f1', f0, Int.toNat_natCast, hrow, g1, hm3, hw']
        refine fin r hrf (by rw [hik]; exact .inr (.inr ⟨by omega, .inl ⟨rfl, rfl, hR⟩⟩)) _ ?_
        simp only [go_sem, Nat.reduceAdd, Nat.reduceSub, Nat.reduceMul, Nat.reduceLT, Nat.reduceLeDiff, Nat.reduceEqDiff, Nat.reduceBEq, Int.reduceToNat, Int.reduceLT, Int.reduceLE, Int.reduceEq, Int.reduceNe, Int.reduceAdd, Int.reduceSub, Int.reduceMul, Int.reduceNeg, ↓reduceIte, reduceCtorEq, lostSt]
      · have hmm : (pi.n + 1).tmod 16 = (((k + 1) % 16 : Nat) : Int) := by
          rw [n2, show ((k % 16 : Nat) : Int) + 1 = ((k % 16 + 1 : Nat) : Int) by omega]
          show (((k % 16 + 1) % 16 : Nat) : Int) = _
          omega
        have hp2r : ({ pi with n := (pi.n + 1).tmod 16 } : Pdu).right = true := by
          rw [hmm]
          have hr0 := hpr
          unfold Pdu.right at hr0 ⊢
          simp only [n1] at hr0 ⊢
          simp [z4] at hr0 ⊢
          omega
        have q1 := fail_num (p := { pi with n := (pi.n + 1).tmod 16 }) hR hk1 hkN n1 (by rw [hmm]; show (((k + 1) % 16 : Nat) : Int) ≠ ((k % 16 : Nat) : Int); omega)
        have cT := takeT_at q1 hrf hp2r
        have wn : IntKind.wrap .i64 (pi.n + 1) = pi.n + 1 := wrapI64 (by rw [n2]; omega)
        simp only [go_sem, Nat.reduceAdd, Nat.reduceSub, Nat.reduceMul, Nat.reduceLT, Nat.reduceLeDiff, Nat.reduceEqDiff, Nat.reduceBEq, Int.reduceToNat, Int.reduceLT, Int.reduceLE, Int.reduceEq, Int.reduceNe, Int.reduceAdd, Int.reduceSub, Int.reduceMul, Int.reduceNeg, ↓reduceIte, reduceCtorEq, lostSt, f1, f1', f0, Int.toNat_natCast, hrow, g1, hm3, hw', wn]
        (refine CallA.pure (cT) (by simp only [go_sem, Nat.reduceAdd, Nat.reduceSub, Nat.reduceMul, Nat.reduceLT, Nat.reduceLeDiff, Nat.reduceEqDiff, Nat.reduceBEq, Int.reduceToNat, Int.reduceLT, Int.reduceLE, Int.reduceEq, Int.reduceNe, Int.reduceAdd, Int.reduceSub, Int.reduceMul, Int.reduceNeg, ↓reduceIte, reduceCtorEq, Rcv.pv, Pdu.pv, Pdu.none, hw', g1, hm3] <;> first | rfl | decide) ?_; simp only [go_sem, Nat.reduceAdd, Nat.reduceSub, Nat.reduceMul, Nat.reduceLT, Nat.reduceLeDiff, Nat.reduceEqDiff, Nat.reduceBEq, Int.reduceToNat, Int.reduceLT, Int.reduceLE, Int.reduceEq, Int.reduceNe, Int.reduceAdd, Int.reduceSub, Int.reduceMul, Int.reduceNeg, ↓reduceIte, reduceCtorEq, Rcv.pv, Pdu.pv, Pdu.none, hw', g1, hm3])
        refine fin (failR r 183) hrf (by rw [hik]; exact .inr (.inr ⟨by omega, .inr (.inr ⟨by omega, rfl, rfl⟩)⟩)) _ ?_
        simp only [go_sem, Nat.reduceAdd, Nat.reduceSub, Nat.reduceMul, Nat.reduceLT, Nat.reduceLeDiff, Nat.reduceEqDiff, Nat.reduceBEq, Int.reduceToNat, Int.reduceLT, Int.reduceLE, Int.reduceEq, Int.reduceNe, Int.reduceAdd, Int.reduceSub, Int.reduceMul, Int.reduceNeg, ↓reduceIte, reduceCtorEq, lostSt]
      · obtain ⟨r', a, b, r'', q1, q2, q3, q4⟩ := lost_again (bl := bl.toNat) (by omega) hk1 hkN hR hpi
        have hr' : r'.fine := by have := fine_recv hrf (p := pi) hpr; rw [q1] at this; exact this
        have hr'' : r''.fine := by have := fine_recv hr' (p := pi) hpr; rw [q2] at this; exact this
        have cT := takeT_at q1 hrf hpr
        have cT2 := takeT_at q2 hr' hpr
        simp only [go_sem, Nat.reduceAdd, Nat.reduceSub, Nat.reduceMul, Nat.reduceLT, Nat.reduceLeDiff, Nat.reduceEqDiff, Nat.reduceBEq, Int.reduceToNat, Int.reduceLT, Int.reduceLE, Int.reduceEq, Int.reduceNe, Int.reduceAdd, Int.reduceSub, Int.reduceMul, Int.reduceNeg, ↓reduceIte, reduceCtorEq, lostSt, f1, f1', f0, Int.toNat_natCast, hrow, g1, hm3, hw']
        (refine CallA.pure (cT) (by simp only [go_sem, Nat.reduceAdd, Nat.reduceSub, Nat.reduceMul, Nat.reduceLT, Nat.reduceLeDiff, Nat.reduceEqDiff, Nat.reduceBEq, Int.reduceToNat, Int.reduceLT, Int.reduceLE, Int.reduceEq, Int.reduceNe, Int.reduceAdd, Int.reduceSub, Int.reduceMul, Int.reduceNeg, ↓reduceIte, reduceCtorEq, Rcv.pv, Pdu.pv, Pdu.none, hw', g1, hm3] <;> first | rfl | decide) ?_; simp only [go_sem, Nat.reduceAdd, Nat.reduceSub, Nat.reduceMul, Nat.reduceLT, Nat.reduceLeDiff, Nat.reduceEqDiff, Nat.reduceBEq, Int.reduceToNat, Int.reduceLT, Int.reduceLE, Int.reduceEq, Int.reduceNe, Int.reduceAdd, Int.reduceSub, Int.reduceMul, Int.reduceNeg, ↓reduceIte, reduceCtorEq, Rcv.pv, Pdu.pv, Pdu.none, hw', g1, hm3])
        (refine CallA.pure (cT2) (by simp only [go_sem, Nat.reduceAdd, Nat.reduceSub, Nat.reduceMul, Nat.reduceLT, Nat.reduceLeDiff, Nat.reduceEqDiff, Nat.reduceBEq, Int.reduceToNat, Int.reduceLT, Int.reduceLE, Int.reduceEq, Int.reduceNe, Int.reduceAdd, Int.reduceSub, Int.reduceMul, Int.reduceNeg, ↓reduceIte, reduceCtorEq, Rcv.pv, Pdu.pv, Pdu.none, hw', g1, hm3] <;> first | rfl | decide) ?_; simp only [go_sem, Nat.reduceAdd, Nat.reduceSub, Nat.reduceMul, Nat.reduceLT, Nat.reduceLeDiff, Nat.reduceEqDiff, Nat.reduceBEq, Int.reduceToNat, Int.reduceLT, Int.reduceLE, Int.reduceEq, Int.reduceNe, Int.reduceAdd, Int.reduceSub, Int.reduceMul, Int.reduceNeg, ↓reduceIte, reduceCtorEq, Rcv.pv, Pdu.pv, Pdu.none, hw', g1, hm3])
        by_cases h3 : r'.st = 3
        · have g3 : decide (r'.st = 3) = true := by simp [h3]
          have g4 : decide (r''.st = 3) = true := by simp [q4 h3]
          simp only [go_sem, Nat.reduceAdd, Nat.reduceSub, Nat.reduceMul, Nat.reduceLT, Nat.reduceLeDiff, Nat.reduceEqDiff, Nat.reduceBEq, Int.reduceToNat, Int.reduceLT, Int.reduceLE, Int.reduceEq, Int.reduceNe, Int.reduceAdd, Int.reduceSub, Int.reduceMul, Int.reduceNeg, ↓reduceIte, reduceCtorEq, g3, g4, hw']
          refine fin r'' hr'' (by rw [hik]; exact q3) _ ?_
          simp only [go_sem, Nat.reduceAdd, Nat.reduceSub, Nat.reduceMul, Nat.reduceLT, Nat.reduceLeDiff, Nat.reduceEqDiff, Nat.reduceBEq, Int.reduceToNat, Int.reduceLT, Int.reduceLE, Int.reduceEq, Int.reduceNe, Int.reduceAdd, Int.reduceSub, Int.reduceMul, Int.reduceNeg, ↓reduceIte, reduceCtorEq, lostSt]
        · have g3 : decide (r'.st = 3) = false := by simp [h3]
          simp only [go_sem, Nat.reduceAdd, Nat.reduceSub, Nat.reduceMul, Nat.reduceLT, Nat.reduceLeDiff, Nat.reduceEqDiff, Nat.reduceBEq, Int.reduceToNat, Int.reduceLT, Int.reduceLE, Int.reduceEq, Int.reduceNe, Int.reduceAdd, Int.reduceSub, Int.reduceMul, Int.reduceNeg, ↓reduceIte, reduceCtorEq, g3, hw']
          refine fin r'' hr'' (by rw [hik]; exact q3) _ ?_
          simp only [go_sem, Nat.reduceAdd, Nat.reduceSub, Nat.reduceMul, Nat.reduceLT, Nat.reduceLeDiff, Nat.reduceEqDiff, Nat.reduceBEq, Int.reduceToNat, Int.reduceLT, Int.reduceLE, Int.reduceEq, Int.reduceNe, Int.reduceAdd, Int.reduceSub, Int.reduceMul, Int.reduceNeg, ↓reduceIte, reduceCtorEq, lostSt]
  have f1 : decide ((i : Int) < ((partsL t).length : Int)) = false := by simp; omega
  have hiN : i = partsN t := by omega
  subst hiN
  have cX := textT_calls r
  simp only [go_sem, Nat.reduceAdd, Nat.reduceSub, Nat.reduceMul, Nat.reduceLT, Nat.reduceLeDiff, Nat.reduceEqDiff, Nat.reduceBEq, Int.reduceToNat, Int.reduceLT, Int.reduceLE, Int.reduceEq, Int.reduceNe, Int.reduceAdd, Int.reduceSub, Int.reduceMul, Int.reduceNeg, ↓reduceIte, reduceCtorEq, lostSt, f1]
  (refine CallA.pure (cX) (by simp only [go_sem, Nat.reduceAdd, Nat.reduceSub, Nat.reduceMul, Nat.reduceLT, Nat.reduceLeDiff, Nat.reduceEqDiff, Nat.reduceBEq, Int.reduceToNat, Int.reduceLT, Int.reduceLE, Int.reduceEq, Int.reduceNe, Int.reduceAdd, Int.reduceSub, Int.reduceMul, Int.reduceNeg, ↓reduceIte, reduceCtorEq, Rcv.pv, hm3, w2] <;> first | rfl | decide) ?_; simp only [go_sem, Nat.reduceAdd, Nat.reduceSub, Nat.reduceMul, Nat.reduceLT, Nat.reduceLeDiff, Nat.reduceEqDiff, Nat.reduceBEq, Int.reduceToNat, Int.reduceLT, Int.reduceLE, Int.reduceEq, Int.reduceNe, Int.reduceAdd, Int.reduceSub, Int.reduceMul, Int.reduceNeg, ↓reduceIte, reduceCtorEq, Rcv.pv, hm3, w2])
  rcases hL with ⟨hz, _⟩ | ⟨_, hz, _⟩ | ⟨_, ⟨rfl, hz, hR⟩ | ⟨rfl, hz, hR⟩ | ⟨hz, hst, herr⟩⟩
  · omega
  · omega
  · have hst : r.st = 2 := by rw [hR.st, if_neg (by omega)]
    have g1 : decide (r.st = 3) = false := by simp [hst]
    have g2 : decide (r.st = 4) = false := by simp [hst]
    have g3 : decide (r.st = 2) = true := by simp [hst]
    have g4 : decide ((k : Int) = ((partsN t - 1 : Nat) : Int)) = true := by simp; omega
    simp only [go_sem, Nat.reduceAdd, Nat.reduceSub, Nat.reduceMul, Nat.reduceLT, Nat.reduceLeDiff, Nat.reduceEqDiff, Nat.reduceBEq, Int.reduceToNat, Int.reduceLT, Int.reduceLE, Int.reduceEq, Int.reduceNe, Int.reduceAdd, Int.reduceSub, Int.reduceMul, Int.reduceNeg, ↓reduceIte, reduceCtorEq, g1, g2, g3, g4, w2, hm3, Try.ntmps6, Try.results6]
  · have hst : r.st = 3 := by rw [hR.st, if_pos rfl]
    have g1 : decide (r.st = 3) = true := by simp [hst]
    have g4 : decide ((k : Int) = ((partsN t - 1 : Nat) : Int)) = true := by simp; omega
    simp only [go_sem, Nat.reduceAdd, Nat.reduceSub, Nat.reduceMul, Nat.reduceLT, Nat.reduceLeDiff, Nat.reduceEqDiff, Nat.reduceBEq, Int.reduceToNat, Int.reduceLT, Int.reduceLE, Int.reduceEq, Int.reduceNe, Int.reduceAdd, Int.reduceSub, Int.reduceMul, Int.reduceNeg, ↓reduceIte, reduceCtorEq, g1, g4, w2, hm3, Try.ntmps6, Try.results6]
  · have g1 : decide (r.st = 3) = false := by simp [hst]
    have g2 : decide (r.st = 4) = true := by simp [hst]
    have g3 : decide (r.err = 183) = true := by simp [herr]
    by_cases h2 : h = 2
    · subst h2
      have g4 : decide ((k : Int) = ((partsN t - 1 : Nat) : Int)) = false := by simp; omega
      simp only [go_sem, Nat.reduceAdd, Nat.reduceSub, Nat.reduceMul, Nat.reduceLT, Nat.reduceLeDiff, Nat.reduceEqDiff, Nat.reduceBEq, Int.reduceToNat, Int.reduceLT, Int.reduceLE, Int.reduceEq, Int.reduceNe, Int.reduceAdd, Int.reduceSub, Int.reduceMul, Int.reduceNeg, ↓reduceIte, reduceCtorEq, g1, g2, g3, g4, w2, hm3, Try.ntmps6, Try.results6]
    · have g5 : decide ((h : Int) = 2) = false := by simp; omega
      simp only [go_sem, Nat.reduceAdd, Nat.reduceSub, Nat.reduceMul, Nat.reduceLT, Nat.reduceLeDiff, Nat.reduceEqDiff, Nat.reduceBEq, Int.reduceToNat, Int.reduceLT, Int.reduceLE, Int.reduceEq, Int.reduceNe, Int.reduceAdd, Int.reduceSub, Int.reduceMul, Int.reduceNeg, ↓reduceIte, reduceCtorEq, g1, g2, g3, g5, w2, hm3, Try.ntmps6, Try.results6]
end Go.Proofs.Ytpnhnobnjcknjaa.Pe
