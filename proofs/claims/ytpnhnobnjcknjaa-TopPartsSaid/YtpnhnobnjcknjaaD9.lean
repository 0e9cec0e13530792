import Derived.Test.YtpnhnobnjcknjaaD8
namespace Go.Proofs.Ytpnhnobnjcknjaa.Pe
open Go.Pe Go.RowKit
set_option maxRecDepth 20000
set_option maxHeartbeats 4000000
set_option linter.unusedSimpArgs false
set_option linter.unusedVariables false

/-- A receiver behind k ticks more. -/
def skR (k : Nat) (r : Rcv) : Rcv := if r.st = 2 then (if k ≤ 100 then { r with clock := k } else failR { r with clock := 101 } 181) else r
theorem skR_zero {r : Rcv} (h : r.clock = 0) : skR 0 r = r := by
  obtain ⟨st, len, got, num, left, block, gap, clock, room, err⟩ := r
  simp only at h
  subst h
  unfold skR
  split
  · rfl
  · rfl
theorem skR_tick (k : Nat) (r : Rcv) : tickV (skR k r) = skR (k + 1) r := by
  unfold skR
  by_cases h : r.st = 2
  · rw [if_pos h, if_pos h]
    by_cases hk : k + 1 ≤ 100
    · rw [if_pos (by omega), if_pos hk]
      have : IntKind.wrap .i64 ((k : Int) + 1) = ((k + 1 : Nat) : Int) := wrapIN (by omega)
      simp only [tickV, h, if_true, this]
      rw [if_neg (by omega)]
    · rw [if_neg hk]
      by_cases hk' : k ≤ 100
      · have e : k = 100 := by omega
        subst e
        rw [if_pos hk']
        have : IntKind.wrap .i64 (((100 : Nat) : Int) + 1) = 101 := by decide
        simp only [tickV, h, if_true, this]
        rfl
      · rw [if_neg hk']
        rfl
  · rw [if_neg h, if_neg h, tickV, if_neg h]
theorem skR_fine {r : Rcv} (h : r.fine) (k : Nat) : (skR k r).fine := by
  unfold skR
  split
  · split <;> exact h
  · exact h
theorem skR_off {r : Rcv} (h : r.st ≠ 2) (k : Nat) : skR k r = r := by rw [skR, if_neg h]
theorem nextV_clock {r : Rcv} {p : Pdu} {k : Int} (h : ¬ (p.n ≠ r.num ∨ (p.d.length : Int) ≠ (if missR r < 7 then missR r else 7))) : nextV { r with clock := k } p = nextV r p := by
  have h' : ¬ (p.n ≠ ({ r with clock := k } : Rcv).num ∨ (p.d.length : Int) ≠ (if missR { r with clock := k } < 7 then missR { r with clock := k } else 7)) := h
  rw [nextV, if_neg h', nextV, if_neg h]
  rfl
theorem recv_sk {t : List UInt8} {i k : Nat} {r : Rcv} (h1 : t.length ≤ 4095) (h : RAt t i r) (hi : 1 ≤ i) (hn : i < partsN t) (hk : k ≤ 100) : recvV (skR k r) ((partsL t)[i]?.getD Pdu.none) = recvV r ((partsL t)[i]?.getD Pdu.none) := by
  obtain ⟨r', a, b, q1, q2, q3⟩ := h.step h1 hi hn
  have h7 : 7 < t.length := by unfold partsN at hn; split at hn <;> omega
  have hp := (parts_long h7 h1).2.2 i hi hn
  rw [hp] at q1 ⊢
  simp only [Option.getD_some] at q1 ⊢
  have hst : r.st = 2 := by rw [h.st, if_neg (by omega)]
  rw [skR, if_pos hst, if_pos hk]
  rw [recvV, if_neg (show ¬ ((3 : Int) = 1) by decide), if_neg (show ¬ ((3 : Int) = 2) by decide), if_pos ⟨rfl, hst⟩] at q1
  rw [recvV, if_neg (show ¬ ((3 : Int) = 1) by decide), if_neg (show ¬ ((3 : Int) = 2) by decide), if_pos ⟨rfl, hst⟩, recvV, if_neg (show ¬ ((3 : Int) = 1) by decide), if_neg (show ¬ ((3 : Int) = 2) by decide), if_pos ⟨rfl, hst⟩]
  have hne : ¬ ((⟨3, 0, ((i % 16 : Nat) : Int), 0, 0, 0, (t.drop (7 * i - 1)).take 7⟩ : Pdu).n ≠ r.num ∨ (((⟨3, 0, ((i % 16 : Nat) : Int), 0, 0, 0, (t.drop (7 * i - 1)).take 7⟩ : Pdu).d.length : Nat) : Int) ≠ (if missR r < 7 then missR r else 7)) := by
    intro hc
    rw [nextV, if_pos hc] at q1
    have := congrArg (fun x => x.1.err) q1
    have e2 := q2.err
    simp only [failR] at this
    omega
  exact nextV_clock hne
def timeSt (t : List UInt8) (u v : UInt8) (r : Rcv) (i : Nat) : St := ⟨139, [(0, bytesPV t), (1, U8 u), (2, U8 v), (7, PB true), (8, .im 7 (pduRows (partsL t))), (10, .ptr 0 0), (11, PI i)], [(0, .box 29 r.cells)], 20, 0⟩
def timeI (t : List UInt8) (u v : UInt8) (m : Nat) (st : St) : Prop := ∃ (i : Nat) (r : Rcv), i ≤ partsN t ∧ m = partsN t - i ∧ r.fine ∧ ((i = 0 ∧ r = freshR 4095 0 0) ∨ (1 ≤ i ∧ RAt t i r)) ∧ st = timeSt t u v r i
def timeKSt (t : List UInt8) (u v : UInt8) (r : Rcv) (i k : Nat) : St := ⟨139, [(0, bytesPV t), (1, U8 u), (2, U8 v), (7, PB true), (8, .im 7 (pduRows (partsL t))), (10, .ptr 0 0), (11, PI i), (12, PI k)], [(0, .box 29 r.cells)], 20, 0⟩
def timeKI (t : List UInt8) (u v : UInt8) (r : Rcv) (i : Nat) (m : Nat) (st : St) : Prop := ∃ k : Nat, k ≤ 100 ∧ m = 101 - k ∧ st = timeKSt t u v (skR k r) i k
def timeESt (t : List UInt8) (v : UInt8) (r s : Rcv) (k : Nat) : St := ⟨139, [(0, bytesPV t), (2, U8 v), (7, PB true), (8, .im 7 (pduRows (partsL t))), (10, .ptr 0 0), (13, bytesPV t), (14, PB true), (15, .ptr 29 0), (18, PI k)], [(0, .box 29 r.cells), (29, .box 29 s.cells)], 60, 0⟩
def timeEI (t : List UInt8) (v : UInt8) (r s : Rcv) (m : Nat) (st : St) : Prop := ∃ k : Nat, k ≤ v.toNat ∧ m = v.toNat - k ∧ st = timeESt t v r (skR k s) k
theorem time_calls (t : List UInt8) (u v : UInt8) : PureCalls Try.prog 7 [bytesPV t, U8 u, U8 v] (PB true) := by
  refine PureCalls.of tabOK mixed Try.func7 rfl rfl (by decide +kernel) (by simp [Try.ntmps7]) ?_
  have cP := partsR_calls t
  simp only [go_sem, Nat.reduceAdd, Nat.reduceSub, Nat.reduceMul, Nat.reduceLT, Nat.reduceLeDiff, Nat.reduceEqDiff, Nat.reduceBEq, Int.reduceToNat, Int.reduceLT, Int.reduceLE, Int.reduceEq, Int.reduceNe, Int.reduceAdd, Int.reduceSub, Int.reduceMul, Int.reduceNeg, ↓reduceIte, reduceCtorEq, Try.ntmps7, Try.results7]
  (refine CallA.pure (head19_calls) (by simp only [go_sem, Nat.reduceAdd, Nat.reduceSub, Nat.reduceMul, Nat.reduceLT, Nat.reduceLeDiff, Nat.reduceEqDiff, Nat.reduceBEq, Int.reduceToNat, Int.reduceLT, Int.reduceLE, Int.reduceEq, Int.reduceNe, Int.reduceAdd, Int.reduceSub, Int.reduceMul, Int.reduceNeg, ↓reduceIte, reduceCtorEq] <;> first | rfl | decide) ?_; simp only [go_sem, Nat.reduceAdd, Nat.reduceSub, Nat.reduceMul, Nat.reduceLT, Nat.reduceLeDiff, Nat.reduceEqDiff, Nat.reduceBEq, Int.reduceToNat, Int.reduceLT, Int.reduceLE, Int.reduceEq, Int.reduceNe, Int.reduceAdd, Int.reduceSub, Int.reduceMul, Int.reduceNeg, ↓reduceIte, reduceCtorEq])
  (refine CallA.pure (cP) (by simp only [go_sem, Nat.reduceAdd, Nat.reduceSub, Nat.reduceMul, Nat.reduceLT, Nat.reduceLeDiff, Nat.reduceEqDiff, Nat.reduceBEq, Int.reduceToNat, Int.reduceLT, Int.reduceLE, Int.reduceEq, Int.reduceNe, Int.reduceAdd, Int.reduceSub, Int.reduceMul, Int.reduceNeg, ↓reduceIte, reduceCtorEq] <;> first | rfl | decide) ?_; simp only [go_sem, Nat.reduceAdd, Nat.reduceSub, Nat.reduceMul, Nat.reduceLT, Nat.reduceLeDiff, Nat.reduceEqDiff, Nat.reduceBEq, Int.reduceToNat, Int.reduceLT, Int.reduceLE, Int.reduceEq, Int.reduceNe, Int.reduceAdd, Int.reduceSub, Int.reduceMul, Int.reduceNeg, ↓reduceIte, reduceCtorEq])
  by_cases hl : t.length > 1000
  · have f : decide ((t.length : Int) > 1000) = true := by simp; omega
    simp only [go_sem, Nat.reduceAdd, Nat.reduceSub, Nat.reduceMul, Nat.reduceLT, Nat.reduceLeDiff, Nat.reduceEqDiff, Nat.reduceBEq, Int.reduceToNat, Int.reduceLT, Int.reduceLE, Int.reduceEq, Int.reduceNe, Int.reduceAdd, Int.reduceSub, Int.reduceMul, Int.reduceNeg, ↓reduceIte, reduceCtorEq, f, Try.ntmps7, Try.results7]
  have f : decide ((t.length : Int) > 1000) = false := by simp; omega
  by_cases h0 : t.length = 0
  · have e : partsB t = false := by simp [partsB, h0]
    simp only [go_sem, Nat.reduceAdd, Nat.reduceSub, Nat.reduceMul, Nat.reduceLT, Nat.reduceLeDiff, Nat.reduceEqDiff, Nat.reduceBEq, Int.reduceToNat, Int.reduceLT, Int.reduceLE, Int.reduceEq, Int.reduceNe, Int.reduceAdd, Int.reduceSub, Int.reduceMul, Int.reduceNeg, ↓reduceIte, reduceCtorEq, f, e, Try.ntmps7, Try.results7]
  have e : partsB t = true := partsB_true h0 (by omega)
  have hlen := parts_len (t := t) (by omega) (by omega)
  have hN := partsN_pos t
  obtain ⟨p0, hp0, hp0r, hp0l, hp0k⟩ := parts_head (t := t) (by omega) (by omega)
  have hrow0 : (pduRows (partsL t)).getD 0 [] = p0.cells := by simp [pduRows, List.getD_eq_getElem?_getD, hp0]
  have hl0 : (0 : Int) < ((partsL t).length : Int) := by rw [hlen]; omega
  have cF := fresh_at 4095 4095 0 0 rfl
  have hz : (((0 : UInt8).toNat : Int)).tmod 128 = 0 := rfl
  have hz0 : ((0 : UInt8).toNat : Int) = 0 := rfl
  rw [hz] at cF
  rw [hz0] at cF
  have hf := fresh_fine 4095 0 0
  rw [hz0] at hf
  obtain ⟨r1, a1, q1, q2, q3, q4⟩ := RAt.first (t := t) (r := freshR 4095 0 0) (by omega) (by omega) (show (t.length : Int) ≤ 4095 by omega)
  have hr1 : r1.fine := by have := fine_recv hf (p := p0) hp0r; rw [hp0] at q1; simp only [Option.getD_some] at q1; rw [q1] at this; exact this
  have q1' := q1
  rw [hp0] at q1'
  simp only [Option.getD_some] at q1'
  have cT0 := takeT_at q1' hf hp0r
  simp only [go_sem, Nat.reduceAdd, Nat.reduceSub, Nat.reduceMul, Nat.reduceLT, Nat.reduceLeDiff, Nat.reduceEqDiff, Nat.reduceBEq, Int.reduceToNat, Int.reduceLT, Int.reduceLE, Int.reduceEq, Int.reduceNe, Int.reduceAdd, Int.reduceSub, Int.reduceMul, Int.reduceNeg, ↓reduceIte, reduceCtorEq, f, e]
  (refine CallA.pure (cF) (by simp only [go_sem, Nat.reduceAdd, Nat.reduceSub, Nat.reduceMul, Nat.reduceLT, Nat.reduceLeDiff, Nat.reduceEqDiff, Nat.reduceBEq, Int.reduceToNat, Int.reduceLT, Int.reduceLE, Int.reduceEq, Int.reduceNe, Int.reduceAdd, Int.reduceSub, Int.reduceMul, Int.reduceNeg, ↓reduceIte, reduceCtorEq, freshR, Rcv.pv] <;> first | rfl | decide) ?_; simp only [go_sem, Nat.reduceAdd, Nat.reduceSub, Nat.reduceMul, Nat.reduceLT, Nat.reduceLeDiff, Nat.reduceEqDiff, Nat.reduceBEq, Int.reduceToNat, Int.reduceLT, Int.reduceLE, Int.reduceEq, Int.reduceNe, Int.reduceAdd, Int.reduceSub, Int.reduceMul, Int.reduceNeg, ↓reduceIte, reduceCtorEq, freshR, Rcv.pv])
  refine wpA_loop (timeI t u v) ⟨_, _, ?_, 0, freshR 4095 0 0, by omega, rfl, hf, .inl ⟨rfl, rfl⟩, rfl⟩ ?_
  · simp only [go_sem, Nat.reduceAdd, Nat.reduceSub, Nat.reduceMul, Nat.reduceLT, Nat.reduceLeDiff, Nat.reduceEqDiff, Nat.reduceBEq, Int.reduceToNat, Int.reduceLT, Int.reduceLE, Int.reduceEq, Int.reduceNe, Int.reduceAdd, Int.reduceSub, Int.reduceMul, Int.reduceNeg, ↓reduceIte, reduceCtorEq, timeSt, freshR, Int.natCast_zero]
  rintro m st ⟨i, r, hi, rfl, hrf, hri, rfl⟩
  by_cases hc : i < partsN t
  · have f1 : decide ((i : Int) < ((partsL t).length : Int)) = true := by simp; omega
    have f1' : (i : Int) < ((partsL t).length : Int) := by omega
    have f0 : (0 : Int) ≤ (i : Int) := by omega
    have hw := wrapIN (i := i) (by unfold partsN at hc; split at hc <;> omega)
    have hcl : r.clock = 0 := by rcases hri with ⟨_, rfl⟩ | ⟨_, h⟩; rfl; exact h.clock
    obtain ⟨pi, hpi⟩ : ∃ pi : Pdu, (partsL t)[i]? = some pi := ⟨_, List.getElem?_eq_getElem (by omega)⟩
    have hpr := parts_right (t := t) (by omega) (by omega) pi (List.mem_of_getElem? hpi)
    have hrow : (pduRows (partsL t)).getD i [] = pi.cells := by simp [pduRows, List.getD_eq_getElem?_getD, hpi]
    have hstep : ∀ k, k ≤ 100 → ∃ r' a b, recvV (skR k r) pi = (r', a, b) ∧ RAt t (i + 1) r' := by
      intro k hk
      rcases hri with ⟨rfl, rfl⟩ | ⟨hi1, h⟩
      · rw [skR_off (show (0 : Int) ≠ 2 by decide)]
        rw [hp0] at hpi
        simp only [Option.some.injEq] at hpi
        subst hpi
        rw [hp0] at q1
        exact ⟨_, _, _, q1, q2⟩
      · obtain ⟨r', a, b, e1, e2, e3⟩ := h.step (by omega) hi1 hc
        have := recv_sk (by omega) h hi1 hc hk
        rw [hpi] at this e1
        exact ⟨r', a, b, this.trans e1, e2⟩
    simp only [go_sem, Nat.reduceAdd, Nat.reduceSub, Nat.reduceMul, Nat.reduceLT, Nat.reduceLeDiff, Nat.reduceEqDiff, Nat.reduceBEq, Int.reduceToNat, Int.reduceLT, Int.reduceLE, Int.reduceEq, Int.reduceNe, Int.reduceAdd, Int.reduceSub, Int.reduceMul, Int.reduceNeg, ↓reduceIte, reduceCtorEq, timeSt, f1]
    refine wpA_loop (timeKI t u v r i) ⟨_, _, ?_, 0, by omega, rfl, rfl⟩ ?_
    · rw [skR_zero hcl]
      simp only [go_sem, Nat.reduceAdd, Nat.reduceSub, Nat.reduceMul, Nat.reduceLT, Nat.reduceLeDiff, Nat.reduceEqDiff, Nat.reduceBEq, Int.reduceToNat, Int.reduceLT, Int.reduceLE, Int.reduceEq, Int.reduceNe, Int.reduceAdd, Int.reduceSub, Int.reduceMul, Int.reduceNeg, ↓reduceIte, reduceCtorEq, timeKSt, Int.natCast_zero]
    rintro m st ⟨k, hk, rfl, rfl⟩
    have hno : (u.toNat : Int) < 256 := by have := u.toNat_lt; omega
    have h4 : IntKind.wrap .i64 (u.toNat : Int) = u.toNat := wrapI64 (by omega)
    have hb : (u.toNat : Int).tmod 101 < 101 := Int.tmod_lt_of_pos _ (by omega)
    by_cases hkk : (k : Int) < (u.toNat : Int).tmod 101
    · have g1 : decide ((k : Int) < (u.toNat : Int).tmod 101) = true := by simp; omega
      have hwk := wrapIN (i := k) (by omega)
      have c1 := tickT_at (skR k r)
      rw [skR_tick] at c1
      simp only [go_sem, Nat.reduceAdd, Nat.reduceSub, Nat.reduceMul, Nat.reduceLT, Nat.reduceLeDiff, Nat.reduceEqDiff, Nat.reduceBEq, Int.reduceToNat, Int.reduceLT, Int.reduceLE, Int.reduceEq, Int.reduceNe, Int.reduceAdd, Int.reduceSub, Int.reduceMul, Int.reduceNeg, ↓reduceIte, reduceCtorEq, timeKSt, h4, g1]
      (refine CallA.pure (c1) (by simp only [go_sem, Nat.reduceAdd, Nat.reduceSub, Nat.reduceMul, Nat.reduceLT, Nat.reduceLeDiff, Nat.reduceEqDiff, Nat.reduceBEq, Int.reduceToNat, Int.reduceLT, Int.reduceLE, Int.reduceEq, Int.reduceNe, Int.reduceAdd, Int.reduceSub, Int.reduceMul, Int.reduceNeg, ↓reduceIte, reduceCtorEq, Rcv.pv, hwk] <;> first | rfl | decide) ?_; simp only [go_sem, Nat.reduceAdd, Nat.reduceSub, Nat.reduceMul, Nat.reduceLT, Nat.reduceLeDiff, Nat.reduceEqDiff, Nat.reduceBEq, Int.reduceToNat, Int.reduceLT, Int.reduceLE, Int.reduceEq, Int.reduceNe, Int.reduceAdd, Int.reduceSub, Int.reduceMul, Int.reduceNeg, ↓reduceIte, reduceCtorEq, Rcv.pv, hwk])
      refine ⟨101 - (k + 1), _, by omega, ?_, k + 1, by omega, rfl, rfl⟩
      simp only [go_sem, Nat.reduceAdd, Nat.reduceSub, Nat.reduceMul, Nat.reduceLT, Nat.reduceLeDiff, Nat.reduceEqDiff, Nat.reduceBEq, Int.reduceToNat, Int.reduceLT, Int.reduceLE, Int.reduceEq, Int.reduceNe, Int.reduceAdd, Int.reduceSub, Int.reduceMul, Int.reduceNeg, ↓reduceIte, reduceCtorEq, timeKSt]
    have g1 : decide ((k : Int) < (u.toNat : Int).tmod 101) = false := by simp; omega
    obtain ⟨r', a, b, w1, w2⟩ := hstep k hk
    have hr'f : r'.fine := by have := fine_recv (skR_fine hrf k) (p := pi) hpr; rw [w1] at this; exact this
    have cT := takeT_at w1 (skR_fine hrf k) hpr
    simp only [go_sem, Nat.reduceAdd, Nat.reduceSub, Nat.reduceMul, Nat.reduceLT, Nat.reduceLeDiff, Nat.reduceEqDiff, Nat.reduceBEq, Int.reduceToNat, Int.reduceLT, Int.reduceLE, Int.reduceEq, Int.reduceNe, Int.reduceAdd, Int.reduceSub, Int.reduceMul, Int.reduceNeg, ↓reduceIte, reduceCtorEq, timeKSt, h4, g1, f1', f0, Int.toNat_natCast, hrow]
    (refine callD_pure (cT) (by simp only [go_sem, Nat.reduceAdd, Nat.reduceSub, Nat.reduceMul, Nat.reduceLT, Nat.reduceLeDiff, Nat.reduceEqDiff, Nat.reduceBEq, Int.reduceToNat, Int.reduceLT, Int.reduceLE, Int.reduceEq, Int.reduceNe, Int.reduceAdd, Int.reduceSub, Int.reduceMul, Int.reduceNeg, ↓reduceIte, reduceCtorEq, Rcv.pv, Pdu.pv] <;> first | rfl | decide) ?_; simp only [go_sem, Nat.reduceAdd, Nat.reduceSub, Nat.reduceMul, Nat.reduceLT, Nat.reduceLeDiff, Nat.reduceEqDiff, Nat.reduceBEq, Int.reduceToNat, Int.reduceLT, Int.reduceLE, Int.reduceEq, Int.reduceNe, Int.reduceAdd, Int.reduceSub, Int.reduceMul, Int.reduceNeg, ↓reduceIte, reduceCtorEq, Rcv.pv, Pdu.pv])
    (refine endD_intro (by decide +kernel) ?_; simp only [go_sem, Nat.reduceAdd, Nat.reduceSub, Nat.reduceMul, Nat.reduceLT, Nat.reduceLeDiff, Nat.reduceEqDiff, Nat.reduceBEq, Int.reduceToNat, Int.reduceLT, Int.reduceLE, Int.reduceEq, Int.reduceNe, Int.reduceAdd, Int.reduceSub, Int.reduceMul, Int.reduceNeg, ↓reduceIte, reduceCtorEq, hw])
    refine ⟨partsN t - (i + 1), _, by omega, ?_, i + 1, r', by omega, rfl, hr'f, .inr ⟨by omega, w2⟩, rfl⟩
    simp only [go_sem, Nat.reduceAdd, Nat.reduceSub, Nat.reduceMul, Nat.reduceLT, Nat.reduceLeDiff, Nat.reduceEqDiff, Nat.reduceBEq, Int.reduceToNat, Int.reduceLT, Int.reduceLE, Int.reduceEq, Int.reduceNe, Int.reduceAdd, Int.reduceSub, Int.reduceMul, Int.reduceNeg, ↓reduceIte, reduceCtorEq, timeSt]
  have f1 : decide ((i : Int) < ((partsL t).length : Int)) = false := by simp; omega
  have hiN : i = partsN t := by omega
  have hR : RAt t (partsN t) r := by
    rcases hri with ⟨rfl, rfl⟩ | ⟨hi1, h⟩
    · omega
    · rw [← hiN]; exact h
  have hst : r.st = 3 := by rw [hR.st, if_pos rfl]
  have hgot : r.got = t := by rw [hR.got, if_pos rfl]
  have cX := textT_calls r
  rw [if_pos hst, hgot, show decide (r.st = 3) = true by simp [hst]] at cX
  have cTk := tickT_at r
  rw [tickV, if_neg (by omega)] at cTk
  simp only [go_sem, Nat.reduceAdd, Nat.reduceSub, Nat.reduceMul, Nat.reduceLT, Nat.reduceLeDiff, Nat.reduceEqDiff, Nat.reduceBEq, Int.reduceToNat, Int.reduceLT, Int.reduceLE, Int.reduceEq, Int.reduceNe, Int.reduceAdd, Int.reduceSub, Int.reduceMul, Int.reduceNeg, ↓reduceIte, reduceCtorEq, timeSt, f1]
  (refine CallA.pure (cX) (by simp only [go_sem, Nat.reduceAdd, Nat.reduceSub, Nat.reduceMul, Nat.reduceLT, Nat.reduceLeDiff, Nat.reduceEqDiff, Nat.reduceBEq, Int.reduceToNat, Int.reduceLT, Int.reduceLE, Int.reduceEq, Int.reduceNe, Int.reduceAdd, Int.reduceSub, Int.reduceMul, Int.reduceNeg, ↓reduceIte, reduceCtorEq, Rcv.pv] <;> first | rfl | decide) ?_; simp only [go_sem, Nat.reduceAdd, Nat.reduceSub, Nat.reduceMul, Nat.reduceLT, Nat.reduceLeDiff, Nat.reduceEqDiff, Nat.reduceBEq, Int.reduceToNat, Int.reduceLT, Int.reduceLE, Int.reduceEq, Int.reduceNe, Int.reduceAdd, Int.reduceSub, Int.reduceMul, Int.reduceNeg, ↓reduceIte, reduceCtorEq, Rcv.pv])
  (refine callD_pure (cF) (by simp only [go_sem, Nat.reduceAdd, Nat.reduceSub, Nat.reduceMul, Nat.reduceLT, Nat.reduceLeDiff, Nat.reduceEqDiff, Nat.reduceBEq, Int.reduceToNat, Int.reduceLT, Int.reduceLE, Int.reduceEq, Int.reduceNe, Int.reduceAdd, Int.reduceSub, Int.reduceMul, Int.reduceNeg, ↓reduceIte, reduceCtorEq, freshR, Rcv.pv] <;> first | rfl | decide) ?_; simp only [go_sem, Nat.reduceAdd, Nat.reduceSub, Nat.reduceMul, Nat.reduceLT, Nat.reduceLeDiff, Nat.reduceEqDiff, Nat.reduceBEq, Int.reduceToNat, Int.reduceLT, Int.reduceLE, Int.reduceEq, Int.reduceNe, Int.reduceAdd, Int.reduceSub, Int.reduceMul, Int.reduceNeg, ↓reduceIte, reduceCtorEq, freshR, Rcv.pv])
  refine ⟨hl0, by rw [hrow0]; simp, ?_⟩
  rw [hrow0]
  (refine callD_pure (cT0) (by simp only [go_sem, Nat.reduceAdd, Nat.reduceSub, Nat.reduceMul, Nat.reduceLT, Nat.reduceLeDiff, Nat.reduceEqDiff, Nat.reduceBEq, Int.reduceToNat, Int.reduceLT, Int.reduceLE, Int.reduceEq, Int.reduceNe, Int.reduceAdd, Int.reduceSub, Int.reduceMul, Int.reduceNeg, ↓reduceIte, reduceCtorEq, Rcv.pv, Pdu.pv] <;> first | rfl | decide) ?_; simp only [go_sem, Nat.reduceAdd, Nat.reduceSub, Nat.reduceMul, Nat.reduceLT, Nat.reduceLeDiff, Nat.reduceEqDiff, Nat.reduceBEq, Int.reduceToNat, Int.reduceLT, Int.reduceLE, Int.reduceEq, Int.reduceNe, Int.reduceAdd, Int.reduceSub, Int.reduceMul, Int.reduceNeg, ↓reduceIte, reduceCtorEq, Rcv.pv, Pdu.pv])
  (refine endD_intro (by decide +kernel) ?_; simp only [go_sem, Nat.reduceAdd, Nat.reduceSub, Nat.reduceMul, Nat.reduceLT, Nat.reduceLeDiff, Nat.reduceEqDiff, Nat.reduceBEq, Int.reduceToNat, Int.reduceLT, Int.reduceLE, Int.reduceEq, Int.reduceNe, Int.reduceAdd, Int.reduceSub, Int.reduceMul, Int.reduceNeg, ↓reduceIte, reduceCtorEq])
  refine wpA_loop (timeEI t v r r1) ⟨_, _, ?_, 0, by omega, rfl, rfl⟩ ?_
  · rw [skR_zero q2.clock]
    simp only [go_sem, Nat.reduceAdd, Nat.reduceSub, Nat.reduceMul, Nat.reduceLT, Nat.reduceLeDiff, Nat.reduceEqDiff, Nat.reduceBEq, Int.reduceToNat, Int.reduceLT, Int.reduceLE, Int.reduceEq, Int.reduceNe, Int.reduceAdd, Int.reduceSub, Int.reduceMul, Int.reduceNeg, ↓reduceIte, reduceCtorEq, timeESt, Int.natCast_zero]
  rintro m st ⟨k, hk, rfl, rfl⟩
  have hno : (v.toNat : Int) < 256 := by have := v.toNat_lt; omega
  have h4 : IntKind.wrap .i64 (v.toNat : Int) = v.toNat := wrapI64 (by omega)
  by_cases hkk : k < v.toNat
  · have g1 : decide ((k : Int) < (v.toNat : Int)) = true := by simp; omega
    have hwk := wrapIN (i := k) (by omega)
    have c1 := tickT_at (skR k r1)
    rw [skR_tick] at c1
    simp only [go_sem, Nat.reduceAdd, Nat.reduceSub, Nat.reduceMul, Nat.reduceLT, Nat.reduceLeDiff, Nat.reduceEqDiff, Nat.reduceBEq, Int.reduceToNat, Int.reduceLT, Int.reduceLE, Int.reduceEq, Int.reduceNe, Int.reduceAdd, Int.reduceSub, Int.reduceMul, Int.reduceNeg, ↓reduceIte, reduceCtorEq, timeESt, h4, g1]
    (refine CallA.pure (c1) (by simp only [go_sem, Nat.reduceAdd, Nat.reduceSub, Nat.reduceMul, Nat.reduceLT, Nat.reduceLeDiff, Nat.reduceEqDiff, Nat.reduceBEq, Int.reduceToNat, Int.reduceLT, Int.reduceLE, Int.reduceEq, Int.reduceNe, Int.reduceAdd, Int.reduceSub, Int.reduceMul, Int.reduceNeg, ↓reduceIte, reduceCtorEq, Rcv.pv] <;> first | rfl | decide) ?_; simp only [go_sem, Nat.reduceAdd, Nat.reduceSub, Nat.reduceMul, Nat.reduceLT, Nat.reduceLeDiff, Nat.reduceEqDiff, Nat.reduceBEq, Int.reduceToNat, Int.reduceLT, Int.reduceLE, Int.reduceEq, Int.reduceNe, Int.reduceAdd, Int.reduceSub, Int.reduceMul, Int.reduceNeg, ↓reduceIte, reduceCtorEq, Rcv.pv])
    (refine CallA.pure (cTk) (by simp only [go_sem, Nat.reduceAdd, Nat.reduceSub, Nat.reduceMul, Nat.reduceLT, Nat.reduceLeDiff, Nat.reduceEqDiff, Nat.reduceBEq, Int.reduceToNat, Int.reduceLT, Int.reduceLE, Int.reduceEq, Int.reduceNe, Int.reduceAdd, Int.reduceSub, Int.reduceMul, Int.reduceNeg, ↓reduceIte, reduceCtorEq, Rcv.pv, hwk] <;> first | rfl | decide) ?_; simp only [go_sem, Nat.reduceAdd, Nat.reduceSub, Nat.reduceMul, Nat.reduceLT, Nat.reduceLeDiff, Nat.reduceEqDiff, Nat.reduceBEq, Int.reduceToNat, Int.reduceLT, Int.reduceLE, Int.reduceEq, Int.reduceNe, Int.reduceAdd, Int.reduceSub, Int.reduceMul, Int.reduceNeg, ↓reduceIte, reduceCtorEq, Rcv.pv, hwk])
    refine ⟨v.toNat - (k + 1), _, by omega, ?_, k + 1, by omega, rfl, rfl⟩
    simp only [go_sem, Nat.reduceAdd, Nat.reduceSub, Nat.reduceMul, Nat.reduceLT, Nat.reduceLeDiff, Nat.reduceEqDiff, Nat.reduceBEq, Int.reduceToNat, Int.reduceLT, Int.reduceLE, Int.reduceEq, Int.reduceNe, Int.reduceAdd, Int.reduceSub, Int.reduceMul, Int.reduceNeg, ↓reduceIte, reduceCtorEq, timeESt]
  have g1 : decide ((k : Int) < (v.toNat : Int)) = false := by simp; omega
  have hkv : k = v.toNat := by omega
  simp only [go_sem, Nat.reduceAdd, Nat.reduceSub, Nat.reduceMul, Nat.reduceLT, Nat.reduceLeDiff, Nat.reduceEqDiff, Nat.reduceBEq, Int.reduceToNat, Int.reduceLT, Int.reduceLE, Int.reduceEq, Int.reduceNe, Int.reduceAdd, Int.reduceSub, Int.reduceMul, Int.reduceNeg, ↓reduceIte, reduceCtorEq, timeESt, h4, g1]
  (refine CallA.pure (cX) (by simp only [go_sem, Nat.reduceAdd, Nat.reduceSub, Nat.reduceMul, Nat.reduceLT, Nat.reduceLeDiff, Nat.reduceEqDiff, Nat.reduceBEq, Int.reduceToNat, Int.reduceLT, Int.reduceLE, Int.reduceEq, Int.reduceNe, Int.reduceAdd, Int.reduceSub, Int.reduceMul, Int.reduceNeg, ↓reduceIte, reduceCtorEq, Rcv.pv] <;> first | rfl | decide) ?_; simp only [go_sem, Nat.reduceAdd, Nat.reduceSub, Nat.reduceMul, Nat.reduceLT, Nat.reduceLeDiff, Nat.reduceEqDiff, Nat.reduceBEq, Int.reduceToNat, Int.reduceLT, Int.reduceLE, Int.reduceEq, Int.reduceNe, Int.reduceAdd, Int.reduceSub, Int.reduceMul, Int.reduceNeg, ↓reduceIte, reduceCtorEq, Rcv.pv])
  (refine CallA.pure (sameB_self t) (by simp only [go_sem, Nat.reduceAdd, Nat.reduceSub, Nat.reduceMul, Nat.reduceLT, Nat.reduceLeDiff, Nat.reduceEqDiff, Nat.reduceBEq, Int.reduceToNat, Int.reduceLT, Int.reduceLE, Int.reduceEq, Int.reduceNe, Int.reduceAdd, Int.reduceSub, Int.reduceMul, Int.reduceNeg, ↓reduceIte, reduceCtorEq] <;> first | rfl | decide) ?_; simp only [go_sem, Nat.reduceAdd, Nat.reduceSub, Nat.reduceMul, Nat.reduceLT, Nat.reduceLeDiff, Nat.reduceEqDiff, Nat.reduceBEq, Int.reduceToNat, Int.reduceLT, Int.reduceLE, Int.reduceEq, Int.reduceNe, Int.reduceAdd, Int.reduceSub, Int.reduceMul, Int.reduceNeg, ↓reduceIte, reduceCtorEq])
  (refine CallA.pure (sameB_self t) (by simp only [go_sem, Nat.reduceAdd, Nat.reduceSub, Nat.reduceMul, Nat.reduceLT, Nat.reduceLeDiff, Nat.reduceEqDiff, Nat.reduceBEq, Int.reduceToNat, Int.reduceLT, Int.reduceLE, Int.reduceEq, Int.reduceNe, Int.reduceAdd, Int.reduceSub, Int.reduceMul, Int.reduceNeg, ↓reduceIte, reduceCtorEq] <;> first | rfl | decide) ?_; simp only [go_sem, Nat.reduceAdd, Nat.reduceSub, Nat.reduceMul, Nat.reduceLT, Nat.reduceLeDiff, Nat.reduceEqDiff, Nat.reduceBEq, Int.reduceToNat, Int.reduceLT, Int.reduceLE, Int.reduceEq, Int.reduceNe, Int.reduceAdd, Int.reduceSub, Int.reduceMul, Int.reduceNeg, ↓reduceIte, reduceCtorEq])
  have hst1 := q2.st
  have herr1 := q2.err
  obtain ⟨st1, len1, got1, num1, left1, block1, gap1, clock1, room1, err1⟩ := r1
  simp only at hst1 herr1
  by_cases h7 : t.length ≤ 7
  · have hp1 : partsN t = 1 := by rw [partsN, if_pos h7]
    rw [if_pos hp1.symm] at hst1
    subst hst1
    rw [skR_off (show (3 : Int) ≠ 2 by decide)]
    have g2 : decide (((partsL t).length : Int) = 1) = true := by rw [hlen, hp1]; rfl
    simp only [go_sem, Nat.reduceAdd, Nat.reduceSub, Nat.reduceMul, Nat.reduceLT, Nat.reduceLeDiff, Nat.reduceEqDiff, Nat.reduceBEq, Int.reduceToNat, Int.reduceLT, Int.reduceLE, Int.reduceEq, Int.reduceNe, Int.reduceAdd, Int.reduceSub, Int.reduceMul, Int.reduceNeg, ↓reduceIte, reduceCtorEq, g2, Try.ntmps7, Try.results7]
  have hp1 : ¬ (1 = partsN t) := by rw [partsN, if_neg h7]; omega
  rw [if_neg hp1] at hst1
  have g2 : decide (((partsL t).length : Int) = 1) = false := by simp; omega
  subst hst1 herr1
  by_cases hk1 : k ≤ 100
  · have g3 : decide ((v.toNat : Int) > 100) = false := by simp; omega
    have g4 : decide ((v.toNat : Int) ≤ 100) = true := by simp; omega
    rw [skR, if_pos rfl, if_pos hk1]
    simp only [go_sem, Nat.reduceAdd, Nat.reduceSub, Nat.reduceMul, Nat.reduceLT, Nat.reduceLeDiff, Nat.reduceEqDiff, Nat.reduceBEq, Int.reduceToNat, Int.reduceLT, Int.reduceLE, Int.reduceEq, Int.reduceNe, Int.reduceAdd, Int.reduceSub, Int.reduceMul, Int.reduceNeg, ↓reduceIte, reduceCtorEq, g2, g3, g4, Try.ntmps7, Try.results7]
  · have g3 : decide ((v.toNat : Int) > 100) = true := by simp; omega
    have g4 : decide ((v.toNat : Int) ≤ 100) = false := by simp; omega
    rw [skR, if_pos rfl, if_neg hk1]
    simp only [go_sem, Nat.reduceAdd, Nat.reduceSub, Nat.reduceMul, Nat.reduceLT, Nat.reduceLeDiff, Nat.reduceEqDiff, Nat.reduceBEq, Int.reduceToNat, Int.reduceLT, Int.reduceLE, Int.reduceEq, Int.reduceNe, Int.reduceAdd, Int.reduceSub, Int.reduceMul, Int.reduceNeg, ↓reduceIte, reduceCtorEq, failR, g2, g3, g4, Try.ntmps7, Try.results7]
end Go.Proofs.Ytpnhnobnjcknjaa.Pe
