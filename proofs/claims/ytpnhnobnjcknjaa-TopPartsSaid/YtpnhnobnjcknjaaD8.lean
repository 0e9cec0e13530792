import Derived.Test.YtpnhnobnjcknjaaD7
namespace Go.Proofs.Ytpnhnobnjcknjaa.Pe
open Go.Pe Go.RowKit
set_option maxRecDepth 20000
set_option maxHeartbeats 4000000
set_option linter.unusedSimpArgs false
set_option linter.unusedVariables false

theorem fresh_at (room : Int) (u : UInt16) (b g : UInt8) (hu : (u.toNat : Int).tmod 4096 = room) : PureCalls Try.prog 22 [U16 u, U8 b, U8 g] (freshR room b.toNat ((g.toNat : Int).tmod 128)).pv := by
  have := fresh_calls u b g
  rwa [hu] at this
theorem recv_other {r : Rcv} {p : Pdu} (hp : p.k = 3) (hr : r.st ≠ 2) : recvV r p = (r, Pdu.none, false) := by
  rw [recvV, if_neg (by omega), if_neg (by omega), if_neg (fun h => hr h.2)]
theorem parts_head {t : List UInt8} (h0 : 1 ≤ t.length) (h1 : t.length ≤ 4095) : ∃ p0 : Pdu, (partsL t)[0]? = some p0 ∧ p0.right = true ∧ p0.l = (t.length : Int) ∧ p0.k = (if 7 < t.length then 2 else 1) := by
  by_cases h7 : t.length ≤ 7
  · refine ⟨⟨1, t.length, 0, 0, 0, 0, t⟩, by rw [parts_short h0 h7]; rfl, ?_, rfl, by rw [if_neg (show ¬ 7 < t.length by omega)]⟩
    exact parts_right h0 h1 _ (by rw [parts_short h0 h7]; simp)
  · obtain ⟨q1, q2, q3⟩ := parts_long (by omega : 7 < t.length) h1
    exact ⟨_, q2, parts_right h0 h1 _ (List.mem_of_getElem? q2), rfl, by rw [if_pos (show 7 < t.length by omega)]⟩
theorem partsB_true {t : List UInt8} (h0 : t.length ≠ 0) (h : t.length ≤ 4095) : partsB t = true := by
  have : t ≠ [] := by rintro rfl; exact h0 rfl
  simp [partsB, this]
  omega
def roomSt (t : List UInt8) (r : Rcv) (a : Pdu) (b : Bool) (i : Nat) : St := ⟨128, [(0, bytesPV t), (5, PB true), (6, .im 7 (pduRows (partsL t))), (8, .ptr 10 0), (9, .ptr 11 0), (10, PB b), (11, PI i)], [(10, .box 29 r.cells), (11, .box 33 a.cells)], 40, 0⟩
def roomI (t : List UInt8) (r : Rcv) (a : Pdu) (b : Bool) (m : Nat) (st : St) : Prop := ∃ i : Nat, 1 ≤ i ∧ i ≤ partsN t ∧ m = partsN t - i ∧ st = roomSt t r a b i
theorem room_calls (t : List UInt8) (room : UInt16) : PureCalls Try.prog 8 [bytesPV t, U16 room] (PB true) := by
  refine PureCalls.of tabOK mixed Try.func8 rfl rfl (by decide +kernel) (by simp [Try.ntmps8]) ?_
  have cP := partsR_calls t
  simp only [go_sem, Nat.reduceAdd, Nat.reduceSub, Nat.reduceMul, Nat.reduceLT, Nat.reduceLeDiff, Nat.reduceEqDiff, Nat.reduceBEq, Int.reduceToNat, Int.reduceLT, Int.reduceLE, Int.reduceEq, Int.reduceNe, Int.reduceAdd, Int.reduceSub, Int.reduceMul, Int.reduceNeg, ↓reduceIte, reduceCtorEq, Try.ntmps8, Try.results8]
  (refine CallA.pure (head19_calls) (by simp only [go_sem, Nat.reduceAdd, Nat.reduceSub, Nat.reduceMul, Nat.reduceLT, Nat.reduceLeDiff, Nat.reduceEqDiff, Nat.reduceBEq, Int.reduceToNat, Int.reduceLT, Int.reduceLE, Int.reduceEq, Int.reduceNe, Int.reduceAdd, Int.reduceSub, Int.reduceMul, Int.reduceNeg, ↓reduceIte, reduceCtorEq] <;> first | rfl | decide) ?_; simp only [go_sem, Nat.reduceAdd, Nat.reduceSub, Nat.reduceMul, Nat.reduceLT, Nat.reduceLeDiff, Nat.reduceEqDiff, Nat.reduceBEq, Int.reduceToNat, Int.reduceLT, Int.reduceLE, Int.reduceEq, Int.reduceNe, Int.reduceAdd, Int.reduceSub, Int.reduceMul, Int.reduceNeg, ↓reduceIte, reduceCtorEq])
  (refine CallA.pure (cP) (by simp only [go_sem, Nat.reduceAdd, Nat.reduceSub, Nat.reduceMul, Nat.reduceLT, Nat.reduceLeDiff, Nat.reduceEqDiff, Nat.reduceBEq, Int.reduceToNat, Int.reduceLT, Int.reduceLE, Int.reduceEq, Int.reduceNe, Int.reduceAdd, Int.reduceSub, Int.reduceMul, Int.reduceNeg, ↓reduceIte, reduceCtorEq] <;> first | rfl | decide) ?_; simp only [go_sem, Nat.reduceAdd, Nat.reduceSub, Nat.reduceMul, Nat.reduceLT, Nat.reduceLeDiff, Nat.reduceEqDiff, Nat.reduceBEq, Int.reduceToNat, Int.reduceLT, Int.reduceLE, Int.reduceEq, Int.reduceNe, Int.reduceAdd, Int.reduceSub, Int.reduceMul, Int.reduceNeg, ↓reduceIte, reduceCtorEq])
  by_cases hl : t.length > 1000
  · have f : decide ((t.length : Int) > 1000) = true := by simp; omega
    simp only [go_sem, Nat.reduceAdd, Nat.reduceSub, Nat.reduceMul, Nat.reduceLT, Nat.reduceLeDiff, Nat.reduceEqDiff, Nat.reduceBEq, Int.reduceToNat, Int.reduceLT, Int.reduceLE, Int.reduceEq, Int.reduceNe, Int.reduceAdd, Int.reduceSub, Int.reduceMul, Int.reduceNeg, ↓reduceIte, reduceCtorEq, f, Try.ntmps8, Try.results8]
  have f : decide ((t.length : Int) > 1000) = false := by simp; omega
  by_cases h0 : t.length = 0
  · have e : partsB t = false := by simp [partsB, h0]
    simp only [go_sem, Nat.reduceAdd, Nat.reduceSub, Nat.reduceMul, Nat.reduceLT, Nat.reduceLeDiff, Nat.reduceEqDiff, Nat.reduceBEq, Int.reduceToNat, Int.reduceLT, Int.reduceLE, Int.reduceEq, Int.reduceNe, Int.reduceAdd, Int.reduceSub, Int.reduceMul, Int.reduceNeg, ↓reduceIte, reduceCtorEq, f, e, Try.ntmps8, Try.results8]
  have e : partsB t = true := partsB_true h0 (by omega)
  have hlen := parts_len (t := t) (by omega) (by omega)
  have hN := partsN_pos t
  obtain ⟨p0, hp0, hp0r, hp0l, hp0k⟩ := parts_head (t := t) (by omega) (by omega)
  have hrow0 : (pduRows (partsL t)).getD 0 [] = p0.cells := by simp [pduRows, List.getD_eq_getElem?_getD, hp0]
  have hl0 : (0 : Int) < ((partsL t).length : Int) := by rw [hlen]; omega
  have h1 : IntKind.wrap .i64 (room.toNat : Int) = room.toNat := wrapI64 (by have := room.toNat_lt; omega)
  have cF := fresh_at _ room 0 0 rfl
  have hf := fresh_fine ((room.toNat : Int).tmod 4096) ((((0 : UInt8).toNat : Int)).tmod 128) 0
  have cT := takeT_calls _ p0 hf hp0r
  have hz : (((0 : UInt8).toNat : Int)).tmod 128 = 0 := rfl
  have hz0 : ((0 : UInt8).toNat : Int) = 0 := rfl
  rw [hz, hz0] at cF cT
  generalize hrm : (room.toNat : Int).tmod 4096 = rm at cF cT
  have hroom : IntKind.wrap .i64 (room.toNat : Int) = room.toNat := h1
  by_cases hle : (t.length : Int) ≤ rm
  · have fle : decide ((t.length : Int) ≤ rm) = true := by simpa using hle
    obtain ⟨r1, a1, q1, q2, q3, q4⟩ := RAt.first (t := t) (r := freshR rm 0 0) (by omega) (by omega) hle
    rw [hp0] at q1
    simp only [Option.getD_some] at q1
    rw [q1] at cT
    have hs1 : r1.st ≠ 4 := by rw [q2.st]; split <;> omega
    have ha1 : a1.s = 0 := by rw [q3]; split <;> rfl
    have fs1 : decide (r1.st = 4) = false := by simpa using hs1
    obtain ⟨st, len, got, num, left, block, gap, clock, room', err⟩ := r1
    obtain ⟨ak, al, an, as1, ab, ag, ad⟩ := a1
    simp only at hs1 ha1 fs1
    by_cases h7 : 7 < t.length
    · have f7 : decide (7 < t.length) = true := by simpa using h7
      have f7' : decide ((t.length : Int) > 7) = true := by simp; omega
      rw [f7] at cT
      simp only [go_sem, Nat.reduceAdd, Nat.reduceSub, Nat.reduceMul, Nat.reduceLT, Nat.reduceLeDiff, Nat.reduceEqDiff, Nat.reduceBEq, Int.reduceToNat, Int.reduceLT, Int.reduceLE, Int.reduceEq, Int.reduceNe, Int.reduceAdd, Int.reduceSub, Int.reduceMul, Int.reduceNeg, ↓reduceIte, reduceCtorEq, f, e]
      (refine callD_pure (cF) (by simp only [go_sem, Nat.reduceAdd, Nat.reduceSub, Nat.reduceMul, Nat.reduceLT, Nat.reduceLeDiff, Nat.reduceEqDiff, Nat.reduceBEq, Int.reduceToNat, Int.reduceLT, Int.reduceLE, Int.reduceEq, Int.reduceNe, Int.reduceAdd, Int.reduceSub, Int.reduceMul, Int.reduceNeg, ↓reduceIte, reduceCtorEq] <;> first | rfl | decide) ?_; simp only [go_sem, Nat.reduceAdd, Nat.reduceSub, Nat.reduceMul, Nat.reduceLT, Nat.reduceLeDiff, Nat.reduceEqDiff, Nat.reduceBEq, Int.reduceToNat, Int.reduceLT, Int.reduceLE, Int.reduceEq, Int.reduceNe, Int.reduceAdd, Int.reduceSub, Int.reduceMul, Int.reduceNeg, ↓reduceIte, reduceCtorEq])
      refine ⟨hl0, by rw [hrow0]; simp, ?_⟩
      rw [hrow0]
      (refine callD_pure (cT) (by simp only [go_sem, Nat.reduceAdd, Nat.reduceSub, Nat.reduceMul, Nat.reduceLT, Nat.reduceLeDiff, Nat.reduceEqDiff, Nat.reduceBEq, Int.reduceToNat, Int.reduceLT, Int.reduceLE, Int.reduceEq, Int.reduceNe, Int.reduceAdd, Int.reduceSub, Int.reduceMul, Int.reduceNeg, ↓reduceIte, reduceCtorEq, freshR, Rcv.pv, Pdu.pv] <;> first | rfl | decide) ?_; simp only [go_sem, Nat.reduceAdd, Nat.reduceSub, Nat.reduceMul, Nat.reduceLT, Nat.reduceLeDiff, Nat.reduceEqDiff, Nat.reduceBEq, Int.reduceToNat, Int.reduceLT, Int.reduceLE, Int.reduceEq, Int.reduceNe, Int.reduceAdd, Int.reduceSub, Int.reduceMul, Int.reduceNeg, ↓reduceIte, reduceCtorEq, freshR, Rcv.pv, Pdu.pv])
      (refine endD_intro (by decide +kernel) ?_; simp only [go_sem, Nat.reduceAdd, Nat.reduceSub, Nat.reduceMul, Nat.reduceLT, Nat.reduceLeDiff, Nat.reduceEqDiff, Nat.reduceBEq, Int.reduceToNat, Int.reduceLT, Int.reduceLE, Int.reduceEq, Int.reduceNe, Int.reduceAdd, Int.reduceSub, Int.reduceMul, Int.reduceNeg, ↓reduceIte, reduceCtorEq, hroom, hrm, fle])
      simp only [go_sem, Nat.reduceAdd, Nat.reduceSub, Nat.reduceMul, Nat.reduceLT, Nat.reduceLeDiff, Nat.reduceEqDiff, Nat.reduceBEq, Int.reduceToNat, Int.reduceLT, Int.reduceLE, Int.reduceEq, Int.reduceNe, Int.reduceAdd, Int.reduceSub, Int.reduceMul, Int.reduceNeg, ↓reduceIte, reduceCtorEq, fs1, f7', ha1, Try.ntmps8, Try.results8]
    · have f7 : decide (7 < t.length) = false := by simpa using h7
      have f7' : decide ((t.length : Int) > 7) = false := by simp; omega
      rw [f7] at cT
      simp only [go_sem, Nat.reduceAdd, Nat.reduceSub, Nat.reduceMul, Nat.reduceLT, Nat.reduceLeDiff, Nat.reduceEqDiff, Nat.reduceBEq, Int.reduceToNat, Int.reduceLT, Int.reduceLE, Int.reduceEq, Int.reduceNe, Int.reduceAdd, Int.reduceSub, Int.reduceMul, Int.reduceNeg, ↓reduceIte, reduceCtorEq, f, e]
      (refine callD_pure (cF) (by simp only [go_sem, Nat.reduceAdd, Nat.reduceSub, Nat.reduceMul, Nat.reduceLT, Nat.reduceLeDiff, Nat.reduceEqDiff, Nat.reduceBEq, Int.reduceToNat, Int.reduceLT, Int.reduceLE, Int.reduceEq, Int.reduceNe, Int.reduceAdd, Int.reduceSub, Int.reduceMul, Int.reduceNeg, ↓reduceIte, reduceCtorEq] <;> first | rfl | decide) ?_; simp only [go_sem, Nat.reduceAdd, Nat.reduceSub, Nat.reduceMul, Nat.reduceLT, Nat.reduceLeDiff, Nat.reduceEqDiff, Nat.reduceBEq, Int.reduceToNat, Int.reduceLT, Int.reduceLE, Int.reduceEq, Int.reduceNe, Int.reduceAdd, Int.reduceSub, Int.reduceMul, Int.reduceNeg, ↓reduceIte, reduceCtorEq])
      refine ⟨hl0, by rw [hrow0]; simp, ?_⟩
      rw [hrow0]
      (refine callD_pure (cT) (by simp only [go_sem, Nat.reduceAdd, Nat.reduceSub, Nat.reduceMul, Nat.reduceLT, Nat.reduceLeDiff, Nat.reduceEqDiff, Nat.reduceBEq, Int.reduceToNat, Int.reduceLT, Int.reduceLE, Int.reduceEq, Int.reduceNe, Int.reduceAdd, Int.reduceSub, Int.reduceMul, Int.reduceNeg, ↓reduceIte, reduceCtorEq, freshR, Rcv.pv, Pdu.pv] <;> first | rfl | decide) ?_; simp only [go_sem, Nat.reduceAdd, Nat.reduceSub, Nat.reduceMul, Nat.reduceLT, Nat.reduceLeDiff, Nat.reduceEqDiff, Nat.reduceBEq, Int.reduceToNat, Int.reduceLT, Int.reduceLE, Int.reduceEq, Int.reduceNe, Int.reduceAdd, Int.reduceSub, Int.reduceMul, Int.reduceNeg, ↓reduceIte, reduceCtorEq, freshR, Rcv.pv, Pdu.pv])
      (refine endD_intro (by decide +kernel) ?_; simp only [go_sem, Nat.reduceAdd, Nat.reduceSub, Nat.reduceMul, Nat.reduceLT, Nat.reduceLeDiff, Nat.reduceEqDiff, Nat.reduceBEq, Int.reduceToNat, Int.reduceLT, Int.reduceLE, Int.reduceEq, Int.reduceNe, Int.reduceAdd, Int.reduceSub, Int.reduceMul, Int.reduceNeg, ↓reduceIte, reduceCtorEq, hroom, hrm, fle])
      simp only [go_sem, Nat.reduceAdd, Nat.reduceSub, Nat.reduceMul, Nat.reduceLT, Nat.reduceLeDiff, Nat.reduceEqDiff, Nat.reduceBEq, Int.reduceToNat, Int.reduceLT, Int.reduceLE, Int.reduceEq, Int.reduceNe, Int.reduceAdd, Int.reduceSub, Int.reduceMul, Int.reduceNeg, ↓reduceIte, reduceCtorEq, fs1, f7', Try.ntmps8, Try.results8]
  have fle : decide ((t.length : Int) ≤ rm) = false := by simpa using hle
  have hq : recvV (freshR rm 0 0) p0 = (failR (freshR rm 0 0) 182, (if 7 < t.length then ⟨4, 0, 0, 2, 0, 0, []⟩ else Pdu.none), decide (7 < t.length)) := by
    have hlt : (freshR rm 0 0).room < p0.l := by rw [hp0l]; show rm < _; omega
    by_cases h7 : 7 < t.length
    · rw [if_pos h7] at hp0k
      simp only [recvV, hp0k, beginR, hlt, h7]
      rfl
    · rw [if_neg h7] at hp0k
      simp only [recvV, hp0k, beginR, hlt, h7]
      rfl
  rw [hq] at cT
  generalize hr1 : failR (freshR rm 0 0) 182 = r1 at cT
  generalize ha1 : (if 7 < t.length then (⟨4, 0, 0, 2, 0, 0, []⟩ : Pdu) else Pdu.none) = a1 at cT
  generalize hb1 : decide (7 < t.length) = b1 at cT
  have f7' : decide ((t.length : Int) > 7) = b1 := by rw [← hb1]; simp only [decide_eq_decide]; omega
  have hst1 : r1.st = 4 ∧ r1.err = 182 ∧ r1.fine := by rw [← hr1]; exact ⟨rfl, rfl, hf⟩
  have cX := textT_calls r1
  rw [show decide (r1.st = 3) = false by simp [hst1.1], if_neg (by omega)] at cX
  have cS := sameV_self r1
  obtain ⟨st, len, got, num, left, block, gap, clock, room', err⟩ := r1
  obtain ⟨hs1, hs2, hfi⟩ := hst1
  simp only at hs1 hs2
  subst hs1 hs2
  simp only [go_sem, Nat.reduceAdd, Nat.reduceSub, Nat.reduceMul, Nat.reduceLT, Nat.reduceLeDiff, Nat.reduceEqDiff, Nat.reduceBEq, Int.reduceToNat, Int.reduceLT, Int.reduceLE, Int.reduceEq, Int.reduceNe, Int.reduceAdd, Int.reduceSub, Int.reduceMul, Int.reduceNeg, ↓reduceIte, reduceCtorEq, f, e]
  (refine callD_pure (cF) (by simp only [go_sem, Nat.reduceAdd, Nat.reduceSub, Nat.reduceMul, Nat.reduceLT, Nat.reduceLeDiff, Nat.reduceEqDiff, Nat.reduceBEq, Int.reduceToNat, Int.reduceLT, Int.reduceLE, Int.reduceEq, Int.reduceNe, Int.reduceAdd, Int.reduceSub, Int.reduceMul, Int.reduceNeg, ↓reduceIte, reduceCtorEq] <;> first | rfl | decide) ?_; simp only [go_sem, Nat.reduceAdd, Nat.reduceSub, Nat.reduceMul, Nat.reduceLT, Nat.reduceLeDiff, Nat.reduceEqDiff, Nat.reduceBEq, Int.reduceToNat, Int.reduceLT, Int.reduceLE, Int.reduceEq, Int.reduceNe, Int.reduceAdd, Int.reduceSub, Int.reduceMul, Int.reduceNeg, ↓reduceIte, reduceCtorEq])
  refine ⟨hl0, by rw [hrow0]; simp, ?_⟩
  rw [hrow0]
  (refine callD_pure (cT) (by simp only [go_sem, Nat.reduceAdd, Nat.reduceSub, Nat.reduceMul, Nat.reduceLT, Nat.reduceLeDiff, Nat.reduceEqDiff, Nat.reduceBEq, Int.reduceToNat, Int.reduceLT, Int.reduceLE, Int.reduceEq, Int.reduceNe, Int.reduceAdd, Int.reduceSub, Int.reduceMul, Int.reduceNeg, ↓reduceIte, reduceCtorEq, freshR, Rcv.pv, Pdu.pv] <;> first | rfl | decide) ?_; simp only [go_sem, Nat.reduceAdd, Nat.reduceSub, Nat.reduceMul, Nat.reduceLT, Nat.reduceLeDiff, Nat.reduceEqDiff, Nat.reduceBEq, Int.reduceToNat, Int.reduceLT, Int.reduceLE, Int.reduceEq, Int.reduceNe, Int.reduceAdd, Int.reduceSub, Int.reduceMul, Int.reduceNeg, ↓reduceIte, reduceCtorEq, freshR, Rcv.pv, Pdu.pv])
  (refine endD_intro (by decide +kernel) ?_; simp only [go_sem, Nat.reduceAdd, Nat.reduceSub, Nat.reduceMul, Nat.reduceLT, Nat.reduceLeDiff, Nat.reduceEqDiff, Nat.reduceBEq, Int.reduceToNat, Int.reduceLT, Int.reduceLE, Int.reduceEq, Int.reduceNe, Int.reduceAdd, Int.reduceSub, Int.reduceMul, Int.reduceNeg, ↓reduceIte, reduceCtorEq, hroom, hrm, fle])
  refine wpA_loop (roomI t ⟨4, len, got, num, left, block, gap, clock, room', 182⟩ a1 b1) ⟨_, _, ?_, 1, by omega, by omega, rfl, rfl⟩ ?_
  · simp only [go_sem, Nat.reduceAdd, Nat.reduceSub, Nat.reduceMul, Nat.reduceLT, Nat.reduceLeDiff, Nat.reduceEqDiff, Nat.reduceBEq, Int.reduceToNat, Int.reduceLT, Int.reduceLE, Int.reduceEq, Int.reduceNe, Int.reduceAdd, Int.reduceSub, Int.reduceMul, Int.reduceNeg, ↓reduceIte, reduceCtorEq, roomSt, Int.natCast_one]
  clear cT cF
  rintro m s ⟨i, hi0, hi, rfl, rfl⟩
  by_cases hc : i < partsN t
  · have f1 : decide ((i : Int) < ((partsL t).length : Int)) = true := by simp; omega
    have f1' : (i : Int) < ((partsL t).length : Int) := by omega
    have f0 : (0 : Int) ≤ (i : Int) := by omega
    have hw := wrapIN (i := i) (by unfold partsN at hc; split at hc <;> omega)
    obtain ⟨pi, hpi, hpk⟩ : ∃ pi : Pdu, (partsL t)[i]? = some pi ∧ pi.k = 3 := by
      have h7 : 7 < t.length := by unfold partsN at hc; split at hc <;> omega
      exact ⟨_, (parts_long h7 (by omega)).2.2 i hi0 hc, rfl⟩
    have hpr := parts_right (t := t) (by omega) (by omega) pi (List.mem_of_getElem? hpi)
    have hrow : (pduRows (partsL t)).getD i [] = pi.cells := by simp [pduRows, List.getD_eq_getElem?_getD, hpi]
    have cT := takeT_at (recv_other (r := ⟨4, len, got, num, left, block, gap, clock, room', 182⟩) hpk (show (4 : Int) ≠ 2 by decide)) hfi hpr
    simp only [go_sem, Nat.reduceAdd, Nat.reduceSub, Nat.reduceMul, Nat.reduceLT, Nat.reduceLeDiff, Nat.reduceEqDiff, Nat.reduceBEq, Int.reduceToNat, Int.reduceLT, Int.reduceLE, Int.reduceEq, Int.reduceNe, Int.reduceAdd, Int.reduceSub, Int.reduceMul, Int.reduceNeg, ↓reduceIte, reduceCtorEq, roomSt, f1, f1', f0, Int.toNat_natCast, hrow]
    (refine callD_pure (cT) (by simp only [go_sem, Nat.reduceAdd, Nat.reduceSub, Nat.reduceMul, Nat.reduceLT, Nat.reduceLeDiff, Nat.reduceEqDiff, Nat.reduceBEq, Int.reduceToNat, Int.reduceLT, Int.reduceLE, Int.reduceEq, Int.reduceNe, Int.reduceAdd, Int.reduceSub, Int.reduceMul, Int.reduceNeg, ↓reduceIte, reduceCtorEq, Rcv.pv, Pdu.pv, Pdu.none] <;> first | rfl | decide) ?_; simp only [go_sem, Nat.reduceAdd, Nat.reduceSub, Nat.reduceMul, Nat.reduceLT, Nat.reduceLeDiff, Nat.reduceEqDiff, Nat.reduceBEq, Int.reduceToNat, Int.reduceLT, Int.reduceLE, Int.reduceEq, Int.reduceNe, Int.reduceAdd, Int.reduceSub, Int.reduceMul, Int.reduceNeg, ↓reduceIte, reduceCtorEq, Rcv.pv, Pdu.pv, Pdu.none])
    (refine endD_intro (by decide +kernel) ?_; simp only [go_sem, Nat.reduceAdd, Nat.reduceSub, Nat.reduceMul, Nat.reduceLT, Nat.reduceLeDiff, Nat.reduceEqDiff, Nat.reduceBEq, Int.reduceToNat, Int.reduceLT, Int.reduceLE, Int.reduceEq, Int.reduceNe, Int.reduceAdd, Int.reduceSub, Int.reduceMul, Int.reduceNeg, ↓reduceIte, reduceCtorEq])
    (refine CallA.pure (cS) (by simp only [go_sem, Nat.reduceAdd, Nat.reduceSub, Nat.reduceMul, Nat.reduceLT, Nat.reduceLeDiff, Nat.reduceEqDiff, Nat.reduceBEq, Int.reduceToNat, Int.reduceLT, Int.reduceLE, Int.reduceEq, Int.reduceNe, Int.reduceAdd, Int.reduceSub, Int.reduceMul, Int.reduceNeg, ↓reduceIte, reduceCtorEq, Rcv.pv, hw] <;> first | rfl | decide) ?_; simp only [go_sem, Nat.reduceAdd, Nat.reduceSub, Nat.reduceMul, Nat.reduceLT, Nat.reduceLeDiff, Nat.reduceEqDiff, Nat.reduceBEq, Int.reduceToNat, Int.reduceLT, Int.reduceLE, Int.reduceEq, Int.reduceNe, Int.reduceAdd, Int.reduceSub, Int.reduceMul, Int.reduceNeg, ↓reduceIte, reduceCtorEq, Rcv.pv, hw])
    refine ⟨partsN t - (i + 1), _, by omega, ?_, i + 1, by omega, by omega, rfl, rfl⟩
    simp only [go_sem, Nat.reduceAdd, Nat.reduceSub, Nat.reduceMul, Nat.reduceLT, Nat.reduceLeDiff, Nat.reduceEqDiff, Nat.reduceBEq, Int.reduceToNat, Int.reduceLT, Int.reduceLE, Int.reduceEq, Int.reduceNe, Int.reduceAdd, Int.reduceSub, Int.reduceMul, Int.reduceNeg, ↓reduceIte, reduceCtorEq, roomSt]
  have f1 : decide ((i : Int) < ((partsL t).length : Int)) = false := by simp; omega
  simp only [go_sem, Nat.reduceAdd, Nat.reduceSub, Nat.reduceMul, Nat.reduceLT, Nat.reduceLeDiff, Nat.reduceEqDiff, Nat.reduceBEq, Int.reduceToNat, Int.reduceLT, Int.reduceLE, Int.reduceEq, Int.reduceNe, Int.reduceAdd, Int.reduceSub, Int.reduceMul, Int.reduceNeg, ↓reduceIte, reduceCtorEq, roomSt, f1]
  (refine CallA.pure (cX) (by simp only [go_sem, Nat.reduceAdd, Nat.reduceSub, Nat.reduceMul, Nat.reduceLT, Nat.reduceLeDiff, Nat.reduceEqDiff, Nat.reduceBEq, Int.reduceToNat, Int.reduceLT, Int.reduceLE, Int.reduceEq, Int.reduceNe, Int.reduceAdd, Int.reduceSub, Int.reduceMul, Int.reduceNeg, ↓reduceIte, reduceCtorEq, Rcv.pv] <;> first | rfl | decide) ?_; simp only [go_sem, Nat.reduceAdd, Nat.reduceSub, Nat.reduceMul, Nat.reduceLT, Nat.reduceLeDiff, Nat.reduceEqDiff, Nat.reduceBEq, Int.reduceToNat, Int.reduceLT, Int.reduceLE, Int.reduceEq, Int.reduceNe, Int.reduceAdd, Int.reduceSub, Int.reduceMul, Int.reduceNeg, ↓reduceIte, reduceCtorEq, Rcv.pv])
  cases b1 with
  | false => simp only [go_sem, Nat.reduceAdd, Nat.reduceSub, Nat.reduceMul, Nat.reduceLT, Nat.reduceLeDiff, Nat.reduceEqDiff, Nat.reduceBEq, Int.reduceToNat, Int.reduceLT, Int.reduceLE, Int.reduceEq, Int.reduceNe, Int.reduceAdd, Int.reduceSub, Int.reduceMul, Int.reduceNeg, ↓reduceIte, reduceCtorEq, f7', Try.ntmps8, Try.results8]
  | true =>
    have h7 : 7 < t.length := by simpa using hb1
    rw [if_pos h7] at ha1
    subst ha1
    simp only [go_sem, Nat.reduceAdd, Nat.reduceSub, Nat.reduceMul, Nat.reduceLT, Nat.reduceLeDiff, Nat.reduceEqDiff, Nat.reduceBEq, Int.reduceToNat, Int.reduceLT, Int.reduceLE, Int.reduceEq, Int.reduceNe, Int.reduceAdd, Int.reduceSub, Int.reduceMul, Int.reduceNeg, ↓reduceIte, reduceCtorEq, f7']
    (refine CallA.pure (same_self ⟨4, 0, 0, 2, 0, 0, []⟩) (by simp only [go_sem, Nat.reduceAdd, Nat.reduceSub, Nat.reduceMul, Nat.reduceLT, Nat.reduceLeDiff, Nat.reduceEqDiff, Nat.reduceBEq, Int.reduceToNat, Int.reduceLT, Int.reduceLE, Int.reduceEq, Int.reduceNe, Int.reduceAdd, Int.reduceSub, Int.reduceMul, Int.reduceNeg, ↓reduceIte, reduceCtorEq, Pdu.pv] <;> first | rfl | decide) ?_; simp only [go_sem, Nat.reduceAdd, Nat.reduceSub, Nat.reduceMul, Nat.reduceLT, Nat.reduceLeDiff, Nat.reduceEqDiff, Nat.reduceBEq, Int.reduceToNat, Int.reduceLT, Int.reduceLE, Int.reduceEq, Int.reduceNe, Int.reduceAdd, Int.reduceSub, Int.reduceMul, Int.reduceNeg, ↓reduceIte, reduceCtorEq, Pdu.pv])
    simp only [go_sem, Nat.reduceAdd, Nat.reduceSub, Nat.reduceMul, Nat.reduceLT, Nat.reduceLeDiff, Nat.reduceEqDiff, Nat.reduceBEq, Int.reduceToNat, Int.reduceLT, Int.reduceLE, Int.reduceEq, Int.reduceNe, Int.reduceAdd, Int.reduceSub, Int.reduceMul, Int.reduceNeg, ↓reduceIte, reduceCtorEq, f7', Try.ntmps8, Try.results8]
end Go.Proofs.Ytpnhnobnjcknjaa.Pe
