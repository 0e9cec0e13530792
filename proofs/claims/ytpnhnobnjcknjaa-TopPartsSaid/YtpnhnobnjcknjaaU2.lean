import Derived.Test.YtpnhnobnjcknjaaT1
import Derived.Test.YtpnhnobnjcknjaaE0
namespace Go.Proofs.Ytpnhnobnjcknjaa.Pe
open Go.Pe Go.RowKit
set_option maxRecDepth 20000
set_option maxHeartbeats 4000000
set_option linter.unusedSimpArgs false
set_option linter.unusedVariables false

structure Hnd where
  s : Snd
  r : Rcv
  a : Pdu
  ans : Bool
  k : Nat
def hmore (lose : List Bool) (k : Nat) : Bool := decide (lose.length ≤ k) || !(lose.getD k false)
def stepH (lose : List Bool) (H : Hnd) : Hnd :=
  if (if H.ans then takeS H.s H.a else H.s).goes then
    (if hmore lose (H.k + 1) then ⟨nextS (if H.ans then takeS H.s H.a else H.s), (recvV H.r (nextP (if H.ans then takeS H.s H.a else H.s))).1, (recvV H.r (nextP (if H.ans then takeS H.s H.a else H.s))).2.1, (recvV H.r (nextP (if H.ans then takeS H.s H.a else H.s))).2.2, H.k + 1⟩
     else ⟨nextS (if H.ans then takeS H.s H.a else H.s), H.r, H.a, false, H.k + 1⟩)
  else ⟨tickS (if H.ans then takeS H.s H.a else H.s), tickV H.r, H.a, false, H.k⟩
def liveH (H : Hnd) : Bool := decide (H.s.st = 1) || decide (H.s.st = 2)
def runH (lose : List Bool) : Nat → Hnd → Hnd
  | 0, H => H
  | f + 1, H => if liveH H then runH lose f (stepH lose H) else H
def startH (t : List UInt8) (lose : List Bool) (r : Rcv) : Hnd := if hmore lose 0 then ⟨newS t, (recvV r (newP t)).1, (recvV r (newP t)).2.1, (recvV r (newP t)).2.2, 0⟩ else ⟨newS t, r, Pdu.none, false, 0⟩
def rcvZ : Rcv := ⟨0, 0, [], 0, 0, 0, 0, 0, 0, 0⟩
def hSt (lose : List Bool) (H : Hnd) (i : Nat) : St := ⟨94, [(2, boolsPV lose), (3, .ptr 0 0), (6, .ptr 1 0), (7, .ptr 2 0), (8, .ptr 3 0), (11, .ptr 7 0), (12, PB H.ans), (13, PI H.k), (14, PI i)],
  [(0, .box 29 H.r.cells), (1, .box 29 rcvZ.cells), (2, .box 48 Snd.zero.cells), (3, .box 48 H.s.cells), (7, .box 33 H.a.cells)], 8, 0⟩
def hI (lose : List Bool) (X : Hnd) (m : Nat) (st : St) : Prop := ∃ (i : Nat) (H : Hnd), i ≤ 3000 ∧ m = 3000 - i ∧ H.s.sound ∧ H.r.fine ∧ H.k ≤ i ∧ runH lose m H = X ∧ st = hSt lose H i
theorem boolRow {lose : List Bool} {k : Nat} (h : k < lose.length) : (lose.map rowBo).getD k [] = [PB (lose.getD k false)] := by
  simp [List.getD_eq_getElem?_getD, h, rowBo]
theorem hand20_calls (r : Rcv) (t : List UInt8) (lose : List Bool) (hr : r.fine) (he : newE t = 0) (hl : lose.length ≤ 100) : PureCalls Try.prog 36 [r.pv, bytesPV t, boolsPV lose] (.tup [(runH lose 3000 (startH t lose r)).r.pv, (runH lose 3000 (startH t lose r)).s.pv]) := by
  refine PureCalls.of tabOK mixed Try.func36 rfl rfl (by decide +kernel) (by simp [Try.ntmps36]) ?_
  have cN := new_calls t
  rw [he] at cN
  have hpr := newP_right he
  have hsn := new_sound (t := t)
  have hbl : (lose.map rowBo).length = lose.length := by simp
  generalize hX : runH lose 3000 (startH t lose r) = X
  simp only [go_sem, Nat.reduceAdd, Nat.reduceSub, Nat.reduceMul, Nat.reduceLT, Nat.reduceLeDiff, Nat.reduceEqDiff, Nat.reduceBEq, Int.reduceToNat, Int.reduceLT, Int.reduceLE, Int.reduceEq, Int.reduceNe, Int.reduceAdd, Int.reduceSub, Int.reduceMul, Int.reduceNeg, ↓reduceIte, reduceCtorEq, Try.ntmps36, Try.results36, Rcv.pv]
  (refine CallA.pure (cN) (by simp only [go_sem, Nat.reduceAdd, Nat.reduceSub, Nat.reduceMul, Nat.reduceLT, Nat.reduceLeDiff, Nat.reduceEqDiff, Nat.reduceBEq, Int.reduceToNat, Int.reduceLT, Int.reduceLE, Int.reduceEq, Int.reduceNe, Int.reduceAdd, Int.reduceSub, Int.reduceMul, Int.reduceNeg, ↓reduceIte, reduceCtorEq, Snd.pv, Pdu.pv] <;> first | rfl | decide) ?_; simp only [go_sem, Nat.reduceAdd, Nat.reduceSub, Nat.reduceMul, Nat.reduceLT, Nat.reduceLeDiff, Nat.reduceEqDiff, Nat.reduceBEq, Int.reduceToNat, Int.reduceLT, Int.reduceLE, Int.reduceEq, Int.reduceNe, Int.reduceAdd, Int.reduceSub, Int.reduceMul, Int.reduceNeg, ↓reduceIte, reduceCtorEq, Snd.pv, Pdu.pv])
  have cT := takeT_calls r (newP t) hr hpr
  have hfr := fine_recv hr hpr
  have hm0 : hmore lose 0 = (decide (lose.length = 0) || !(lose.getD 0 false)) := by simp [hmore]
  have three : (lose.length = 0 ∧ hmore lose 0 = true) ∨ (0 < lose.length ∧ lose.getD 0 false = false ∧ hmore lose 0 = true) ∨ (0 < lose.length ∧ lose.getD 0 false = true ∧ hmore lose 0 = false) := by
    rw [hm0]
    by_cases h0 : lose.length = 0
    · exact .inl ⟨h0, by simp [h0]⟩
    · cases h1 : lose.getD 0 false
      · exact .inr (.inl ⟨by omega, rfl, by simp⟩)
      · exact .inr (.inr ⟨by omega, rfl, by simp only [Bool.not_true, Bool.or_false, decide_eq_false_iff_not]; exact h0⟩)
  rcases three with h | h | h
  case' inl =>
    obtain ⟨h0, hm⟩ := h
    have f0 : decide ((lose.length : Int) = 0) = true := decide_eq_true (by omega)
    have hst : startH t lose r = ⟨newS t, (recvV r (newP t)).1, (recvV r (newP t)).2.1, (recvV r (newP t)).2.2, 0⟩ := by rw [startH, if_pos hm]
    rw [hst] at hX
    simp only [go_sem, Nat.reduceAdd, Nat.reduceSub, Nat.reduceMul, Nat.reduceLT, Nat.reduceLeDiff, Nat.reduceEqDiff, Nat.reduceBEq, Int.reduceToNat, Int.reduceLT, Int.reduceLE, Int.reduceEq, Int.reduceNe, Int.reduceAdd, Int.reduceSub, Int.reduceMul, Int.reduceNeg, ↓reduceIte, reduceCtorEq, hbl, f0]
    (refine CallA.pure (cT) (by simp only [go_sem, Nat.reduceAdd, Nat.reduceSub, Nat.reduceMul, Nat.reduceLT, Nat.reduceLeDiff, Nat.reduceEqDiff, Nat.reduceBEq, Int.reduceToNat, Int.reduceLT, Int.reduceLE, Int.reduceEq, Int.reduceNe, Int.reduceAdd, Int.reduceSub, Int.reduceMul, Int.reduceNeg, ↓reduceIte, reduceCtorEq, Rcv.pv, Snd.pv, Pdu.pv] <;> first | rfl | decide) ?_; simp only [go_sem, Nat.reduceAdd, Nat.reduceSub, Nat.reduceMul, Nat.reduceLT, Nat.reduceLeDiff, Nat.reduceEqDiff, Nat.reduceBEq, Int.reduceToNat, Int.reduceLT, Int.reduceLE, Int.reduceEq, Int.reduceNe, Int.reduceAdd, Int.reduceSub, Int.reduceMul, Int.reduceNeg, ↓reduceIte, reduceCtorEq, Rcv.pv, Snd.pv, Pdu.pv])
    refine wpA_loop (hI lose X) ⟨3000, _, ?_, 0, _, by omega, rfl, hsn, hfr, Nat.le_refl _, hX, rfl⟩ ?_
    · simp only [go_sem, Nat.reduceAdd, Nat.reduceSub, Nat.reduceMul, Nat.reduceLT, Nat.reduceLeDiff, Nat.reduceEqDiff, Nat.reduceBEq, Int.reduceToNat, Int.reduceLT, Int.reduceLE, Int.reduceEq, Int.reduceNe, Int.reduceAdd, Int.reduceSub, Int.reduceMul, Int.reduceNeg, ↓reduceIte, reduceCtorEq, hSt, Snd.zero, rcvZ, Rcv.cells, Snd.cells, Pdu.cells, rowsB_nil, Int.natCast_zero]
      exact ⟨rfl, rfl⟩
  case' inr.inl =>
    obtain ⟨h0, h1, hm⟩ := h
    have f0 : decide ((lose.length : Int) = 0) = false := decide_eq_false (by omega)
    have hst : startH t lose r = ⟨newS t, (recvV r (newP t)).1, (recvV r (newP t)).2.1, (recvV r (newP t)).2.2, 0⟩ := by rw [startH, if_pos hm]
    rw [hst] at hX
    have hrow : (lose.map rowBo).getD 0 [] = [PB false] := by rw [boolRow h0, h1]
    simp only [go_sem, Nat.reduceAdd, Nat.reduceSub, Nat.reduceMul, Nat.reduceLT, Nat.reduceLeDiff, Nat.reduceEqDiff, Nat.reduceBEq, Int.reduceToNat, Int.reduceLT, Int.reduceLE, Int.reduceEq, Int.reduceNe, Int.reduceAdd, Int.reduceSub, Int.reduceMul, Int.reduceNeg, ↓reduceIte, reduceCtorEq, hbl, f0, hrow, Int.toNat_zero]
    refine ⟨by omega, ?_⟩
    (refine CallA.pure (cT) (by simp only [go_sem, Nat.reduceAdd, Nat.reduceSub, Nat.reduceMul, Nat.reduceLT, Nat.reduceLeDiff, Nat.reduceEqDiff, Nat.reduceBEq, Int.reduceToNat, Int.reduceLT, Int.reduceLE, Int.reduceEq, Int.reduceNe, Int.reduceAdd, Int.reduceSub, Int.reduceMul, Int.reduceNeg, ↓reduceIte, reduceCtorEq, Rcv.pv, Snd.pv, Pdu.pv] <;> first | rfl | decide) ?_; simp only [go_sem, Nat.reduceAdd, Nat.reduceSub, Nat.reduceMul, Nat.reduceLT, Nat.reduceLeDiff, Nat.reduceEqDiff, Nat.reduceBEq, Int.reduceToNat, Int.reduceLT, Int.reduceLE, Int.reduceEq, Int.reduceNe, Int.reduceAdd, Int.reduceSub, Int.reduceMul, Int.reduceNeg, ↓reduceIte, reduceCtorEq, Rcv.pv, Snd.pv, Pdu.pv])
    refine wpA_loop (hI lose X) ⟨3000, _, ?_, 0, _, by omega, rfl, hsn, hfr, Nat.le_refl _, hX, rfl⟩ ?_
    · simp only [go_sem, Nat.reduceAdd, Nat.reduceSub, Nat.reduceMul, Nat.reduceLT, Nat.reduceLeDiff, Nat.reduceEqDiff, Nat.reduceBEq, Int.reduceToNat, Int.reduceLT, Int.reduceLE, Int.reduceEq, Int.reduceNe, Int.reduceAdd, Int.reduceSub, Int.reduceMul, Int.reduceNeg, ↓reduceIte, reduceCtorEq, hSt, Snd.zero, rcvZ, Rcv.cells, Snd.cells, Pdu.cells, rowsB_nil, Int.natCast_zero]
      exact ⟨rfl, rfl⟩
  case' inr.inr =>
    obtain ⟨h0, h1, hm⟩ := h
    have f0 : decide ((lose.length : Int) = 0) = false := decide_eq_false (by omega)
    have hst : startH t lose r = ⟨newS t, r, Pdu.none, false, 0⟩ := by rw [startH, hm]; rfl
    rw [hst] at hX
    have hrow : (lose.map rowBo).getD 0 [] = [PB true] := by rw [boolRow h0, h1]
    simp only [go_sem, Nat.reduceAdd, Nat.reduceSub, Nat.reduceMul, Nat.reduceLT, Nat.reduceLeDiff, Nat.reduceEqDiff, Nat.reduceBEq, Int.reduceToNat, Int.reduceLT, Int.reduceLE, Int.reduceEq, Int.reduceNe, Int.reduceAdd, Int.reduceSub, Int.reduceMul, Int.reduceNeg, ↓reduceIte, reduceCtorEq, hbl, f0, hrow, Int.toNat_zero]
    refine ⟨by omega, ?_⟩
    refine wpA_loop (hI lose X) ⟨3000, _, ?_, 0, _, by omega, rfl, hsn, hr, Nat.le_refl _, hX, rfl⟩ ?_
    · simp only [go_sem, Nat.reduceAdd, Nat.reduceSub, Nat.reduceMul, Nat.reduceLT, Nat.reduceLeDiff, Nat.reduceEqDiff, Nat.reduceBEq, Int.reduceToNat, Int.reduceLT, Int.reduceLE, Int.reduceEq, Int.reduceNe, Int.reduceAdd, Int.reduceSub, Int.reduceMul, Int.reduceNeg, ↓reduceIte, reduceCtorEq, hSt, Snd.zero, rcvZ, Rcv.cells, Snd.cells, Pdu.cells, Pdu.none, rowsB_nil, Int.natCast_zero]
      exact ⟨rfl, rfl, rfl⟩
  all_goals
    rintro m st ⟨i, H, hi, rfl, hs, hf, hk, hrun, rfl⟩
    obtain ⟨s, r1, a, ans, k⟩ := H
    simp only at hs hf hk
    by_cases hi3 : i < 3000
    rotate_left 1
    · have g1 : decide ((i : Int) < 3000) = false := decide_eq_false (by omega)
      have hm0' : 3000 - i = 0 := by omega
      rw [hm0', runH] at hrun
      subst hrun
      simp only [go_sem, Nat.reduceAdd, Nat.reduceSub, Nat.reduceMul, Nat.reduceLT, Nat.reduceLeDiff, Nat.reduceEqDiff, Nat.reduceBEq, Int.reduceToNat, Int.reduceLT, Int.reduceLE, Int.reduceEq, Int.reduceNe, Int.reduceAdd, Int.reduceSub, Int.reduceMul, Int.reduceNeg, ↓reduceIte, reduceCtorEq, hSt, g1]
      refine endD_intro (by decide +kernel) ?_
      simp only [go_sem, Nat.reduceAdd, Nat.reduceSub, Nat.reduceMul, Nat.reduceLT, Nat.reduceLeDiff, Nat.reduceEqDiff, Nat.reduceBEq, Int.reduceToNat, Int.reduceLT, Int.reduceLE, Int.reduceEq, Int.reduceNe, Int.reduceAdd, Int.reduceSub, Int.reduceMul, Int.reduceNeg, ↓reduceIte, reduceCtorEq, Try.ntmps36, Try.results36, Rcv.pv, Snd.pv]
    have g1 : decide ((i : Int) < 3000) = true := decide_eq_true (by omega)
    obtain ⟨m, hm1⟩ : ∃ m, 3000 - i = m + 1 := ⟨2999 - i, by omega⟩
    rw [hm1, runH] at hrun
    have hw : IntKind.wrap .i64 ((i : Int) + 1) = ((i + 1 : Nat) : Int) := by rw [wrapI64 (by omega)]; omega
    have hwk : IntKind.wrap .i64 ((k : Int) + 1) = ((k + 1 : Nat) : Int) := by rw [wrapI64 (by omega)]; omega
    by_cases hl1 : s.st = 1 ∨ s.st = 2
    rotate_left 1
    · have hlv : liveH ⟨s, r1, a, ans, k⟩ = false := by simp [liveH]; omega
      rw [hlv] at hrun
      simp only [Bool.false_eq_true, if_false] at hrun
      subst hrun
      have g2 : decide (s.st = 1) = false := decide_eq_false (by omega)
      have g3 : decide (s.st = 2) = false := decide_eq_false (by omega)
      simp only [go_sem, Nat.reduceAdd, Nat.reduceSub, Nat.reduceMul, Nat.reduceLT, Nat.reduceLeDiff, Nat.reduceEqDiff, Nat.reduceBEq, Int.reduceToNat, Int.reduceLT, Int.reduceLE, Int.reduceEq, Int.reduceNe, Int.reduceAdd, Int.reduceSub, Int.reduceMul, Int.reduceNeg, ↓reduceIte, reduceCtorEq, hSt, g1, g2, g3]
      refine endD_intro (by decide +kernel) ?_
      simp only [go_sem, Nat.reduceAdd, Nat.reduceSub, Nat.reduceMul, Nat.reduceLT, Nat.reduceLeDiff, Nat.reduceEqDiff, Nat.reduceBEq, Int.reduceToNat, Int.reduceLT, Int.reduceLE, Int.reduceEq, Int.reduceNe, Int.reduceAdd, Int.reduceSub, Int.reduceMul, Int.reduceNeg, ↓reduceIte, reduceCtorEq, Try.ntmps36, Try.results36, Rcv.pv, Snd.pv]
    have hlv : liveH ⟨s, r1, a, ans, k⟩ = true := by simp [liveH]; omega
    rw [hlv, if_pos rfl] at hrun
    -- the sender behind a flow, if there was one
    obtain ⟨s1, hs1⟩ : ∃ s1, (if ans then takeS s a else s) = s1 := ⟨_, rfl⟩
    have hso : s1.sound := by
      rw [← hs1]
      split
      · exact take_sound hs a
      · exact hs
    have hstep : stepH lose ⟨s, r1, a, ans, k⟩ = if s1.goes then (if hmore lose (k + 1) then ⟨nextS s1, (recvV r1 (nextP s1)).1, (recvV r1 (nextP s1)).2.1, (recvV r1 (nextP s1)).2.2, k + 1⟩ else ⟨nextS s1, r1, a, false, k + 1⟩) else ⟨tickS s1, tickV r1, a, false, k⟩ := by
      rw [← hs1]; rfl
    rw [hstep] at hrun
    have hmk : hmore lose (k + 1) = (decide (lose.length ≤ k + 1) || !(lose.getD (k + 1) false)) := rfl
    have cNx := next_calls s1 hso.1.1
    have cTk := tick_calls s1
    have cRt := tickT_calls r1
    have cTa := take_calls s a
    have hns := next_sound hso
    have hts := tick_sound hso
    have hgo : s1.goes = false → nextS s1 = s1 := fun h => by rw [nextS, if_neg (by rw [h]; decide)]
    have cond : wpA Try.prog tab (.skip) ⟨0, [], [], 0, 0⟩ (fun _ _ => True) := trivial
    clear hstep
    have h12 : (decide (s.st = 1) = true) ∨ (decide (s.st = 1) = false ∧ decide (s.st = 2) = true) := by
      rcases hl1 with e | e
      · exact .inl (by simp [e])
      · exact .inr ⟨by simp [e], by simp [e]⟩
    cases ans
    case' false =>
      have e0 : s1 = s := by rw [← hs1]; rfl
      subst e0
      rcases h12 with g2 | ⟨g2, g3⟩
      case' inl => simp only [go_sem, Nat.reduceAdd, Nat.reduceSub, Nat.reduceMul, Nat.reduceLT, Nat.reduceLeDiff, Nat.reduceEqDiff, Nat.reduceBEq, Int.reduceToNat, Int.reduceLT, Int.reduceLE, Int.reduceEq, Int.reduceNe, Int.reduceAdd, Int.reduceSub, Int.reduceMul, Int.reduceNeg, ↓reduceIte, reduceCtorEq, hSt, g1, g2]
      case' inr => simp only [go_sem, Nat.reduceAdd, Nat.reduceSub, Nat.reduceMul, Nat.reduceLT, Nat.reduceLeDiff, Nat.reduceEqDiff, Nat.reduceBEq, Int.reduceToNat, Int.reduceLT, Int.reduceLE, Int.reduceEq, Int.reduceNe, Int.reduceAdd, Int.reduceSub, Int.reduceMul, Int.reduceNeg, ↓reduceIte, reduceCtorEq, hSt, g1, g2, g3]
    case' true =>
      have e0 : s1 = takeS s a := by rw [← hs1]; rfl
      rw [← e0] at cTa
      rcases h12 with g2 | ⟨g2, g3⟩
      case' inl =>
        simp only [go_sem, Nat.reduceAdd, Nat.reduceSub, Nat.reduceMul, Nat.reduceLT, Nat.reduceLeDiff, Nat.reduceEqDiff, Nat.reduceBEq, Int.reduceToNat, Int.reduceLT, Int.reduceLE, Int.reduceEq, Int.reduceNe, Int.reduceAdd, Int.reduceSub, Int.reduceMul, Int.reduceNeg, ↓reduceIte, reduceCtorEq, hSt, g1, g2]
        (refine CallA.pure (cTa) (by simp only [go_sem, Nat.reduceAdd, Nat.reduceSub, Nat.reduceMul, Nat.reduceLT, Nat.reduceLeDiff, Nat.reduceEqDiff, Nat.reduceBEq, Int.reduceToNat, Int.reduceLT, Int.reduceLE, Int.reduceEq, Int.reduceNe, Int.reduceAdd, Int.reduceSub, Int.reduceMul, Int.reduceNeg, ↓reduceIte, reduceCtorEq, Snd.pv, Pdu.pv] <;> first | rfl | decide) ?_; simp only [go_sem, Nat.reduceAdd, Nat.reduceSub, Nat.reduceMul, Nat.reduceLT, Nat.reduceLeDiff, Nat.reduceEqDiff, Nat.reduceBEq, Int.reduceToNat, Int.reduceLT, Int.reduceLE, Int.reduceEq, Int.reduceNe, Int.reduceAdd, Int.reduceSub, Int.reduceMul, Int.reduceNeg, ↓reduceIte, reduceCtorEq, Snd.pv, Pdu.pv])
      case' inr =>
        simp only [go_sem, Nat.reduceAdd, Nat.reduceSub, Nat.reduceMul, Nat.reduceLT, Nat.reduceLeDiff, Nat.reduceEqDiff, Nat.reduceBEq, Int.reduceToNat, Int.reduceLT, Int.reduceLE, Int.reduceEq, Int.reduceNe, Int.reduceAdd, Int.reduceSub, Int.reduceMul, Int.reduceNeg, ↓reduceIte, reduceCtorEq, hSt, g1, g2, g3]
        (refine CallA.pure (cTa) (by simp only [go_sem, Nat.reduceAdd, Nat.reduceSub, Nat.reduceMul, Nat.reduceLT, Nat.reduceLeDiff, Nat.reduceEqDiff, Nat.reduceBEq, Int.reduceToNat, Int.reduceLT, Int.reduceLE, Int.reduceEq, Int.reduceNe, Int.reduceAdd, Int.reduceSub, Int.reduceMul, Int.reduceNeg, ↓reduceIte, reduceCtorEq, Snd.pv, Pdu.pv] <;> first | rfl | decide) ?_; simp only [go_sem, Nat.reduceAdd, Nat.reduceSub, Nat.reduceMul, Nat.reduceLT, Nat.reduceLeDiff, Nat.reduceEqDiff, Nat.reduceBEq, Int.reduceToNat, Int.reduceLT, Int.reduceLE, Int.reduceEq, Int.reduceNe, Int.reduceAdd, Int.reduceSub, Int.reduceMul, Int.reduceNeg, ↓reduceIte, reduceCtorEq, Snd.pv, Pdu.pv])
    all_goals
      (refine CallA.pure (cNx) (by simp only [go_sem, Nat.reduceAdd, Nat.reduceSub, Nat.reduceMul, Nat.reduceLT, Nat.reduceLeDiff, Nat.reduceEqDiff, Nat.reduceBEq, Int.reduceToNat, Int.reduceLT, Int.reduceLE, Int.reduceEq, Int.reduceNe, Int.reduceAdd, Int.reduceSub, Int.reduceMul, Int.reduceNeg, ↓reduceIte, reduceCtorEq, Snd.pv, Pdu.pv] <;> first | rfl | decide) ?_; simp only [go_sem, Nat.reduceAdd, Nat.reduceSub, Nat.reduceMul, Nat.reduceLT, Nat.reduceLeDiff, Nat.reduceEqDiff, Nat.reduceBEq, Int.reduceToNat, Int.reduceLT, Int.reduceLE, Int.reduceEq, Int.reduceNe, Int.reduceAdd, Int.reduceSub, Int.reduceMul, Int.reduceNeg, ↓reduceIte, reduceCtorEq, Snd.pv, Pdu.pv])
      cases hg : s1.goes with
      | false =>
        rw [hg] at hrun
        simp only [Bool.false_eq_true, if_false] at hrun
        rw [hgo hg] at *
        simp only [go_sem, Nat.reduceAdd, Nat.reduceSub, Nat.reduceMul, Nat.reduceLT, Nat.reduceLeDiff, Nat.reduceEqDiff, Nat.reduceBEq, Int.reduceToNat, Int.reduceLT, Int.reduceLE, Int.reduceEq, Int.reduceNe, Int.reduceAdd, Int.reduceSub, Int.reduceMul, Int.reduceNeg, ↓reduceIte, reduceCtorEq]
        (refine CallA.pure (cTk) (by simp only [go_sem, Nat.reduceAdd, Nat.reduceSub, Nat.reduceMul, Nat.reduceLT, Nat.reduceLeDiff, Nat.reduceEqDiff, Nat.reduceBEq, Int.reduceToNat, Int.reduceLT, Int.reduceLE, Int.reduceEq, Int.reduceNe, Int.reduceAdd, Int.reduceSub, Int.reduceMul, Int.reduceNeg, ↓reduceIte, reduceCtorEq, Snd.pv] <;> first | rfl | decide) ?_; simp only [go_sem, Nat.reduceAdd, Nat.reduceSub, Nat.reduceMul, Nat.reduceLT, Nat.reduceLeDiff, Nat.reduceEqDiff, Nat.reduceBEq, Int.reduceToNat, Int.reduceLT, Int.reduceLE, Int.reduceEq, Int.reduceNe, Int.reduceAdd, Int.reduceSub, Int.reduceMul, Int.reduceNeg, ↓reduceIte, reduceCtorEq, Snd.pv])
        (refine CallA.pure (cRt) (by simp only [go_sem, Nat.reduceAdd, Nat.reduceSub, Nat.reduceMul, Nat.reduceLT, Nat.reduceLeDiff, Nat.reduceEqDiff, Nat.reduceBEq, Int.reduceToNat, Int.reduceLT, Int.reduceLE, Int.reduceEq, Int.reduceNe, Int.reduceAdd, Int.reduceSub, Int.reduceMul, Int.reduceNeg, ↓reduceIte, reduceCtorEq, Rcv.pv] <;> first | rfl | decide) ?_; simp only [go_sem, Nat.reduceAdd, Nat.reduceSub, Nat.reduceMul, Nat.reduceLT, Nat.reduceLeDiff, Nat.reduceEqDiff, Nat.reduceBEq, Int.reduceToNat, Int.reduceLT, Int.reduceLE, Int.reduceEq, Int.reduceNe, Int.reduceAdd, Int.reduceSub, Int.reduceMul, Int.reduceNeg, ↓reduceIte, reduceCtorEq, Rcv.pv])
        refine ⟨m, _, by omega, ?_, i + 1, ⟨tickS s1, tickV r1, a, false, k⟩, by omega, by omega, hts, fine_tick hf, by show k ≤ i + 1; omega, hrun, rfl⟩
        simp only [go_sem, Nat.reduceAdd, Nat.reduceSub, Nat.reduceMul, Nat.reduceLT, Nat.reduceLeDiff, Nat.reduceEqDiff, Nat.reduceBEq, Int.reduceToNat, Int.reduceLT, Int.reduceLE, Int.reduceEq, Int.reduceNe, Int.reduceAdd, Int.reduceSub, Int.reduceMul, Int.reduceNeg, ↓reduceIte, reduceCtorEq, hSt, hw, tickV]
      | true =>
        rw [hg, if_pos rfl, hmk] at hrun
        have hnr := nextP_right hso hg
        have cRn := takeT_calls r1 (nextP s1) hf hnr
        have hfn := fine_recv hf hnr
        simp only [go_sem, Nat.reduceAdd, Nat.reduceSub, Nat.reduceMul, Nat.reduceLT, Nat.reduceLeDiff, Nat.reduceEqDiff, Nat.reduceBEq, Int.reduceToNat, Int.reduceLT, Int.reduceLE, Int.reduceEq, Int.reduceNe, Int.reduceAdd, Int.reduceSub, Int.reduceMul, Int.reduceNeg, ↓reduceIte, reduceCtorEq, hwk, hbl]
        by_cases hkl : lose.length ≤ k + 1
        · have g4 : decide (((k + 1 : Nat) : Int) ≥ (lose.length : Int)) = true := decide_eq_true (by omega)
          have hm2 : (decide (lose.length ≤ k + 1) || !(lose.getD (k + 1) false)) = true := by rw [decide_eq_true hkl]; rfl
          rw [hm2, if_pos rfl] at hrun
          simp only [go_sem, Nat.reduceAdd, Nat.reduceSub, Nat.reduceMul, Nat.reduceLT, Nat.reduceLeDiff, Nat.reduceEqDiff, Nat.reduceBEq, Int.reduceToNat, Int.reduceLT, Int.reduceLE, Int.reduceEq, Int.reduceNe, Int.reduceAdd, Int.reduceSub, Int.reduceMul, Int.reduceNeg, ↓reduceIte, reduceCtorEq, g4]
          (refine CallA.pure (cRn) (by simp only [go_sem, Nat.reduceAdd, Nat.reduceSub, Nat.reduceMul, Nat.reduceLT, Nat.reduceLeDiff, Nat.reduceEqDiff, Nat.reduceBEq, Int.reduceToNat, Int.reduceLT, Int.reduceLE, Int.reduceEq, Int.reduceNe, Int.reduceAdd, Int.reduceSub, Int.reduceMul, Int.reduceNeg, ↓reduceIte, reduceCtorEq, Rcv.pv, Pdu.pv] <;> first | rfl | decide) ?_; simp only [go_sem, Nat.reduceAdd, Nat.reduceSub, Nat.reduceMul, Nat.reduceLT, Nat.reduceLeDiff, Nat.reduceEqDiff, Nat.reduceBEq, Int.reduceToNat, Int.reduceLT, Int.reduceLE, Int.reduceEq, Int.reduceNe, Int.reduceAdd, Int.reduceSub, Int.reduceMul, Int.reduceNeg, ↓reduceIte, reduceCtorEq, Rcv.pv, Pdu.pv])
          refine ⟨m, _, by omega, ?_, i + 1, ⟨nextS s1, (recvV r1 (nextP s1)).1, (recvV r1 (nextP s1)).2.1, (recvV r1 (nextP s1)).2.2, k + 1⟩, by omega, by omega, hns, hfn, by show k + 1 ≤ i + 1; omega, hrun, rfl⟩
          simp only [go_sem, Nat.reduceAdd, Nat.reduceSub, Nat.reduceMul, Nat.reduceLT, Nat.reduceLeDiff, Nat.reduceEqDiff, Nat.reduceBEq, Int.reduceToNat, Int.reduceLT, Int.reduceLE, Int.reduceEq, Int.reduceNe, Int.reduceAdd, Int.reduceSub, Int.reduceMul, Int.reduceNeg, ↓reduceIte, reduceCtorEq, hSt, hw]
        · have g4 : decide (((k + 1 : Nat) : Int) ≥ (lose.length : Int)) = false := decide_eq_false (by omega)
          have hkr := boolRow (lose := lose) (k := k + 1) (by omega)
          have hlt : ((k + 1 : Nat) : Int) < (lose.length : Int) := by omega
          have hge : (0 : Int) ≤ ((k + 1 : Nat) : Int) := by omega
          cases hb : lose.getD (k + 1) false with
          | false =>
            rw [hb] at hkr
            have hm2 : (decide (lose.length ≤ k + 1) || !(lose.getD (k + 1) false)) = true := by rw [hb]; simp
            rw [hm2, if_pos rfl] at hrun
            simp only [go_sem, Nat.reduceAdd, Nat.reduceSub, Nat.reduceMul, Nat.reduceLT, Nat.reduceLeDiff, Nat.reduceEqDiff, Nat.reduceBEq, Int.reduceToNat, Int.reduceLT, Int.reduceLE, Int.reduceEq, Int.reduceNe, Int.reduceAdd, Int.reduceSub, Int.reduceMul, Int.reduceNeg, ↓reduceIte, reduceCtorEq, g4, hbl, hlt, hge, Int.toNat_natCast, hkr]
            (refine CallA.pure (cRn) (by simp only [go_sem, Nat.reduceAdd, Nat.reduceSub, Nat.reduceMul, Nat.reduceLT, Nat.reduceLeDiff, Nat.reduceEqDiff, Nat.reduceBEq, Int.reduceToNat, Int.reduceLT, Int.reduceLE, Int.reduceEq, Int.reduceNe, Int.reduceAdd, Int.reduceSub, Int.reduceMul, Int.reduceNeg, ↓reduceIte, reduceCtorEq, Rcv.pv, Pdu.pv] <;> first | rfl | decide) ?_; simp only [go_sem, Nat.reduceAdd, Nat.reduceSub, Nat.reduceMul, Nat.reduceLT, Nat.reduceLeDiff, Nat.reduceEqDiff, Nat.reduceBEq, Int.reduceToNat, Int.reduceLT, Int.reduceLE, Int.reduceEq, Int.reduceNe, Int.reduceAdd, Int.reduceSub, Int.reduceMul, Int.reduceNeg, ↓reduceIte, reduceCtorEq, Rcv.pv, Pdu.pv])
            refine ⟨m, _, by omega, ?_, i + 1, ⟨nextS s1, (recvV r1 (nextP s1)).1, (recvV r1 (nextP s1)).2.1, (recvV r1 (nextP s1)).2.2, k + 1⟩, by omega, by omega, hns, hfn, by show k + 1 ≤ i + 1; omega, hrun, rfl⟩
            simp only [go_sem, Nat.reduceAdd, Nat.reduceSub, Nat.reduceMul, Nat.reduceLT, Nat.reduceLeDiff, Nat.reduceEqDiff, Nat.reduceBEq, Int.reduceToNat, Int.reduceLT, Int.reduceLE, Int.reduceEq, Int.reduceNe, Int.reduceAdd, Int.reduceSub, Int.reduceMul, Int.reduceNeg, ↓reduceIte, reduceCtorEq, hSt, hw]
          | true =>
            rw [hb] at hkr
            have hm2 : (decide (lose.length ≤ k + 1) || !(lose.getD (k + 1) false)) = false := by rw [hb, decide_eq_false hkl]; rfl
            rw [hm2] at hrun
            simp only [Bool.false_eq_true, if_false] at hrun
            simp only [go_sem, Nat.reduceAdd, Nat.reduceSub, Nat.reduceMul, Nat.reduceLT, Nat.reduceLeDiff, Nat.reduceEqDiff, Nat.reduceBEq, Int.reduceToNat, Int.reduceLT, Int.reduceLE, Int.reduceEq, Int.reduceNe, Int.reduceAdd, Int.reduceSub, Int.reduceMul, Int.reduceNeg, ↓reduceIte, reduceCtorEq, g4, hbl, hlt, hge, Int.toNat_natCast, hkr]
            refine ⟨m, _, by omega, ?_, i + 1, ⟨nextS s1, r1, a, false, k + 1⟩, by omega, by omega, hns, hf, by show k + 1 ≤ i + 1; omega, hrun, rfl⟩
            simp only [go_sem, Nat.reduceAdd, Nat.reduceSub, Nat.reduceMul, Nat.reduceLT, Nat.reduceLeDiff, Nat.reduceEqDiff, Nat.reduceBEq, Int.reduceToNat, Int.reduceLT, Int.reduceLE, Int.reduceEq, Int.reduceNe, Int.reduceAdd, Int.reduceSub, Int.reduceMul, Int.reduceNeg, ↓reduceIte, reduceCtorEq, hSt, hw]
end Go.Proofs.Ytpnhnobnjcknjaa.Pe
