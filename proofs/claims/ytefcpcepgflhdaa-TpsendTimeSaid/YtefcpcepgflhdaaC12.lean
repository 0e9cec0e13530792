import Derived.Test.YtefcpcepgflhdaaC11
namespace Go.Proofs.Ytefcpcepgflhdaa.Pe
open Go.Pe Go.RowKit
set_option maxRecDepth 20000
set_option maxHeartbeats 4000000
set_option linter.unusedSimpArgs false

def waitS (tt : List UInt8) (i : Nat) (c : Int) : Snd := if i ≤ 10 then ⟨1, tt, 6, 1, -1, 0, c, i, 0⟩ else ⟨4, tt, 6, 1, -1, 0, 0, 11, 181⟩
theorem wait_tick (tt : List UInt8) (i : Nat) (c : Nat) (h : c < 100) : tickS (waitS tt i c) = waitS tt i ((c + 1 : Nat) : Int) := by
  unfold waitS
  by_cases hi : i ≤ 10
  · rw [if_pos hi, if_pos hi]
    have hw : IntKind.wrap .i64 ((c : Int) + 1) = (c : Int) + 1 := wrapI64 (by omega)
    simp only [tickS, hw]
    rw [if_pos (by simp), if_neg (by omega), if_neg (by simp; omega)]
    simp
  · rw [if_neg hi, if_neg hi]
    simp [tickS]
theorem wait_take (tt : List UInt8) (i : Nat) (c : Int) : takeS (waitS tt i c) ⟨4, 0, 0, 1, 9, 9, []⟩ = waitS tt (i + 1) 0 := by
  unfold waitS
  by_cases hi : i ≤ 10
  · have hw : IntKind.wrap .i64 ((i : Int) + 1) = (i : Int) + 1 := wrapI64 (by omega)
    by_cases h10 : i = 10
    · subst h10
      simp [takeS, Snd.takes, Pdu.right, wrapI64]
    · rw [if_pos hi, if_pos (by omega)]
      simp [takeS, Snd.takes, Pdu.right, hw]
      omega
  · rw [if_neg hi, if_neg (by omega)]
    simp [takeS, Snd.takes]

theorem modN (n : UInt8) (m : Int) (k : Nat) (hm : m = k) (hk : 0 < k) : ∃ w : Nat, (IntKind.wrap .i64 n.toNat).tmod m = w ∧ w < k := by
  have h := n.toNat_lt
  rw [wrapI64 (by omega), hm]
  refine ⟨n.toNat % k, ?_, Nat.mod_lt _ hk⟩
  rw [Int.ofNat_tmod]
def timeSt (tt : List UInt8) (ti wa : UInt8) (w i : Nat) : St := ⟨94, [(1, U8 ti), (2, U8 wa), (7, PB true), (8, .ptr 3 0), (11, PI w), (12, PI i)], [(3, .box 28 (waitS tt i 0).cells)], 9, 0⟩
def timeI (tt : List UInt8) (ti wa : UInt8) (w m : Nat) (st : St) : Prop := ∃ i : Nat, i ≤ w ∧ m = w - i ∧ st = timeSt tt ti wa w i
def time2St (tt : List UInt8) (ti wa : UInt8) (w i k : Nat) : St := ⟨94, [(1, U8 ti), (2, U8 wa), (7, PB true), (8, .ptr 3 0), (11, PI w), (12, PI i), (13, PI k)], [(3, .box 28 (waitS tt i k).cells)], 9, 0⟩
def time2I (tt : List UInt8) (ti wa : UInt8) (w i r m : Nat) (st : St) : Prop := ∃ k : Nat, k ≤ r ∧ m = r - k ∧ st = time2St tt ti wa w i k
def time3St (tt : List UInt8) (w k : Nat) : St := ⟨94, [(7, PB true), (8, .ptr 3 0), (14, PI k)], [(3, .box 28 (waitS tt w k).cells)], 9, 0⟩
def time3I (tt : List UInt8) (w m : Nat) (st : St) : Prop := ∃ k : Nat, k ≤ 100 ∧ m = 100 - k ∧ st = time3St tt w k
theorem time_calls (b : List UInt8) (ti wa : UInt8) : PureCalls Try.prog 7 [bytesPV b, U8 ti, U8 wa] (PB true) := by
  refine PureCalls.of tabOK mixed Try.func7 rfl rfl (by decide +kernel) (by simp [Try.ntmps7]) ?_
  generalize htt : b.take 300 ++ textB 8 = tt
  have hlen : 8 ≤ tt.length ∧ tt.length ≤ 308 := by subst htt; simp [textB_length]; omega
  have hS : newS tt = waitS tt 0 0 := by
    unfold newS
    rw [if_neg (by omega), if_neg (by omega)]
    simp [waitS]
  have hE : newE tt = 0 := by
    unfold newE
    rw [if_neg (by omega), if_neg (by omega)]
  have cN := new_calls tt
  rw [hS, hE] at cN
  clear hS hE
  obtain ⟨w, hw14, hw⟩ := modN wa 14 14 rfl (by omega)
  obtain ⟨r, hr101, hr⟩ := modN ti 101 101 rfl (by omega)
  simp only [go_sem, Nat.reduceAdd, Nat.reduceSub, Nat.reduceMul, Nat.reduceLT, Nat.reduceLeDiff, Nat.reduceEqDiff, Nat.reduceBEq, Int.reduceToNat, Int.reduceLT, Int.reduceLE, Int.reduceEq, Int.reduceNe, Int.reduceAdd, Int.reduceSub, Int.reduceMul, Int.reduceNeg, ↓reduceIte, reduceCtorEq, Try.ntmps7, Try.results7]
  refine CallA.same head_calls (by simp only [go_sem, Nat.reduceAdd, Nat.reduceSub, Nat.reduceMul, Nat.reduceLT, Nat.reduceLeDiff, Nat.reduceEqDiff, Nat.reduceBEq, Int.reduceToNat, Int.reduceLT, Int.reduceLE, Int.reduceEq, Int.reduceNe, Int.reduceAdd, Int.reduceSub, Int.reduceMul, Int.reduceNeg, ↓reduceIte, reduceCtorEq]) ?_
  simp only [go_sem, Nat.reduceAdd, Nat.reduceSub, Nat.reduceMul, Nat.reduceLT, Nat.reduceLeDiff, Nat.reduceEqDiff, Nat.reduceBEq, Int.reduceToNat, Int.reduceLT, Int.reduceLE, Int.reduceEq, Int.reduceNe, Int.reduceAdd, Int.reduceSub, Int.reduceMul, Int.reduceNeg, ↓reduceIte, reduceCtorEq]
  refine CallA.into tabOK mixed Try.func15 rfl rfl (by decide +kernel) (by simp [Try.ntmps15]) ?_
  simp only [go_sem, Nat.reduceAdd, Nat.reduceSub, Nat.reduceMul, Nat.reduceLT, Nat.reduceLeDiff, Nat.reduceEqDiff, Nat.reduceBEq, Int.reduceToNat, Int.reduceLT, Int.reduceLE, Int.reduceEq, Int.reduceNe, Int.reduceAdd, Int.reduceSub, Int.reduceMul, Int.reduceNeg, ↓reduceIte, reduceCtorEq, Try.ntmps15, Try.results15, hcutE]
  refine ⟨⟨by split <;> omega, by split <;> omega⟩, ⟨by simp; omega, by simp; omega⟩, ?_⟩
  refine CallA.same (text_at 8 8 rfl (by omega)) (by simp only [go_sem, Nat.reduceAdd, Nat.reduceSub, Nat.reduceMul, Nat.reduceLT, Nat.reduceLeDiff, Nat.reduceEqDiff, Nat.reduceBEq, Int.reduceToNat, Int.reduceLT, Int.reduceLE, Int.reduceEq, Int.reduceNe, Int.reduceAdd, Int.reduceSub, Int.reduceMul, Int.reduceNeg, ↓reduceIte, reduceCtorEq]) ?_
  simp only [go_sem, Nat.reduceAdd, Nat.reduceSub, Nat.reduceMul, Nat.reduceLT, Nat.reduceLeDiff, Nat.reduceEqDiff, Nat.reduceBEq, Int.reduceToNat, Int.reduceLT, Int.reduceLE, Int.reduceEq, Int.reduceNe, Int.reduceAdd, Int.reduceSub, Int.reduceMul, Int.reduceNeg, ↓reduceIte, reduceCtorEq, htt, textB_length]
  refine ⟨⟨by simp; omega, by simp; omega⟩, ?_⟩
  refine CallA.pure cN (by simp only [go_sem, Nat.reduceAdd, Nat.reduceSub, Nat.reduceMul, Nat.reduceLT, Nat.reduceLeDiff, Nat.reduceEqDiff, Nat.reduceBEq, Int.reduceToNat, Int.reduceLT, Int.reduceLE, Int.reduceEq, Int.reduceNe, Int.reduceAdd, Int.reduceSub, Int.reduceMul, Int.reduceNeg, ↓reduceIte, reduceCtorEq]) ?_
  generalize newP tt = p0
  simp only [go_sem, Nat.reduceAdd, Nat.reduceSub, Nat.reduceMul, Nat.reduceLT, Nat.reduceLeDiff, Nat.reduceEqDiff, Nat.reduceBEq, Int.reduceToNat, Int.reduceLT, Int.reduceLE, Int.reduceEq, Int.reduceNe, Int.reduceAdd, Int.reduceSub, Int.reduceMul, Int.reduceNeg, ↓reduceIte, reduceCtorEq, Snd.pv, Pdu.pv, hw14]
  refine wpA_loop (timeI tt ti wa w) ⟨w, _, ?_, 0, by omega, by omega, rfl⟩ ?_
  · simp only [go_sem, Nat.reduceAdd, Nat.reduceSub, Nat.reduceMul, Nat.reduceLT, Nat.reduceLeDiff, Nat.reduceEqDiff, Nat.reduceBEq, Int.reduceToNat, Int.reduceLT, Int.reduceLE, Int.reduceEq, Int.reduceNe, Int.reduceAdd, Int.reduceSub, Int.reduceMul, Int.reduceNeg, ↓reduceIte, reduceCtorEq, Int.natCast_zero, timeSt]
  rintro m st ⟨i, hi, rfl, rfl⟩
  by_cases hiw : i < w
  · have e1 : decide ((i : Int) < (w : Int)) = true := by simp; omega
    have cTk := take_calls (waitS tt i r) ⟨4, 0, 0, 1, 9, 9, []⟩
    rw [wait_take] at cTk
    have hwi : IntKind.wrap .i64 ((i : Int) + 1) = ((i + 1 : Nat) : Int) := by rw [wrapI64 (by omega)]; rfl
    have fin : ∀ st', Weak st' (timeSt tt ti wa w (i + 1)) → ∃ m' s'', m' < w - i ∧ Weak st' s'' ∧ timeI tt ti wa w m' s'' :=
      fun st' h => ⟨w - (i + 1), _, by omega, h, i + 1, by omega, rfl, rfl⟩
    have hq : (10 ≤ i ∧ decide ((i : Int) ≥ 10) = true ∧ (waitS tt (i + 1) 0).st = 4 ∧ (waitS tt (i + 1) 0).err = 181) ∨ (i < 10 ∧ decide ((i : Int) ≥ 10) = false ∧ (waitS tt (i + 1) 0).st = 1 ∧ (waitS tt (i + 1) 0).err = 0) := by
      by_cases h : 10 ≤ i
      · left
        unfold waitS
        rw [if_neg (by omega)]
        exact ⟨h, by simp; omega, rfl, rfl⟩
      · right
        unfold waitS
        rw [if_pos (by omega)]
        exact ⟨by omega, by simp; omega, rfl, rfl⟩
    simp only [go_sem, Nat.reduceAdd, Nat.reduceSub, Nat.reduceMul, Nat.reduceLT, Nat.reduceLeDiff, Nat.reduceEqDiff, Nat.reduceBEq, Int.reduceToNat, Int.reduceLT, Int.reduceLE, Int.reduceEq, Int.reduceNe, Int.reduceAdd, Int.reduceSub, Int.reduceMul, Int.reduceNeg, ↓reduceIte, reduceCtorEq, timeSt, e1]
    refine wpA_loop (time2I tt ti wa w i r) ⟨r, _, ?_, 0, by omega, by omega, rfl⟩ ?_
    · simp only [go_sem, Nat.reduceAdd, Nat.reduceSub, Nat.reduceMul, Nat.reduceLT, Nat.reduceLeDiff, Nat.reduceEqDiff, Nat.reduceBEq, Int.reduceToNat, Int.reduceLT, Int.reduceLE, Int.reduceEq, Int.reduceNe, Int.reduceAdd, Int.reduceSub, Int.reduceMul, Int.reduceNeg, ↓reduceIte, reduceCtorEq, Int.natCast_zero, time2St]
    rintro m st ⟨k, hk, rfl, rfl⟩
    by_cases hkr : k < r
    · have e2 : decide ((k : Int) < (r : Int)) = true := by simp; omega
      have cTi := tick_calls (waitS tt i k)
      rw [wait_tick tt i k (by omega)] at cTi
      have hwk : IntKind.wrap .i64 ((k : Int) + 1) = ((k + 1 : Nat) : Int) := by rw [wrapI64 (by omega)]; rfl
      have fin2 : ∀ st', Weak st' (time2St tt ti wa w i (k + 1)) → ∃ m' s'', m' < r - k ∧ Weak st' s'' ∧ time2I tt ti wa w i r m' s'' :=
        fun st' h => ⟨r - (k + 1), _, by omega, h, k + 1, by omega, rfl, rfl⟩
      simp only [go_sem, Nat.reduceAdd, Nat.reduceSub, Nat.reduceMul, Nat.reduceLT, Nat.reduceLeDiff, Nat.reduceEqDiff, Nat.reduceBEq, Int.reduceToNat, Int.reduceLT, Int.reduceLE, Int.reduceEq, Int.reduceNe, Int.reduceAdd, Int.reduceSub, Int.reduceMul, Int.reduceNeg, ↓reduceIte, reduceCtorEq, time2St, hr101, e2]
      refine CallA.same cTi (by simp only [go_sem, Nat.reduceAdd, Nat.reduceSub, Nat.reduceMul, Nat.reduceLT, Nat.reduceLeDiff, Nat.reduceEqDiff, Nat.reduceBEq, Int.reduceToNat, Int.reduceLT, Int.reduceLE, Int.reduceEq, Int.reduceNe, Int.reduceAdd, Int.reduceSub, Int.reduceMul, Int.reduceNeg, ↓reduceIte, reduceCtorEq, Snd.pv]) ?_
      simp only [go_sem, Nat.reduceAdd, Nat.reduceSub, Nat.reduceMul, Nat.reduceLT, Nat.reduceLeDiff, Nat.reduceEqDiff, Nat.reduceBEq, Int.reduceToNat, Int.reduceLT, Int.reduceLE, Int.reduceEq, Int.reduceNe, Int.reduceAdd, Int.reduceSub, Int.reduceMul, Int.reduceNeg, ↓reduceIte, reduceCtorEq, Snd.pv, hwk]
      refine fin2 _ ?_
      simp only [go_sem, Nat.reduceAdd, Nat.reduceSub, Nat.reduceMul, Nat.reduceLT, Nat.reduceLeDiff, Nat.reduceEqDiff, Nat.reduceBEq, Int.reduceToNat, Int.reduceLT, Int.reduceLE, Int.reduceEq, Int.reduceNe, Int.reduceAdd, Int.reduceSub, Int.reduceMul, Int.reduceNeg, ↓reduceIte, reduceCtorEq, time2St]
    · have hkr' : k = r := by omega
      subst hkr'
      have e2 : decide ((k : Int) < (k : Int)) = false := by simp
      simp only [go_sem, Nat.reduceAdd, Nat.reduceSub, Nat.reduceMul, Nat.reduceLT, Nat.reduceLeDiff, Nat.reduceEqDiff, Nat.reduceBEq, Int.reduceToNat, Int.reduceLT, Int.reduceLE, Int.reduceEq, Int.reduceNe, Int.reduceAdd, Int.reduceSub, Int.reduceMul, Int.reduceNeg, ↓reduceIte, reduceCtorEq, time2St, hr101, e2]
      refine callD_same (flow_calls _ _ _) (by simp only [go_sem, Nat.reduceAdd, Nat.reduceSub, Nat.reduceMul, Nat.reduceLT, Nat.reduceLeDiff, Nat.reduceEqDiff, Nat.reduceBEq, Int.reduceToNat, Int.reduceLT, Int.reduceLE, Int.reduceEq, Int.reduceNe, Int.reduceAdd, Int.reduceSub, Int.reduceMul, Int.reduceNeg, ↓reduceIte, reduceCtorEq]) ?_
      simp only [go_sem, Nat.reduceAdd, Nat.reduceSub, Nat.reduceMul, Nat.reduceLT, Nat.reduceLeDiff, Nat.reduceEqDiff, Nat.reduceBEq, Int.reduceToNat, Int.reduceLT, Int.reduceLE, Int.reduceEq, Int.reduceNe, Int.reduceAdd, Int.reduceSub, Int.reduceMul, Int.reduceNeg, ↓reduceIte, reduceCtorEq, Snd.pv, Pdu.pv]
      refine callD_same cTk (by simp only [go_sem, Nat.reduceAdd, Nat.reduceSub, Nat.reduceMul, Nat.reduceLT, Nat.reduceLeDiff, Nat.reduceEqDiff, Nat.reduceBEq, Int.reduceToNat, Int.reduceLT, Int.reduceLE, Int.reduceEq, Int.reduceNe, Int.reduceAdd, Int.reduceSub, Int.reduceMul, Int.reduceNeg, ↓reduceIte, reduceCtorEq, Snd.pv, Pdu.pv]) ?_
      rcases hq with ⟨_, e3, e4, e5⟩ | ⟨_, e3, e4, e5⟩
      all_goals (
        simp only [go_sem, Nat.reduceAdd, Nat.reduceSub, Nat.reduceMul, Nat.reduceLT, Nat.reduceLeDiff, Nat.reduceEqDiff, Nat.reduceBEq, Int.reduceToNat, Int.reduceLT, Int.reduceLE, Int.reduceEq, Int.reduceNe, Int.reduceAdd, Int.reduceSub, Int.reduceMul, Int.reduceNeg, ↓reduceIte, reduceCtorEq, Snd.pv, Pdu.pv, e3, e4, e5]
        refine endD_intro (by decide +kernel) ?_
        simp only [go_sem, Nat.reduceAdd, Nat.reduceSub, Nat.reduceMul, Nat.reduceLT, Nat.reduceLeDiff, Nat.reduceEqDiff, Nat.reduceBEq, Int.reduceToNat, Int.reduceLT, Int.reduceLE, Int.reduceEq, Int.reduceNe, Int.reduceAdd, Int.reduceSub, Int.reduceMul, Int.reduceNeg, ↓reduceIte, reduceCtorEq, Snd.pv, Pdu.pv, e3, e4, e5, hwi]
        refine fin _ ?_
        simp only [go_sem, Nat.reduceAdd, Nat.reduceSub, Nat.reduceMul, Nat.reduceLT, Nat.reduceLeDiff, Nat.reduceEqDiff, Nat.reduceBEq, Int.reduceToNat, Int.reduceLT, Int.reduceLE, Int.reduceEq, Int.reduceNe, Int.reduceAdd, Int.reduceSub, Int.reduceMul, Int.reduceNeg, ↓reduceIte, reduceCtorEq, timeSt, Snd.cells, e3, e4, e5])
  · have e1 : decide ((i : Int) < (w : Int)) = false := by simp; omega
    have hiw' : i = w := by omega
    subst hiw'
    by_cases h10 : 10 < i
    · have e2 : decide ((i : Int) > 10) = true := by simp; omega
      simp only [go_sem, Nat.reduceAdd, Nat.reduceSub, Nat.reduceMul, Nat.reduceLT, Nat.reduceLeDiff, Nat.reduceEqDiff, Nat.reduceBEq, Int.reduceToNat, Int.reduceLT, Int.reduceLE, Int.reduceEq, Int.reduceNe, Int.reduceAdd, Int.reduceSub, Int.reduceMul, Int.reduceNeg, ↓reduceIte, reduceCtorEq, timeSt, e1, e2, Try.results7]
    have e2 : decide ((i : Int) > 10) = false := by simp; omega
    simp only [go_sem, Nat.reduceAdd, Nat.reduceSub, Nat.reduceMul, Nat.reduceLT, Nat.reduceLeDiff, Nat.reduceEqDiff, Nat.reduceBEq, Int.reduceToNat, Int.reduceLT, Int.reduceLE, Int.reduceEq, Int.reduceNe, Int.reduceAdd, Int.reduceSub, Int.reduceMul, Int.reduceNeg, ↓reduceIte, reduceCtorEq, timeSt, e1, e2, Try.results7]
    refine wpA_loop (time3I tt i) ⟨100, _, ?_, 0, by omega, by omega, rfl⟩ ?_
    · simp only [go_sem, Nat.reduceAdd, Nat.reduceSub, Nat.reduceMul, Nat.reduceLT, Nat.reduceLeDiff, Nat.reduceEqDiff, Nat.reduceBEq, Int.reduceToNat, Int.reduceLT, Int.reduceLE, Int.reduceEq, Int.reduceNe, Int.reduceAdd, Int.reduceSub, Int.reduceMul, Int.reduceNeg, ↓reduceIte, reduceCtorEq, Int.natCast_zero, time3St]
    rintro m st ⟨k, hk, rfl, rfl⟩
    by_cases hk1 : k < 100
    · have e3 : decide ((k : Int) < 100) = true := by simp; omega
      have cTi := tick_calls (waitS tt i k)
      rw [wait_tick tt i k (by omega)] at cTi
      have hwk : IntKind.wrap .i64 ((k : Int) + 1) = ((k + 1 : Nat) : Int) := by rw [wrapI64 (by omega)]; rfl
      have hst : (waitS tt i ((k + 1 : Nat) : Int)).st = 1 := by
        unfold waitS
        rw [if_pos (by omega)]
      have fin3 : ∀ st', Weak st' (time3St tt i (k + 1)) → ∃ m' s'', m' < 100 - k ∧ Weak st' s'' ∧ time3I tt i m' s'' :=
        fun st' h => ⟨100 - (k + 1), _, by omega, h, k + 1, by omega, rfl, rfl⟩
      simp only [go_sem, Nat.reduceAdd, Nat.reduceSub, Nat.reduceMul, Nat.reduceLT, Nat.reduceLeDiff, Nat.reduceEqDiff, Nat.reduceBEq, Int.reduceToNat, Int.reduceLT, Int.reduceLE, Int.reduceEq, Int.reduceNe, Int.reduceAdd, Int.reduceSub, Int.reduceMul, Int.reduceNeg, ↓reduceIte, reduceCtorEq, time3St, e3]
      refine CallA.same cTi (by simp only [go_sem, Nat.reduceAdd, Nat.reduceSub, Nat.reduceMul, Nat.reduceLT, Nat.reduceLeDiff, Nat.reduceEqDiff, Nat.reduceBEq, Int.reduceToNat, Int.reduceLT, Int.reduceLE, Int.reduceEq, Int.reduceNe, Int.reduceAdd, Int.reduceSub, Int.reduceMul, Int.reduceNeg, ↓reduceIte, reduceCtorEq, Snd.pv]) ?_
      simp only [go_sem, Nat.reduceAdd, Nat.reduceSub, Nat.reduceMul, Nat.reduceLT, Nat.reduceLeDiff, Nat.reduceEqDiff, Nat.reduceBEq, Int.reduceToNat, Int.reduceLT, Int.reduceLE, Int.reduceEq, Int.reduceNe, Int.reduceAdd, Int.reduceSub, Int.reduceMul, Int.reduceNeg, ↓reduceIte, reduceCtorEq, Snd.pv, hwk, hst]
      refine fin3 _ ?_
      simp only [go_sem, Nat.reduceAdd, Nat.reduceSub, Nat.reduceMul, Nat.reduceLT, Nat.reduceLeDiff, Nat.reduceEqDiff, Nat.reduceBEq, Int.reduceToNat, Int.reduceLT, Int.reduceLE, Int.reduceEq, Int.reduceNe, Int.reduceAdd, Int.reduceSub, Int.reduceMul, Int.reduceNeg, ↓reduceIte, reduceCtorEq, time3St, Snd.cells, hst]
    · have hk' : k = 100 := by omega
      subst hk'
      have e3 : decide (((100 : Nat) : Int) < 100) = false := by decide
      have cTi := tick_calls (waitS tt i ((100 : Nat) : Int))
      have ht : tickS (waitS tt i ((100 : Nat) : Int)) = ⟨4, tt, 6, 1, -1, 0, 101, i, 181⟩ := by
        unfold waitS
        rw [if_pos (by omega)]
        simp [tickS, wrapI64]
      rw [ht] at cTi
      simp only [go_sem, Nat.reduceAdd, Nat.reduceSub, Nat.reduceMul, Nat.reduceLT, Nat.reduceLeDiff, Nat.reduceEqDiff, Nat.reduceBEq, Int.reduceToNat, Int.reduceLT, Int.reduceLE, Int.reduceEq, Int.reduceNe, Int.reduceAdd, Int.reduceSub, Int.reduceMul, Int.reduceNeg, ↓reduceIte, reduceCtorEq, time3St, e3]
      refine CallA.same cTi (by simp only [go_sem, Nat.reduceAdd, Nat.reduceSub, Nat.reduceMul, Nat.reduceLT, Nat.reduceLeDiff, Nat.reduceEqDiff, Nat.reduceBEq, Int.reduceToNat, Int.reduceLT, Int.reduceLE, Int.reduceEq, Int.reduceNe, Int.reduceAdd, Int.reduceSub, Int.reduceMul, Int.reduceNeg, ↓reduceIte, reduceCtorEq, Snd.pv]) ?_
      simp only [go_sem, Nat.reduceAdd, Nat.reduceSub, Nat.reduceMul, Nat.reduceLT, Nat.reduceLeDiff, Nat.reduceEqDiff, Nat.reduceBEq, Int.reduceToNat, Int.reduceLT, Int.reduceLE, Int.reduceEq, Int.reduceNe, Int.reduceAdd, Int.reduceSub, Int.reduceMul, Int.reduceNeg, ↓reduceIte, reduceCtorEq, Snd.pv, Try.results7]
end Go.Proofs.Ytefcpcepgflhdaa.Pe
