import Derived.Test.YtpnhnobnjcknjaaD9
namespace Go.Proofs.Ytpnhnobnjcknjaa.Pe
open Go.Pe Go.RowKit
set_option maxRecDepth 20000
set_option maxHeartbeats 4000000
set_option linter.unusedSimpArgs false
set_option linter.unusedVariables false

theorem succ_mod' {n : Nat} (m : Nat) (hn : 0 < n) : (m + 1) % n = if m % n + 1 = n then 0 else m % n + 1 := by
  have h := Nat.div_add_mod m n
  have hlt := Nat.mod_lt m hn
  generalize m % n = q at *
  generalize m / n = d at *
  subst h
  split
  · rename_i e
    have : n * d + q + 1 = n * (d + 1) := by rw [Nat.mul_add]; omega
    rw [this, Nat.mul_mod_right]
  · rw [Nat.add_assoc, Nat.mul_add_mod, Nat.mod_eq_of_lt (by omega)]
/-- How many parts are left of a block behind i parts. -/
def leftAt (bn i : Nat) : Int := if bn = 0 then -1 else (bn : Int) - ((i - 1) % bn : Nat)
def WAt (t : List UInt8) (bn i : Nat) (r : Rcv) : Prop := i = 0 ∨ (1 ≤ i ∧ RAt t i r ∧ (i < partsN t → r.left = leftAt bn i))
theorem whole_step {t : List UInt8} (h0 : 1 ≤ t.length) (h1 : t.length ≤ 4095) {bn i : Nat} {r : Rcv} {g : Int} (hroom : r.room = 4095) (hb : r.block = bn) (hg : r.gap = g) (hW : WAt t bn i r) (hi : i < partsN t) :
    ∃ r' a b, recvV r ((partsL t)[i]?.getD Pdu.none) = (r', a, b) ∧ WAt t bn (i + 1) r' ∧ (r'.room = 4095 ∧ r'.block = bn ∧ r'.gap = g) ∧ (b = true ↔ i + 1 < partsN t ∧ (i = 0 ∨ (0 < bn ∧ i % bn = 0))) ∧ a = (if b = true then ⟨4, 0, 0, 0, bn, g, []⟩ else Pdu.none) ∧ (r'.st = 3 ↔ i + 1 = partsN t) := by
  have hgo : goP r = ⟨4, 0, 0, 0, bn, g, []⟩ := by rw [goP, hb, hg]
  rcases hW with rfl | ⟨hi1, hR, hL⟩
  · obtain ⟨r', a, q1, q2, q3, q4⟩ := RAt.first h0 h1 (r := r) (by omega)
    have hN : 7 < t.length ↔ 0 + 1 < partsN t := by unfold partsN; split <;> omega
    have hc : r'.room = r.room ∧ r'.block = r.block ∧ r'.gap = r.gap := by
      have := cfg_recv r r ((partsL t)[0]?.getD Pdu.none) ⟨rfl, rfl, rfl⟩
      rw [q1] at this
      exact this
    refine ⟨r', a, _, q1, .inr ⟨by omega, q2, fun h => ?_⟩, ⟨by rw [hc.1, hroom], by rw [hc.2.1, hb], by rw [hc.2.2, hg]⟩, by rw [decide_eq_true_eq, hN]; simp, by rw [q3, hgo]; simp, ?_⟩
    · rw [q4 (hN.2 h), leftAt, hb]
      by_cases hz : bn = 0
      · rw [if_pos (by omega), if_pos hz]
      · rw [if_neg (by omega), if_neg hz]
        simp
    · rw [q2.st]
      split <;> omega
  · obtain ⟨r', a, b, q1, q2, q3, q4, q5, q6⟩ := hR.step h1 hi1 hi
    have hl := hL hi
    have hlt : r.left = leftAt bn i := hl
    refine ⟨r', a, b, q1, .inr ⟨by omega, q2, fun h => ?_⟩, ⟨by rw [q6.1, hroom], by rw [q6.2.1, hb], by rw [q6.2.2, hg]⟩, ?_, by rw [q4, hgo], ?_⟩
    · rw [q5, if_neg (by omega), hl]
      unfold leftAt
      by_cases hz : bn = 0
      · simp [hz]
      · rw [if_neg hz, if_neg hz]
        have hm := succ_mod' (n := bn) (i - 1) (by omega)
        rw [show i - 1 + 1 = i by omega] at hm
        rw [show i + 1 - 1 = i by omega, hm, hb]
        have := Nat.mod_lt (i - 1) (show 0 < bn by omega)
        generalize (i - 1) % bn = q at *
        split <;> split <;> (try split) <;> omega
    · rw [q3, hl]
      unfold leftAt
      by_cases hz : bn = 0
      · simp [hz]; omega
      · rw [if_neg hz]
        have hm := succ_mod' (n := bn) (i - 1) (by omega)
        rw [show i - 1 + 1 = i by omega] at hm
        have := Nat.mod_lt (i - 1) (show 0 < bn by omega)
        rw [hm]
        generalize (i - 1) % bn = q at *
        simp only [Bool.and_eq_true, decide_eq_true_eq]
        split <;> omega
    · rw [q2.st]
      split <;> omega
def wholeASt (t : List UInt8) (bl gp : UInt8) (l : List Op19) (r : Rcv) (i : Nat) : St := ⟨163, [(0, bytesPV t), (1, U8 bl), (2, U8 gp), (3, .im 8 (ops19 l)), (9, PB true), (10, .im 7 (pduRows (partsL t))), (12, .ptr 0 0), (13, PI i)], [(0, .box 29 r.cells)], 20, 0⟩
def wholeAI (t : List UInt8) (bl gp : UInt8) (l : List Op19) (a : Rcv) (m : Nat) (st : St) : Prop := ∃ (i : Nat) (b : Rcv), i ≤ l.length ∧ m = l.length - i ∧ b.fine ∧ sameCfg a b ∧ st = wholeASt t bl gp l b i
def wholeSt (t : List UInt8) (bl gp : UInt8) (r : Rcv) (i : Nat) : St := ⟨163, [(0, bytesPV t), (1, U8 bl), (2, U8 gp), (9, PB true), (10, .im 7 (pduRows (partsL t))), (12, .ptr 0 0), (14, PI i)], [(0, .box 29 r.cells)], 40, 0⟩
def wholeI (t : List UInt8) (bl gp : UInt8) (g : Int) (m : Nat) (st : St) : Prop := ∃ (i : Nat) (r : Rcv), i ≤ partsN t ∧ m = partsN t - i ∧ r.fine ∧ WAt t bl.toNat i r ∧ (r.room = 4095 ∧ r.block = bl.toNat ∧ r.gap = g) ∧ st = wholeSt t bl gp r i
theorem whole_calls (t : List UInt8) (bl gp : UInt8) (l : List Op19) : PureCalls Try.prog 5 [bytesPV t, U8 bl, U8 gp, .im 8 (ops19 l)] (PB true) := by
  refine PureCalls.of tabOK mixed Try.func5 rfl rfl (by decide +kernel) (by simp [Try.ntmps5]) ?_
  have cP := partsR_calls t
  simp only [go_sem, Nat.reduceAdd, Nat.reduceSub, Nat.reduceMul, Nat.reduceLT, Nat.reduceLeDiff, Nat.reduceEqDiff, Nat.reduceBEq, Int.reduceToNat, Int.reduceLT, Int.reduceLE, Int.reduceEq, Int.reduceNe, Int.reduceAdd, Int.reduceSub, Int.reduceMul, Int.reduceNeg, ↓reduceIte, reduceCtorEq, Try.ntmps5, Try.results5]
  (refine CallA.pure (head19_calls) (by simp only [go_sem, Nat.reduceAdd, Nat.reduceSub, Nat.reduceMul, Nat.reduceLT, Nat.reduceLeDiff, Nat.reduceEqDiff, Nat.reduceBEq, Int.reduceToNat, Int.reduceLT, Int.reduceLE, Int.reduceEq, Int.reduceNe, Int.reduceAdd, Int.reduceSub, Int.reduceMul, Int.reduceNeg, ↓reduceIte, reduceCtorEq] <;> first | rfl | decide) ?_; simp only [go_sem, Nat.reduceAdd, Nat.reduceSub, Nat.reduceMul, Nat.reduceLT, Nat.reduceLeDiff, Nat.reduceEqDiff, Nat.reduceBEq, Int.reduceToNat, Int.reduceLT, Int.reduceLE, Int.reduceEq, Int.reduceNe, Int.reduceAdd, Int.reduceSub, Int.reduceMul, Int.reduceNeg, ↓reduceIte, reduceCtorEq])
  (refine CallA.pure (cP) (by simp only [go_sem, Nat.reduceAdd, Nat.reduceSub, Nat.reduceMul, Nat.reduceLT, Nat.reduceLeDiff, Nat.reduceEqDiff, Nat.reduceBEq, Int.reduceToNat, Int.reduceLT, Int.reduceLE, Int.reduceEq, Int.reduceNe, Int.reduceAdd, Int.reduceSub, Int.reduceMul, Int.reduceNeg, ↓reduceIte, reduceCtorEq] <;> first | rfl | decide) ?_; simp only [go_sem, Nat.reduceAdd, Nat.reduceSub, Nat.reduceMul, Nat.reduceLT, Nat.reduceLeDiff, Nat.reduceEqDiff, Nat.reduceBEq, Int.reduceToNat, Int.reduceLT, Int.reduceLE, Int.reduceEq, Int.reduceNe, Int.reduceAdd, Int.reduceSub, Int.reduceMul, Int.reduceNeg, ↓reduceIte, reduceCtorEq])
  by_cases hl : t.length > 1000
  · have f : decide ((t.length : Int) > 1000) = true := by simp; omega
    simp only [go_sem, Nat.reduceAdd, Nat.reduceSub, Nat.reduceMul, Nat.reduceLT, Nat.reduceLeDiff, Nat.reduceEqDiff, Nat.reduceBEq, Int.reduceToNat, Int.reduceLT, Int.reduceLE, Int.reduceEq, Int.reduceNe, Int.reduceAdd, Int.reduceSub, Int.reduceMul, Int.reduceNeg, ↓reduceIte, reduceCtorEq, f, Try.ntmps5, Try.results5]
  have f : decide ((t.length : Int) > 1000) = false := by simp; omega
  simp only [go_sem, Nat.reduceAdd, Nat.reduceSub, Nat.reduceMul, Nat.reduceLT, Nat.reduceLeDiff, Nat.reduceEqDiff, Nat.reduceBEq, Int.reduceToNat, Int.reduceLT, Int.reduceLE, Int.reduceEq, Int.reduceNe, Int.reduceAdd, Int.reduceSub, Int.reduceMul, Int.reduceNeg, ↓reduceIte, reduceCtorEq, f]
  (refine CallA.pure (great_calls l) (by simp only [go_sem, Nat.reduceAdd, Nat.reduceSub, Nat.reduceMul, Nat.reduceLT, Nat.reduceLeDiff, Nat.reduceEqDiff, Nat.reduceBEq, Int.reduceToNat, Int.reduceLT, Int.reduceLE, Int.reduceEq, Int.reduceNe, Int.reduceAdd, Int.reduceSub, Int.reduceMul, Int.reduceNeg, ↓reduceIte, reduceCtorEq] <;> first | rfl | decide) ?_; simp only [go_sem, Nat.reduceAdd, Nat.reduceSub, Nat.reduceMul, Nat.reduceLT, Nat.reduceLeDiff, Nat.reduceEqDiff, Nat.reduceBEq, Int.reduceToNat, Int.reduceLT, Int.reduceLE, Int.reduceEq, Int.reduceNe, Int.reduceAdd, Int.reduceSub, Int.reduceMul, Int.reduceNeg, ↓reduceIte, reduceCtorEq])
  cases hgr : greatV l with
  | true => simp only [go_sem, Nat.reduceAdd, Nat.reduceSub, Nat.reduceMul, Nat.reduceLT, Nat.reduceLeDiff, Nat.reduceEqDiff, Nat.reduceBEq, Int.reduceToNat, Int.reduceLT, Int.reduceLE, Int.reduceEq, Int.reduceNe, Int.reduceAdd, Int.reduceSub, Int.reduceMul, Int.reduceNeg, ↓reduceIte, reduceCtorEq, Try.ntmps5, Try.results5]
  | false =>
  have hll : l.length ≤ 100 := by simp [greatV] at hgr; omega
  by_cases h0 : t.length = 0
  · have e : partsB t = false := by simp [partsB, h0]
    simp only [go_sem, Nat.reduceAdd, Nat.reduceSub, Nat.reduceMul, Nat.reduceLT, Nat.reduceLeDiff, Nat.reduceEqDiff, Nat.reduceBEq, Int.reduceToNat, Int.reduceLT, Int.reduceLE, Int.reduceEq, Int.reduceNe, Int.reduceAdd, Int.reduceSub, Int.reduceMul, Int.reduceNeg, ↓reduceIte, reduceCtorEq, e, Try.ntmps5, Try.results5]
  have e : partsB t = true := partsB_true h0 (by omega)
  have hlen := parts_len (t := t) (by omega) (by omega)
  have hN := partsN_pos t
  have hN1 : partsN t ≤ 1000 := by unfold partsN; split <;> omega
  have cF := fresh_at 4095 4095 bl gp rfl
  have hf := fresh_fine 4095 ((gp.toNat : Int).tmod 128) bl
  have ha : (freshR 4095 bl.toNat ((gp.toNat : Int).tmod 128)).room = 4095 ∧ (freshR 4095 bl.toNat ((gp.toNat : Int).tmod 128)).block = bl.toNat ∧ (freshR 4095 bl.toNat ((gp.toNat : Int).tmod 128)).gap = (gp.toNat : Int).tmod 128 := ⟨rfl, rfl, rfl⟩
  generalize freshR 4095 bl.toNat ((gp.toNat : Int).tmod 128) = a at hf cF ha
  simp only [go_sem, Nat.reduceAdd, Nat.reduceSub, Nat.reduceMul, Nat.reduceLT, Nat.reduceLeDiff, Nat.reduceEqDiff, Nat.reduceBEq, Int.reduceToNat, Int.reduceLT, Int.reduceLE, Int.reduceEq, Int.reduceNe, Int.reduceAdd, Int.reduceSub, Int.reduceMul, Int.reduceNeg, ↓reduceIte, reduceCtorEq, e]
  (refine CallA.pure (cF) (by simp only [go_sem, Nat.reduceAdd, Nat.reduceSub, Nat.reduceMul, Nat.reduceLT, Nat.reduceLeDiff, Nat.reduceEqDiff, Nat.reduceBEq, Int.reduceToNat, Int.reduceLT, Int.reduceLE, Int.reduceEq, Int.reduceNe, Int.reduceAdd, Int.reduceSub, Int.reduceMul, Int.reduceNeg, ↓reduceIte, reduceCtorEq, Rcv.pv] <;> first | rfl | decide) ?_; simp only [go_sem, Nat.reduceAdd, Nat.reduceSub, Nat.reduceMul, Nat.reduceLT, Nat.reduceLeDiff, Nat.reduceEqDiff, Nat.reduceBEq, Int.reduceToNat, Int.reduceLT, Int.reduceLE, Int.reduceEq, Int.reduceNe, Int.reduceAdd, Int.reduceSub, Int.reduceMul, Int.reduceNeg, ↓reduceIte, reduceCtorEq, Rcv.pv])
  refine wpA_loop (wholeAI t bl gp l a) ⟨_, _, ?_, 0, a, by omega, rfl, hf, ⟨rfl, rfl, rfl⟩, rfl⟩ ?_
  · simp only [go_sem, Nat.reduceAdd, Nat.reduceSub, Nat.reduceMul, Nat.reduceLT, Nat.reduceLeDiff, Nat.reduceEqDiff, Nat.reduceBEq, Int.reduceToNat, Int.reduceLT, Int.reduceLE, Int.reduceEq, Int.reduceNe, Int.reduceAdd, Int.reduceSub, Int.reduceMul, Int.reduceNeg, ↓reduceIte, reduceCtorEq, wholeASt, Int.natCast_zero]
  rintro m st ⟨i, b, hi, rfl, hb, hcfg, rfl⟩
  by_cases hc : i < l.length
  · have f1 : decide ((i : Int) < (l.length : Int)) = true := by simp; omega
    have f1' : (i : Int) < (l.length : Int) := by omega
    have f0 : (0 : Int) ≤ (i : Int) := by omega
    have hw := wrapIN (i := i) (by omega)
    have hrow := ops19_getD hc
    generalize l[i] = o at hrow
    have fin : ∀ r', r'.fine → sameCfg a r' → ∀ st', Weak st' (wholeASt t bl gp l r' (i + 1)) → ∃ m' s'', m' < l.length - i ∧ Weak st' s'' ∧ wholeAI t bl gp l a m' s'' :=
      fun r' hr' hc' st' h => ⟨l.length - (i + 1), _, by omega, h, i + 1, r', by omega, rfl, hr', hc', rfl⟩
    simp only [go_sem, Nat.reduceAdd, Nat.reduceSub, Nat.reduceMul, Nat.reduceLT, Nat.reduceLeDiff, Nat.reduceEqDiff, Nat.reduceBEq, Int.reduceToNat, Int.reduceLT, Int.reduceLE, Int.reduceEq, Int.reduceNe, Int.reduceAdd, Int.reduceSub, Int.reduceMul, Int.reduceNeg, ↓reduceIte, reduceCtorEq, wholeASt, f1, f1', f0, Int.toNat_natCast, hrow, Op19.row]
    by_cases hz : o.n.toNat = 0
    rotate_left 1
    · have g2 : decide ((o.n.toNat : Int) > 0) = true := by simp; omega
      have c1 := tickT_at b
      have h1 := fin _ (fine_tick hb) (cfg_tick a b hcfg)
      generalize tickV b = b' at c1 h1
      simp only [go_sem, Nat.reduceAdd, Nat.reduceSub, Nat.reduceMul, Nat.reduceLT, Nat.reduceLeDiff, Nat.reduceEqDiff, Nat.reduceBEq, Int.reduceToNat, Int.reduceLT, Int.reduceLE, Int.reduceEq, Int.reduceNe, Int.reduceAdd, Int.reduceSub, Int.reduceMul, Int.reduceNeg, ↓reduceIte, reduceCtorEq, g2]
      (refine CallA.pure (c1) (by simp only [go_sem, Nat.reduceAdd, Nat.reduceSub, Nat.reduceMul, Nat.reduceLT, Nat.reduceLeDiff, Nat.reduceEqDiff, Nat.reduceBEq, Int.reduceToNat, Int.reduceLT, Int.reduceLE, Int.reduceEq, Int.reduceNe, Int.reduceAdd, Int.reduceSub, Int.reduceMul, Int.reduceNeg, ↓reduceIte, reduceCtorEq, Rcv.pv, hw] <;> first | rfl | decide) ?_; simp only [go_sem, Nat.reduceAdd, Nat.reduceSub, Nat.reduceMul, Nat.reduceLT, Nat.reduceLeDiff, Nat.reduceEqDiff, Nat.reduceBEq, Int.reduceToNat, Int.reduceLT, Int.reduceLE, Int.reduceEq, Int.reduceNe, Int.reduceAdd, Int.reduceSub, Int.reduceMul, Int.reduceNeg, ↓reduceIte, reduceCtorEq, Rcv.pv, hw])
      refine h1 _ ?_
      simp only [go_sem, Nat.reduceAdd, Nat.reduceSub, Nat.reduceMul, Nat.reduceLT, Nat.reduceLeDiff, Nat.reduceEqDiff, Nat.reduceBEq, Int.reduceToNat, Int.reduceLT, Int.reduceLE, Int.reduceEq, Int.reduceNe, Int.reduceAdd, Int.reduceSub, Int.reduceMul, Int.reduceNeg, ↓reduceIte, reduceCtorEq, wholeASt]
    have g2 : decide ((o.n.toNat : Int) > 0) = false := by simp; omega
    have cQ := rightR_calls o.p
    simp only [go_sem, Nat.reduceAdd, Nat.reduceSub, Nat.reduceMul, Nat.reduceLT, Nat.reduceLeDiff, Nat.reduceEqDiff, Nat.reduceBEq, Int.reduceToNat, Int.reduceLT, Int.reduceLE, Int.reduceEq, Int.reduceNe, Int.reduceAdd, Int.reduceSub, Int.reduceMul, Int.reduceNeg, ↓reduceIte, reduceCtorEq, g2, f1', f0, Int.toNat_natCast, hrow, Op19.row]
    cases hQ : o.p.right with
    | false =>
      rw [hQ] at cQ
      (refine CallA.pure (cQ) (by simp only [go_sem, Nat.reduceAdd, Nat.reduceSub, Nat.reduceMul, Nat.reduceLT, Nat.reduceLeDiff, Nat.reduceEqDiff, Nat.reduceBEq, Int.reduceToNat, Int.reduceLT, Int.reduceLE, Int.reduceEq, Int.reduceNe, Int.reduceAdd, Int.reduceSub, Int.reduceMul, Int.reduceNeg, ↓reduceIte, reduceCtorEq, Pdu.pv, hw] <;> first | rfl | decide) ?_; simp only [go_sem, Nat.reduceAdd, Nat.reduceSub, Nat.reduceMul, Nat.reduceLT, Nat.reduceLeDiff, Nat.reduceEqDiff, Nat.reduceBEq, Int.reduceToNat, Int.reduceLT, Int.reduceLE, Int.reduceEq, Int.reduceNe, Int.reduceAdd, Int.reduceSub, Int.reduceMul, Int.reduceNeg, ↓reduceIte, reduceCtorEq, Pdu.pv, hw])
      refine fin b hb hcfg _ ?_
      simp only [go_sem, Nat.reduceAdd, Nat.reduceSub, Nat.reduceMul, Nat.reduceLT, Nat.reduceLeDiff, Nat.reduceEqDiff, Nat.reduceBEq, Int.reduceToNat, Int.reduceLT, Int.reduceLE, Int.reduceEq, Int.reduceNe, Int.reduceAdd, Int.reduceSub, Int.reduceMul, Int.reduceNeg, ↓reduceIte, reduceCtorEq, wholeASt]
    | true =>
      rw [hQ] at cQ
      have c1 := takeT_calls b o.p hb hQ
      have h1 := fin _ (fine_recv hb hQ) (cfg_recv a b o.p hcfg)
      generalize recvV b o.p = x at c1 h1
      obtain ⟨r', q, bb⟩ := x
      simp only at c1 h1
      (refine CallA.pure (cQ) (by simp only [go_sem, Nat.reduceAdd, Nat.reduceSub, Nat.reduceMul, Nat.reduceLT, Nat.reduceLeDiff, Nat.reduceEqDiff, Nat.reduceBEq, Int.reduceToNat, Int.reduceLT, Int.reduceLE, Int.reduceEq, Int.reduceNe, Int.reduceAdd, Int.reduceSub, Int.reduceMul, Int.reduceNeg, ↓reduceIte, reduceCtorEq, Pdu.pv, f1', f0, Int.toNat_natCast, hrow, Op19.row] <;> first | rfl | decide) ?_; simp only [go_sem, Nat.reduceAdd, Nat.reduceSub, Nat.reduceMul, Nat.reduceLT, Nat.reduceLeDiff, Nat.reduceEqDiff, Nat.reduceBEq, Int.reduceToNat, Int.reduceLT, Int.reduceLE, Int.reduceEq, Int.reduceNe, Int.reduceAdd, Int.reduceSub, Int.reduceMul, Int.reduceNeg, ↓reduceIte, reduceCtorEq, Pdu.pv, f1', f0, Int.toNat_natCast, hrow, Op19.row])
      (refine callD_pure (c1) (by simp only [go_sem, Nat.reduceAdd, Nat.reduceSub, Nat.reduceMul, Nat.reduceLT, Nat.reduceLeDiff, Nat.reduceEqDiff, Nat.reduceBEq, Int.reduceToNat, Int.reduceLT, Int.reduceLE, Int.reduceEq, Int.reduceNe, Int.reduceAdd, Int.reduceSub, Int.reduceMul, Int.reduceNeg, ↓reduceIte, reduceCtorEq, Rcv.pv, Pdu.pv] <;> first | rfl | decide) ?_; simp only [go_sem, Nat.reduceAdd, Nat.reduceSub, Nat.reduceMul, Nat.reduceLT, Nat.reduceLeDiff, Nat.reduceEqDiff, Nat.reduceBEq, Int.reduceToNat, Int.reduceLT, Int.reduceLE, Int.reduceEq, Int.reduceNe, Int.reduceAdd, Int.reduceSub, Int.reduceMul, Int.reduceNeg, ↓reduceIte, reduceCtorEq, Rcv.pv, Pdu.pv])
      (refine endD_intro (by decide +kernel) ?_; simp only [go_sem, Nat.reduceAdd, Nat.reduceSub, Nat.reduceMul, Nat.reduceLT, Nat.reduceLeDiff, Nat.reduceEqDiff, Nat.reduceBEq, Int.reduceToNat, Int.reduceLT, Int.reduceLE, Int.reduceEq, Int.reduceNe, Int.reduceAdd, Int.reduceSub, Int.reduceMul, Int.reduceNeg, ↓reduceIte, reduceCtorEq, hw])
      refine h1 _ ?_
      simp only [go_sem, Nat.reduceAdd, Nat.reduceSub, Nat.reduceMul, Nat.reduceLT, Nat.reduceLeDiff, Nat.reduceEqDiff, Nat.reduceBEq, Int.reduceToNat, Int.reduceLT, Int.reduceLE, Int.reduceEq, Int.reduceNe, Int.reduceAdd, Int.reduceSub, Int.reduceMul, Int.reduceNeg, ↓reduceIte, reduceCtorEq, wholeASt]
  have f1 : decide ((i : Int) < (l.length : Int)) = false := by simp; omega
  simp only [go_sem, Nat.reduceAdd, Nat.reduceSub, Nat.reduceMul, Nat.reduceLT, Nat.reduceLeDiff, Nat.reduceEqDiff, Nat.reduceBEq, Int.reduceToNat, Int.reduceLT, Int.reduceLE, Int.reduceEq, Int.reduceNe, Int.reduceAdd, Int.reduceSub, Int.reduceMul, Int.reduceNeg, ↓reduceIte, reduceCtorEq, wholeASt, f1]
  have hcb : b.room = 4095 ∧ b.block = bl.toNat ∧ b.gap = (gp.toNat : Int).tmod 128 := ⟨by rw [hcfg.1, ha.1], by rw [hcfg.2.1, ha.2.1], by rw [hcfg.2.2, ha.2.2]⟩
  clear cF hf hcfg ha f1 hc hi
  refine wpA_loop (wholeI t bl gp ((gp.toNat : Int).tmod 128)) ⟨_, _, ?_, 0, b, by omega, rfl, hb, .inl rfl, hcb, rfl⟩ ?_
  · simp only [go_sem, Nat.reduceAdd, Nat.reduceSub, Nat.reduceMul, Nat.reduceLT, Nat.reduceLeDiff, Nat.reduceEqDiff, Nat.reduceBEq, Int.reduceToNat, Int.reduceLT, Int.reduceLE, Int.reduceEq, Int.reduceNe, Int.reduceAdd, Int.reduceSub, Int.reduceMul, Int.reduceNeg, ↓reduceIte, reduceCtorEq, wholeSt, Int.natCast_zero]
  clear hcb hb b i a
  rintro m st ⟨i, r, hi, rfl, hrf, hW, ⟨hc1, hc2, hc3⟩, rfl⟩
  by_cases hc : i < partsN t
  rotate_left 1
  · have f1 : decide ((i : Int) < ((partsL t).length : Int)) = false := by simp; omega
    have hR : RAt t (partsN t) r := by
      rcases hW with rfl | ⟨hi1, h, _⟩
      · omega
      · rw [show partsN t = i by omega]; exact h
    have hst : r.st = 3 := by rw [hR.st, if_pos rfl]
    have hgot : r.got = t := by rw [hR.got, if_pos rfl]
    have cX := textT_calls r
    rw [if_pos hst, hgot, show decide (r.st = 3) = true by simp [hst]] at cX
    simp only [go_sem, Nat.reduceAdd, Nat.reduceSub, Nat.reduceMul, Nat.reduceLT, Nat.reduceLeDiff, Nat.reduceEqDiff, Nat.reduceBEq, Int.reduceToNat, Int.reduceLT, Int.reduceLE, Int.reduceEq, Int.reduceNe, Int.reduceAdd, Int.reduceSub, Int.reduceMul, Int.reduceNeg, ↓reduceIte, reduceCtorEq, wholeSt, f1]
    (refine CallA.pure (cX) (by simp only [go_sem, Nat.reduceAdd, Nat.reduceSub, Nat.reduceMul, Nat.reduceLT, Nat.reduceLeDiff, Nat.reduceEqDiff, Nat.reduceBEq, Int.reduceToNat, Int.reduceLT, Int.reduceLE, Int.reduceEq, Int.reduceNe, Int.reduceAdd, Int.reduceSub, Int.reduceMul, Int.reduceNeg, ↓reduceIte, reduceCtorEq, Rcv.pv] <;> first | rfl | decide) ?_; simp only [go_sem, Nat.reduceAdd, Nat.reduceSub, Nat.reduceMul, Nat.reduceLT, Nat.reduceLeDiff, Nat.reduceEqDiff, Nat.reduceBEq, Int.reduceToNat, Int.reduceLT, Int.reduceLE, Int.reduceEq, Int.reduceNe, Int.reduceAdd, Int.reduceSub, Int.reduceMul, Int.reduceNeg, ↓reduceIte, reduceCtorEq, Rcv.pv])
    (refine CallA.pure (sameB_self t) (by simp only [go_sem, Nat.reduceAdd, Nat.reduceSub, Nat.reduceMul, Nat.reduceLT, Nat.reduceLeDiff, Nat.reduceEqDiff, Nat.reduceBEq, Int.reduceToNat, Int.reduceLT, Int.reduceLE, Int.reduceEq, Int.reduceNe, Int.reduceAdd, Int.reduceSub, Int.reduceMul, Int.reduceNeg, ↓reduceIte, reduceCtorEq] <;> first | rfl | decide) ?_; simp only [go_sem, Nat.reduceAdd, Nat.reduceSub, Nat.reduceMul, Nat.reduceLT, Nat.reduceLeDiff, Nat.reduceEqDiff, Nat.reduceBEq, Int.reduceToNat, Int.reduceLT, Int.reduceLE, Int.reduceEq, Int.reduceNe, Int.reduceAdd, Int.reduceSub, Int.reduceMul, Int.reduceNeg, ↓reduceIte, reduceCtorEq])
    simp only [go_sem, Nat.reduceAdd, Nat.reduceSub, Nat.reduceMul, Nat.reduceLT, Nat.reduceLeDiff, Nat.reduceEqDiff, Nat.reduceBEq, Int.reduceToNat, Int.reduceLT, Int.reduceLE, Int.reduceEq, Int.reduceNe, Int.reduceAdd, Int.reduceSub, Int.reduceMul, Int.reduceNeg, ↓reduceIte, reduceCtorEq, Try.ntmps5, Try.results5]
  have f1 : decide ((i : Int) < ((partsL t).length : Int)) = true := by simp; omega
  have f1' : (i : Int) < ((partsL t).length : Int) := by omega
  have f0 : (0 : Int) ≤ (i : Int) := by omega
  have hw := wrapIN (i := i) (by omega)
  obtain ⟨pi, hpi⟩ : ∃ pi : Pdu, (partsL t)[i]? = some pi := ⟨_, List.getElem?_eq_getElem (by omega)⟩
  have hpr := parts_right (t := t) (by omega) (by omega) pi (List.mem_of_getElem? hpi)
  have hrow : (pduRows (partsL t)).getD i [] = pi.cells := by simp [pduRows, List.getD_eq_getElem?_getD, hpi]
  obtain ⟨r', a, b, q1, q2, q3, q4, q5, q6⟩ := whole_step (by omega) (by omega) hc1 hc2 hc3 hW hc
  rw [hpi] at q1
  simp only [Option.getD_some] at q1
  have hr'f : r'.fine := by have := fine_recv hrf (p := pi) hpr; rw [q1] at this; exact this
  have cT := takeT_at q1 hrf hpr
  have fin : ∀ st', Weak st' (wholeSt t bl gp r' (i + 1)) → ∃ m' s'', m' < partsN t - i ∧ Weak st' s'' ∧ wholeI t bl gp ((gp.toNat : Int).tmod 128) m' s'' :=
    fun st' h => ⟨partsN t - (i + 1), _, by omega, h, i + 1, r', by omega, rfl, hr'f, q2, q3, rfl⟩
  have hbl : (bl.toNat : Int) < 256 := by have := bl.toNat_lt; omega
  have hgp : (gp.toNat : Int) < 256 := by have := gp.toNat_lt; omega
  have w1 : IntKind.wrap .i64 (bl.toNat : Int) = bl.toNat := wrapI64 (by omega)
  have w2 : IntKind.wrap .i64 (gp.toNat : Int) = gp.toNat := wrapI64 (by omega)
  have cG := same_self ⟨4, 0, 0, 0, bl.toNat, (gp.toNat : Int).tmod 128, []⟩
  have cE := same_self Pdu.none
  have g6 : decide (r'.st = 3) = decide (i + 1 = partsN t) := by simp only [decide_eq_decide]; exact q6
  simp only [go_sem, Nat.reduceAdd, Nat.reduceSub, Nat.reduceMul, Nat.reduceLT, Nat.reduceLeDiff, Nat.reduceEqDiff, Nat.reduceBEq, Int.reduceToNat, Int.reduceLT, Int.reduceLE, Int.reduceEq, Int.reduceNe, Int.reduceAdd, Int.reduceSub, Int.reduceMul, Int.reduceNeg, ↓reduceIte, reduceCtorEq, wholeSt, f1, f1', f0, Int.toNat_natCast, hrow]
  (refine callD_pure (cT) (by simp only [go_sem, Nat.reduceAdd, Nat.reduceSub, Nat.reduceMul, Nat.reduceLT, Nat.reduceLeDiff, Nat.reduceEqDiff, Nat.reduceBEq, Int.reduceToNat, Int.reduceLT, Int.reduceLE, Int.reduceEq, Int.reduceNe, Int.reduceAdd, Int.reduceSub, Int.reduceMul, Int.reduceNeg, ↓reduceIte, reduceCtorEq, Rcv.pv, Pdu.pv] <;> first | rfl | decide) ?_; simp only [go_sem, Nat.reduceAdd, Nat.reduceSub, Nat.reduceMul, Nat.reduceLT, Nat.reduceLeDiff, Nat.reduceEqDiff, Nat.reduceBEq, Int.reduceToNat, Int.reduceLT, Int.reduceLE, Int.reduceEq, Int.reduceNe, Int.reduceAdd, Int.reduceSub, Int.reduceMul, Int.reduceNeg, ↓reduceIte, reduceCtorEq, Rcv.pv, Pdu.pv])
  (refine endD_intro (by decide +kernel) ?_; simp only [go_sem, Nat.reduceAdd, Nat.reduceSub, Nat.reduceMul, Nat.reduceLT, Nat.reduceLeDiff, Nat.reduceEqDiff, Nat.reduceBEq, Int.reduceToNat, Int.reduceLT, Int.reduceLE, Int.reduceEq, Int.reduceNe, Int.reduceAdd, Int.reduceSub, Int.reduceMul, Int.reduceNeg, ↓reduceIte, reduceCtorEq, hw])
  by_cases hlast : i + 1 < partsN t
  rotate_left 1
  · have g1 : decide (((i + 1 : Nat) : Int) < ((partsL t).length : Int)) = false := by simp; omega
    have g8 : decide (((i + 1 : Nat) : Int) = ((partsL t).length : Int)) = true := by simp; omega
    have hL : i + 1 = partsN t := by omega
    have hs3 : r'.st = 3 := q6.2 hL
    have g7 : decide (r'.st = 3) = true := by simp [hs3]
    have hbf : b = false := by
      cases hb : b
      · rfl
      · have := q4.1 hb; omega
    subst hbf
    rw [if_neg (by simp)] at q5
    subst q5
    simp only [go_sem, Nat.reduceAdd, Nat.reduceSub, Nat.reduceMul, Nat.reduceLT, Nat.reduceLeDiff, Nat.reduceEqDiff, Nat.reduceBEq, Int.reduceToNat, Int.reduceLT, Int.reduceLE, Int.reduceEq, Int.reduceNe, Int.reduceAdd, Int.reduceSub, Int.reduceMul, Int.reduceNeg, ↓reduceIte, reduceCtorEq, g1, w1, w2]
    (refine CallA.pure (cE) (by simp only [go_sem, Nat.reduceAdd, Nat.reduceSub, Nat.reduceMul, Nat.reduceLT, Nat.reduceLeDiff, Nat.reduceEqDiff, Nat.reduceBEq, Int.reduceToNat, Int.reduceLT, Int.reduceLE, Int.reduceEq, Int.reduceNe, Int.reduceAdd, Int.reduceSub, Int.reduceMul, Int.reduceNeg, ↓reduceIte, reduceCtorEq, Pdu.pv, Pdu.none, g7, g8, hw] <;> first | rfl | decide) ?_; simp only [go_sem, Nat.reduceAdd, Nat.reduceSub, Nat.reduceMul, Nat.reduceLT, Nat.reduceLeDiff, Nat.reduceEqDiff, Nat.reduceBEq, Int.reduceToNat, Int.reduceLT, Int.reduceLE, Int.reduceEq, Int.reduceNe, Int.reduceAdd, Int.reduceSub, Int.reduceMul, Int.reduceNeg, ↓reduceIte, reduceCtorEq, Pdu.pv, Pdu.none, g7, g8, hw])
    refine fin _ ?_
    simp only [go_sem, Nat.reduceAdd, Nat.reduceSub, Nat.reduceMul, Nat.reduceLT, Nat.reduceLeDiff, Nat.reduceEqDiff, Nat.reduceBEq, Int.reduceToNat, Int.reduceLT, Int.reduceLE, Int.reduceEq, Int.reduceNe, Int.reduceAdd, Int.reduceSub, Int.reduceMul, Int.reduceNeg, ↓reduceIte, reduceCtorEq, wholeSt]
  have g1 : decide (((i + 1 : Nat) : Int) < ((partsL t).length : Int)) = true := by simp; omega
  have g8 : decide (((i + 1 : Nat) : Int) = ((partsL t).length : Int)) = false := by simp; omega
  have hs3 : ¬ r'.st = 3 := fun h => by have := q6.1 h; omega
  have g7 : decide (r'.st = 3) = false := by simp [hs3]
  by_cases hi0 : i = 0
  · have hbt : b = true := q4.2 ⟨hlast, .inl hi0⟩
    subst hbt
    rw [if_pos rfl] at q5
    subst q5
    have g2 : decide ((i : Int) = 0) = true := by simp [hi0]
    simp only [go_sem, Nat.reduceAdd, Nat.reduceSub, Nat.reduceMul, Nat.reduceLT, Nat.reduceLeDiff, Nat.reduceEqDiff, Nat.reduceBEq, Int.reduceToNat, Int.reduceLT, Int.reduceLE, Int.reduceEq, Int.reduceNe, Int.reduceAdd, Int.reduceSub, Int.reduceMul, Int.reduceNeg, ↓reduceIte, reduceCtorEq, g1, g2, w1, w2]
    (refine CallA.pure (cG) (by simp only [go_sem, Nat.reduceAdd, Nat.reduceSub, Nat.reduceMul, Nat.reduceLT, Nat.reduceLeDiff, Nat.reduceEqDiff, Nat.reduceBEq, Int.reduceToNat, Int.reduceLT, Int.reduceLE, Int.reduceEq, Int.reduceNe, Int.reduceAdd, Int.reduceSub, Int.reduceMul, Int.reduceNeg, ↓reduceIte, reduceCtorEq, Pdu.pv, g7, g8, hw] <;> first | rfl | decide) ?_; simp only [go_sem, Nat.reduceAdd, Nat.reduceSub, Nat.reduceMul, Nat.reduceLT, Nat.reduceLeDiff, Nat.reduceEqDiff, Nat.reduceBEq, Int.reduceToNat, Int.reduceLT, Int.reduceLE, Int.reduceEq, Int.reduceNe, Int.reduceAdd, Int.reduceSub, Int.reduceMul, Int.reduceNeg, ↓reduceIte, reduceCtorEq, Pdu.pv, g7, g8, hw])
    refine fin _ ?_
    simp only [go_sem, Nat.reduceAdd, Nat.reduceSub, Nat.reduceMul, Nat.reduceLT, Nat.reduceLeDiff, Nat.reduceEqDiff, Nat.reduceBEq, Int.reduceToNat, Int.reduceLT, Int.reduceLE, Int.reduceEq, Int.reduceNe, Int.reduceAdd, Int.reduceSub, Int.reduceMul, Int.reduceNeg, ↓reduceIte, reduceCtorEq, wholeSt]
  have g2 : decide ((i : Int) = 0) = false := by simp; omega
  by_cases hb0 : bl.toNat = 0
  · have g3 : decide ((bl.toNat : Int) > 0) = false := by simp; omega
    have hbf : b = false := by
      cases hb : b
      · rfl
      · have := q4.1 hb; omega
    subst hbf
    rw [if_neg (by simp)] at q5
    subst q5
    simp only [go_sem, Nat.reduceAdd, Nat.reduceSub, Nat.reduceMul, Nat.reduceLT, Nat.reduceLeDiff, Nat.reduceEqDiff, Nat.reduceBEq, Int.reduceToNat, Int.reduceLT, Int.reduceLE, Int.reduceEq, Int.reduceNe, Int.reduceAdd, Int.reduceSub, Int.reduceMul, Int.reduceNeg, ↓reduceIte, reduceCtorEq, g1, g2, g3, w1, w2]
    (refine CallA.pure (cE) (by simp only [go_sem, Nat.reduceAdd, Nat.reduceSub, Nat.reduceMul, Nat.reduceLT, Nat.reduceLeDiff, Nat.reduceEqDiff, Nat.reduceBEq, Int.reduceToNat, Int.reduceLT, Int.reduceLE, Int.reduceEq, Int.reduceNe, Int.reduceAdd, Int.reduceSub, Int.reduceMul, Int.reduceNeg, ↓reduceIte, reduceCtorEq, Pdu.pv, Pdu.none, g7, g8, hw] <;> first | rfl | decide) ?_; simp only [go_sem, Nat.reduceAdd, Nat.reduceSub, Nat.reduceMul, Nat.reduceLT, Nat.reduceLeDiff, Nat.reduceEqDiff, Nat.reduceBEq, Int.reduceToNat, Int.reduceLT, Int.reduceLE, Int.reduceEq, Int.reduceNe, Int.reduceAdd, Int.reduceSub, Int.reduceMul, Int.reduceNeg, ↓reduceIte, reduceCtorEq, Pdu.pv, Pdu.none, g7, g8, hw])
    refine fin _ ?_
    simp only [go_sem, Nat.reduceAdd, Nat.reduceSub, Nat.reduceMul, Nat.reduceLT, Nat.reduceLeDiff, Nat.reduceEqDiff, Nat.reduceBEq, Int.reduceToNat, Int.reduceLT, Int.reduceLE, Int.reduceEq, Int.reduceNe, Int.reduceAdd, Int.reduceSub, Int.reduceMul, Int.reduceNeg, ↓reduceIte, reduceCtorEq, wholeSt]
  have g3 : decide ((bl.toNat : Int) > 0) = true := by simp; omega
  have g4 : (if (1 : Int) > (bl.toNat : Int) then 1 else (bl.toNat : Int)) = bl.toNat := if_neg (by omega)
  have g4' : ¬ ((bl.toNat : Int) = 0) := by omega
  have g5 : (i : Int).tmod (bl.toNat : Int) = ((i % bl.toNat : Nat) : Int) := rfl
  by_cases hm : i % bl.toNat = 0
  · have hbt : b = true := q4.2 ⟨hlast, .inr ⟨by omega, hm⟩⟩
    subst hbt
    rw [if_pos rfl] at q5
    subst q5
    have g9 : decide (((i % bl.toNat : Nat) : Int) = 0) = true := by simp; omega
    simp only [go_sem, Nat.reduceAdd, Nat.reduceSub, Nat.reduceMul, Nat.reduceLT, Nat.reduceLeDiff, Nat.reduceEqDiff, Nat.reduceBEq, Int.reduceToNat, Int.reduceLT, Int.reduceLE, Int.reduceEq, Int.reduceNe, Int.reduceAdd, Int.reduceSub, Int.reduceMul, Int.reduceNeg, ↓reduceIte, reduceCtorEq, g1, g2, g3, g4, g4', w1, w2, g5, g9]
    (refine CallA.pure (cG) (by simp only [go_sem, Nat.reduceAdd, Nat.reduceSub, Nat.reduceMul, Nat.reduceLT, Nat.reduceLeDiff, Nat.reduceEqDiff, Nat.reduceBEq, Int.reduceToNat, Int.reduceLT, Int.reduceLE, Int.reduceEq, Int.reduceNe, Int.reduceAdd, Int.reduceSub, Int.reduceMul, Int.reduceNeg, ↓reduceIte, reduceCtorEq, Pdu.pv, g7, g8, hw] <;> first | rfl | decide) ?_; simp only [go_sem, Nat.reduceAdd, Nat.reduceSub, Nat.reduceMul, Nat.reduceLT, Nat.reduceLeDiff, Nat.reduceEqDiff, Nat.reduceBEq, Int.reduceToNat, Int.reduceLT, Int.reduceLE, Int.reduceEq, Int.reduceNe, Int.reduceAdd, Int.reduceSub, Int.reduceMul, Int.reduceNeg, ↓reduceIte, reduceCtorEq, Pdu.pv, g7, g8, hw])
    refine fin _ ?_
    simp only [go_sem, Nat.reduceAdd, Nat.reduceSub, Nat.reduceMul, Nat.reduceLT, Nat.reduceLeDiff, Nat.reduceEqDiff, Nat.reduceBEq, Int.reduceToNat, Int.reduceLT, Int.reduceLE, Int.reduceEq, Int.reduceNe, Int.reduceAdd, Int.reduceSub, Int.reduceMul, Int.reduceNeg, ↓reduceIte, reduceCtorEq, wholeSt]
  · have g9 : decide (((i % bl.toNat : Nat) : Int) = 0) = false := by simp; omega
    have hbf : b = false := by
      cases hb : b
      · rfl
      · have := q4.1 hb; omega
    subst hbf
    rw [if_neg (by simp)] at q5
    subst q5
    simp only [go_sem, Nat.reduceAdd, Nat.reduceSub, Nat.reduceMul, Nat.reduceLT, Nat.reduceLeDiff, Nat.reduceEqDiff, Nat.reduceBEq, Int.reduceToNat, Int.reduceLT, Int.reduceLE, Int.reduceEq, Int.reduceNe, Int.reduceAdd, Int.reduceSub, Int.reduceMul, Int.reduceNeg, ↓reduceIte, reduceCtorEq, g1, g2, g3, g4, g4', w1, w2, g5, g9]
    (refine CallA.pure (cE) (by simp only [go_sem, Nat.reduceAdd, Nat.reduceSub, Nat.reduceMul, Nat.reduceLT, Nat.reduceLeDiff, Nat.reduceEqDiff, Nat.reduceBEq, Int.reduceToNat, Int.reduceLT, Int.reduceLE, Int.reduceEq, Int.reduceNe, Int.reduceAdd, Int.reduceSub, Int.reduceMul, Int.reduceNeg, ↓reduceIte, reduceCtorEq, Pdu.pv, Pdu.none, g7, g8, hw] <;> first | rfl | decide) ?_; simp only [go_sem, Nat.reduceAdd, Nat.reduceSub, Nat.reduceMul, Nat.reduceLT, Nat.reduceLeDiff, Nat.reduceEqDiff, Nat.reduceBEq, Int.reduceToNat, Int.reduceLT, Int.reduceLE, Int.reduceEq, Int.reduceNe, Int.reduceAdd, Int.reduceSub, Int.reduceMul, Int.reduceNeg, ↓reduceIte, reduceCtorEq, Pdu.pv, Pdu.none, g7, g8, hw])
    refine fin _ ?_
    simp only [go_sem, Nat.reduceAdd, Nat.reduceSub, Nat.reduceMul, Nat.reduceLT, Nat.reduceLeDiff, Nat.reduceEqDiff, Nat.reduceBEq, Int.reduceToNat, Int.reduceLT, Int.reduceLE, Int.reduceEq, Int.reduceNe, Int.reduceAdd, Int.reduceSub, Int.reduceMul, Int.reduceNeg, ↓reduceIte, reduceCtorEq, wholeSt]
end Go.Proofs.Ytpnhnobnjcknjaa.Pe
