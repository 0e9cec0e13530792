import Derived.Test.YtpnhnobnjcknjaaC7
namespace Go.Proofs.Ytpnhnobnjcknjaa.Pe
open Go.Pe Go.RowKit
set_option maxRecDepth 20000
set_option maxHeartbeats 4000000
set_option linter.unusedSimpArgs false
set_option linter.unusedVariables false

abbrev Pdu.cells (p : Pdu) : List PV := [PI p.k, PI p.l, PI p.n, PI p.s, PI p.b, PI p.g, bytesPV p.d]
abbrev pduRows (l : List Pdu) : List (List PV) := l.map Pdu.cells
/-- The parts behind the head. -/
def nexts : Nat → Int → List UInt8 → List Pdu
  | 0, _, _ => []
  | f + 1, num, d => if d = [] then [] else ⟨3, 0, num, 0, 0, 0, d.take 7⟩ :: nexts f ((num + 1).tmod 16) (d.drop 7)
def partsL (b : List UInt8) : List Pdu :=
  if b.length = 0 ∨ 4095 < b.length then [] else if b.length ≤ 7 then [⟨1, b.length, 0, 0, 0, 0, b⟩] else ⟨2, b.length, 0, 0, 0, 0, b.take 6⟩ :: nexts b.length 1 (b.drop 6)
def partsB (b : List UInt8) : Bool := !decide (b.length = 0 ∨ 4095 < b.length)

theorem nexts_fuel : ∀ (f g : Nat) (num : Int) (d : List UInt8), d.length ≤ f → d.length ≤ g → nexts f num d = nexts g num d
  | 0, g, num, d, h1, h2 => by
    have : d = [] := List.eq_nil_of_length_eq_zero (by omega)
    subst this
    cases g <;> simp [nexts]
  | f + 1, 0, num, d, h1, h2 => by
    have : d = [] := List.eq_nil_of_length_eq_zero (by omega)
    subst this
    simp [nexts]
  | f + 1, g + 1, num, d, h1, h2 => by
    simp only [nexts]
    split
    · rfl
    · rename_i hd
      have : 0 < d.length := List.length_pos_iff.2 hd
      rw [nexts_fuel f g _ (d.drop 7) (by simp; omega) (by simp; omega)]

def partsSt (b : List UInt8) (acc : List Pdu) (ver at_ : Nat) (num : Int) : St := ⟨58, [(0, bytesPV b), (4, PI b.length), (5, .own 2 ver), (6, PI num), (7, PI at_)], [(2, .arr 33 7 (pduRows acc) ver false)], 9, 0⟩
def partsI (b : List UInt8) (m : Nat) (st : St) : Prop := ∃ (acc : List Pdu) (ver at_ : Nat) (num : Int), at_ ≤ b.length + 6 ∧ acc.length ≤ at_ ∧ 0 ≤ num ∧ num ≤ 15 ∧ m = b.length + 7 - at_ ∧ acc ++ nexts b.length num (b.drop at_) = partsL b ∧ st = partsSt b acc ver at_ num
theorem partsR_calls (b : List UInt8) : PureCalls Try.prog 37 [bytesPV b] (.tup [.im 7 (pduRows (partsL b)), PB (partsB b)]) := by
  refine PureCalls.of tabOK mixed Try.func37 rfl rfl (by decide +kernel) (by simp [Try.ntmps37]) ?_
  simp only [go_sem, Nat.reduceAdd, Nat.reduceSub, Nat.reduceMul, Nat.reduceLT, Nat.reduceLeDiff, Nat.reduceEqDiff, Nat.reduceBEq, Int.reduceToNat, Int.reduceLT, Int.reduceLE, Int.reduceEq, Int.reduceNe, Int.reduceAdd, Int.reduceSub, Int.reduceMul, Int.reduceNeg, ↓reduceIte, reduceCtorEq, Try.ntmps37, Try.results37]
  by_cases h1 : b.length = 0
  · have e1 : partsL b = [] := by simp [partsL, h1]
    have e2 : partsB b = false := by simp [partsB, h1]
    have e3 : decide ((b.length : Int) = 0) = true := by simp [h1]
    simp only [go_sem, Nat.reduceAdd, Nat.reduceSub, Nat.reduceMul, Nat.reduceLT, Nat.reduceLeDiff, Nat.reduceEqDiff, Nat.reduceBEq, Int.reduceToNat, Int.reduceLT, Int.reduceLE, Int.reduceEq, Int.reduceNe, Int.reduceAdd, Int.reduceSub, Int.reduceMul, Int.reduceNeg, ↓reduceIte, reduceCtorEq, e1, e2, e3, Try.ntmps37, Try.results37]
  have g1 : decide ((b.length : Int) = 0) = false := by simpa using h1
  by_cases h2 : 4095 < b.length
  · have e1 : partsL b = [] := by simp [partsL, h2]
    have e2 : partsB b = false := by simp [partsB, h2]
    have e3 : decide (4095 < (b.length : Int)) = true := by simp; omega
    simp only [go_sem, Nat.reduceAdd, Nat.reduceSub, Nat.reduceMul, Nat.reduceLT, Nat.reduceLeDiff, Nat.reduceEqDiff, Nat.reduceBEq, Int.reduceToNat, Int.reduceLT, Int.reduceLE, Int.reduceEq, Int.reduceNe, Int.reduceAdd, Int.reduceSub, Int.reduceMul, Int.reduceNeg, ↓reduceIte, reduceCtorEq, e1, e2, g1, e3, Try.ntmps37, Try.results37]
  have g2 : decide (4095 < (b.length : Int)) = false := by simp; omega
  have e2 : partsB b = true := by simp [partsB, h1, h2]
  by_cases h3 : b.length ≤ 7
  · have e1 : partsL b = [⟨1, b.length, 0, 0, 0, 0, b⟩] := by simp only [partsL, h1, h2, h3]; simp
    have e3 : decide ((b.length : Int) ≤ 7) = true := by simp; omega
    simp only [go_sem, Nat.reduceAdd, Nat.reduceSub, Nat.reduceMul, Nat.reduceLT, Nat.reduceLeDiff, Nat.reduceEqDiff, Nat.reduceBEq, Int.reduceToNat, Int.reduceLT, Int.reduceLE, Int.reduceEq, Int.reduceNe, Int.reduceAdd, Int.reduceSub, Int.reduceMul, Int.reduceNeg, ↓reduceIte, reduceCtorEq, e1, e2, g1, g2, e3, Try.ntmps37, Try.results37]
    exact ⟨by omega, by omega⟩
  have g3 : decide ((b.length : Int) ≤ 7) = false := by simp; omega
  simp only [go_sem, Nat.reduceAdd, Nat.reduceSub, Nat.reduceMul, Nat.reduceLT, Nat.reduceLeDiff, Nat.reduceEqDiff, Nat.reduceBEq, Int.reduceToNat, Int.reduceLT, Int.reduceLE, Int.reduceEq, Int.reduceNe, Int.reduceAdd, Int.reduceSub, Int.reduceMul, Int.reduceNeg, ↓reduceIte, reduceCtorEq, g1, g2, g3]
  refine ⟨by omega, ⟨by simp; omega, by simp; omega⟩, ?_⟩
  refine wpA_loop (partsI b) ⟨_, _, ?_, [⟨2, b.length, 0, 0, 0, 0, b.take 6⟩], 0, 6, 1, by omega, by simp, by omega, by omega, rfl, ?_, rfl⟩ ?_
  · simp only [go_sem, Nat.reduceAdd, Nat.reduceSub, Nat.reduceMul, Nat.reduceLT, Nat.reduceLeDiff, Nat.reduceEqDiff, Nat.reduceBEq, Int.reduceToNat, Int.reduceLT, Int.reduceLE, Int.reduceEq, Int.reduceNe, Int.reduceAdd, Int.reduceSub, Int.reduceMul, Int.reduceNeg, ↓reduceIte, reduceCtorEq, partsSt, pduRows, Pdu.cells]
  · rw [partsL, if_neg (by omega), if_neg (by omega)]
    rfl
  rintro m st ⟨acc, ver, at_, num, q1, q2, q3, q4, rfl, q5, rfl⟩
  by_cases hc : at_ < b.length
  · have e1 : decide ((at_ : Int) < (b.length : Int)) = true := by simp; omega
    have hw1 : IntKind.wrap .i64 ((at_ : Int) + 7) = ((at_ + 7 : Nat) : Int) := by rw [wrapI64 (by omega)]; rfl
    have hw2 : IntKind.wrap .i64 (num + 1) = num + 1 := wrapI64 (by omega)
    have key : nexts b.length num (b.drop at_) = ⟨3, 0, num, 0, 0, 0, (b.drop at_).take 7⟩ :: nexts b.length ((num + 1).tmod 16) (b.drop (at_ + 7)) := by
      obtain ⟨f, hf⟩ : ∃ f, b.length = f + 1 := ⟨b.length - 1, by omega⟩
      rw [hf]
      show (if b.drop at_ = [] then [] else (⟨3, 0, num, 0, 0, 0, (b.drop at_).take 7⟩ : Pdu) :: nexts f ((num + 1).tmod 16) ((b.drop at_).drop 7)) = _
      rw [if_neg (by intro h; have := congrArg List.length h; simp at this; omega), List.drop_drop]
      rw [nexts_fuel f (f + 1) _ _ (by simp; omega) (by simp; omega)]
    have hm0 : 0 ≤ (num + 1).tmod 16 := Int.tmod_nonneg _ (by omega)
    have hm1 : (num + 1).tmod 16 < 16 := Int.tmod_lt_of_pos _ (by omega)
    rw [key] at q5
    have fin : ∀ st', Weak st' (partsSt b (acc ++ [⟨3, 0, num, 0, 0, 0, (b.drop at_).take 7⟩]) (ver + 1) (at_ + 7) ((num + 1).tmod 16)) → ∃ m' s'', m' < b.length + 7 - at_ ∧ Weak st' s'' ∧ partsI b m' s'' :=
      fun st' h => ⟨b.length + 7 - (at_ + 7), _, by omega, h, _, _, _, _, by omega, by simp; omega, hm0, by omega, rfl, by rw [← q5]; simp, rfl⟩
    by_cases hg : at_ + 7 ≤ b.length
    · have e2 : decide (((at_ + 7 : Nat) : Int) > (b.length : Int)) = false := by simp; omega
      have hsl : (b.take (at_ + 7)).drop at_ = (b.drop at_).take 7 := by rw [List.drop_take]; congr 1; omega
      simp only [go_sem, Nat.reduceAdd, Nat.reduceSub, Nat.reduceMul, Nat.reduceLT, Nat.reduceLeDiff, Nat.reduceEqDiff, Nat.reduceBEq, Int.reduceToNat, Int.reduceLT, Int.reduceLE, Int.reduceEq, Int.reduceNe, Int.reduceAdd, Int.reduceSub, Int.reduceMul, Int.reduceNeg, ↓reduceIte, reduceCtorEq, partsSt, e1, hw1, hw2, e2, Int.toNat_natCast, hsl]
      refine ⟨⟨by omega, by omega, by omega⟩, ⟨by simp; omega, by simp; omega⟩, ⟨by simp; omega, by simp; omega⟩, ?_⟩
      refine fin _ ?_
      simp only [go_sem, Nat.reduceAdd, Nat.reduceSub, Nat.reduceMul, Nat.reduceLT, Nat.reduceLeDiff, Nat.reduceEqDiff, Nat.reduceBEq, Int.reduceToNat, Int.reduceLT, Int.reduceLE, Int.reduceEq, Int.reduceNe, Int.reduceAdd, Int.reduceSub, Int.reduceMul, Int.reduceNeg, ↓reduceIte, reduceCtorEq, partsSt]
      simp [pduRows]
    · have e2 : decide (((at_ + 7 : Nat) : Int) > (b.length : Int)) = true := by simp; omega
      have hsl : (b.take b.length).drop at_ = (b.drop at_).take 7 := by rw [List.take_length, List.take_of_length_le (by simp; omega)]
      simp only [go_sem, Nat.reduceAdd, Nat.reduceSub, Nat.reduceMul, Nat.reduceLT, Nat.reduceLeDiff, Nat.reduceEqDiff, Nat.reduceBEq, Int.reduceToNat, Int.reduceLT, Int.reduceLE, Int.reduceEq, Int.reduceNe, Int.reduceAdd, Int.reduceSub, Int.reduceMul, Int.reduceNeg, ↓reduceIte, reduceCtorEq, partsSt, e1, hw1, hw2, e2, Int.toNat_natCast, hsl]
      refine ⟨⟨by omega, by omega, by omega⟩, ⟨by simp; omega, by simp; omega⟩, ⟨by simp; omega, by simp; omega⟩, ?_⟩
      refine fin _ ?_
      simp only [go_sem, Nat.reduceAdd, Nat.reduceSub, Nat.reduceMul, Nat.reduceLT, Nat.reduceLeDiff, Nat.reduceEqDiff, Nat.reduceBEq, Int.reduceToNat, Int.reduceLT, Int.reduceLE, Int.reduceEq, Int.reduceNe, Int.reduceAdd, Int.reduceSub, Int.reduceMul, Int.reduceNeg, ↓reduceIte, reduceCtorEq, partsSt]
      simp [pduRows]
  · have e1 : decide ((at_ : Int) < (b.length : Int)) = false := by simp; omega
    simp only [go_sem, Nat.reduceAdd, Nat.reduceSub, Nat.reduceMul, Nat.reduceLT, Nat.reduceLeDiff, Nat.reduceEqDiff, Nat.reduceBEq, Int.reduceToNat, Int.reduceLT, Int.reduceLE, Int.reduceEq, Int.reduceNe, Int.reduceAdd, Int.reduceSub, Int.reduceMul, Int.reduceNeg, ↓reduceIte, reduceCtorEq, partsSt, e1, Try.ntmps37, Try.results37]
    have hn : nexts b.length num (b.drop at_) = [] := by
      rw [List.drop_eq_nil_of_le (by omega)]
      cases b.length <;> simp [nexts]
    rw [hn, List.append_nil] at q5
    rw [q5]
    exact ⟨rfl, e2⟩
theorem pduRows_getD {l : List Pdu} {i : Nat} (h : i < l.length) : (pduRows l).getD i [] = Pdu.cells l[i] := by
  simp [pduRows, List.getD_eq_getElem?_getD, h]
theorem pduRows_length (l : List Pdu) : (pduRows l).length = l.length := by simp [pduRows]
def sameAllSt (a b : List Pdu) (i : Nat) : St := ⟨27, [(0, .im 7 (pduRows a)), (1, .im 7 (pduRows b)), (5, PI i)], [], 0, 0⟩
def sameAllI (a b : List Pdu) (m : Nat) (st : St) : Prop := ∃ i : Nat, i ≤ a.length ∧ m = a.length - i ∧ a.take i = b.take i ∧ st = sameAllSt a b i
theorem sameAll_calls (a b : List Pdu) (ha : a.length ≤ 100000) : PureCalls Try.prog 38 [.im 7 (pduRows a), .im 7 (pduRows b)] (PB (decide (a = b))) := by
  refine PureCalls.of tabOK mixed Try.func38 rfl rfl (by decide +kernel) (by simp [Try.ntmps38]) ?_
  by_cases hl : a.length = b.length
  rotate_left 1
  · have e1 : decide ((a.length : Int) = (b.length : Int)) = false := by simp; omega
    have e2 : decide (a = b) = false := by simp; intro h; rw [h] at hl; exact hl rfl
    rw [e2]
    simp only [go_sem, Nat.reduceAdd, Nat.reduceSub, Nat.reduceMul, Nat.reduceLT, Nat.reduceLeDiff, Nat.reduceEqDiff, Nat.reduceBEq, Int.reduceToNat, Int.reduceLT, Int.reduceLE, Int.reduceEq, Int.reduceNe, Int.reduceAdd, Int.reduceSub, Int.reduceMul, Int.reduceNeg, ↓reduceIte, reduceCtorEq, Try.ntmps38, Try.results38, pduRows_length, e1]
  have e1 : decide ((a.length : Int) = (b.length : Int)) = true := by simp; omega
  simp only [go_sem, Nat.reduceAdd, Nat.reduceSub, Nat.reduceMul, Nat.reduceLT, Nat.reduceLeDiff, Nat.reduceEqDiff, Nat.reduceBEq, Int.reduceToNat, Int.reduceLT, Int.reduceLE, Int.reduceEq, Int.reduceNe, Int.reduceAdd, Int.reduceSub, Int.reduceMul, Int.reduceNeg, ↓reduceIte, reduceCtorEq, Try.ntmps38, Try.results38, pduRows_length, e1]
  refine wpA_loop (sameAllI a b) ⟨_, _, ?_, 0, by omega, rfl, by simp, rfl⟩ ?_
  · simp only [go_sem, Nat.reduceAdd, Nat.reduceSub, Nat.reduceMul, Nat.reduceLT, Nat.reduceLeDiff, Nat.reduceEqDiff, Nat.reduceBEq, Int.reduceToNat, Int.reduceLT, Int.reduceLE, Int.reduceEq, Int.reduceNe, Int.reduceAdd, Int.reduceSub, Int.reduceMul, Int.reduceNeg, ↓reduceIte, reduceCtorEq, Int.natCast_zero, sameAllSt]
  rintro m st ⟨i, hi, rfl, hp, rfl⟩
  by_cases hc : i < a.length
  · have f1 : decide ((i : Int) < (a.length : Int)) = true := by simp; omega
    have f1' : ((i : Int) < (a.length : Int)) := by omega
    have f1b : ((i : Int) < (b.length : Int)) := by omega
    have f0 : (0 : Int) ≤ (i : Int) := by omega
    have hw : IntKind.wrap .i64 ((i : Int) + 1) = ((i + 1 : Nat) : Int) := by rw [wrapI64 (by omega)]; rfl
    have hb : i < b.length := by omega
    have cS := same_calls a[i] b[i]
    simp only [go_sem, Nat.reduceAdd, Nat.reduceSub, Nat.reduceMul, Nat.reduceLT, Nat.reduceLeDiff, Nat.reduceEqDiff, Nat.reduceBEq, Int.reduceToNat, Int.reduceLT, Int.reduceLE, Int.reduceEq, Int.reduceNe, Int.reduceAdd, Int.reduceSub, Int.reduceMul, Int.reduceNeg, ↓reduceIte, reduceCtorEq, sameAllSt, pduRows_length, f1, f1', f1b, f0, hw, Int.toNat_natCast, pduRows_getD hc, pduRows_getD hb, Pdu.cells]
    refine callD_same cS (by simp only [go_sem, Nat.reduceAdd, Nat.reduceSub, Nat.reduceMul, Nat.reduceLT, Nat.reduceLeDiff, Nat.reduceEqDiff, Nat.reduceBEq, Int.reduceToNat, Int.reduceLT, Int.reduceLE, Int.reduceEq, Int.reduceNe, Int.reduceAdd, Int.reduceSub, Int.reduceMul, Int.reduceNeg, ↓reduceIte, reduceCtorEq, Pdu.pv]) ?_
    simp only [go_sem, Nat.reduceAdd, Nat.reduceSub, Nat.reduceMul, Nat.reduceLT, Nat.reduceLeDiff, Nat.reduceEqDiff, Nat.reduceBEq, Int.reduceToNat, Int.reduceLT, Int.reduceLE, Int.reduceEq, Int.reduceNe, Int.reduceAdd, Int.reduceSub, Int.reduceMul, Int.reduceNeg, ↓reduceIte, reduceCtorEq]
    refine endD_intro (by decide +kernel) ?_
    by_cases he : a[i] = b[i]
    · have f2 : decide (a[i] = b[i]) = true := by simp [he]
      simp only [go_sem, Nat.reduceAdd, Nat.reduceSub, Nat.reduceMul, Nat.reduceLT, Nat.reduceLeDiff, Nat.reduceEqDiff, Nat.reduceBEq, Int.reduceToNat, Int.reduceLT, Int.reduceLE, Int.reduceEq, Int.reduceNe, Int.reduceAdd, Int.reduceSub, Int.reduceMul, Int.reduceNeg, ↓reduceIte, reduceCtorEq, f2, hw]
      refine ⟨a.length - (i + 1), _, by omega, ?_, i + 1, by omega, rfl, ?_, rfl⟩
      · simp only [go_sem, Nat.reduceAdd, Nat.reduceSub, Nat.reduceMul, Nat.reduceLT, Nat.reduceLeDiff, Nat.reduceEqDiff, Nat.reduceBEq, Int.reduceToNat, Int.reduceLT, Int.reduceLE, Int.reduceEq, Int.reduceNe, Int.reduceAdd, Int.reduceSub, Int.reduceMul, Int.reduceNeg, ↓reduceIte, reduceCtorEq, sameAllSt]
      · rw [List.take_succ_eq_append_getElem hc, List.take_succ_eq_append_getElem hb, hp, he]
    · have f2 : decide (a[i] = b[i]) = false := by simp [he]
      have e2 : decide (a = b) = false := by simp; intro h; subst h; exact he rfl
      simp only [go_sem, Nat.reduceAdd, Nat.reduceSub, Nat.reduceMul, Nat.reduceLT, Nat.reduceLeDiff, Nat.reduceEqDiff, Nat.reduceBEq, Int.reduceToNat, Int.reduceLT, Int.reduceLE, Int.reduceEq, Int.reduceNe, Int.reduceAdd, Int.reduceSub, Int.reduceMul, Int.reduceNeg, ↓reduceIte, reduceCtorEq, f2, e2, Try.ntmps38, Try.results38]
  · have f1 : decide ((i : Int) < (a.length : Int)) = false := by simp; omega
    have e2 : decide (a = b) = true := by
      simp
      have : i = a.length := by omega
      subst this
      rw [List.take_length, hl, List.take_length] at hp
      exact hp
    simp only [go_sem, Nat.reduceAdd, Nat.reduceSub, Nat.reduceMul, Nat.reduceLT, Nat.reduceLeDiff, Nat.reduceEqDiff, Nat.reduceBEq, Int.reduceToNat, Int.reduceLT, Int.reduceLE, Int.reduceEq, Int.reduceNe, Int.reduceAdd, Int.reduceSub, Int.reduceMul, Int.reduceNeg, ↓reduceIte, reduceCtorEq, sameAllSt, pduRows_length, f1, e2, Try.ntmps38, Try.results38]
end Go.Proofs.Ytpnhnobnjcknjaa.Pe
