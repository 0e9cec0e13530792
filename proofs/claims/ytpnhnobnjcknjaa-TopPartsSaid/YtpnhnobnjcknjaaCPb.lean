import Derived.Test.YtpnhnobnjcknjaaC3
namespace Go.Proofs.Ytpnhnobnjcknjaa.Pe
open Go.Pe Go.RowKit
set_option maxRecDepth 20000
set_option maxHeartbeats 4000000
set_option linter.unusedSimpArgs false
set_option linter.unusedVariables false

abbrev Pdu.cells (p : Pdu) : List PV := [PI p.k, PI p.l, PI p.n, PI p.s, PI p.b, PI p.g, bytesPV p.d]
abbrev pduRows (l : List Pdu) : List (List PV) := l.map Pdu.cells
/-- The parts behind the head. -/
def nexts : Nat → Int → List UInt8 → List Pdu
  | 0, _, _ => []
  | f + 1, num, d => if d = [] then [] else ⟨3, 0, num, 0, 0, 0, d.take 7⟩ :: nexts f ((num + 1).tmod 16) (d.drop 7)
def partsL (b : List UInt8) : List Pdu :=
  if b.length = 0 ∨ 4095 < b.length then [] else if b.length ≤ 7 then [⟨1, b.length, 0, 0, 0, 0, b⟩] else ⟨2, b.length, 0, 0, 0, 0, b.take 6⟩ :: nexts b.length 1 (b.drop 6)
def partsB (b : List UInt8) : Bool := !decide (b.length = 0 ∨ 4095 < b.length)

theorem pduRows_getD {l : List Pdu} {i : Nat} (h : i < l.length) : (pduRows l).getD i [] = Pdu.cells l[i] := by
  simp [pduRows, List.getD_eq_getElem?_getD, h]
theorem pduRows_length (l : List Pdu) : (pduRows l).length = l.length := by simp [pduRows]
def sameAllSt (a b : List Pdu) (i : Nat) : St := ⟨27, [(0, .im 7 (pduRows a)), (1, .im 7 (pduRows b)), (5, PI i)], [], 0, 0⟩
def sameAllI (a b : List Pdu) (m : Nat) (st : St) : Prop := ∃ i : Nat, i ≤ a.length ∧ m = a.length - i ∧ a.take i = b.take i ∧ st = sameAllSt a b i
theorem sameAll_calls (a b : List Pdu) (ha : a.length ≤ 100000) : PureCalls Try.prog 38 [.im 7 (pduRows a), .im 7 (pduRows b)] (PB (decide (a = b))) := by
  refine PureCalls.of tabOK mixed Try.func38 rfl rfl (by decide +kernel) (by simp [Try.ntmps38]) ?_
  by_cases hl : a.length = b.length
  rotate_left 1
  · have e1 : decide ((a.length : Int) = (b.length : Int)) = false := by simp; omega
    have e2 : decide (a = b) = false := by simp; intro h; rw [h] at hl; exact hl rfl
    rw [e2]
    simp only [go_sem, Nat.reduceAdd, Nat.reduceSub, Nat.reduceMul, Nat.reduceLT, Nat.reduceLeDiff, Nat.reduceEqDiff, Nat.reduceBEq, Int.reduceToNat, Int.reduceLT, Int.reduceLE, Int.reduceEq, Int.reduceNe, Int.reduceAdd, Int.reduceSub, Int.reduceMul, Int.reduceNeg, ↓reduceIte, reduceCtorEq, Try.ntmps38, Try.results38, pduRows_length, e1]
  have e1 : decide ((a.length : Int) = (b.length : Int)) = true := by simp; omega
  simp only [go_sem, Nat.reduceAdd, Nat.reduceSub, Nat.reduceMul, Nat.reduceLT, Nat.reduceLeDiff, Nat.reduceEqDiff, Nat.reduceBEq, Int.reduceToNat, Int.reduceLT, Int.reduceLE, Int.reduceEq, Int.reduceNe, Int.reduceAdd, Int.reduceSub, Int.reduceMul, Int.reduceNeg, ↓reduceIte, reduceCtorEq, Try.ntmps38, Try.results38, pduRows_length, e1]
  refine wpA_loop (sameAllI a b) ⟨_, _, ?_, 0, by omega, rfl, by simp, rfl⟩ ?_
  · simp only [go_sem, Nat.reduceAdd, Nat.reduceSub, Nat.reduceMul, Nat.reduceLT, Nat.reduceLeDiff, Nat.reduceEqDiff, Nat.reduceBEq, Int.reduceToNat, Int.reduceLT, Int.reduceLE, Int.reduceEq, Int.reduceNe, Int.reduceAdd, Int.reduceSub, Int.reduceMul, Int.reduceNeg, ↓reduceIte, reduceCtorEq, Int.natCast_zero, sameAllSt]
  rintro m st ⟨i, hi, rfl, hp, rfl⟩
  by_cases hc : i < a.length
  · have f1 : decide ((i : Int) < (a.length : Int)) = true := by simp; omega
    have f1' : ((i : Int) < (a.length : Int)) := by omega
    have f1b : ((i : Int) < (b.length : Int)) := by omega
    have f0 : (0 : Int) ≤ (i : Int) := by omega
    have hw : IntKind.wrap .i64 ((i : Int) + 1) = ((i + 1 : Nat) : Int) := by rw [wrapI64 (by omega)]; rfl
    have hb : i < b.length := by omega
    have cS := same_calls a[i] b[i]
    simp only [go_sem, Nat.reduceAdd, Nat.reduceSub, Nat.reduceMul, Nat.reduceLT, Nat.reduceLeDiff, Nat.reduceEqDiff, Nat.reduceBEq, Int.reduceToNat, Int.reduceLT, Int.reduceLE, Int.reduceEq, Int.reduceNe, Int.reduceAdd, Int.reduceSub, Int.reduceMul, Int.reduceNeg, ↓reduceIte, reduceCtorEq, sameAllSt, pduRows_length, f1, f1', f1b, f0, hw, Int.toNat_natCast, pduRows_getD hc, pduRows_getD hb, Pdu.cells]
    refine callD_same cS (by simp only [go_sem, Nat.reduceAdd, Nat.reduceSub, Nat.reduceMul, Nat.reduceLT, Nat.reduceLeDiff, Nat.reduceEqDiff, Nat.reduceBEq, Int.reduceToNat, Int.reduceLT, Int.reduceLE, Int.reduceEq, Int.reduceNe, Int.reduceAdd, Int.reduceSub, Int.reduceMul, Int.reduceNeg, ↓reduceIte, reduceCtorEq, Pdu.pv]) ?_
    simp only [go_sem, Nat.reduceAdd, Nat.reduceSub, Nat.reduceMul, Nat.reduceLT, Nat.reduceLeDiff, Nat.reduceEqDiff, Nat.reduceBEq, Int.reduceToNat, Int.reduceLT, Int.reduceLE, Int.reduceEq, Int.reduceNe, Int.reduceAdd, Int.reduceSub, Int.reduceMul, Int.reduceNeg, ↓reduceIte, reduceCtorEq]
    refine endD_intro (by decide +kernel) ?_
    by_cases he : a[i] = b[i]
    · have f2 : decide (a[i] = b[i]) = true := by simp [he]
      simp only [go_sem, Nat.reduceAdd, Nat.reduceSub, Nat.reduceMul, Nat.reduceLT, Nat.reduceLeDiff, Nat.reduceEqDiff, Nat.reduceBEq, Int.reduceToNat, Int.reduceLT, Int.reduceLE, Int.reduceEq, Int.reduceNe, Int.reduceAdd, Int.reduceSub, Int.reduceMul, Int.reduceNeg, ↓reduceIte, reduceCtorEq, f2, hw]
      refine ⟨a.length - (i + 1), _, by omega, ?_, i + 1, by omega, rfl, ?_, rfl⟩
      · simp only [go_sem, Nat.reduceAdd, Nat.reduceSub, Nat.reduceMul, Nat.reduceLT, Nat.reduceLeDiff, Nat.reduceEqDiff, Nat.reduceBEq, Int.reduceToNat, Int.reduceLT, Int.reduceLE, Int.reduceEq, Int.reduceNe, Int.reduceAdd, Int.reduceSub, Int.reduceMul, Int.reduceNeg, ↓reduceIte, reduceCtorEq, sameAllSt]
      · rw [List.take_succ_eq_append_getElem hc, List.take_succ_eq_append_getElem hb, hp, he]
    · have f2 : decide (a[i] = b[i]) = false := by simp [he]
      have e2 : decide (a = b) = false := by simp; intro h; subst h; exact he rfl
      simp only [go_sem, Nat.reduceAdd, Nat.reduceSub, Nat.reduceMul, Nat.reduceLT, Nat.reduceLeDiff, Nat.reduceEqDiff, Nat.reduceBEq, Int.reduceToNat, Int.reduceLT, Int.reduceLE, Int.reduceEq, Int.reduceNe, Int.reduceAdd, Int.reduceSub, Int.reduceMul, Int.reduceNeg, ↓reduceIte, reduceCtorEq, f2, e2, Try.ntmps38, Try.results38]
  · have f1 : decide ((i : Int) < (a.length : Int)) = false := by simp; omega
    have e2 : decide (a = b) = true := by
      simp
      have : i = a.length := by omega
      subst this
      rw [List.take_length, hl, List.take_length] at hp
      exact hp
    simp only [go_sem, Nat.reduceAdd, Nat.reduceSub, Nat.reduceMul, Nat.reduceLT, Nat.reduceLeDiff, Nat.reduceEqDiff, Nat.reduceBEq, Int.reduceToNat, Int.reduceLT, Int.reduceLE, Int.reduceEq, Int.reduceNe, Int.reduceAdd, Int.reduceSub, Int.reduceMul, Int.reduceNeg, ↓reduceIte, reduceCtorEq, sameAllSt, pduRows_length, f1, e2, Try.ntmps38, Try.results38]
end Go.Proofs.Ytpnhnobnjcknjaa.Pe

namespace Go.Proofs.Ytpnhnobnjcknjaa.Pe
open Go.Pe Go.RowKit
set_option maxRecDepth 20000
set_option maxHeartbeats 4000000
set_option linter.unusedSimpArgs false
set_option linter.unusedVariables false

theorem nexts_fuel : ∀ (f g : Nat) (num : Int) (d : List UInt8), d.length ≤ f → d.length ≤ g → nexts f num d = nexts g num d
  | 0, g, num, d, h1, h2 => by
    have : d = [] := List.eq_nil_of_length_eq_zero (by omega)
    subst this
    cases g <;> simp [nexts]
  | f + 1, 0, num, d, h1, h2 => by
    have : d = [] := List.eq_nil_of_length_eq_zero (by omega)
    subst this
    simp [nexts]
  | f + 1, g + 1, num, d, h1, h2 => by
    simp only [nexts]
    split
    · rfl
    · rename_i hd
      have : 0 < d.length := List.length_pos_iff.2 hd
      rw [nexts_fuel f g _ (d.drop 7) (by simp; omega) (by simp; omega)]

theorem nexts_cons' {f : Nat} {num : Int} {d : List UInt8} (hd : d ≠ []) (hf : d.length ≤ f) : nexts f num d = ⟨3, 0, num, 0, 0, 0, d.take 7⟩ :: nexts f ((num + 1).tmod 16) (d.drop 7) := by
  have : 0 < d.length := List.length_pos_iff.2 hd
  obtain ⟨g, rfl⟩ : ∃ g, f = g + 1 := ⟨f - 1, by omega⟩
  show (if d = [] then [] else (⟨3, 0, num, 0, 0, 0, d.take 7⟩ : Pdu) :: nexts g ((num + 1).tmod 16) (d.drop 7)) = _
  rw [if_neg hd, nexts_fuel g (g + 1) _ _ (by simp; omega) (by simp; omega)]
theorem nexts_nil' (f : Nat) (num : Int) : nexts f num [] = [] := by cases f <;> simp [nexts]
theorem nexts_all : ∀ (n f : Nat) (num : Nat) (d : List UInt8), d.length ≤ n → d.length ≤ f → (nexts f ((num % 16 : Nat) : Int) d).length = (d.length + 6) / 7 ∧
    ∀ i, i < (nexts f ((num % 16 : Nat) : Int) d).length → (nexts f ((num % 16 : Nat) : Int) d)[i]? = some ⟨3, 0, (((num + i) % 16 : Nat) : Int), 0, 0, 0, (d.drop (7 * i)).take 7⟩
  | 0, f, num, d, hn, hf => by
    have : d = [] := List.eq_nil_of_length_eq_zero (by omega)
    subst this
    rw [nexts_nil']
    simp
  | n + 1, f, num, d, hn, hf => by
    by_cases hd : d = []
    · subst hd
      rw [nexts_nil']
      simp
    · have h0 : 0 < d.length := List.length_pos_iff.2 hd
      have hm : (((num % 16 : Nat) : Int) + 1).tmod 16 = (((num + 1) % 16 : Nat) : Int) := by
        have : num % 16 < 16 := Nat.mod_lt _ (by omega)
        have e : (((num % 16 : Nat) : Int) + 1) = ((num % 16 + 1 : Nat) : Int) := by omega
        rw [e, Int.tmod_eq_emod_of_nonneg (by omega)]
        omega
      rw [nexts_cons' hd hf, hm]
      obtain ⟨q1, q2⟩ := nexts_all n f (num + 1) (d.drop 7) (by simp; omega) (by simp; omega)
      refine ⟨by rw [List.length_cons, q1]; simp; omega, fun i hi => ?_⟩
      cases i with
      | zero => simp
      | succ i =>
        rw [List.getElem?_cons_succ, q2 i (by simpa using hi), List.drop_drop]
        have e1 : num + 1 + i = num + (i + 1) := by omega
        have e2 : 7 + 7 * i = 7 * (i + 1) := by omega
        rw [e1, e2]
/-- How many parts a text has. -/
def partsN (t : List UInt8) : Nat := if t.length ≤ 7 then 1 else 1 + t.length / 7
theorem parts_long {t : List UInt8} (h0 : 7 < t.length) (h1 : t.length ≤ 4095) : (partsL t).length = partsN t ∧ (partsL t)[0]? = some ⟨2, t.length, 0, 0, 0, 0, t.take 6⟩ ∧
    ∀ i, 1 ≤ i → i < partsN t → (partsL t)[i]? = some ⟨3, 0, ((i % 16 : Nat) : Int), 0, 0, 0, (t.drop (7 * i - 1)).take 7⟩ := by
  have hL : partsL t = ⟨2, t.length, 0, 0, 0, 0, t.take 6⟩ :: nexts t.length ((1 % 16 : Nat) : Int) (t.drop 6) := by rw [partsL, if_neg (by omega), if_neg (by omega)]; rfl
  obtain ⟨q1, q2⟩ := nexts_all t.length t.length 1 (t.drop 6) (by simp) (by simp)
  have hn : partsN t = 1 + t.length / 7 := by rw [partsN, if_neg (by omega)]
  have hlen : (nexts t.length ((1 % 16 : Nat) : Int) (t.drop 6)).length = t.length / 7 := by rw [q1]; simp; omega
  rw [hL, hn]
  refine ⟨by rw [List.length_cons, hlen]; omega, rfl, fun i hi1 hi2 => ?_⟩
  obtain ⟨j, rfl⟩ : ∃ j, i = j + 1 := ⟨i - 1, by omega⟩
  rw [List.getElem?_cons_succ, q2 j (by rw [hlen]; omega), List.drop_drop]
  have e1 : 1 + j = j + 1 := by omega
  have e2 : 6 + 7 * j = 7 * (j + 1) - 1 := by omega
  rw [e1, e2]
theorem parts_short {t : List UInt8} (h0 : 1 ≤ t.length) (h1 : t.length ≤ 7) : partsL t = [⟨1, t.length, 0, 0, 0, 0, t⟩] := by rw [partsL, if_neg (by omega), if_pos h1]
theorem parts_len {t : List UInt8} (h0 : 1 ≤ t.length) (h1 : t.length ≤ 4095) : (partsL t).length = partsN t := by
  by_cases h : t.length ≤ 7
  · rw [parts_short h0 h, partsN, if_pos h]; rfl
  · exact (parts_long (by omega) h1).1
theorem parts_right {t : List UInt8} (h0 : 1 ≤ t.length) (h1 : t.length ≤ 4095) : ∀ p ∈ partsL t, p.right = true := by
  by_cases h : t.length ≤ 7
  · rw [parts_short h0 h]
    intro p hp
    simp at hp
    subst hp
    simp [Pdu.right, z4]
    omega
  · obtain ⟨q1, q2, q3⟩ := parts_long (by omega : 7 < t.length) h1
    intro p hp
    obtain ⟨i, hi, rfl⟩ := List.getElem_of_mem hp
    have hi' := hi
    rw [q1] at hi'
    cases i with
    | zero =>
      rw [List.getElem?_eq_getElem hi] at q2
      simp only [Option.some.injEq] at q2
      rw [q2]
      simp [Pdu.right, z4]
      omega
    | succ i =>
      have := q3 (i + 1) (by omega) hi'
      rw [List.getElem?_eq_getElem hi] at this
      simp only [Option.some.injEq] at this
      rw [this]
      have hm : (i + 1) % 16 < 16 := Nat.mod_lt _ (by omega)
      rw [partsN, if_neg h] at hi'
      simp [Pdu.right, z4]
      omega
end Go.Proofs.Ytpnhnobnjcknjaa.Pe
