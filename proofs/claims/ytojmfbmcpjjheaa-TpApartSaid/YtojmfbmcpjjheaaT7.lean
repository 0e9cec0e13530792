import Derived.Test.YtojmfbmcpjjheaaT4
namespace Go.Proofs.Ytojmfbmcpjjheaa.Pe
open Go.Pe Go.RowKit
set_option maxRecDepth 20000
set_option maxHeartbeats 4000000
set_option linter.unusedSimpArgs false
set_option linter.unusedVariables false

def strB (l : List UInt8) : ByteArray := ⟨l.toArray⟩
theorem bytesOf_strB (l : List UInt8) : bytesOf (rowsB l) = strB l := by
  rw [strB, bytesOf_rowsB]
theorem strB_append (l m : List UInt8) : strB l ++ strB m = strB (l ++ m) := by
  apply ByteArray.ext
  rw [ByteArray.data_append]
  simp [strB]
theorem strB_size (l : List UInt8) : (strB l).size = l.length := by simp [strB, ByteArray.size]
theorem strB_nil : (⟨#[]⟩ : ByteArray) = strB [] := rfl
def accD (b : List UInt8) (i : Nat) : List UInt8 := ((partsL b).take i).flatMap (·.d)
theorem accD_long {b : List UInt8} (h0 : 7 < b.length) (h1 : b.length ≤ 4095) : ∀ i, i + 1 ≤ partsN b → accD b (i + 1) = b.take (7 * (i + 1) - 1)
  | 0, _ => by
    obtain ⟨hPl, hP0, hPi⟩ := parts_long h0 h1
    rw [accD, List.take_add_one, hP0]
    simp
  | i + 1, h => by
    obtain ⟨hPl, hP0, hPi⟩ := parts_long h0 h1
    have ih := accD_long h0 h1 i (by omega)
    rw [accD, List.take_add_one, hPi (i + 1) (by omega) (by omega), List.flatMap_append]
    rw [accD] at ih
    rw [ih]
    simp only [Option.toList_some, List.flatMap_cons, List.flatMap_nil, List.append_nil]
    rw [← List.take_add]
    congr 1
theorem accD_all {b : List UInt8} (h0 : 1 ≤ b.length) (h1 : b.length ≤ 4095) : accD b (partsN b) = b := by
  by_cases h : b.length ≤ 7
  · have hN : partsN b = 1 := by rw [partsN, if_pos h]
    rw [accD, parts_short h0 h, hN]
    simp
  · have hN : partsN b = 1 + b.length / 7 := by rw [partsN, if_neg h]
    have := accD_long (b := b) (by omega) h1 (b.length / 7) (by omega)
    rw [hN, Nat.add_comm, this, List.take_of_length_le (by omega)]
theorem accD_succ {b : List UInt8} {i : Nat} (h : i < (partsL b).length) : accD b (i + 1) = accD b i ++ (partsL b)[i].d := by
  rw [accD, List.take_add_one, List.getElem?_eq_getElem h, List.flatMap_append, accD]
  simp
theorem accD_le {b : List UInt8} (h0 : 1 ≤ b.length) (h1 : b.length ≤ 4095) (i : Nat) : (accD b i).length ≤ b.length := by
  have ha := accD_all h0 h1
  have hl := parts_len h0 h1
  rw [accD, ← hl, List.take_length] at ha
  have : (accD b i) ++ ((partsL b).drop i).flatMap (·.d) = b := by
    rw [accD, ← List.flatMap_append, List.take_append_drop, ha]
  have := congrArg List.length this
  rw [List.length_append] at this
  omega
theorem parts_size (b : List UInt8) : (partsL b).length ≤ 1000 := by
  by_cases h : b.length = 0 ∨ 4095 < b.length
  · rw [partsL, if_pos h]; simp
  · rw [parts_len (by omega) (by omega), partsN]; split <;> omega
theorem whole17_calls (b : List UInt8) : PureCalls Try.prog 3 [bytesPV b] (PB true) := by
  refine PureCalls.of tabOK mixed Try.func3 rfl rfl (by decide +kernel) (by simp [Try.ntmps3]) ?_
  simp only [go_sem, Nat.reduceAdd, Nat.reduceSub, Nat.reduceMul, Nat.reduceLT, Nat.reduceLeDiff, Nat.reduceEqDiff, Nat.reduceBEq, Int.reduceToNat, Int.reduceLT, Int.reduceLE, Int.reduceEq, Int.reduceNe, Int.reduceAdd, Int.reduceSub, Int.reduceMul, Int.reduceNeg, ↓reduceIte, reduceCtorEq, Try.ntmps3, Try.results3]
  (refine CallA.pure (head17_calls) (by simp only [go_sem, Nat.reduceAdd, Nat.reduceSub, Nat.reduceMul, Nat.reduceLT, Nat.reduceLeDiff, Nat.reduceEqDiff, Nat.reduceBEq, Int.reduceToNat, Int.reduceLT, Int.reduceLE, Int.reduceEq, Int.reduceNe, Int.reduceAdd, Int.reduceSub, Int.reduceMul, Int.reduceNeg, ↓reduceIte, reduceCtorEq] <;> first | rfl | decide) ?_; simp only [go_sem, Nat.reduceAdd, Nat.reduceSub, Nat.reduceMul, Nat.reduceLT, Nat.reduceLeDiff, Nat.reduceEqDiff, Nat.reduceBEq, Int.reduceToNat, Int.reduceLT, Int.reduceLE, Int.reduceEq, Int.reduceNe, Int.reduceAdd, Int.reduceSub, Int.reduceMul, Int.reduceNeg, ↓reduceIte, reduceCtorEq])
  by_cases h0 : b.length > 6000
  · have f0 : decide ((b.length : Int) > 6000) = true := by simp; omega
    simp only [go_sem, Nat.reduceAdd, Nat.reduceSub, Nat.reduceMul, Nat.reduceLT, Nat.reduceLeDiff, Nat.reduceEqDiff, Nat.reduceBEq, Int.reduceToNat, Int.reduceLT, Int.reduceLE, Int.reduceEq, Int.reduceNe, Int.reduceAdd, Int.reduceSub, Int.reduceMul, Int.reduceNeg, ↓reduceIte, reduceCtorEq, f0, Try.ntmps3, Try.results3]
  have f0 : decide ((b.length : Int) > 6000) = false := by simp; omega
  have cP := partsT_calls b
  have hbz := rowsB_nil
  simp only [go_sem, Nat.reduceAdd, Nat.reduceSub, Nat.reduceMul, Nat.reduceLT, Nat.reduceLeDiff, Nat.reduceEqDiff, Nat.reduceBEq, Int.reduceToNat, Int.reduceLT, Int.reduceLE, Int.reduceEq, Int.reduceNe, Int.reduceAdd, Int.reduceSub, Int.reduceMul, Int.reduceNeg, ↓reduceIte, reduceCtorEq, f0]
  by_cases h1 : b.length = 0 ∨ 4095 < b.length
  · have hB : partsB b = false := by rw [partsB, decide_eq_true h1]; rfl
    have hP : partsL b = [] := by rw [partsL, if_pos h1]
    rw [hB, hP] at cP
    have hlt : decide (((0 : Nat) : Int) < ((0 : Nat) : Int)) = false := by decide
    by_cases h2 : b.length = 0
    · have f2 : decide ((b.length : Int) > 0) = false := decide_eq_false (by omega)
      (refine CallA.pure (cP) (by simp only [go_sem, Nat.reduceAdd, Nat.reduceSub, Nat.reduceMul, Nat.reduceLT, Nat.reduceLeDiff, Nat.reduceEqDiff, Nat.reduceBEq, Int.reduceToNat, Int.reduceLT, Int.reduceLE, Int.reduceEq, Int.reduceNe, Int.reduceAdd, Int.reduceSub, Int.reduceMul, Int.reduceNeg, ↓reduceIte, reduceCtorEq, pduRows, f2, Int.natCast_zero] <;> first | rfl | decide) ?_; simp only [go_sem, Nat.reduceAdd, Nat.reduceSub, Nat.reduceMul, Nat.reduceLT, Nat.reduceLeDiff, Nat.reduceEqDiff, Nat.reduceBEq, Int.reduceToNat, Int.reduceLT, Int.reduceLE, Int.reduceEq, Int.reduceNe, Int.reduceAdd, Int.reduceSub, Int.reduceMul, Int.reduceNeg, ↓reduceIte, reduceCtorEq, pduRows, f2, Int.natCast_zero])
      refine wpA_loop (fun m s => m = 0 ∧ s = ⟨77, [(0, bytesPV b), (3, PB true), (4, .im 7 []), (5, PB false), (6, .lit (.string ⟨#[]⟩)), (7, PI 0)], [], 0, 0⟩) ⟨0, _, ?_, rfl, rfl⟩ ?_
      · simp only [go_sem, Nat.reduceAdd, Nat.reduceSub, Nat.reduceMul, Nat.reduceLT, Nat.reduceLeDiff, Nat.reduceEqDiff, Nat.reduceBEq, Int.reduceToNat, Int.reduceLT, Int.reduceLE, Int.reduceEq, Int.reduceNe, Int.reduceAdd, Int.reduceSub, Int.reduceMul, Int.reduceNeg, ↓reduceIte, reduceCtorEq]
      rintro m s ⟨rfl, rfl⟩
      simp only [go_sem, Nat.reduceAdd, Nat.reduceSub, Nat.reduceMul, Nat.reduceLT, Nat.reduceLeDiff, Nat.reduceEqDiff, Nat.reduceBEq, Int.reduceToNat, Int.reduceLT, Int.reduceLE, Int.reduceEq, Int.reduceNe, Int.reduceAdd, Int.reduceSub, Int.reduceMul, Int.reduceNeg, ↓reduceIte, reduceCtorEq, Int.natCast_zero, Try.ntmps3, Try.results3]
    · have f2 : decide ((b.length : Int) > 0) = true := decide_eq_true (by omega)
      have f3 : decide ((b.length : Int) ≤ 4095) = false := by simp; omega
      (refine CallA.pure (cP) (by simp only [go_sem, Nat.reduceAdd, Nat.reduceSub, Nat.reduceMul, Nat.reduceLT, Nat.reduceLeDiff, Nat.reduceEqDiff, Nat.reduceBEq, Int.reduceToNat, Int.reduceLT, Int.reduceLE, Int.reduceEq, Int.reduceNe, Int.reduceAdd, Int.reduceSub, Int.reduceMul, Int.reduceNeg, ↓reduceIte, reduceCtorEq, pduRows, f2, f3, Int.natCast_zero] <;> first | rfl | decide) ?_; simp only [go_sem, Nat.reduceAdd, Nat.reduceSub, Nat.reduceMul, Nat.reduceLT, Nat.reduceLeDiff, Nat.reduceEqDiff, Nat.reduceBEq, Int.reduceToNat, Int.reduceLT, Int.reduceLE, Int.reduceEq, Int.reduceNe, Int.reduceAdd, Int.reduceSub, Int.reduceMul, Int.reduceNeg, ↓reduceIte, reduceCtorEq, pduRows, f2, f3, Int.natCast_zero])
      refine wpA_loop (fun m s => m = 0 ∧ s = ⟨77, [(0, bytesPV b), (3, PB true), (4, .im 7 []), (5, PB false), (6, .lit (.string ⟨#[]⟩)), (7, PI 0)], [], 0, 0⟩) ⟨0, _, ?_, rfl, rfl⟩ ?_
      · simp only [go_sem, Nat.reduceAdd, Nat.reduceSub, Nat.reduceMul, Nat.reduceLT, Nat.reduceLeDiff, Nat.reduceEqDiff, Nat.reduceBEq, Int.reduceToNat, Int.reduceLT, Int.reduceLE, Int.reduceEq, Int.reduceNe, Int.reduceAdd, Int.reduceSub, Int.reduceMul, Int.reduceNeg, ↓reduceIte, reduceCtorEq]
      rintro m s ⟨rfl, rfl⟩
      simp only [go_sem, Nat.reduceAdd, Nat.reduceSub, Nat.reduceMul, Nat.reduceLT, Nat.reduceLeDiff, Nat.reduceEqDiff, Nat.reduceBEq, Int.reduceToNat, Int.reduceLT, Int.reduceLE, Int.reduceEq, Int.reduceNe, Int.reduceAdd, Int.reduceSub, Int.reduceMul, Int.reduceNeg, ↓reduceIte, reduceCtorEq, Int.natCast_zero, Try.ntmps3, Try.results3]
  have hB : partsB b = true := by rw [partsB, decide_eq_false h1]; rfl
  rw [hB] at cP
  have f2 : decide ((b.length : Int) > 0) = true := decide_eq_true (by omega)
  have f3 : decide ((b.length : Int) ≤ 4095) = true := decide_eq_true (by omega)
  have hPl : (partsL b).length = partsN b := parts_len (by omega) (by omega)
  have hps := parts_size b
  have hrl : (pduRows (partsL b)).length = partsN b := by rw [List.length_map, hPl]
  (refine CallA.pure (cP) (by simp only [go_sem, Nat.reduceAdd, Nat.reduceSub, Nat.reduceMul, Nat.reduceLT, Nat.reduceLeDiff, Nat.reduceEqDiff, Nat.reduceBEq, Int.reduceToNat, Int.reduceLT, Int.reduceLE, Int.reduceEq, Int.reduceNe, Int.reduceAdd, Int.reduceSub, Int.reduceMul, Int.reduceNeg, ↓reduceIte, reduceCtorEq, f2, f3] <;> first | rfl | decide) ?_; simp only [go_sem, Nat.reduceAdd, Nat.reduceSub, Nat.reduceMul, Nat.reduceLT, Nat.reduceLeDiff, Nat.reduceEqDiff, Nat.reduceBEq, Int.reduceToNat, Int.reduceLT, Int.reduceLE, Int.reduceEq, Int.reduceNe, Int.reduceAdd, Int.reduceSub, Int.reduceMul, Int.reduceNeg, ↓reduceIte, reduceCtorEq, f2, f3])
  refine wpA_loop (fun m s => ∃ i : Nat, i ≤ partsN b ∧ m = partsN b - i ∧ s = ⟨77, [(0, bytesPV b), (3, PB true), (4, .im 7 (pduRows (partsL b))), (5, PB true), (6, .lit (.string (strB (accD b i)))), (7, PI i)], [], 0, 0⟩) ⟨partsN b, _, ?_, 0, by omega, by omega, rfl⟩ ?_
  · simp only [go_sem, Nat.reduceAdd, Nat.reduceSub, Nat.reduceMul, Nat.reduceLT, Nat.reduceLeDiff, Nat.reduceEqDiff, Nat.reduceBEq, Int.reduceToNat, Int.reduceLT, Int.reduceLE, Int.reduceEq, Int.reduceNe, Int.reduceAdd, Int.reduceSub, Int.reduceMul, Int.reduceNeg, ↓reduceIte, reduceCtorEq, Int.natCast_zero]
    rfl
  rintro m s ⟨i, hi2, rfl, rfl⟩
  by_cases hc : i < partsN b
  · have g1 : decide ((i : Int) < (partsN b : Int)) = true := by simp; omega
    have g1' : (i : Int) < (partsN b : Int) := by omega
    have g2 : (0 : Int) ≤ (i : Int) := by omega
    have hi : i < (partsL b).length := by omega
    have hw2 : IntKind.wrap .i64 ((i : Int) + 1) = ((i + 1 : Nat) : Int) := by rw [wrapI64 (by omega)]; omega
    have hr := parts_right (by omega) (by omega) (partsL b)[i] (List.getElem_mem hi)
    have cR := right_calls (partsL b)[i]
    rw [hr] at cR
    have hle := accD_le (b := b) (by omega) (by omega) (i + 1)
    have hsucc := accD_succ hi
    rw [hsucc, List.length_append] at hle
    have hstr : strB (accD b i) ++ (⟨(partsL b)[i].d.toArray⟩ : ByteArray) = strB (accD b (i + 1)) := by
      rw [hsucc, ← strB_append]
      rfl
    have hz1 := strB_size (accD b i)
    have hz2 : (⟨(partsL b)[i].d.toArray⟩ : ByteArray).size = (partsL b)[i].d.length := strB_size _
    simp only [go_sem, Nat.reduceAdd, Nat.reduceSub, Nat.reduceMul, Nat.reduceLT, Nat.reduceLeDiff, Nat.reduceEqDiff, Nat.reduceBEq, Int.reduceToNat, Int.reduceLT, Int.reduceLE, Int.reduceEq, Int.reduceNe, Int.reduceAdd, Int.reduceSub, Int.reduceMul, Int.reduceNeg, ↓reduceIte, reduceCtorEq, hrl, g1, g1', g2, Int.toNat_natCast, pduRows_getD hi, Pdu.cells]
    refine CallA.same cR (by simp only [go_sem, Nat.reduceAdd, Nat.reduceSub, Nat.reduceMul, Nat.reduceLT, Nat.reduceLeDiff, Nat.reduceEqDiff, Nat.reduceBEq, Int.reduceToNat, Int.reduceLT, Int.reduceLE, Int.reduceEq, Int.reduceNe, Int.reduceAdd, Int.reduceSub, Int.reduceMul, Int.reduceNeg, ↓reduceIte, reduceCtorEq, Pdu.pv]) ?_
    simp only [go_sem, Nat.reduceAdd, Nat.reduceSub, Nat.reduceMul, Nat.reduceLT, Nat.reduceLeDiff, Nat.reduceEqDiff, Nat.reduceBEq, Int.reduceToNat, Int.reduceLT, Int.reduceLE, Int.reduceEq, Int.reduceNe, Int.reduceAdd, Int.reduceSub, Int.reduceMul, Int.reduceNeg, ↓reduceIte, reduceCtorEq, hrl, g1, g1', g2, Int.toNat_natCast, pduRows_getD hi, Pdu.cells, hstr, hz1, hz2, hw2]
    refine ⟨by omega, partsN b - (i + 1), _, by omega, ?_, i + 1, by omega, rfl, rfl⟩
    simp only [go_sem, Nat.reduceAdd, Nat.reduceSub, Nat.reduceMul, Nat.reduceLT, Nat.reduceLeDiff, Nat.reduceEqDiff, Nat.reduceBEq, Int.reduceToNat, Int.reduceLT, Int.reduceLE, Int.reduceEq, Int.reduceNe, Int.reduceAdd, Int.reduceSub, Int.reduceMul, Int.reduceNeg, ↓reduceIte, reduceCtorEq]
  · have g1 : decide ((i : Int) < (partsN b : Int)) = false := by simp; omega
    have hie : i = partsN b := by omega
    have hall : strB (accD b i) = ⟨b.toArray⟩ := by rw [hie, accD_all (by omega) (by omega)]; rfl
    have hq : (b.length : Int).tdiv 7 = ((b.length / 7 : Nat) : Int) := rfl
    have hw3 : IntKind.wrap .i64 ((b.length / 7 : Nat) : Int) = ((b.length / 7 : Nat) : Int) := wrapI64 (by omega)
    have hw4 : IntKind.wrap .i64 (1 + ((b.length / 7 : Nat) : Int)) = ((1 + b.length / 7 : Nat) : Int) := by rw [wrapI64 (by omega)]; omega
    by_cases h7 : b.length > 7
    · have g3 : decide ((b.length : Int) > 7) = true := by simp; omega
      have hN : partsN b = 1 + b.length / 7 := by rw [partsN, if_neg (by omega)]
      rw [hN] at hrl g1
      simp only [go_sem, Nat.reduceAdd, Nat.reduceSub, Nat.reduceMul, Nat.reduceLT, Nat.reduceLeDiff, Nat.reduceEqDiff, Nat.reduceBEq, Int.reduceToNat, Int.reduceLT, Int.reduceLE, Int.reduceEq, Int.reduceNe, Int.reduceAdd, Int.reduceSub, Int.reduceMul, Int.reduceNeg, ↓reduceIte, reduceCtorEq, hrl, g1, g3, hall, hq, hw3, hw4, Try.ntmps3, Try.results3]
    · have g3 : decide ((b.length : Int) > 7) = false := by simp; omega
      have hN : partsN b = 1 := by rw [partsN, if_pos (by omega)]
      rw [hN] at hrl g1
      have g1' : decide ((i : Int) < 1) = false := g1
      simp only [go_sem, Nat.reduceAdd, Nat.reduceSub, Nat.reduceMul, Nat.reduceLT, Nat.reduceLeDiff, Nat.reduceEqDiff, Nat.reduceBEq, Int.reduceToNat, Int.reduceLT, Int.reduceLE, Int.reduceEq, Int.reduceNe, Int.reduceAdd, Int.reduceSub, Int.reduceMul, Int.reduceNeg, ↓reduceIte, reduceCtorEq, hrl, g1, g1', g3, hall, Int.natCast_one, Try.ntmps3, Try.results3]
end Go.Proofs.Ytojmfbmcpjjheaa.Pe
