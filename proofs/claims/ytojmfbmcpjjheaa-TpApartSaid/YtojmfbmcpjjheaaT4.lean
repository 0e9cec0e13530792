import Derived.Test.YtojmfbmcpjjheaaD1a
import Derived.Test.YtojmfbmcpjjheaaCPb
import Derived.Test.YtojmfbmcpjjheaaPeZ
namespace Go.Proofs.Ytojmfbmcpjjheaa.Pe
open Go.Pe Go.RowKit
set_option maxRecDepth 20000
set_option maxHeartbeats 4000000
set_option linter.unusedSimpArgs false
set_option linter.unusedVariables false

theorem partsT_calls (b : List UInt8) : PureCalls Try.prog 8 [bytesPV b] (.tup [.im 7 (pduRows (partsL b)), PB (partsB b)]) := by
  refine PureCalls.ofF tabOK mixed Try.func8 rfl rfl (by decide +kernel) (by simp [Try.ntmps8]) ?_
  simp only [go_sem, Nat.reduceAdd, Nat.reduceSub, Nat.reduceMul, Nat.reduceLT, Nat.reduceLeDiff, Nat.reduceEqDiff, Nat.reduceBEq, Int.reduceToNat, Int.reduceLT, Int.reduceLE, Int.reduceEq, Int.reduceNe, Int.reduceAdd, Int.reduceSub, Int.reduceMul, Int.reduceNeg, ↓reduceIte, reduceCtorEq, Try.ntmps8, Try.results8]
  refine CallA.same (in_calls _ _ _) (by simp only [go_sem, Nat.reduceAdd, Nat.reduceSub, Nat.reduceMul, Nat.reduceLT, Nat.reduceLeDiff, Nat.reduceEqDiff, Nat.reduceBEq, Int.reduceToNat, Int.reduceLT, Int.reduceLE, Int.reduceEq, Int.reduceNe, Int.reduceAdd, Int.reduceSub, Int.reduceMul, Int.reduceNeg, ↓reduceIte, reduceCtorEq]) ?_
  by_cases h0 : b.length < 1 ∨ 4095 < b.length
  · have f0 : (decide (1 ≤ (b.length : Int)) && decide ((b.length : Int) ≤ 4095)) = false := by simp only [Bool.and_eq_false_iff, decide_eq_false_iff_not]; omega
    have hp : partsL b = [] := by rw [partsL, if_pos (by omega)]
    have hb : partsB b = false := by rw [partsB, decide_eq_true (by omega)]; rfl
    rw [hp, hb]
    simp only [go_sem, Nat.reduceAdd, Nat.reduceSub, Nat.reduceMul, Nat.reduceLT, Nat.reduceLeDiff, Nat.reduceEqDiff, Nat.reduceBEq, Int.reduceToNat, Int.reduceLT, Int.reduceLE, Int.reduceEq, Int.reduceNe, Int.reduceAdd, Int.reduceSub, Int.reduceMul, Int.reduceNeg, ↓reduceIte, reduceCtorEq, Try.ntmps8, Try.results8, f0, pduRows]
  have f0 : (decide (1 ≤ (b.length : Int)) && decide ((b.length : Int) ≤ 4095)) = true := by simp only [Bool.and_eq_true, decide_eq_true_eq]; omega
  have hB : partsB b = true := by rw [partsB, decide_eq_false (by omega)]; rfl
  rw [hB]
  simp only [go_sem, Nat.reduceAdd, Nat.reduceSub, Nat.reduceMul, Nat.reduceLT, Nat.reduceLeDiff, Nat.reduceEqDiff, Nat.reduceBEq, Int.reduceToNat, Int.reduceLT, Int.reduceLE, Int.reduceEq, Int.reduceNe, Int.reduceAdd, Int.reduceSub, Int.reduceMul, Int.reduceNeg, ↓reduceIte, reduceCtorEq, f0]
  by_cases h7 : b.length ≤ 7
  · have f1 : decide ((b.length : Int) ≤ 7) = true := by simp; omega
    have hp : partsL b = [⟨1, b.length, 0, 0, 0, 0, b⟩] := by rw [partsL, if_neg (by omega), if_pos h7]
    rw [hp]
    simp only [go_sem, Nat.reduceAdd, Nat.reduceSub, Nat.reduceMul, Nat.reduceLT, Nat.reduceLeDiff, Nat.reduceEqDiff, Nat.reduceBEq, Int.reduceToNat, Int.reduceLT, Int.reduceLE, Int.reduceEq, Int.reduceNe, Int.reduceAdd, Int.reduceSub, Int.reduceMul, Int.reduceNeg, ↓reduceIte, reduceCtorEq, f1]
    refine CallA.same (clone_calls b (by omega)) (by simp only [go_sem, Nat.reduceAdd, Nat.reduceSub, Nat.reduceMul, Nat.reduceLT, Nat.reduceLeDiff, Nat.reduceEqDiff, Nat.reduceBEq, Int.reduceToNat, Int.reduceLT, Int.reduceLE, Int.reduceEq, Int.reduceNe, Int.reduceAdd, Int.reduceSub, Int.reduceMul, Int.reduceNeg, ↓reduceIte, reduceCtorEq]) ?_
    simp only [go_sem, Nat.reduceAdd, Nat.reduceSub, Nat.reduceMul, Nat.reduceLT, Nat.reduceLeDiff, Nat.reduceEqDiff, Nat.reduceBEq, Int.reduceToNat, Int.reduceLT, Int.reduceLE, Int.reduceEq, Int.reduceNe, Int.reduceAdd, Int.reduceSub, Int.reduceMul, Int.reduceNeg, ↓reduceIte, reduceCtorEq, Try.ntmps8, Try.results8, pduRows, Pdu.cells]
  have f1 : decide ((b.length : Int) ≤ 7) = false := by simp; omega
  simp only [go_sem, Nat.reduceAdd, Nat.reduceSub, Nat.reduceMul, Nat.reduceLT, Nat.reduceLeDiff, Nat.reduceEqDiff, Nat.reduceBEq, Int.reduceToNat, Int.reduceLT, Int.reduceLE, Int.reduceEq, Int.reduceNe, Int.reduceAdd, Int.reduceSub, Int.reduceMul, Int.reduceNeg, ↓reduceIte, reduceCtorEq, f1]
  refine ⟨by omega, ?_⟩
  refine CallA.same (clone_calls (b.take 6) (by simp; omega)) (by simp only [go_sem, Nat.reduceAdd, Nat.reduceSub, Nat.reduceMul, Nat.reduceLT, Nat.reduceLeDiff, Nat.reduceEqDiff, Nat.reduceBEq, Int.reduceToNat, Int.reduceLT, Int.reduceLE, Int.reduceEq, Int.reduceNe, Int.reduceAdd, Int.reduceSub, Int.reduceMul, Int.reduceNeg, ↓reduceIte, reduceCtorEq]) ?_
  simp only [go_sem, Nat.reduceAdd, Nat.reduceSub, Nat.reduceMul, Nat.reduceLT, Nat.reduceLeDiff, Nat.reduceEqDiff, Nat.reduceBEq, Int.reduceToNat, Int.reduceLT, Int.reduceLE, Int.reduceEq, Int.reduceNe, Int.reduceAdd, Int.reduceSub, Int.reduceMul, Int.reduceNeg, ↓reduceIte, reduceCtorEq]
  refine ⟨by omega, ?_⟩
  refine CallA.into tabOK mixed Try.func16 rfl rfl (by decide +kernel) (by simp [Try.ntmps16]) ?_
  simp only [go_sem, Nat.reduceAdd, Nat.reduceSub, Nat.reduceMul, Nat.reduceLT, Nat.reduceLeDiff, Nat.reduceEqDiff, Nat.reduceBEq, Int.reduceToNat, Int.reduceLT, Int.reduceLE, Int.reduceEq, Int.reduceNe, Int.reduceAdd, Int.reduceSub, Int.reduceMul, Int.reduceNeg, ↓reduceIte, reduceCtorEq, Try.ntmps16, Try.results16, Int.toNat_natCast, List.take_length]
  have hN : partsN b = 1 + b.length / 7 := by rw [partsN, if_neg h7]
  obtain ⟨hPl, hP0, hPi⟩ := parts_long (t := b) (by omega) (by omega)
  have hD : (b.drop 6).length = b.length - 6 := by simp
  have hwD : IntKind.wrap .i64 ((b.length - 6 : Nat) : Int) = ((b.length - 6 : Nat) : Int) := wrapI64 (by omega)
  refine ⟨_, _, _, [.ptr 3 0, .ptr 4 0], _, ⟨by simp only [go_sem, Nat.reduceAdd, Nat.reduceSub, Nat.reduceMul, Nat.reduceLT, Nat.reduceLeDiff, Nat.reduceEqDiff, Nat.reduceBEq, Int.reduceToNat, Int.reduceLT, Int.reduceLE, Int.reduceEq, Int.reduceNe, Int.reduceAdd, Int.reduceSub, Int.reduceMul, Int.reduceNeg, ↓reduceIte, reduceCtorEq], rfl, by simp only [go_sem, Nat.reduceAdd, Nat.reduceSub, Nat.reduceMul, Nat.reduceLT, Nat.reduceLeDiff, Nat.reduceEqDiff, Nat.reduceBEq, Int.reduceToNat, Int.reduceLT, Int.reduceLE, Int.reduceEq, Int.reduceNe, Int.reduceAdd, Int.reduceSub, Int.reduceMul, Int.reduceNeg, ↓reduceIte, reduceCtorEq], Try.func23, rfl, rfl, by decide +kernel, by decide +kernel, by decide +kernel, by simp only [go_sem, Nat.reduceAdd, Nat.reduceSub, Nat.reduceMul, Nat.reduceLT, Nat.reduceLeDiff, Nat.reduceEqDiff, Nat.reduceBEq, Int.reduceToNat, Int.reduceLT, Int.reduceLE, Int.reduceEq, Int.reduceNe, Int.reduceAdd, Int.reduceSub, Int.reduceMul, Int.reduceNeg, ↓reduceIte, reduceCtorEq, Try.ntmps23, Try.results23], ?_, ?_, ?_⟩⟩
  · simp only [go_sem, Nat.reduceAdd, Nat.reduceSub, Nat.reduceMul, Nat.reduceLT, Nat.reduceLeDiff, Nat.reduceEqDiff, Nat.reduceBEq, Int.reduceToNat, Int.reduceLT, Int.reduceLE, Int.reduceEq, Int.reduceNe, Int.reduceAdd, Int.reduceSub, Int.reduceMul, Int.reduceNeg, ↓reduceIte, reduceCtorEq]
  · simp only [go_sem, Nat.reduceAdd, Nat.reduceSub, Nat.reduceMul, Nat.reduceLT, Nat.reduceLeDiff, Nat.reduceEqDiff, Nat.reduceBEq, Int.reduceToNat, Int.reduceLT, Int.reduceLE, Int.reduceEq, Int.reduceNe, Int.reduceAdd, Int.reduceSub, Int.reduceMul, Int.reduceNeg, ↓reduceIte, reduceCtorEq]
  intro D l R0
  simp only [go_sem, Nat.reduceAdd, Nat.reduceSub, Nat.reduceMul, Nat.reduceLT, Nat.reduceLeDiff, Nat.reduceEqDiff, Nat.reduceBEq, Int.reduceToNat, Int.reduceLT, Int.reduceLE, Int.reduceEq, Int.reduceNe, Int.reduceAdd, Int.reduceSub, Int.reduceMul, Int.reduceNeg, ↓reduceIte, reduceCtorEq, rangeHp, Try.ntmps23, Try.results23]
  refine wpY_loop (fun m s => ∃ k v : Nat, 7 * k ≤ b.length - 6 + 6 ∧ k + m = partsN b - 1 ∧ s = ⟨31, [(0, .lit (.func (.yield l) #[] #[])), (1, .ptr 3 0), (2, .ptr 4 0), (4, PI ((7 * k : Nat) : Int))],
    [(6, .obj l (.loop (recOf R0 none))), (5, .obj D (.deferred (some []))), (4, .box 3 [PI 7]), (3, .box 22 [bytesPV (b.drop 6)]), (1, .box 24 [.own 0 v]), (0, .arr 29 7 (pduRows ((partsL b).take (k + 1))) v false)], 7, 7⟩) ⟨partsN b - 1, _, ?_, 0, 0, by omega, by omega, rfl⟩ ?_
  · have hR0 : pduRows ((partsL b).take (0 + 1)) = [[PI 2, PI b.length, PI 0, PI 0, PI 0, PI 0, bytesPV (b.take 6)]] := by
      rw [List.take_add_one, hP0]
      rfl
    simp only [go_sem, Nat.reduceAdd, Nat.reduceSub, Nat.reduceMul, Nat.reduceLT, Nat.reduceLeDiff, Nat.reduceEqDiff, Nat.reduceBEq, Int.reduceToNat, Int.reduceLT, Int.reduceLE, Int.reduceEq, Int.reduceNe, Int.reduceAdd, Int.reduceSub, Int.reduceMul, Int.reduceNeg, ↓reduceIte, reduceCtorEq, Nat.mul_zero, Int.natCast_zero, hR0]
  rintro m s ⟨k, v, hk1, hk2, rfl⟩
  by_cases hc : 7 * k < b.length - 6
  · have g1 : decide (((7 * k : Nat) : Int) < ((b.length - 6 : Nat) : Int)) = true := by simp; omega
    simp only [go_sem, Nat.reduceAdd, Nat.reduceSub, Nat.reduceMul, Nat.reduceLT, Nat.reduceLeDiff, Nat.reduceEqDiff, Nat.reduceBEq, Int.reduceToNat, Int.reduceLT, Int.reduceLE, Int.reduceEq, Int.reduceNe, Int.reduceAdd, Int.reduceSub, Int.reduceMul, Int.reduceNeg, ↓reduceIte, reduceCtorEq, g1, hD, hwD]
    refine ⟨⟨by omega, by omega, by omega⟩, endD_intro (by decide +kernel) ?_⟩
    obtain ⟨E, hE⟩ : ∃ E, min 7 (b.length - 6 - 7 * k) = E := ⟨_, rfl⟩
    have hl : ((List.drop (7 * k) (List.take (b.length - 6) (List.drop 6 b))).length) = b.length - 6 - 7 * k := by simp
    have hmin : (if ((b.length - 6 - 7 * k : Nat) : Int) < 7 then ((b.length - 6 - 7 * k : Nat) : Int) else 7) = (E : Int) := by split <;> omega
    have hw : IntKind.wrap .i64 (((7 * k : Nat) : Int) + (E : Int)) = ((7 * k + E : Nat) : Int) := by rw [wrapI64 (by omega)]; omega
    have hpc : ((b.drop 6).take (7 * k + E)).drop (7 * k) = (b.drop (7 * (k + 1) - 1)).take 7 := by
      rw [List.drop_take, List.drop_drop, show 6 + 7 * k = 7 * (k + 1) - 1 by omega, show 7 * k + E - 7 * k = E by omega, ← hE]
      by_cases h : 7 ≤ b.length - 6 - 7 * k
      · rw [Nat.min_eq_left h]
      · rw [List.take_of_length_le (by simp; omega), List.take_of_length_le (by simp; omega)]
    simp only [go_sem, Nat.reduceAdd, Nat.reduceSub, Nat.reduceMul, Nat.reduceLT, Nat.reduceLeDiff, Nat.reduceEqDiff, Nat.reduceBEq, Int.reduceToNat, Int.reduceLT, Int.reduceLE, Int.reduceEq, Int.reduceNe, Int.reduceAdd, Int.reduceSub, Int.reduceMul, Int.reduceNeg, ↓reduceIte, reduceCtorEq, Int.toNat_natCast, hl, hmin, hw, hpc]
    have hrl : (pduRows ((partsL b).take (k + 1))).length = k + 1 := by rw [List.length_map, List.length_take, hPl]; omega
    have htm : ((k + 1 : Nat) : Int).tmod 16 = (((k + 1) % 16 : Nat) : Int) := rfl
    have hnew : pduRows ((partsL b).take (k + 1)) ++ [[PI 3, PI 0, PI (((k + 1) % 16 : Nat) : Int), PI 0, PI 0, PI 0, bytesPV ((b.drop (7 * (k + 1) - 1)).take 7)]] = pduRows ((partsL b).take (k + 1 + 1)) := by
      rw [List.take_add_one (i := k + 1), hPi (k + 1) (by omega) (by omega)]
      simp [pduRows]
    refine ⟨⟨by omega, by omega, by omega, by omega, by omega⟩, rfl, rfl, _, rfl, ?_⟩
    simp only [go_sem, Nat.reduceAdd, Nat.reduceSub, Nat.reduceMul, Nat.reduceLT, Nat.reduceLeDiff, Nat.reduceEqDiff, Nat.reduceBEq, Int.reduceToNat, Int.reduceLT, Int.reduceLE, Int.reduceEq, Int.reduceNe, Int.reduceAdd, Int.reduceSub, Int.reduceMul, Int.reduceNeg, ↓reduceIte, reduceCtorEq, hrl, htm]
    refine callD_same (clone_calls ((b.drop (7 * (k + 1) - 1)).take 7) (by simp; omega)) (by simp only [go_sem, Nat.reduceAdd, Nat.reduceSub, Nat.reduceMul, Nat.reduceLT, Nat.reduceLeDiff, Nat.reduceEqDiff, Nat.reduceBEq, Int.reduceToNat, Int.reduceLT, Int.reduceLE, Int.reduceEq, Int.reduceNe, Int.reduceAdd, Int.reduceSub, Int.reduceMul, Int.reduceNeg, ↓reduceIte, reduceCtorEq]) ?_
    simp only [go_sem, Nat.reduceAdd, Nat.reduceSub, Nat.reduceMul, Nat.reduceLT, Nat.reduceLeDiff, Nat.reduceEqDiff, Nat.reduceBEq, Int.reduceToNat, Int.reduceLT, Int.reduceLE, Int.reduceEq, Int.reduceNe, Int.reduceAdd, Int.reduceSub, Int.reduceMul, Int.reduceNeg, ↓reduceIte, reduceCtorEq, hrl]
    refine ⟨⟨by omega, by omega⟩, endD_intro (by decide +kernel) ?_⟩
    have hw7 : IntKind.wrap .i64 (((7 * k : Nat) : Int) + 7) = ((7 * (k + 1) : Nat) : Int) := by rw [wrapI64 (by omega)]; omega
    simp only [go_sem, Nat.reduceAdd, Nat.reduceSub, Nat.reduceMul, Nat.reduceLT, Nat.reduceLeDiff, Nat.reduceEqDiff, Nat.reduceBEq, Int.reduceToNat, Int.reduceLT, Int.reduceLE, Int.reduceEq, Int.reduceNe, Int.reduceAdd, Int.reduceSub, Int.reduceMul, Int.reduceNeg, ↓reduceIte, reduceCtorEq, hw7]
    refine ⟨m - 1, _, by omega, ?_, k + 1, v + 1, by omega, by omega, rfl⟩
    simp only [go_sem, Nat.reduceAdd, Nat.reduceSub, Nat.reduceMul, Nat.reduceLT, Nat.reduceLeDiff, Nat.reduceEqDiff, Nat.reduceBEq, Int.reduceToNat, Int.reduceLT, Int.reduceLE, Int.reduceEq, Int.reduceNe, Int.reduceAdd, Int.reduceSub, Int.reduceMul, Int.reduceNeg, ↓reduceIte, reduceCtorEq, hnew]
  · have g1 : decide (((7 * k : Nat) : Int) < ((b.length - 6 : Nat) : Int)) = false := by simp; omega
    simp only [go_sem, Nat.reduceAdd, Nat.reduceSub, Nat.reduceMul, Nat.reduceLT, Nat.reduceLeDiff, Nat.reduceEqDiff, Nat.reduceBEq, Int.reduceToNat, Int.reduceLT, Int.reduceLE, Int.reduceEq, Int.reduceNe, Int.reduceAdd, Int.reduceSub, Int.reduceMul, Int.reduceNeg, ↓reduceIte, reduceCtorEq, g1, hD, hwD, Try.ntmps23, Try.results23]
    have hk : k + 1 = (partsL b).length := by rw [hPl]; omega
    refine ⟨none, rfl, ?_⟩
    simp only [go_sem, Nat.reduceAdd, Nat.reduceSub, Nat.reduceMul, Nat.reduceLT, Nat.reduceLeDiff, Nat.reduceEqDiff, Nat.reduceBEq, Int.reduceToNat, Int.reduceLT, Int.reduceLE, Int.reduceEq, Int.reduceNe, Int.reduceAdd, Int.reduceSub, Int.reduceMul, Int.reduceNeg, ↓reduceIte, reduceCtorEq, Try.ntmps8, Try.results8, hk, List.take_length]
end Go.Proofs.Ytojmfbmcpjjheaa.Pe

namespace Go.Proofs.Ytojmfbmcpjjheaa.Pe
open Go.Pe Go.RowKit
set_option maxRecDepth 20000
set_option maxHeartbeats 4000000
set_option linter.unusedSimpArgs false
set_option linter.unusedVariables false

def by8 (x : Int) : UInt8 := UInt8.ofNat x.toNat
def bytesP (p : Pdu) : List UInt8 :=
  if p.k = 1 then by8 p.l :: p.d else if p.k = 2 then by8 (16 + p.l / 256) :: by8 p.l :: p.d else if p.k = 3 then by8 (32 + p.n) :: p.d else by8 (48 + p.s) :: by8 p.b :: by8 p.g :: p.d
def bytesT (p : Pdu) : List UInt8 := if p.right then bytesP p else []
theorem by8_toNat (x : Int) : (((by8 x).toNat : Nat) : Int) = ((x.toNat % 256 : Nat) : Int) := by simp [by8]
theorem by8_wrap {x : Int} (h : 0 ≤ x) : IntKind.wrap .u8 x = (((by8 x).toNat : Nat) : Int) := by
  rw [by8_toNat]
  show x % 256 = _
  omega
theorem by8_lit {x : Int} (h : 0 ≤ x) (h1 : x ≤ 255) : (((by8 x).toNat : Nat) : Int) = x := by rw [by8_toNat]; omega
theorem range16 {q : Int} (h : 0 ≤ q ∧ q ≤ 15) : q = 0 ∨ q = 1 ∨ q = 2 ∨ q = 3 ∨ q = 4 ∨ q = 5 ∨ q = 6 ∨ q = 7 ∨ q = 8 ∨ q = 9 ∨ q = 10 ∨ q = 11 ∨ q = 12 ∨ q = 13 ∨ q = 14 ∨ q = 15 := by omega
def fbyte (j l n s : Int) : Int := bitsA .or .u8 (IntKind.u8.wrap (IntKind.u8.wrap (IntKind.i64.wrap j) * 2 ^ min 4 8)) (IntKind.u8.wrap (bitsA .or .i64 (bitsA .or .i64 (l.fdiv (2 ^ min 8 64)) n) s))
theorem fb2 {l : Int} (h : 8 ≤ l ∧ l ≤ 4095) : fbyte 1 l 0 0 = (((by8 (16 + l / 256)).toNat : Nat) : Int) := by
  have hq : l.fdiv (2 ^ min 8 64) = l / 256 := by
    have e : (2 : Int) ^ min 8 64 = 256 := by decide
    rw [e, Int.fdiv_eq_ediv_of_nonneg _ (by decide)]
  rw [by8_lit (by omega) (by omega)]
  unfold fbyte
  rw [hq]
  rcases range16 (q := l / 256) (by omega) with h | h | h | h | h | h | h | h | h | h | h | h | h | h | h | h <;> rw [h] <;> decide
theorem fb3 {n : Int} (h : 0 ≤ n ∧ n ≤ 15) : fbyte 2 0 n 0 = (((by8 (32 + n)).toNat : Nat) : Int) := by
  rcases range16 h with h | h | h | h | h | h | h | h | h | h | h | h | h | h | h | h <;> rw [h] <;> decide
theorem fb4 {s : Int} (h : 0 ≤ s ∧ s ≤ 2) : fbyte 3 0 0 s = (((by8 (48 + s)).toNat : Nat) : Int) := by
  have : s = 0 ∨ s = 1 ∨ s = 2 := by omega
  rcases this with h | h | h <;> rw [h] <;> decide
theorem bytesT_calls (p : Pdu) : PureCalls Try.prog 11 [p.pv] (.tup [bytesPV (bytesT p), PB p.right]) := by
  refine PureCalls.of tabOK mixed Try.func11 rfl rfl (by decide +kernel) (by simp [Try.ntmps11]) ?_
  obtain ⟨k, l, n, s, b, g, d⟩ := p
  simp only [go_sem, Nat.reduceAdd, Nat.reduceSub, Nat.reduceMul, Nat.reduceLT, Nat.reduceLeDiff, Nat.reduceEqDiff, Nat.reduceBEq, Int.reduceToNat, Int.reduceLT, Int.reduceLE, Int.reduceEq, Int.reduceNe, Int.reduceAdd, Int.reduceSub, Int.reduceMul, Int.reduceNeg, ↓reduceIte, reduceCtorEq, Try.ntmps11, Try.results11, Pdu.pv]
  refine CallA.same (right_calls ⟨k, l, n, s, b, g, d⟩) (by simp only [go_sem, Nat.reduceAdd, Nat.reduceSub, Nat.reduceMul, Nat.reduceLT, Nat.reduceLeDiff, Nat.reduceEqDiff, Nat.reduceBEq, Int.reduceToNat, Int.reduceLT, Int.reduceLE, Int.reduceEq, Int.reduceNe, Int.reduceAdd, Int.reduceSub, Int.reduceMul, Int.reduceNeg, ↓reduceIte, reduceCtorEq, Pdu.pv]) ?_
  cases hR : Pdu.right ⟨k, l, n, s, b, g, d⟩ with
  | false =>
    simp only [go_sem, Nat.reduceAdd, Nat.reduceSub, Nat.reduceMul, Nat.reduceLT, Nat.reduceLeDiff, Nat.reduceEqDiff, Nat.reduceBEq, Int.reduceToNat, Int.reduceLT, Int.reduceLE, Int.reduceEq, Int.reduceNe, Int.reduceAdd, Int.reduceSub, Int.reduceMul, Int.reduceNeg, ↓reduceIte, reduceCtorEq, Try.ntmps11, Try.results11, bytesT, hR]
  | true =>
    rw [bytesT, if_pos hR]
    have hk : k = 1 ∨ k = 2 ∨ k = 3 ∨ k = 4 := by
      unfold Pdu.right at hR
      simp only at hR
      by_cases h1 : k = 1
      · exact .inl h1
      by_cases h2 : k = 2
      · exact .inr (.inl h2)
      by_cases h3 : k = 3
      · exact .inr (.inr (.inl h3))
      by_cases h4 : k = 4
      · exact .inr (.inr (.inr h4))
      simp [h1, h2, h3, h4] at hR
    rcases hk with rfl | rfl | rfl | rfl
    · simp [Pdu.right, z4] at hR
      obtain ⟨⟨⟨rfl, h1⟩, h2⟩, ⟨⟨rfl, rfl⟩, rfl⟩, rfl⟩ := hR
      have e := by8_wrap (x := (d.length : Int)) (by omega)
      simp only [go_sem, Nat.reduceAdd, Nat.reduceSub, Nat.reduceMul, Nat.reduceLT, Nat.reduceLeDiff, Nat.reduceEqDiff, Nat.reduceBEq, Int.reduceToNat, Int.reduceLT, Int.reduceLE, Int.reduceEq, Int.reduceNe, Int.reduceAdd, Int.reduceSub, Int.reduceMul, Int.reduceNeg, ↓reduceIte, reduceCtorEq, bytesP, e, List.set_cons_zero]
      refine ⟨⟨by omega, by omega⟩, ?_⟩
      simp only [go_sem, Nat.reduceAdd, Nat.reduceSub, Nat.reduceMul, Nat.reduceLT, Nat.reduceLeDiff, Nat.reduceEqDiff, Nat.reduceBEq, Int.reduceToNat, Int.reduceLT, Int.reduceLE, Int.reduceEq, Int.reduceNe, Int.reduceAdd, Int.reduceSub, Int.reduceMul, Int.reduceNeg, ↓reduceIte, reduceCtorEq, Try.ntmps11, Try.results11]
      rfl
    · simp [Pdu.right, z4] at hR
      obtain ⟨⟨h1, h2⟩, ⟨⟨rfl, rfl⟩, rfl⟩, rfl⟩ := hR
      have e := by8_wrap (x := l) (by omega)
      have e2 := fb2 h1
      unfold fbyte at e2
      simp only [go_sem, Nat.reduceAdd, Nat.reduceSub, Nat.reduceMul, Nat.reduceLT, Nat.reduceLeDiff, Nat.reduceEqDiff, Nat.reduceBEq, Int.reduceToNat, Int.reduceLT, Int.reduceLE, Int.reduceEq, Int.reduceNe, Int.reduceAdd, Int.reduceSub, Int.reduceMul, Int.reduceNeg, ↓reduceIte, reduceCtorEq, bytesP, e, e2]
      refine ⟨⟨by omega, by omega⟩, ?_⟩
      simp only [go_sem, Nat.reduceAdd, Nat.reduceSub, Nat.reduceMul, Nat.reduceLT, Nat.reduceLeDiff, Nat.reduceEqDiff, Nat.reduceBEq, Int.reduceToNat, Int.reduceLT, Int.reduceLE, Int.reduceEq, Int.reduceNe, Int.reduceAdd, Int.reduceSub, Int.reduceMul, Int.reduceNeg, ↓reduceIte, reduceCtorEq, Try.ntmps11, Try.results11]
      rfl
    · simp [Pdu.right, z4] at hR
      obtain ⟨⟨⟨h1, h2⟩, h3⟩, ⟨⟨rfl, rfl⟩, rfl⟩, rfl⟩ := hR
      have e2 := fb3 h1
      unfold fbyte at e2
      simp only [go_sem, Nat.reduceAdd, Nat.reduceSub, Nat.reduceMul, Nat.reduceLT, Nat.reduceLeDiff, Nat.reduceEqDiff, Nat.reduceBEq, Int.reduceToNat, Int.reduceLT, Int.reduceLE, Int.reduceEq, Int.reduceNe, Int.reduceAdd, Int.reduceSub, Int.reduceMul, Int.reduceNeg, ↓reduceIte, reduceCtorEq, bytesP, e2]
      refine ⟨⟨by omega, by omega⟩, ?_⟩
      simp only [go_sem, Nat.reduceAdd, Nat.reduceSub, Nat.reduceMul, Nat.reduceLT, Nat.reduceLeDiff, Nat.reduceEqDiff, Nat.reduceBEq, Int.reduceToNat, Int.reduceLT, Int.reduceLE, Int.reduceEq, Int.reduceNe, Int.reduceAdd, Int.reduceSub, Int.reduceMul, Int.reduceNeg, ↓reduceIte, reduceCtorEq, Try.ntmps11, Try.results11]
      rfl
    · simp [Pdu.right, z4] at hR
      obtain ⟨⟨⟨⟨⟨⟨⟨⟨h1, h2⟩, h3⟩, h4⟩, h5⟩, h6⟩, rfl⟩, rfl⟩, rfl⟩ := hR
      have e := by8_wrap (x := b) (by omega)
      have e' := by8_wrap (x := g) (by omega)
      have e2 := fb4 ⟨h1, by omega⟩
      unfold fbyte at e2
      simp only [go_sem, Nat.reduceAdd, Nat.reduceSub, Nat.reduceMul, Nat.reduceLT, Nat.reduceLeDiff, Nat.reduceEqDiff, Nat.reduceBEq, Int.reduceToNat, Int.reduceLT, Int.reduceLE, Int.reduceEq, Int.reduceNe, Int.reduceAdd, Int.reduceSub, Int.reduceMul, Int.reduceNeg, ↓reduceIte, reduceCtorEq, bytesP, e, e', e2]
      refine ⟨⟨by simp, by simp⟩, ?_⟩
      simp only [go_sem, Nat.reduceAdd, Nat.reduceSub, Nat.reduceMul, Nat.reduceLT, Nat.reduceLeDiff, Nat.reduceEqDiff, Nat.reduceBEq, Int.reduceToNat, Int.reduceLT, Int.reduceLE, Int.reduceEq, Int.reduceNe, Int.reduceAdd, Int.reduceSub, Int.reduceMul, Int.reduceNeg, ↓reduceIte, reduceCtorEq, Try.ntmps11, Try.results11]
      rfl
end Go.Proofs.Ytojmfbmcpjjheaa.Pe

namespace Go.Proofs.Ytojmfbmcpjjheaa.Pe
open Go.Pe Go.RowKit
set_option maxRecDepth 20000
set_option maxHeartbeats 4000000
set_option linter.unusedSimpArgs false
set_option linter.unusedVariables false

def Pdu.zer : Pdu := ⟨0, 0, 0, 0, 0, 0, []⟩
def splitP (c : Nat) (r : List UInt8) : Pdu :=
  if c / 16 = 0 then ⟨1, ((c % 16 : Nat) : Int), 0, 0, 0, 0, r⟩
  else if c / 16 = 1 then (match r with | [] => ⟨2, 0, 0, 0, 0, 0, []⟩ | x :: r' => ⟨2, ((c % 16 * 256 + x.toNat : Nat) : Int), 0, 0, 0, 0, r'⟩)
  else if c / 16 = 2 then ⟨3, 0, ((c % 16 : Nat) : Int), 0, 0, 0, r⟩
  else if c / 16 = 3 then (match r with | [x, y] => ⟨4, 0, 0, ((c % 16 : Nat) : Int), ((x.toNat : Nat) : Int), ((y.toNat : Nat) : Int), []⟩ | _ => Pdu.zer)
  else ⟨((c / 16 + 1 : Nat) : Int), 0, 0, 0, 0, 0, r⟩
theorem and15u : ∀ n : Nat, n < 256 → bitsA .and .u8 (n : Int) 15 = ((n % 16 : Nat) : Int) := by decide +kernel
theorem shr4 (n : Nat) : (n : Int).fdiv (2 ^ min 4 8) = ((n / 16 : Nat) : Int) := by
  have e : (2 : Int) ^ min 4 8 = 16 := by decide
  rw [e, Int.fdiv_eq_ediv_of_nonneg _ (by decide)]
  omega
theorem or8 : ∀ a : Nat, a < 16 → ∀ c : Nat, c < 256 → bitsA .or .i64 (IntKind.wrap .i64 ((a : Int) * 2 ^ min 8 64)) (c : Int) = ((a * 256 + c : Nat) : Int) := by decide +kernel
theorem split_calls (c : UInt8) (r : List UInt8) (h : r.length ≤ 1000) : PureCalls Try.prog 22 [bytesPV (c :: r)] (splitP c.toNat r).pv := by
  refine PureCalls.of tabOK mixed Try.func22 rfl rfl (by decide +kernel) (by simp [Try.ntmps22]) ?_
  have hc : c.toNat < 256 := c.toNat_lt
  have e1 := and15u c.toNat hc
  have e2 := shr4 c.toNat
  have w1 : IntKind.wrap .i64 ((c.toNat % 16 : Nat) : Int) = ((c.toNat % 16 : Nat) : Int) := wrapI64 (by omega)
  have w2 : IntKind.wrap .i64 ((c.toNat / 16 : Nat) : Int) = ((c.toNat / 16 : Nat) : Int) := wrapI64 (by omega)
  have w3 : IntKind.wrap .i64 (((c.toNat / 16 : Nat) : Int) + 1) = ((c.toNat / 16 + 1 : Nat) : Int) := by rw [wrapI64 (by omega)]; omega
  have hrow : rowsB (c :: r) = [PV.lit (.int .u8 c.toNat)] :: rowsB r := rfl
  have ht : (rowsB r).take r.length = rowsB r := by rw [List.take_of_length_le]; rw [rowsB_length]; exact Nat.le_refl _
  have hcl := clone_calls r (by omega)
  simp only [go_sem, Nat.reduceAdd, Nat.reduceSub, Nat.reduceMul, Nat.reduceLT, Nat.reduceLeDiff, Nat.reduceEqDiff, Nat.reduceBEq, Int.reduceToNat, Int.reduceLT, Int.reduceLE, Int.reduceEq, Int.reduceNe, Int.reduceAdd, Int.reduceSub, Int.reduceMul, Int.reduceNeg, ↓reduceIte, reduceCtorEq, Try.ntmps22, Try.results22, hrow, Int.toNat_natCast, ht]
  refine ⟨by omega, ⟨by omega, by omega⟩, endD_intro (by decide +kernel) ?_⟩
  simp only [go_sem, Nat.reduceAdd, Nat.reduceSub, Nat.reduceMul, Nat.reduceLT, Nat.reduceLeDiff, Nat.reduceEqDiff, Nat.reduceBEq, Int.reduceToNat, Int.reduceLT, Int.reduceLE, Int.reduceEq, Int.reduceNe, Int.reduceAdd, Int.reduceSub, Int.reduceMul, Int.reduceNeg, ↓reduceIte, reduceCtorEq, hrow, Int.toNat_natCast, ht, e1, e2, w1, w2, w3]
  refine ⟨by omega, ?_⟩
  by_cases h1 : c.toNat / 16 = 0
  · have g1 : decide (((c.toNat / 16 + 1 : Nat) : Int) = 1) = true := by simp; omega
    simp only [go_sem, Nat.reduceAdd, Nat.reduceSub, Nat.reduceMul, Nat.reduceLT, Nat.reduceLeDiff, Nat.reduceEqDiff, Nat.reduceBEq, Int.reduceToNat, Int.reduceLT, Int.reduceLE, Int.reduceEq, Int.reduceNe, Int.reduceAdd, Int.reduceSub, Int.reduceMul, Int.reduceNeg, ↓reduceIte, reduceCtorEq, g1]
    refine CallA.same hcl (by simp only [go_sem, Nat.reduceAdd, Nat.reduceSub, Nat.reduceMul, Nat.reduceLT, Nat.reduceLeDiff, Nat.reduceEqDiff, Nat.reduceBEq, Int.reduceToNat, Int.reduceLT, Int.reduceLE, Int.reduceEq, Int.reduceNe, Int.reduceAdd, Int.reduceSub, Int.reduceMul, Int.reduceNeg, ↓reduceIte, reduceCtorEq]) ?_
    simp only [go_sem, Nat.reduceAdd, Nat.reduceSub, Nat.reduceMul, Nat.reduceLT, Nat.reduceLeDiff, Nat.reduceEqDiff, Nat.reduceBEq, Int.reduceToNat, Int.reduceLT, Int.reduceLE, Int.reduceEq, Int.reduceNe, Int.reduceAdd, Int.reduceSub, Int.reduceMul, Int.reduceNeg, ↓reduceIte, reduceCtorEq, Try.ntmps22, Try.results22, splitP, Pdu.pv, h1]
  have g1 : decide (((c.toNat / 16 + 1 : Nat) : Int) = 1) = false := by simp; omega
  simp only [go_sem, Nat.reduceAdd, Nat.reduceSub, Nat.reduceMul, Nat.reduceLT, Nat.reduceLeDiff, Nat.reduceEqDiff, Nat.reduceBEq, Int.reduceToNat, Int.reduceLT, Int.reduceLE, Int.reduceEq, Int.reduceNe, Int.reduceAdd, Int.reduceSub, Int.reduceMul, Int.reduceNeg, ↓reduceIte, reduceCtorEq, g1]
  by_cases h2 : c.toNat / 16 = 1
  · have g2 : decide (((c.toNat / 16 + 1 : Nat) : Int) = 2) = true := by simp; omega
    have g3 : decide (((c.toNat / 16 + 1 : Nat) : Int) = 3) = false := by simp; omega
    have g4 : decide (((c.toNat / 16 + 1 : Nat) : Int) = 4) = false := by simp; omega
    cases r with
    | nil =>
      have g0 : decide ((0 : Int) > 0) = false := by decide
      simp only [go_sem, Nat.reduceAdd, Nat.reduceSub, Nat.reduceMul, Nat.reduceLT, Nat.reduceLeDiff, Nat.reduceEqDiff, Nat.reduceBEq, Int.reduceToNat, Int.reduceLT, Int.reduceLE, Int.reduceEq, Int.reduceNe, Int.reduceAdd, Int.reduceSub, Int.reduceMul, Int.reduceNeg, ↓reduceIte, reduceCtorEq, g0, g2, g3, g4, rowsB_nil]
      refine CallA.same hcl (by simp only [go_sem, Nat.reduceAdd, Nat.reduceSub, Nat.reduceMul, Nat.reduceLT, Nat.reduceLeDiff, Nat.reduceEqDiff, Nat.reduceBEq, Int.reduceToNat, Int.reduceLT, Int.reduceLE, Int.reduceEq, Int.reduceNe, Int.reduceAdd, Int.reduceSub, Int.reduceMul, Int.reduceNeg, ↓reduceIte, reduceCtorEq]) ?_
      simp only [go_sem, Nat.reduceAdd, Nat.reduceSub, Nat.reduceMul, Nat.reduceLT, Nat.reduceLeDiff, Nat.reduceEqDiff, Nat.reduceBEq, Int.reduceToNat, Int.reduceLT, Int.reduceLE, Int.reduceEq, Int.reduceNe, Int.reduceAdd, Int.reduceSub, Int.reduceMul, Int.reduceNeg, ↓reduceIte, reduceCtorEq, Try.ntmps22, Try.results22, splitP, Pdu.pv, h1, h2]
    | cons x r' =>
      have hx : x.toNat < 256 := x.toNat_lt
      have hrow' : rowsB (x :: r') = [PV.lit (.int .u8 x.toNat)] :: rowsB r' := rfl
      have g5 : decide (((r'.length + 1 : Nat) : Int) > 0) = true := decide_eq_true (by omega)
      have w4 : IntKind.wrap .i64 (x.toNat : Int) = x.toNat := wrapI64 (by omega)
      have e3 := or8 (c.toNat % 16) (by omega) x.toNat hx
      have ht' : (rowsB r').take r'.length = rowsB r' := by rw [List.take_of_length_le]; rw [rowsB_length]; exact Nat.le_refl _
      simp only [go_sem, Nat.reduceAdd, Nat.reduceSub, Nat.reduceMul, Nat.reduceLT, Nat.reduceLeDiff, Nat.reduceEqDiff, Nat.reduceBEq, Int.reduceToNat, Int.reduceLT, Int.reduceLE, Int.reduceEq, Int.reduceNe, Int.reduceAdd, Int.reduceSub, Int.reduceMul, Int.reduceNeg, ↓reduceIte, reduceCtorEq, g2, g5, hrow', Int.toNat_natCast, ht', w4, e3]
      refine ⟨by omega, ⟨by omega, by omega⟩, endD_intro (by decide +kernel) ?_⟩
      simp only [go_sem, Nat.reduceAdd, Nat.reduceSub, Nat.reduceMul, Nat.reduceLT, Nat.reduceLeDiff, Nat.reduceEqDiff, Nat.reduceBEq, Int.reduceToNat, Int.reduceLT, Int.reduceLE, Int.reduceEq, Int.reduceNe, Int.reduceAdd, Int.reduceSub, Int.reduceMul, Int.reduceNeg, ↓reduceIte, reduceCtorEq, hrow', Int.toNat_natCast, ht', w4, e3]
      refine CallA.same (clone_calls r' (by simp at h; omega)) (by simp only [go_sem, Nat.reduceAdd, Nat.reduceSub, Nat.reduceMul, Nat.reduceLT, Nat.reduceLeDiff, Nat.reduceEqDiff, Nat.reduceBEq, Int.reduceToNat, Int.reduceLT, Int.reduceLE, Int.reduceEq, Int.reduceNe, Int.reduceAdd, Int.reduceSub, Int.reduceMul, Int.reduceNeg, ↓reduceIte, reduceCtorEq]) ?_
      simp only [go_sem, Nat.reduceAdd, Nat.reduceSub, Nat.reduceMul, Nat.reduceLT, Nat.reduceLeDiff, Nat.reduceEqDiff, Nat.reduceBEq, Int.reduceToNat, Int.reduceLT, Int.reduceLE, Int.reduceEq, Int.reduceNe, Int.reduceAdd, Int.reduceSub, Int.reduceMul, Int.reduceNeg, ↓reduceIte, reduceCtorEq, Try.ntmps22, Try.results22, splitP, Pdu.pv, h1, h2]
  have g2 : decide (((c.toNat / 16 + 1 : Nat) : Int) = 2) = false := by simp; omega
  simp only [go_sem, Nat.reduceAdd, Nat.reduceSub, Nat.reduceMul, Nat.reduceLT, Nat.reduceLeDiff, Nat.reduceEqDiff, Nat.reduceBEq, Int.reduceToNat, Int.reduceLT, Int.reduceLE, Int.reduceEq, Int.reduceNe, Int.reduceAdd, Int.reduceSub, Int.reduceMul, Int.reduceNeg, ↓reduceIte, reduceCtorEq, g2]
  by_cases h3 : c.toNat / 16 = 2
  · have g3 : decide (((c.toNat / 16 + 1 : Nat) : Int) = 3) = true := by simp; omega
    simp only [go_sem, Nat.reduceAdd, Nat.reduceSub, Nat.reduceMul, Nat.reduceLT, Nat.reduceLeDiff, Nat.reduceEqDiff, Nat.reduceBEq, Int.reduceToNat, Int.reduceLT, Int.reduceLE, Int.reduceEq, Int.reduceNe, Int.reduceAdd, Int.reduceSub, Int.reduceMul, Int.reduceNeg, ↓reduceIte, reduceCtorEq, g3]
    refine CallA.same hcl (by simp only [go_sem, Nat.reduceAdd, Nat.reduceSub, Nat.reduceMul, Nat.reduceLT, Nat.reduceLeDiff, Nat.reduceEqDiff, Nat.reduceBEq, Int.reduceToNat, Int.reduceLT, Int.reduceLE, Int.reduceEq, Int.reduceNe, Int.reduceAdd, Int.reduceSub, Int.reduceMul, Int.reduceNeg, ↓reduceIte, reduceCtorEq]) ?_
    simp only [go_sem, Nat.reduceAdd, Nat.reduceSub, Nat.reduceMul, Nat.reduceLT, Nat.reduceLeDiff, Nat.reduceEqDiff, Nat.reduceBEq, Int.reduceToNat, Int.reduceLT, Int.reduceLE, Int.reduceEq, Int.reduceNe, Int.reduceAdd, Int.reduceSub, Int.reduceMul, Int.reduceNeg, ↓reduceIte, reduceCtorEq, Try.ntmps22, Try.results22, splitP, Pdu.pv, h1, h2, h3]
  have g3 : decide (((c.toNat / 16 + 1 : Nat) : Int) = 3) = false := by simp; omega
  simp only [go_sem, Nat.reduceAdd, Nat.reduceSub, Nat.reduceMul, Nat.reduceLT, Nat.reduceLeDiff, Nat.reduceEqDiff, Nat.reduceBEq, Int.reduceToNat, Int.reduceLT, Int.reduceLE, Int.reduceEq, Int.reduceNe, Int.reduceAdd, Int.reduceSub, Int.reduceMul, Int.reduceNeg, ↓reduceIte, reduceCtorEq, g3]
  by_cases h4 : c.toNat / 16 = 3
  · have g4 : decide (((c.toNat / 16 + 1 : Nat) : Int) = 4) = true := by simp; omega
    by_cases hl : r.length = 2
    · obtain ⟨x, y, rfl⟩ : ∃ x y, r = [x, y] := by
        match r, hl with
        | [x, y], _ => exact ⟨x, y, rfl⟩
      have hr2 : rowsB [x, y] = [[PV.lit (.int .u8 x.toNat)], [PV.lit (.int .u8 y.toNat)]] := rfl
      have hx : x.toNat < 256 := x.toNat_lt
      have hy : y.toNat < 256 := y.toNat_lt
      have w4 : IntKind.wrap .i64 (x.toNat : Int) = x.toNat := wrapI64 (by omega)
      have w5 : IntKind.wrap .i64 (y.toNat : Int) = y.toNat := wrapI64 (by omega)
      have g5 : decide (((2 : Nat) : Int) = 2) = true := by decide
      simp only [go_sem, Nat.reduceAdd, Nat.reduceSub, Nat.reduceMul, Nat.reduceLT, Nat.reduceLeDiff, Nat.reduceEqDiff, Nat.reduceBEq, Int.reduceToNat, Int.reduceLT, Int.reduceLE, Int.reduceEq, Int.reduceNe, Int.reduceAdd, Int.reduceSub, Int.reduceMul, Int.reduceNeg, ↓reduceIte, reduceCtorEq, g4, g5, hr2, w4, w5]
      refine endD_intro (by decide +kernel) ?_
      simp only [go_sem, Nat.reduceAdd, Nat.reduceSub, Nat.reduceMul, Nat.reduceLT, Nat.reduceLeDiff, Nat.reduceEqDiff, Nat.reduceBEq, Int.reduceToNat, Int.reduceLT, Int.reduceLE, Int.reduceEq, Int.reduceNe, Int.reduceAdd, Int.reduceSub, Int.reduceMul, Int.reduceNeg, ↓reduceIte, reduceCtorEq]
      have hcn := clone_calls [] (by simp)
      (refine CallA.pure (hcn) (by simp only [go_sem, Nat.reduceAdd, Nat.reduceSub, Nat.reduceMul, Nat.reduceLT, Nat.reduceLeDiff, Nat.reduceEqDiff, Nat.reduceBEq, Int.reduceToNat, Int.reduceLT, Int.reduceLE, Int.reduceEq, Int.reduceNe, Int.reduceAdd, Int.reduceSub, Int.reduceMul, Int.reduceNeg, ↓reduceIte, reduceCtorEq, rowsB_nil, Try.ntmps22, Try.results22, splitP, Pdu.pv, h1, h2, h3, h4] <;> first | rfl | decide) ?_; simp only [go_sem, Nat.reduceAdd, Nat.reduceSub, Nat.reduceMul, Nat.reduceLT, Nat.reduceLeDiff, Nat.reduceEqDiff, Nat.reduceBEq, Int.reduceToNat, Int.reduceLT, Int.reduceLE, Int.reduceEq, Int.reduceNe, Int.reduceAdd, Int.reduceSub, Int.reduceMul, Int.reduceNeg, ↓reduceIte, reduceCtorEq, rowsB_nil, Try.ntmps22, Try.results22, splitP, Pdu.pv, h1, h2, h3, h4])
    · have g5 : decide ((r.length : Int) = 2) = false := by simp; omega
      have hz : splitP c.toNat r = Pdu.zer := by
        unfold splitP
        rw [if_neg h1, if_neg h2, if_neg h3, if_pos h4]
        match r, hl with
        | [], _ => rfl
        | [_], _ => rfl
        | [_, _], hl => exact absurd rfl hl
        | _ :: _ :: _ :: _, _ => rfl
      rw [hz]
      simp only [go_sem, Nat.reduceAdd, Nat.reduceSub, Nat.reduceMul, Nat.reduceLT, Nat.reduceLeDiff, Nat.reduceEqDiff, Nat.reduceBEq, Int.reduceToNat, Int.reduceLT, Int.reduceLE, Int.reduceEq, Int.reduceNe, Int.reduceAdd, Int.reduceSub, Int.reduceMul, Int.reduceNeg, ↓reduceIte, reduceCtorEq, g4, g5, Try.ntmps22, Try.results22, Pdu.pv, Pdu.zer, rowsB_nil]
  have g4 : decide (((c.toNat / 16 + 1 : Nat) : Int) = 4) = false := by simp; omega
  simp only [go_sem, Nat.reduceAdd, Nat.reduceSub, Nat.reduceMul, Nat.reduceLT, Nat.reduceLeDiff, Nat.reduceEqDiff, Nat.reduceBEq, Int.reduceToNat, Int.reduceLT, Int.reduceLE, Int.reduceEq, Int.reduceNe, Int.reduceAdd, Int.reduceSub, Int.reduceMul, Int.reduceNeg, ↓reduceIte, reduceCtorEq, g4]
  refine CallA.same hcl (by simp only [go_sem, Nat.reduceAdd, Nat.reduceSub, Nat.reduceMul, Nat.reduceLT, Nat.reduceLeDiff, Nat.reduceEqDiff, Nat.reduceBEq, Int.reduceToNat, Int.reduceLT, Int.reduceLE, Int.reduceEq, Int.reduceNe, Int.reduceAdd, Int.reduceSub, Int.reduceMul, Int.reduceNeg, ↓reduceIte, reduceCtorEq]) ?_
  simp only [go_sem, Nat.reduceAdd, Nat.reduceSub, Nat.reduceMul, Nat.reduceLT, Nat.reduceLeDiff, Nat.reduceEqDiff, Nat.reduceBEq, Int.reduceToNat, Int.reduceLT, Int.reduceLE, Int.reduceEq, Int.reduceNe, Int.reduceAdd, Int.reduceSub, Int.reduceMul, Int.reduceNeg, ↓reduceIte, reduceCtorEq, Try.ntmps22, Try.results22, splitP, Pdu.pv, h1, h2, h3, h4]
def readT (b : List UInt8) : Pdu × Int :=
  match b with
  | [] => (Pdu.zer, 170)
  | c :: r => if (splitP c.toNat r).right then (splitP c.toNat r, 0) else (Pdu.zer, 170)
theorem readT_calls (b : List UInt8) (h : b.length ≤ 1000) : PureCalls Try.prog 10 [bytesPV b] (.tup [(readT b).1.pv, PI (readT b).2]) := by
  refine PureCalls.of tabOK mixed Try.func10 rfl rfl (by decide +kernel) (by simp [Try.ntmps10]) ?_
  cases b with
  | nil =>
    simp only [go_sem, Nat.reduceAdd, Nat.reduceSub, Nat.reduceMul, Nat.reduceLT, Nat.reduceLeDiff, Nat.reduceEqDiff, Nat.reduceBEq, Int.reduceToNat, Int.reduceLT, Int.reduceLE, Int.reduceEq, Int.reduceNe, Int.reduceAdd, Int.reduceSub, Int.reduceMul, Int.reduceNeg, ↓reduceIte, reduceCtorEq, Try.ntmps10, Try.results10, rowsB_nil, readT, Pdu.zer, Pdu.pv]
  | cons c r =>
    have g0 : decide (((r.length + 1 : Nat) : Int) = 0) = false := by simp; omega
    have hs := split_calls c r (by simp at h; omega)
    simp only [go_sem, Nat.reduceAdd, Nat.reduceSub, Nat.reduceMul, Nat.reduceLT, Nat.reduceLeDiff, Nat.reduceEqDiff, Nat.reduceBEq, Int.reduceToNat, Int.reduceLT, Int.reduceLE, Int.reduceEq, Int.reduceNe, Int.reduceAdd, Int.reduceSub, Int.reduceMul, Int.reduceNeg, ↓reduceIte, reduceCtorEq, Try.ntmps10, Try.results10, g0]
    refine CallA.same hs (by simp only [go_sem, Nat.reduceAdd, Nat.reduceSub, Nat.reduceMul, Nat.reduceLT, Nat.reduceLeDiff, Nat.reduceEqDiff, Nat.reduceBEq, Int.reduceToNat, Int.reduceLT, Int.reduceLE, Int.reduceEq, Int.reduceNe, Int.reduceAdd, Int.reduceSub, Int.reduceMul, Int.reduceNeg, ↓reduceIte, reduceCtorEq]) ?_
    simp only [go_sem, Nat.reduceAdd, Nat.reduceSub, Nat.reduceMul, Nat.reduceLT, Nat.reduceLeDiff, Nat.reduceEqDiff, Nat.reduceBEq, Int.reduceToNat, Int.reduceLT, Int.reduceLE, Int.reduceEq, Int.reduceNe, Int.reduceAdd, Int.reduceSub, Int.reduceMul, Int.reduceNeg, ↓reduceIte, reduceCtorEq, readT]
    generalize splitP c.toNat r = p
    obtain ⟨k, l, n, s, b, g, d⟩ := p
    simp only [go_sem, Nat.reduceAdd, Nat.reduceSub, Nat.reduceMul, Nat.reduceLT, Nat.reduceLeDiff, Nat.reduceEqDiff, Nat.reduceBEq, Int.reduceToNat, Int.reduceLT, Int.reduceLE, Int.reduceEq, Int.reduceNe, Int.reduceAdd, Int.reduceSub, Int.reduceMul, Int.reduceNeg, ↓reduceIte, reduceCtorEq, Pdu.pv]
    refine CallA.same (right_calls ⟨k, l, n, s, b, g, d⟩) (by simp only [go_sem, Nat.reduceAdd, Nat.reduceSub, Nat.reduceMul, Nat.reduceLT, Nat.reduceLeDiff, Nat.reduceEqDiff, Nat.reduceBEq, Int.reduceToNat, Int.reduceLT, Int.reduceLE, Int.reduceEq, Int.reduceNe, Int.reduceAdd, Int.reduceSub, Int.reduceMul, Int.reduceNeg, ↓reduceIte, reduceCtorEq, Pdu.pv]) ?_
    cases hR : Pdu.right ⟨k, l, n, s, b, g, d⟩ with
    | false => simp only [go_sem, Nat.reduceAdd, Nat.reduceSub, Nat.reduceMul, Nat.reduceLT, Nat.reduceLeDiff, Nat.reduceEqDiff, Nat.reduceBEq, Int.reduceToNat, Int.reduceLT, Int.reduceLE, Int.reduceEq, Int.reduceNe, Int.reduceAdd, Int.reduceSub, Int.reduceMul, Int.reduceNeg, ↓reduceIte, reduceCtorEq, Try.ntmps10, Try.results10, Pdu.zer, hR, rowsB_nil]
    | true => simp only [go_sem, Nat.reduceAdd, Nat.reduceSub, Nat.reduceMul, Nat.reduceLT, Nat.reduceLeDiff, Nat.reduceEqDiff, Nat.reduceBEq, Int.reduceToNat, Int.reduceLT, Int.reduceLE, Int.reduceEq, Int.reduceNe, Int.reduceAdd, Int.reduceSub, Int.reduceMul, Int.reduceNeg, ↓reduceIte, reduceCtorEq, Try.ntmps10, Try.results10, hR]
end Go.Proofs.Ytojmfbmcpjjheaa.Pe

namespace Go.Proofs.Ytojmfbmcpjjheaa.Pe
open Go.Pe Go.RowKit
set_option maxRecDepth 20000
set_option maxHeartbeats 4000000
set_option linter.unusedSimpArgs false
set_option linter.unusedVariables false

def b20 : List UInt8 := [116, 119, 101, 110, 116, 121, 32, 98, 121, 116, 101, 115, 32, 111, 102, 32, 116, 101, 120, 116]
theorem rows20 : [[PV.lit (Value.int IntKind.u8 116)], [PV.lit (Value.int IntKind.u8 119)], [PV.lit (Value.int IntKind.u8 101)], [PV.lit (Value.int IntKind.u8 110)], [PV.lit (Value.int IntKind.u8 116)], [PV.lit (Value.int IntKind.u8 121)], [PV.lit (Value.int IntKind.u8 32)], [PV.lit (Value.int IntKind.u8 98)], [PV.lit (Value.int IntKind.u8 121)], [PV.lit (Value.int IntKind.u8 116)], [PV.lit (Value.int IntKind.u8 101)], [PV.lit (Value.int IntKind.u8 115)], [PV.lit (Value.int IntKind.u8 32)], [PV.lit (Value.int IntKind.u8 111)], [PV.lit (Value.int IntKind.u8 102)], [PV.lit (Value.int IntKind.u8 32)], [PV.lit (Value.int IntKind.u8 116)], [PV.lit (Value.int IntKind.u8 101)], [PV.lit (Value.int IntKind.u8 120)], [PV.lit (Value.int IntKind.u8 116)]] = rowsB b20 := rfl
def p20 : Pdu := ⟨2, 20, 0, 0, 0, 0, b20.take 6⟩
def q20 : Pdu := ⟨3, 0, 1, 0, 0, 0, (b20.drop 6).take 7⟩
def r20 : Pdu := ⟨3, 0, 2, 0, 0, 0, b20.drop 13⟩
theorem parts20 : partsL b20 = [p20, q20, r20] := by decide +kernel
theorem bytes20a : bytesT p20 = [16, 20, 116, 119, 101, 110, 116, 121] := by decide +kernel
theorem bytes20b : bytesT r20 = [34, 111, 102, 32, 116, 101, 120, 116] := by decide +kernel
theorem read20 : readT [16, 20, 116, 119, 101, 110, 116, 121] = (p20, 0) := by decide +kernel
theorem read64 : readT [64] = (Pdu.zer, 170) := by decide +kernel
theorem rows64 : [[PV.lit (Value.int IntKind.u8 64)]] = rowsB [64] := rfl
theorem head17_calls : PureCalls Try.prog 7 [] (PB true) := by
  refine PureCalls.of tabOK mixed Try.func7 rfl rfl (by decide +kernel) (by simp [Try.ntmps7]) ?_
  have cP := partsT_calls b20
  rw [parts20, show partsB b20 = true by decide +kernel] at cP
  have cA := bytesT_calls p20
  rw [bytes20a, show p20.right = true by decide +kernel] at cA
  have cB := bytesT_calls r20
  rw [bytes20b, show r20.right = true by decide +kernel] at cB
  have cR := readT_calls [16, 20, 116, 119, 101, 110, 116, 121] (by decide)
  rw [read20] at cR
  have cS := readT_calls [64] (by decide)
  rw [read64] at cS
  have cE := same_calls p20 p20
  rw [decide_eq_true rfl] at cE
  have cF := right_calls p20
  rw [show p20.right = true by decide +kernel] at cF
  have cG := right_calls Pdu.zer
  rw [show Pdu.zer.right = false by decide +kernel] at cG
  simp only [go_sem, Nat.reduceAdd, Nat.reduceSub, Nat.reduceMul, Nat.reduceLT, Nat.reduceLeDiff, Nat.reduceEqDiff, Nat.reduceBEq, Int.reduceToNat, Int.reduceLT, Int.reduceLE, Int.reduceEq, Int.reduceNe, Int.reduceAdd, Int.reduceSub, Int.reduceMul, Int.reduceNeg, ↓reduceIte, reduceCtorEq, Try.ntmps7, Try.results7]
  simp only [rows20]
  (refine CallA.pure (cP) (by simp only [go_sem, Nat.reduceAdd, Nat.reduceSub, Nat.reduceMul, Nat.reduceLT, Nat.reduceLeDiff, Nat.reduceEqDiff, Nat.reduceBEq, Int.reduceToNat, Int.reduceLT, Int.reduceLE, Int.reduceEq, Int.reduceNe, Int.reduceAdd, Int.reduceSub, Int.reduceMul, Int.reduceNeg, ↓reduceIte, reduceCtorEq, pduRows, Pdu.cells] <;> first | rfl | decide) ?_; simp only [go_sem, Nat.reduceAdd, Nat.reduceSub, Nat.reduceMul, Nat.reduceLT, Nat.reduceLeDiff, Nat.reduceEqDiff, Nat.reduceBEq, Int.reduceToNat, Int.reduceLT, Int.reduceLE, Int.reduceEq, Int.reduceNe, Int.reduceAdd, Int.reduceSub, Int.reduceMul, Int.reduceNeg, ↓reduceIte, reduceCtorEq, pduRows, Pdu.cells])
  (refine CallA.pure (cA) (by simp only [go_sem, Nat.reduceAdd, Nat.reduceSub, Nat.reduceMul, Nat.reduceLT, Nat.reduceLeDiff, Nat.reduceEqDiff, Nat.reduceBEq, Int.reduceToNat, Int.reduceLT, Int.reduceLE, Int.reduceEq, Int.reduceNe, Int.reduceAdd, Int.reduceSub, Int.reduceMul, Int.reduceNeg, ↓reduceIte, reduceCtorEq, Pdu.cells, Pdu.pv] <;> first | rfl | decide) ?_; simp only [go_sem, Nat.reduceAdd, Nat.reduceSub, Nat.reduceMul, Nat.reduceLT, Nat.reduceLeDiff, Nat.reduceEqDiff, Nat.reduceBEq, Int.reduceToNat, Int.reduceLT, Int.reduceLE, Int.reduceEq, Int.reduceNe, Int.reduceAdd, Int.reduceSub, Int.reduceMul, Int.reduceNeg, ↓reduceIte, reduceCtorEq, Pdu.cells, Pdu.pv])
  (refine CallA.pure (cB) (by simp only [go_sem, Nat.reduceAdd, Nat.reduceSub, Nat.reduceMul, Nat.reduceLT, Nat.reduceLeDiff, Nat.reduceEqDiff, Nat.reduceBEq, Int.reduceToNat, Int.reduceLT, Int.reduceLE, Int.reduceEq, Int.reduceNe, Int.reduceAdd, Int.reduceSub, Int.reduceMul, Int.reduceNeg, ↓reduceIte, reduceCtorEq, Pdu.cells, Pdu.pv] <;> first | rfl | decide) ?_; simp only [go_sem, Nat.reduceAdd, Nat.reduceSub, Nat.reduceMul, Nat.reduceLT, Nat.reduceLeDiff, Nat.reduceEqDiff, Nat.reduceBEq, Int.reduceToNat, Int.reduceLT, Int.reduceLE, Int.reduceEq, Int.reduceNe, Int.reduceAdd, Int.reduceSub, Int.reduceMul, Int.reduceNeg, ↓reduceIte, reduceCtorEq, Pdu.cells, Pdu.pv])
  (refine CallA.pure (cR) (by simp only [go_sem, Nat.reduceAdd, Nat.reduceSub, Nat.reduceMul, Nat.reduceLT, Nat.reduceLeDiff, Nat.reduceEqDiff, Nat.reduceBEq, Int.reduceToNat, Int.reduceLT, Int.reduceLE, Int.reduceEq, Int.reduceNe, Int.reduceAdd, Int.reduceSub, Int.reduceMul, Int.reduceNeg, ↓reduceIte, reduceCtorEq, Pdu.cells, Pdu.pv] <;> first | rfl | decide) ?_; simp only [go_sem, Nat.reduceAdd, Nat.reduceSub, Nat.reduceMul, Nat.reduceLT, Nat.reduceLeDiff, Nat.reduceEqDiff, Nat.reduceBEq, Int.reduceToNat, Int.reduceLT, Int.reduceLE, Int.reduceEq, Int.reduceNe, Int.reduceAdd, Int.reduceSub, Int.reduceMul, Int.reduceNeg, ↓reduceIte, reduceCtorEq, Pdu.cells, Pdu.pv])
  simp only [rows64]
  (refine CallA.pure (cS) (by simp only [go_sem, Nat.reduceAdd, Nat.reduceSub, Nat.reduceMul, Nat.reduceLT, Nat.reduceLeDiff, Nat.reduceEqDiff, Nat.reduceBEq, Int.reduceToNat, Int.reduceLT, Int.reduceLE, Int.reduceEq, Int.reduceNe, Int.reduceAdd, Int.reduceSub, Int.reduceMul, Int.reduceNeg, ↓reduceIte, reduceCtorEq, Pdu.cells, Pdu.pv, Pdu.zer] <;> first | rfl | decide) ?_; simp only [go_sem, Nat.reduceAdd, Nat.reduceSub, Nat.reduceMul, Nat.reduceLT, Nat.reduceLeDiff, Nat.reduceEqDiff, Nat.reduceBEq, Int.reduceToNat, Int.reduceLT, Int.reduceLE, Int.reduceEq, Int.reduceNe, Int.reduceAdd, Int.reduceSub, Int.reduceMul, Int.reduceNeg, ↓reduceIte, reduceCtorEq, Pdu.cells, Pdu.pv, Pdu.zer])
  (refine callD_pure (cE) (by simp only [go_sem, Nat.reduceAdd, Nat.reduceSub, Nat.reduceMul, Nat.reduceLT, Nat.reduceLeDiff, Nat.reduceEqDiff, Nat.reduceBEq, Int.reduceToNat, Int.reduceLT, Int.reduceLE, Int.reduceEq, Int.reduceNe, Int.reduceAdd, Int.reduceSub, Int.reduceMul, Int.reduceNeg, ↓reduceIte, reduceCtorEq, Pdu.pv] <;> first | rfl | decide) ?_; simp only [go_sem, Nat.reduceAdd, Nat.reduceSub, Nat.reduceMul, Nat.reduceLT, Nat.reduceLeDiff, Nat.reduceEqDiff, Nat.reduceBEq, Int.reduceToNat, Int.reduceLT, Int.reduceLE, Int.reduceEq, Int.reduceNe, Int.reduceAdd, Int.reduceSub, Int.reduceMul, Int.reduceNeg, ↓reduceIte, reduceCtorEq, Pdu.pv])
  (refine callD_pure (cF) (by simp only [go_sem, Nat.reduceAdd, Nat.reduceSub, Nat.reduceMul, Nat.reduceLT, Nat.reduceLeDiff, Nat.reduceEqDiff, Nat.reduceBEq, Int.reduceToNat, Int.reduceLT, Int.reduceLE, Int.reduceEq, Int.reduceNe, Int.reduceAdd, Int.reduceSub, Int.reduceMul, Int.reduceNeg, ↓reduceIte, reduceCtorEq, Pdu.pv] <;> first | rfl | decide) ?_; simp only [go_sem, Nat.reduceAdd, Nat.reduceSub, Nat.reduceMul, Nat.reduceLT, Nat.reduceLeDiff, Nat.reduceEqDiff, Nat.reduceBEq, Int.reduceToNat, Int.reduceLT, Int.reduceLE, Int.reduceEq, Int.reduceNe, Int.reduceAdd, Int.reduceSub, Int.reduceMul, Int.reduceNeg, ↓reduceIte, reduceCtorEq, Pdu.pv])
  (refine callD_pure (cG) (by simp only [go_sem, Nat.reduceAdd, Nat.reduceSub, Nat.reduceMul, Nat.reduceLT, Nat.reduceLeDiff, Nat.reduceEqDiff, Nat.reduceBEq, Int.reduceToNat, Int.reduceLT, Int.reduceLE, Int.reduceEq, Int.reduceNe, Int.reduceAdd, Int.reduceSub, Int.reduceMul, Int.reduceNeg, ↓reduceIte, reduceCtorEq, Pdu.pv, Pdu.zer, rowsB_nil] <;> first | rfl | decide) ?_; simp only [go_sem, Nat.reduceAdd, Nat.reduceSub, Nat.reduceMul, Nat.reduceLT, Nat.reduceLeDiff, Nat.reduceEqDiff, Nat.reduceBEq, Int.reduceToNat, Int.reduceLT, Int.reduceLE, Int.reduceEq, Int.reduceNe, Int.reduceAdd, Int.reduceSub, Int.reduceMul, Int.reduceNeg, ↓reduceIte, reduceCtorEq, Pdu.pv, Pdu.zer, rowsB_nil])
  refine endD_intro (by decide +kernel) ?_
  simp only [go_sem, Nat.reduceAdd, Nat.reduceSub, Nat.reduceMul, Nat.reduceLT, Nat.reduceLeDiff, Nat.reduceEqDiff, Nat.reduceBEq, Int.reduceToNat, Int.reduceLT, Int.reduceLE, Int.reduceEq, Int.reduceNe, Int.reduceAdd, Int.reduceSub, Int.reduceMul, Int.reduceNeg, ↓reduceIte, reduceCtorEq, Try.ntmps7, Try.results7]
end Go.Proofs.Ytojmfbmcpjjheaa.Pe
