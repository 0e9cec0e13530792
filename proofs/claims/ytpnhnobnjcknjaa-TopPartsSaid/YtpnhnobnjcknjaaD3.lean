import Derived.Test.YtpnhnobnjcknjaaD2
import Derived.Test.YtpnhnobnjcknjaaCP
namespace Go.Proofs.Ytpnhnobnjcknjaa.Pe
open Go.Pe Go.RowKit
set_option maxRecDepth 20000
set_option maxHeartbeats 4000000
set_option linter.unusedSimpArgs false
set_option linter.unusedVariables false

theorem newV_calls (room block gap : Int) : PureCalls Try.prog 23 [PI room, PI block, PI gap] (freshR room block gap).pv := by
  refine PureCalls.of tabOK mixed Try.func23 rfl rfl (by decide +kernel) (by simp [Try.ntmps23]) ?_
  simp only [go_sem, Nat.reduceAdd, Nat.reduceSub, Nat.reduceMul, Nat.reduceLT, Nat.reduceLeDiff, Nat.reduceEqDiff, Nat.reduceBEq, Int.reduceToNat, Int.reduceLT, Int.reduceLE, Int.reduceEq, Int.reduceNe, Int.reduceAdd, Int.reduceSub, Int.reduceMul, Int.reduceNeg, ↓reduceIte, reduceCtorEq, Try.ntmps23, Try.results23, freshR, Rcv.pv]
theorem failV_calls (r : Rcv) (e : Int) : PureCalls Try.prog 49 [r.pv, PI e] (failR r e).pv := by
  refine PureCalls.of tabOK mixed Try.func49 rfl rfl (by decide +kernel) (by simp [Try.ntmps49]) ?_
  obtain ⟨st, len, got, num, left, block, gap, clock, room, err⟩ := r
  simp only [go_sem, Nat.reduceAdd, Nat.reduceSub, Nat.reduceMul, Nat.reduceLT, Nat.reduceLeDiff, Nat.reduceEqDiff, Nat.reduceBEq, Int.reduceToNat, Int.reduceLT, Int.reduceLE, Int.reduceEq, Int.reduceNe, Int.reduceAdd, Int.reduceSub, Int.reduceMul, Int.reduceNeg, ↓reduceIte, reduceCtorEq, Try.ntmps49, Try.results49, failR, Rcv.pv]
theorem leftV_calls (r : Rcv) : PureCalls Try.prog 53 [r.pv] (PI (if r.block = 0 then -1 else r.block)) := by
  refine PureCalls.of tabOK mixed Try.func53 rfl rfl (by decide +kernel) (by simp [Try.ntmps53]) ?_
  obtain ⟨st, len, got, num, left, block, gap, clock, room, err⟩ := r
  simp only [go_sem, Nat.reduceAdd, Nat.reduceSub, Nat.reduceMul, Nat.reduceLT, Nat.reduceLeDiff, Nat.reduceEqDiff, Nat.reduceBEq, Int.reduceToNat, Int.reduceLT, Int.reduceLE, Int.reduceEq, Int.reduceNe, Int.reduceAdd, Int.reduceSub, Int.reduceMul, Int.reduceNeg, ↓reduceIte, reduceCtorEq, Try.ntmps53, Try.results53, Rcv.pv]
  repeat' (first | (refine wantK_splitN (fun h => ?_) (fun h => ?_) <;> simp only [go_sem, Nat.reduceAdd, Nat.reduceSub, Nat.reduceMul, Nat.reduceLT, Nat.reduceLeDiff, Nat.reduceEqDiff, Nat.reduceBEq, Int.reduceToNat, Int.reduceLT, Int.reduceLE, Int.reduceEq, Int.reduceNe, Int.reduceAdd, Int.reduceSub, Int.reduceMul, Int.reduceNeg, ↓reduceIte, reduceCtorEq, Try.ntmps53, Try.results53, *]) | (refine wantK_split (fun h => ?_) (fun h => ?_) <;> simp only [go_sem, Nat.reduceAdd, Nat.reduceSub, Nat.reduceMul, Nat.reduceLT, Nat.reduceLeDiff, Nat.reduceEqDiff, Nat.reduceBEq, Int.reduceToNat, Int.reduceLT, Int.reduceLE, Int.reduceEq, Int.reduceNe, Int.reduceAdd, Int.reduceSub, Int.reduceMul, Int.reduceNeg, ↓reduceIte, reduceCtorEq, Try.ntmps53, Try.results53, *]) | (refine condK_splitN (fun h => ?_) (fun h => ?_) <;> simp only [go_sem, Nat.reduceAdd, Nat.reduceSub, Nat.reduceMul, Nat.reduceLT, Nat.reduceLeDiff, Nat.reduceEqDiff, Nat.reduceBEq, Int.reduceToNat, Int.reduceLT, Int.reduceLE, Int.reduceEq, Int.reduceNe, Int.reduceAdd, Int.reduceSub, Int.reduceMul, Int.reduceNeg, ↓reduceIte, reduceCtorEq, Try.ntmps53, Try.results53, *]) | (refine condK_split (fun h => ?_) (fun h => ?_) <;> simp only [go_sem, Nat.reduceAdd, Nat.reduceSub, Nat.reduceMul, Nat.reduceLT, Nat.reduceLeDiff, Nat.reduceEqDiff, Nat.reduceBEq, Int.reduceToNat, Int.reduceLT, Int.reduceLE, Int.reduceEq, Int.reduceNe, Int.reduceAdd, Int.reduceSub, Int.reduceMul, Int.reduceNeg, ↓reduceIte, reduceCtorEq, Try.ntmps53, Try.results53, *]) | (refine drawK_splitN (fun h => ?_) (fun h => ?_) <;> simp only [go_sem, Nat.reduceAdd, Nat.reduceSub, Nat.reduceMul, Nat.reduceLT, Nat.reduceLeDiff, Nat.reduceEqDiff, Nat.reduceBEq, Int.reduceToNat, Int.reduceLT, Int.reduceLE, Int.reduceEq, Int.reduceNe, Int.reduceAdd, Int.reduceSub, Int.reduceMul, Int.reduceNeg, ↓reduceIte, reduceCtorEq, Try.ntmps53, Try.results53, *]) | (refine drawK_split (fun h => ?_) (fun h => ?_) <;> simp only [go_sem, Nat.reduceAdd, Nat.reduceSub, Nat.reduceMul, Nat.reduceLT, Nat.reduceLeDiff, Nat.reduceEqDiff, Nat.reduceBEq, Int.reduceToNat, Int.reduceLT, Int.reduceLE, Int.reduceEq, Int.reduceNe, Int.reduceAdd, Int.reduceSub, Int.reduceMul, Int.reduceNeg, ↓reduceIte, reduceCtorEq, Try.ntmps53, Try.results53, *]) | (refine endD_intro (by decide +kernel) ?_; simp only [go_sem, Nat.reduceAdd, Nat.reduceSub, Nat.reduceMul, Nat.reduceLT, Nat.reduceLeDiff, Nat.reduceEqDiff, Nat.reduceBEq, Int.reduceToNat, Int.reduceLT, Int.reduceLE, Int.reduceEq, Int.reduceNe, Int.reduceAdd, Int.reduceSub, Int.reduceMul, Int.reduceNeg, ↓reduceIte, reduceCtorEq, Try.ntmps53, Try.results53, *]) | (with_reducible refine And.intro ?_ ?_))
  all_goals (first | omega | (simp_all [FrzR_agg, FrzR_tup, FrzRL_cons, FrzRL_nil, FrzR_lit, FrzR_im, FrzR_own, frzOwn, FrzR_nilS, lk, hpF_eq]; done) | (simp_all [FrzR_agg, FrzR_tup, FrzRL_cons, FrzRL_nil, FrzR_lit, FrzR_im, FrzR_own, frzOwn, FrzR_nilS, lk, hpF_eq]; omega) | ((simp_all [FrzR_agg, FrzR_tup, FrzRL_cons, FrzRL_nil, FrzR_lit, FrzR_im, FrzR_own, frzOwn, FrzR_nilS, lk, hpF_eq]; repeat' split) <;> (first | omega | (simp_all [FrzR_agg, FrzR_tup, FrzRL_cons, FrzRL_nil, FrzR_lit, FrzR_im, FrzR_own, frzOwn, FrzR_nilS, lk, hpF_eq]; done) | (simp_all [FrzR_agg, FrzR_tup, FrzRL_cons, FrzRL_nil, FrzR_lit, FrzR_im, FrzR_own, frzOwn, FrzR_nilS, lk, hpF_eq]; omega))) | (repeat' split) <;> (first | omega | (simp_all [FrzR_agg, FrzR_tup, FrzRL_cons, FrzRL_nil, FrzR_lit, FrzR_im, FrzR_own, frzOwn, FrzR_nilS, lk, hpF_eq]; done) | (simp_all [FrzR_agg, FrzR_tup, FrzRL_cons, FrzRL_nil, FrzR_lit, FrzR_im, FrzR_own, frzOwn, FrzR_nilS, lk, hpF_eq]; omega)))
theorem goV_calls (r : Rcv) : PureCalls Try.prog 54 [r.pv] (goP r).pv := by
  refine PureCalls.of tabOK mixed Try.func54 rfl rfl (by decide +kernel) (by simp [Try.ntmps54]) ?_
  obtain ⟨st, len, got, num, left, block, gap, clock, room, err⟩ := r
  simp only [go_sem, Nat.reduceAdd, Nat.reduceSub, Nat.reduceMul, Nat.reduceLT, Nat.reduceLeDiff, Nat.reduceEqDiff, Nat.reduceBEq, Int.reduceToNat, Int.reduceLT, Int.reduceLE, Int.reduceEq, Int.reduceNe, Int.reduceAdd, Int.reduceSub, Int.reduceMul, Int.reduceNeg, ↓reduceIte, reduceCtorEq, Try.ntmps54, Try.results54, goP, Rcv.pv, Pdu.pv]
def tickV (r : Rcv) : Rcv := if r.st = 2 then (if 100 < IntKind.wrap .i64 (r.clock + 1) then failR { r with clock := IntKind.wrap .i64 (r.clock + 1) } 181 else { r with clock := IntKind.wrap .i64 (r.clock + 1) }) else r
theorem tickV_calls (r : Rcv) : PureCalls Try.prog 25 [r.pv] (tickV r).pv := by
  refine PureCalls.of tabOK mixed Try.func25 rfl rfl (by decide +kernel) (by simp [Try.ntmps25]) ?_
  obtain ⟨st, len, got, num, left, block, gap, clock, room, err⟩ := r
  simp only [go_sem, Nat.reduceAdd, Nat.reduceSub, Nat.reduceMul, Nat.reduceLT, Nat.reduceLeDiff, Nat.reduceEqDiff, Nat.reduceBEq, Int.reduceToNat, Int.reduceLT, Int.reduceLE, Int.reduceEq, Int.reduceNe, Int.reduceAdd, Int.reduceSub, Int.reduceMul, Int.reduceNeg, ↓reduceIte, reduceCtorEq, Try.ntmps25, Try.results25, Rcv.pv, tickV]
  by_cases h : st = 2
  · subst h
    simp only [go_sem, Nat.reduceAdd, Nat.reduceSub, Nat.reduceMul, Nat.reduceLT, Nat.reduceLeDiff, Nat.reduceEqDiff, Nat.reduceBEq, Int.reduceToNat, Int.reduceLT, Int.reduceLE, Int.reduceEq, Int.reduceNe, Int.reduceAdd, Int.reduceSub, Int.reduceMul, Int.reduceNeg, ↓reduceIte, reduceCtorEq]
    obtain ⟨c, hc⟩ : ∃ c, IntKind.wrap .i64 (clock + 1) = c := ⟨_, rfl⟩
    by_cases hk : 100 < c
    · have f2 : decide (c > 100) = true := by simp; omega
      simp only [go_sem, Nat.reduceAdd, Nat.reduceSub, Nat.reduceMul, Nat.reduceLT, Nat.reduceLeDiff, Nat.reduceEqDiff, Nat.reduceBEq, Int.reduceToNat, Int.reduceLT, Int.reduceLE, Int.reduceEq, Int.reduceNe, Int.reduceAdd, Int.reduceSub, Int.reduceMul, Int.reduceNeg, ↓reduceIte, reduceCtorEq, hc, f2]
      refine CallA.same (failV_calls ⟨2, len, got, num, left, block, gap, c, room, err⟩ 181) (by simp only [go_sem, Nat.reduceAdd, Nat.reduceSub, Nat.reduceMul, Nat.reduceLT, Nat.reduceLeDiff, Nat.reduceEqDiff, Nat.reduceBEq, Int.reduceToNat, Int.reduceLT, Int.reduceLE, Int.reduceEq, Int.reduceNe, Int.reduceAdd, Int.reduceSub, Int.reduceMul, Int.reduceNeg, ↓reduceIte, reduceCtorEq, Rcv.pv]) ?_
      simp only [go_sem, Nat.reduceAdd, Nat.reduceSub, Nat.reduceMul, Nat.reduceLT, Nat.reduceLeDiff, Nat.reduceEqDiff, Nat.reduceBEq, Int.reduceToNat, Int.reduceLT, Int.reduceLE, Int.reduceEq, Int.reduceNe, Int.reduceAdd, Int.reduceSub, Int.reduceMul, Int.reduceNeg, ↓reduceIte, reduceCtorEq, Try.ntmps25, Try.results25, hk, failR, Rcv.pv]
    · have f2 : decide (c > 100) = false := by simp; omega
      simp only [go_sem, Nat.reduceAdd, Nat.reduceSub, Nat.reduceMul, Nat.reduceLT, Nat.reduceLeDiff, Nat.reduceEqDiff, Nat.reduceBEq, Int.reduceToNat, Int.reduceLT, Int.reduceLE, Int.reduceEq, Int.reduceNe, Int.reduceAdd, Int.reduceSub, Int.reduceMul, Int.reduceNeg, ↓reduceIte, reduceCtorEq, hc, f2, Try.ntmps25, Try.results25, hk]
  · have f : decide (st = 2) = false := by simp [h]
    simp only [go_sem, Nat.reduceAdd, Nat.reduceSub, Nat.reduceMul, Nat.reduceLT, Nat.reduceLeDiff, Nat.reduceEqDiff, Nat.reduceBEq, Int.reduceToNat, Int.reduceLT, Int.reduceLE, Int.reduceEq, Int.reduceNe, Int.reduceAdd, Int.reduceSub, Int.reduceMul, Int.reduceNeg, ↓reduceIte, reduceCtorEq, f, Try.ntmps25, Try.results25, h]
theorem textV_calls (r : Rcv) : PureCalls Try.prog 31 [r.pv] (.tup [bytesPV (if r.st = 3 then r.got else []), PB (decide (r.st = 3))]) := by
  refine PureCalls.of tabOK mixed Try.func31 rfl rfl (by decide +kernel) (by simp [Try.ntmps31]) ?_
  obtain ⟨st, len, got, num, left, block, gap, clock, room, err⟩ := r
  simp only [go_sem, Nat.reduceAdd, Nat.reduceSub, Nat.reduceMul, Nat.reduceLT, Nat.reduceLeDiff, Nat.reduceEqDiff, Nat.reduceBEq, Int.reduceToNat, Int.reduceLT, Int.reduceLE, Int.reduceEq, Int.reduceNe, Int.reduceAdd, Int.reduceSub, Int.reduceMul, Int.reduceNeg, ↓reduceIte, reduceCtorEq, Try.ntmps31, Try.results31, Rcv.pv]
  by_cases h : st = 3
  · have f : decide (st = 3) = true := by simp [h]
    simp only [go_sem, Nat.reduceAdd, Nat.reduceSub, Nat.reduceMul, Nat.reduceLT, Nat.reduceLeDiff, Nat.reduceEqDiff, Nat.reduceBEq, Int.reduceToNat, Int.reduceLT, Int.reduceLE, Int.reduceEq, Int.reduceNe, Int.reduceAdd, Int.reduceSub, Int.reduceMul, Int.reduceNeg, ↓reduceIte, reduceCtorEq, f, Try.ntmps31, Try.results31, h]
  · have f : decide (st = 3) = false := by simp [h]
    simp only [go_sem, Nat.reduceAdd, Nat.reduceSub, Nat.reduceMul, Nat.reduceLT, Nat.reduceLeDiff, Nat.reduceEqDiff, Nat.reduceBEq, Int.reduceToNat, Int.reduceLT, Int.reduceLE, Int.reduceEq, Int.reduceNe, Int.reduceAdd, Int.reduceSub, Int.reduceMul, Int.reduceNeg, ↓reduceIte, reduceCtorEq, f, Try.ntmps31, Try.results31, h]
theorem sameB_calls (a b : List UInt8) : PureCalls Try.prog 33 [bytesPV a, bytesPV b] (PB (decide (a = b))) := by
  refine PureCalls.of tabOK mixed Try.func33 rfl rfl (by decide +kernel) (by simp [Try.ntmps33]) ?_
  simp only [go_sem, Nat.reduceAdd, Nat.reduceSub, Nat.reduceMul, Nat.reduceLT, Nat.reduceLeDiff, Nat.reduceEqDiff, Nat.reduceBEq, Int.reduceToNat, Int.reduceLT, Int.reduceLE, Int.reduceEq, Int.reduceNe, Int.reduceAdd, Int.reduceSub, Int.reduceMul, Int.reduceNeg, ↓reduceIte, reduceCtorEq, Try.ntmps33, Try.results33]
theorem sameV_calls (a b : Rcv) : PureCalls Try.prog 32 [a.pv, b.pv] (PB (decide (a = b))) := by
  refine PureCalls.of tabOK mixed Try.func32 rfl rfl (by decide +kernel) (by simp [Try.ntmps32]) ?_
  obtain ⟨st, len, got, num, left, block, gap, clock, room, err⟩ := a
  obtain ⟨st', len', got', num', left', block', gap', clock', room', err'⟩ := b
  have cS := sameB_calls got got'
  simp only [go_sem, Nat.reduceAdd, Nat.reduceSub, Nat.reduceMul, Nat.reduceLT, Nat.reduceLeDiff, Nat.reduceEqDiff, Nat.reduceBEq, Int.reduceToNat, Int.reduceLT, Int.reduceLE, Int.reduceEq, Int.reduceNe, Int.reduceAdd, Int.reduceSub, Int.reduceMul, Int.reduceNeg, ↓reduceIte, reduceCtorEq, Try.ntmps32, Try.results32, Rcv.pv]
  repeat' (first | (refine wantK_splitN (fun h => ?_) (fun h => ?_) <;> simp only [go_sem, Nat.reduceAdd, Nat.reduceSub, Nat.reduceMul, Nat.reduceLT, Nat.reduceLeDiff, Nat.reduceEqDiff, Nat.reduceBEq, Int.reduceToNat, Int.reduceLT, Int.reduceLE, Int.reduceEq, Int.reduceNe, Int.reduceAdd, Int.reduceSub, Int.reduceMul, Int.reduceNeg, ↓reduceIte, reduceCtorEq, Try.ntmps32, Try.results32, *]) | (refine wantK_split (fun h => ?_) (fun h => ?_) <;> simp only [go_sem, Nat.reduceAdd, Nat.reduceSub, Nat.reduceMul, Nat.reduceLT, Nat.reduceLeDiff, Nat.reduceEqDiff, Nat.reduceBEq, Int.reduceToNat, Int.reduceLT, Int.reduceLE, Int.reduceEq, Int.reduceNe, Int.reduceAdd, Int.reduceSub, Int.reduceMul, Int.reduceNeg, ↓reduceIte, reduceCtorEq, Try.ntmps32, Try.results32, *]) | (refine condK_splitN (fun h => ?_) (fun h => ?_) <;> simp only [go_sem, Nat.reduceAdd, Nat.reduceSub, Nat.reduceMul, Nat.reduceLT, Nat.reduceLeDiff, Nat.reduceEqDiff, Nat.reduceBEq, Int.reduceToNat, Int.reduceLT, Int.reduceLE, Int.reduceEq, Int.reduceNe, Int.reduceAdd, Int.reduceSub, Int.reduceMul, Int.reduceNeg, ↓reduceIte, reduceCtorEq, Try.ntmps32, Try.results32, *]) | (refine condK_split (fun h => ?_) (fun h => ?_) <;> simp only [go_sem, Nat.reduceAdd, Nat.reduceSub, Nat.reduceMul, Nat.reduceLT, Nat.reduceLeDiff, Nat.reduceEqDiff, Nat.reduceBEq, Int.reduceToNat, Int.reduceLT, Int.reduceLE, Int.reduceEq, Int.reduceNe, Int.reduceAdd, Int.reduceSub, Int.reduceMul, Int.reduceNeg, ↓reduceIte, reduceCtorEq, Try.ntmps32, Try.results32, *]) | (refine drawK_splitN (fun h => ?_) (fun h => ?_) <;> simp only [go_sem, Nat.reduceAdd, Nat.reduceSub, Nat.reduceMul, Nat.reduceLT, Nat.reduceLeDiff, Nat.reduceEqDiff, Nat.reduceBEq, Int.reduceToNat, Int.reduceLT, Int.reduceLE, Int.reduceEq, Int.reduceNe, Int.reduceAdd, Int.reduceSub, Int.reduceMul, Int.reduceNeg, ↓reduceIte, reduceCtorEq, Try.ntmps32, Try.results32, *]) | (refine drawK_split (fun h => ?_) (fun h => ?_) <;> simp only [go_sem, Nat.reduceAdd, Nat.reduceSub, Nat.reduceMul, Nat.reduceLT, Nat.reduceLeDiff, Nat.reduceEqDiff, Nat.reduceBEq, Int.reduceToNat, Int.reduceLT, Int.reduceLE, Int.reduceEq, Int.reduceNe, Int.reduceAdd, Int.reduceSub, Int.reduceMul, Int.reduceNeg, ↓reduceIte, reduceCtorEq, Try.ntmps32, Try.results32, *]) | (refine endD_intro (by decide +kernel) ?_; simp only [go_sem, Nat.reduceAdd, Nat.reduceSub, Nat.reduceMul, Nat.reduceLT, Nat.reduceLeDiff, Nat.reduceEqDiff, Nat.reduceBEq, Int.reduceToNat, Int.reduceLT, Int.reduceLE, Int.reduceEq, Int.reduceNe, Int.reduceAdd, Int.reduceSub, Int.reduceMul, Int.reduceNeg, ↓reduceIte, reduceCtorEq, Try.ntmps32, Try.results32, *]) | (with_reducible refine And.intro ?_ ?_))
  any_goals (refine CallA.same cS (by simp only [go_sem, Nat.reduceAdd, Nat.reduceSub, Nat.reduceMul, Nat.reduceLT, Nat.reduceLeDiff, Nat.reduceEqDiff, Nat.reduceBEq, Int.reduceToNat, Int.reduceLT, Int.reduceLE, Int.reduceEq, Int.reduceNe, Int.reduceAdd, Int.reduceSub, Int.reduceMul, Int.reduceNeg, ↓reduceIte, reduceCtorEq]) ?_; simp only [go_sem, Nat.reduceAdd, Nat.reduceSub, Nat.reduceMul, Nat.reduceLT, Nat.reduceLeDiff, Nat.reduceEqDiff, Nat.reduceBEq, Int.reduceToNat, Int.reduceLT, Int.reduceLE, Int.reduceEq, Int.reduceNe, Int.reduceAdd, Int.reduceSub, Int.reduceMul, Int.reduceNeg, ↓reduceIte, reduceCtorEq])
  repeat' (first | (refine wantK_splitN (fun h => ?_) (fun h => ?_) <;> simp only [go_sem, Nat.reduceAdd, Nat.reduceSub, Nat.reduceMul, Nat.reduceLT, Nat.reduceLeDiff, Nat.reduceEqDiff, Nat.reduceBEq, Int.reduceToNat, Int.reduceLT, Int.reduceLE, Int.reduceEq, Int.reduceNe, Int.reduceAdd, Int.reduceSub, Int.reduceMul, Int.reduceNeg, ↓reduceIte, reduceCtorEq, Try.ntmps32, Try.results32, *]) | (refine wantK_split (fun h => ?_) (fun h => ?_) <;> simp only [go_sem, Nat.reduceAdd, Nat.reduceSub, Nat.reduceMul, Nat.reduceLT, Nat.reduceLeDiff, Nat.reduceEqDiff, Nat.reduceBEq, Int.reduceToNat, Int.reduceLT, Int.reduceLE, Int.reduceEq, Int.reduceNe, Int.reduceAdd, Int.reduceSub, Int.reduceMul, Int.reduceNeg, ↓reduceIte, reduceCtorEq, Try.ntmps32, Try.results32, *]) | (refine condK_splitN (fun h => ?_) (fun h => ?_) <;> simp only [go_sem, Nat.reduceAdd, Nat.reduceSub, Nat.reduceMul, Nat.reduceLT, Nat.reduceLeDiff, Nat.reduceEqDiff, Nat.reduceBEq, Int.reduceToNat, Int.reduceLT, Int.reduceLE, Int.reduceEq, Int.reduceNe, Int.reduceAdd, Int.reduceSub, Int.reduceMul, Int.reduceNeg, ↓reduceIte, reduceCtorEq, Try.ntmps32, Try.results32, *]) | (refine condK_split (fun h => ?_) (fun h => ?_) <;> simp only [go_sem, Nat.reduceAdd, Nat.reduceSub, Nat.reduceMul, Nat.reduceLT, Nat.reduceLeDiff, Nat.reduceEqDiff, Nat.reduceBEq, Int.reduceToNat, Int.reduceLT, Int.reduceLE, Int.reduceEq, Int.reduceNe, Int.reduceAdd, Int.reduceSub, Int.reduceMul, Int.reduceNeg, ↓reduceIte, reduceCtorEq, Try.ntmps32, Try.results32, *]) | (refine drawK_splitN (fun h => ?_) (fun h => ?_) <;> simp only [go_sem, Nat.reduceAdd, Nat.reduceSub, Nat.reduceMul, Nat.reduceLT, Nat.reduceLeDiff, Nat.reduceEqDiff, Nat.reduceBEq, Int.reduceToNat, Int.reduceLT, Int.reduceLE, Int.reduceEq, Int.reduceNe, Int.reduceAdd, Int.reduceSub, Int.reduceMul, Int.reduceNeg, ↓reduceIte, reduceCtorEq, Try.ntmps32, Try.results32, *]) | (refine drawK_split (fun h => ?_) (fun h => ?_) <;> simp only [go_sem, Nat.reduceAdd, Nat.reduceSub, Nat.reduceMul, Nat.reduceLT, Nat.reduceLeDiff, Nat.reduceEqDiff, Nat.reduceBEq, Int.reduceToNat, Int.reduceLT, Int.reduceLE, Int.reduceEq, Int.reduceNe, Int.reduceAdd, Int.reduceSub, Int.reduceMul, Int.reduceNeg, ↓reduceIte, reduceCtorEq, Try.ntmps32, Try.results32, *]) | (refine endD_intro (by decide +kernel) ?_; simp only [go_sem, Nat.reduceAdd, Nat.reduceSub, Nat.reduceMul, Nat.reduceLT, Nat.reduceLeDiff, Nat.reduceEqDiff, Nat.reduceBEq, Int.reduceToNat, Int.reduceLT, Int.reduceLE, Int.reduceEq, Int.reduceNe, Int.reduceAdd, Int.reduceSub, Int.reduceMul, Int.reduceNeg, ↓reduceIte, reduceCtorEq, Try.ntmps32, Try.results32, *]) | (with_reducible refine And.intro ?_ ?_))
  all_goals simp_all
theorem nextR_callsV (r : Rcv) (p : Pdu) (hr : r.fine) (hd : p.d.length ≤ 7) : PureCalls Try.prog 55 [r.pv, p.pv] (.tup [(nextV r p).1.pv, (nextV r p).2.1.pv, PB (nextV r p).2.2]) := by
  refine PureCalls.of tabOK mixed Try.func55 rfl rfl (by decide +kernel) (by simp [Try.ntmps55]) ?_
  obtain ⟨st, len, got, num, left, block, gap, clock, room, err⟩ := r
  obtain ⟨k, l, n, sy, b, g, d⟩ := p
  generalize hres : nextV ⟨st, len, got, num, left, block, gap, clock, room, err⟩ ⟨k, l, n, sy, b, g, d⟩ = res
  generalize hR1 : res.1.pv = R1
  generalize hR2 : res.2.1.pv = R2
  generalize hR3 : res.2.2 = R3
  have fin : ∀ x, res = x → R1 = x.1.pv ∧ R2 = x.2.1.pv ∧ R3 = x.2.2 := by
    rintro x rfl
    exact ⟨hR1.symm, hR2.symm, hR3.symm⟩
  obtain ⟨hr1, hr2, hr3, hr4, hr5, hr6, hr7, hr8, hr9⟩ := hr
  simp only at hr1 hr2 hr3 hr4 hr5 hr6 hr7 hr8 hr9 hd
  have hwm : IntKind.wrap .i64 (len - (got.length : Int)) = len - got.length := wrapI64 (by omega)
  have hw1 : IntKind.wrap .i64 (num + 1) = num + 1 := wrapI64 (by omega)
  have hwl : IntKind.wrap .i64 (left - 1) = left - 1 := wrapI64 (by omega)
  simp only [nextV, missR, moreR, goP] at hres
  obtain ⟨mi, hmi⟩ : ∃ mi, len - (got.length : Int) = mi := ⟨_, rfl⟩
  simp only [hmi] at hres
  replace hwm := hwm.trans hmi
  simp only [go_sem, Nat.reduceAdd, Nat.reduceSub, Nat.reduceMul, Nat.reduceLT, Nat.reduceLeDiff, Nat.reduceEqDiff, Nat.reduceBEq, Int.reduceToNat, Int.reduceLT, Int.reduceLE, Int.reduceEq, Int.reduceNe, Int.reduceAdd, Int.reduceSub, Int.reduceMul, Int.reduceNeg, ↓reduceIte, reduceCtorEq, Try.ntmps55, Try.results55, Rcv.pv, Pdu.pv]
  by_cases hn : n = num
  rotate_left 1
  · have fn : decide (n = num) = false := by simp [hn]
    rw [if_pos (.inl hn)] at hres
    simp only [go_sem, Nat.reduceAdd, Nat.reduceSub, Nat.reduceMul, Nat.reduceLT, Nat.reduceLeDiff, Nat.reduceEqDiff, Nat.reduceBEq, Int.reduceToNat, Int.reduceLT, Int.reduceLE, Int.reduceEq, Int.reduceNe, Int.reduceAdd, Int.reduceSub, Int.reduceMul, Int.reduceNeg, ↓reduceIte, reduceCtorEq, fn]
    refine CallA.same (failV_calls ⟨st, len, got, num, left, block, gap, clock, room, err⟩ 183) (by simp only [go_sem, Nat.reduceAdd, Nat.reduceSub, Nat.reduceMul, Nat.reduceLT, Nat.reduceLeDiff, Nat.reduceEqDiff, Nat.reduceBEq, Int.reduceToNat, Int.reduceLT, Int.reduceLE, Int.reduceEq, Int.reduceNe, Int.reduceAdd, Int.reduceSub, Int.reduceMul, Int.reduceNeg, ↓reduceIte, reduceCtorEq, Rcv.pv]) ?_
    obtain ⟨q1, q2, q3⟩ := fin _ hres.symm
    rw [q1, q2, q3]
    simp only [go_sem, Nat.reduceAdd, Nat.reduceSub, Nat.reduceMul, Nat.reduceLT, Nat.reduceLeDiff, Nat.reduceEqDiff, Nat.reduceBEq, Int.reduceToNat, Int.reduceLT, Int.reduceLE, Int.reduceEq, Int.reduceNe, Int.reduceAdd, Int.reduceSub, Int.reduceMul, Int.reduceNeg, ↓reduceIte, reduceCtorEq, failR, Rcv.pv, Pdu.pv, Pdu.none, Try.ntmps55, Try.results55]
  have fn : decide (n = num) = true := by simp [hn]
  by_cases hl : (d.length : Int) = (if mi < 7 then mi else 7)
  rotate_left 1
  · have fl : decide ((d.length : Int) = (if mi < 7 then mi else 7)) = false := by simpa using hl
    rw [if_pos (.inr hl)] at hres
    simp only [go_sem, Nat.reduceAdd, Nat.reduceSub, Nat.reduceMul, Nat.reduceLT, Nat.reduceLeDiff, Nat.reduceEqDiff, Nat.reduceBEq, Int.reduceToNat, Int.reduceLT, Int.reduceLE, Int.reduceEq, Int.reduceNe, Int.reduceAdd, Int.reduceSub, Int.reduceMul, Int.reduceNeg, ↓reduceIte, reduceCtorEq, fn, hwm, fl]
    refine CallA.same (failV_calls ⟨st, len, got, num, left, block, gap, clock, room, err⟩ 183) (by simp only [go_sem, Nat.reduceAdd, Nat.reduceSub, Nat.reduceMul, Nat.reduceLT, Nat.reduceLeDiff, Nat.reduceEqDiff, Nat.reduceBEq, Int.reduceToNat, Int.reduceLT, Int.reduceLE, Int.reduceEq, Int.reduceNe, Int.reduceAdd, Int.reduceSub, Int.reduceMul, Int.reduceNeg, ↓reduceIte, reduceCtorEq, Rcv.pv]) ?_
    obtain ⟨q1, q2, q3⟩ := fin _ hres.symm
    rw [q1, q2, q3]
    simp only [go_sem, Nat.reduceAdd, Nat.reduceSub, Nat.reduceMul, Nat.reduceLT, Nat.reduceLeDiff, Nat.reduceEqDiff, Nat.reduceBEq, Int.reduceToNat, Int.reduceLT, Int.reduceLE, Int.reduceEq, Int.reduceNe, Int.reduceAdd, Int.reduceSub, Int.reduceMul, Int.reduceNeg, ↓reduceIte, reduceCtorEq, failR, Rcv.pv, Pdu.pv, Pdu.none, Try.ntmps55, Try.results55]
  have fl : decide ((d.length : Int) = (if mi < 7 then mi else 7)) = true := by simpa using hl
  rw [if_neg (by simp [hn]; exact hl)] at hres
  simp only [go_sem, Nat.reduceAdd, Nat.reduceSub, Nat.reduceMul, Nat.reduceLT, Nat.reduceLeDiff, Nat.reduceEqDiff, Nat.reduceBEq, Int.reduceToNat, Int.reduceLT, Int.reduceLE, Int.reduceEq, Int.reduceNe, Int.reduceAdd, Int.reduceSub, Int.reduceMul, Int.reduceNeg, ↓reduceIte, reduceCtorEq, fn, hwm, fl]
  refine ⟨⟨by omega, by omega⟩, ⟨by first | omega | (simp; omega), by first | omega | (simp; omega)⟩, endD_intro (by decide +kernel) ?_⟩
  simp only [go_sem, Nat.reduceAdd, Nat.reduceSub, Nat.reduceMul, Nat.reduceLT, Nat.reduceLeDiff, Nat.reduceEqDiff, Nat.reduceBEq, Int.reduceToNat, Int.reduceLT, Int.reduceLE, Int.reduceEq, Int.reduceNe, Int.reduceAdd, Int.reduceSub, Int.reduceMul, Int.reduceNeg, ↓reduceIte, reduceCtorEq, hw1]
  by_cases hm : (d.length : Int) = mi
  · have fm : decide (((got ++ d).length : Int) = len) = true := by simp; omega
    rw [if_pos hm] at hres
    simp only [go_sem, Nat.reduceAdd, Nat.reduceSub, Nat.reduceMul, Nat.reduceLT, Nat.reduceLeDiff, Nat.reduceEqDiff, Nat.reduceBEq, Int.reduceToNat, Int.reduceLT, Int.reduceLE, Int.reduceEq, Int.reduceNe, Int.reduceAdd, Int.reduceSub, Int.reduceMul, Int.reduceNeg, ↓reduceIte, reduceCtorEq, fm, Try.ntmps55, Try.results55]
    obtain ⟨q1, q2, q3⟩ := fin _ hres.symm
    rw [q1, q2, q3]
    simp only [go_sem, Nat.reduceAdd, Nat.reduceSub, Nat.reduceMul, Nat.reduceLT, Nat.reduceLeDiff, Nat.reduceEqDiff, Nat.reduceBEq, Int.reduceToNat, Int.reduceLT, Int.reduceLE, Int.reduceEq, Int.reduceNe, Int.reduceAdd, Int.reduceSub, Int.reduceMul, Int.reduceNeg, ↓reduceIte, reduceCtorEq, Rcv.pv, Pdu.pv, Pdu.none, Try.ntmps55, Try.results55]
  have fm : decide (((got ++ d).length : Int) = len) = false := by simp; omega
  rw [if_neg hm] at hres
  simp only [go_sem, Nat.reduceAdd, Nat.reduceSub, Nat.reduceMul, Nat.reduceLT, Nat.reduceLeDiff, Nat.reduceEqDiff, Nat.reduceBEq, Int.reduceToNat, Int.reduceLT, Int.reduceLE, Int.reduceEq, Int.reduceNe, Int.reduceAdd, Int.reduceSub, Int.reduceMul, Int.reduceNeg, ↓reduceIte, reduceCtorEq, fm]
  by_cases hl0 : left < 0
  · have f0 : decide (left > 0) = false := by simp; omega
    have f1 : decide (left = 0) = false := by simp; omega
    rw [if_pos hl0] at hres
    simp only [go_sem, Nat.reduceAdd, Nat.reduceSub, Nat.reduceMul, Nat.reduceLT, Nat.reduceLeDiff, Nat.reduceEqDiff, Nat.reduceBEq, Int.reduceToNat, Int.reduceLT, Int.reduceLE, Int.reduceEq, Int.reduceNe, Int.reduceAdd, Int.reduceSub, Int.reduceMul, Int.reduceNeg, ↓reduceIte, reduceCtorEq, f0, f1, Try.ntmps55, Try.results55]
    obtain ⟨q1, q2, q3⟩ := fin _ hres.symm
    rw [q1, q2, q3]
    simp only [go_sem, Nat.reduceAdd, Nat.reduceSub, Nat.reduceMul, Nat.reduceLT, Nat.reduceLeDiff, Nat.reduceEqDiff, Nat.reduceBEq, Int.reduceToNat, Int.reduceLT, Int.reduceLE, Int.reduceEq, Int.reduceNe, Int.reduceAdd, Int.reduceSub, Int.reduceMul, Int.reduceNeg, ↓reduceIte, reduceCtorEq, Rcv.pv, Pdu.pv, Pdu.none, Try.ntmps55, Try.results55]
  rw [if_neg hl0] at hres
  by_cases hl1 : 1 < left
  · have f0 : decide (left > 0) = true := by simp; omega
    have f1 : decide (left - 1 = 0) = false := by simp; omega
    rw [if_pos hl1] at hres
    simp only [go_sem, Nat.reduceAdd, Nat.reduceSub, Nat.reduceMul, Nat.reduceLT, Nat.reduceLeDiff, Nat.reduceEqDiff, Nat.reduceBEq, Int.reduceToNat, Int.reduceLT, Int.reduceLE, Int.reduceEq, Int.reduceNe, Int.reduceAdd, Int.reduceSub, Int.reduceMul, Int.reduceNeg, ↓reduceIte, reduceCtorEq, f0, hwl, f1, Try.ntmps55, Try.results55]
    obtain ⟨q1, q2, q3⟩ := fin _ hres.symm
    rw [q1, q2, q3]
    simp only [go_sem, Nat.reduceAdd, Nat.reduceSub, Nat.reduceMul, Nat.reduceLT, Nat.reduceLeDiff, Nat.reduceEqDiff, Nat.reduceBEq, Int.reduceToNat, Int.reduceLT, Int.reduceLE, Int.reduceEq, Int.reduceNe, Int.reduceAdd, Int.reduceSub, Int.reduceMul, Int.reduceNeg, ↓reduceIte, reduceCtorEq, Rcv.pv, Pdu.pv, Pdu.none, Try.ntmps55, Try.results55]
  rw [if_neg hl1] at hres
  have cG := goV_calls ⟨st, len, got ++ d, (num + 1).tmod 16, block, block, gap, 0, room, err⟩
  by_cases hl2 : left = 0
  · have f0 : decide (left > 0) = false := by simp; omega
    have f1 : decide (left = 0) = true := by simp; omega
    simp only [go_sem, Nat.reduceAdd, Nat.reduceSub, Nat.reduceMul, Nat.reduceLT, Nat.reduceLeDiff, Nat.reduceEqDiff, Nat.reduceBEq, Int.reduceToNat, Int.reduceLT, Int.reduceLE, Int.reduceEq, Int.reduceNe, Int.reduceAdd, Int.reduceSub, Int.reduceMul, Int.reduceNeg, ↓reduceIte, reduceCtorEq, f0, f1]
    refine callD_pure cG (by simp only [go_sem, Nat.reduceAdd, Nat.reduceSub, Nat.reduceMul, Nat.reduceLT, Nat.reduceLeDiff, Nat.reduceEqDiff, Nat.reduceBEq, Int.reduceToNat, Int.reduceLT, Int.reduceLE, Int.reduceEq, Int.reduceNe, Int.reduceAdd, Int.reduceSub, Int.reduceMul, Int.reduceNeg, ↓reduceIte, reduceCtorEq, Rcv.pv]) ?_
    simp only [go_sem, Nat.reduceAdd, Nat.reduceSub, Nat.reduceMul, Nat.reduceLT, Nat.reduceLeDiff, Nat.reduceEqDiff, Nat.reduceBEq, Int.reduceToNat, Int.reduceLT, Int.reduceLE, Int.reduceEq, Int.reduceNe, Int.reduceAdd, Int.reduceSub, Int.reduceMul, Int.reduceNeg, ↓reduceIte, reduceCtorEq, goP, Pdu.pv]
    refine endD_intro (by decide +kernel) ?_
    obtain ⟨q1, q2, q3⟩ := fin _ hres.symm
    rw [q1, q2, q3]
    simp only [go_sem, Nat.reduceAdd, Nat.reduceSub, Nat.reduceMul, Nat.reduceLT, Nat.reduceLeDiff, Nat.reduceEqDiff, Nat.reduceBEq, Int.reduceToNat, Int.reduceLT, Int.reduceLE, Int.reduceEq, Int.reduceNe, Int.reduceAdd, Int.reduceSub, Int.reduceMul, Int.reduceNeg, ↓reduceIte, reduceCtorEq, Rcv.pv, Pdu.pv, Pdu.none, Try.ntmps55, Try.results55]
  · have f0 : decide (left > 0) = true := by simp; omega
    have f1 : decide (left - 1 = 0) = true := by simp; omega
    simp only [go_sem, Nat.reduceAdd, Nat.reduceSub, Nat.reduceMul, Nat.reduceLT, Nat.reduceLeDiff, Nat.reduceEqDiff, Nat.reduceBEq, Int.reduceToNat, Int.reduceLT, Int.reduceLE, Int.reduceEq, Int.reduceNe, Int.reduceAdd, Int.reduceSub, Int.reduceMul, Int.reduceNeg, ↓reduceIte, reduceCtorEq, f0, hwl, f1]
    refine callD_pure cG (by simp only [go_sem, Nat.reduceAdd, Nat.reduceSub, Nat.reduceMul, Nat.reduceLT, Nat.reduceLeDiff, Nat.reduceEqDiff, Nat.reduceBEq, Int.reduceToNat, Int.reduceLT, Int.reduceLE, Int.reduceEq, Int.reduceNe, Int.reduceAdd, Int.reduceSub, Int.reduceMul, Int.reduceNeg, ↓reduceIte, reduceCtorEq, Rcv.pv]) ?_
    simp only [go_sem, Nat.reduceAdd, Nat.reduceSub, Nat.reduceMul, Nat.reduceLT, Nat.reduceLeDiff, Nat.reduceEqDiff, Nat.reduceBEq, Int.reduceToNat, Int.reduceLT, Int.reduceLE, Int.reduceEq, Int.reduceNe, Int.reduceAdd, Int.reduceSub, Int.reduceMul, Int.reduceNeg, ↓reduceIte, reduceCtorEq, goP, Pdu.pv]
    refine endD_intro (by decide +kernel) ?_
    obtain ⟨q1, q2, q3⟩ := fin _ hres.symm
    rw [q1, q2, q3]
    simp only [go_sem, Nat.reduceAdd, Nat.reduceSub, Nat.reduceMul, Nat.reduceLT, Nat.reduceLeDiff, Nat.reduceEqDiff, Nat.reduceBEq, Int.reduceToNat, Int.reduceLT, Int.reduceLE, Int.reduceEq, Int.reduceNe, Int.reduceAdd, Int.reduceSub, Int.reduceMul, Int.reduceNeg, ↓reduceIte, reduceCtorEq, Rcv.pv, Pdu.pv, Pdu.none, Try.ntmps55, Try.results55]
theorem takeV_calls (r : Rcv) (p : Pdu) (hr : r.fine) (hp : p.right = true) : PureCalls Try.prog 28 [r.pv, p.pv] (.tup [(recvV r p).1.pv, (recvV r p).2.1.pv, PB (recvV r p).2.2]) := by
  refine PureCalls.of tabOK mixed Try.func28 rfl rfl (by decide +kernel) (by simp [Try.ntmps28]) ?_
  have hd := right_d hp
  have cN := nextR_callsV r p hr hd
  obtain ⟨st, len, got, num, left, block, gap, clock, room, err⟩ := r
  obtain ⟨k, l, n, sy, b, g, d⟩ := p
  simp only at hd
  generalize hres : recvV ⟨st, len, got, num, left, block, gap, clock, room, err⟩ ⟨k, l, n, sy, b, g, d⟩ = res
  generalize hR1 : res.1.pv = R1
  generalize hR2 : res.2.1.pv = R2
  generalize hR3 : res.2.2 = R3
  have fin : ∀ x, res = x → R1 = x.1.pv ∧ R2 = x.2.1.pv ∧ R3 = x.2.2 := by
    rintro x rfl
    exact ⟨hR1.symm, hR2.symm, hR3.symm⟩
  simp only [go_sem, Nat.reduceAdd, Nat.reduceSub, Nat.reduceMul, Nat.reduceLT, Nat.reduceLeDiff, Nat.reduceEqDiff, Nat.reduceBEq, Int.reduceToNat, Int.reduceLT, Int.reduceLE, Int.reduceEq, Int.reduceNe, Int.reduceAdd, Int.reduceSub, Int.reduceMul, Int.reduceNeg, ↓reduceIte, reduceCtorEq, Try.ntmps28, Try.results28, Rcv.pv, Pdu.pv]
  refine CallA.same (newV_calls _ _ _) (by simp only [go_sem, Nat.reduceAdd, Nat.reduceSub, Nat.reduceMul, Nat.reduceLT, Nat.reduceLeDiff, Nat.reduceEqDiff, Nat.reduceBEq, Int.reduceToNat, Int.reduceLT, Int.reduceLE, Int.reduceEq, Int.reduceNe, Int.reduceAdd, Int.reduceSub, Int.reduceMul, Int.reduceNeg, ↓reduceIte, reduceCtorEq]) ?_
  simp only [go_sem, Nat.reduceAdd, Nat.reduceSub, Nat.reduceMul, Nat.reduceLT, Nat.reduceLeDiff, Nat.reduceEqDiff, Nat.reduceBEq, Int.reduceToNat, Int.reduceLT, Int.reduceLE, Int.reduceEq, Int.reduceNe, Int.reduceAdd, Int.reduceSub, Int.reduceMul, Int.reduceNeg, ↓reduceIte, reduceCtorEq, freshR, Rcv.pv]
  by_cases h1 : k = 1
  · subst h1
    simp only [go_sem, Nat.reduceAdd, Nat.reduceSub, Nat.reduceMul, Nat.reduceLT, Nat.reduceLeDiff, Nat.reduceEqDiff, Nat.reduceBEq, Int.reduceToNat, Int.reduceLT, Int.reduceLE, Int.reduceEq, Int.reduceNe, Int.reduceAdd, Int.reduceSub, Int.reduceMul, Int.reduceNeg, ↓reduceIte, reduceCtorEq]
    by_cases hroom : room < l
    · have f : decide (l > room) = true := by simp; omega
      simp only [go_sem, Nat.reduceAdd, Nat.reduceSub, Nat.reduceMul, Nat.reduceLT, Nat.reduceLeDiff, Nat.reduceEqDiff, Nat.reduceBEq, Int.reduceToNat, Int.reduceLT, Int.reduceLE, Int.reduceEq, Int.reduceNe, Int.reduceAdd, Int.reduceSub, Int.reduceMul, Int.reduceNeg, ↓reduceIte, reduceCtorEq, f]
      refine CallA.same (failV_calls ⟨0, 0, [], 0, 0, block, gap, 0, room, 0⟩ 182) (by simp only [go_sem, Nat.reduceAdd, Nat.reduceSub, Nat.reduceMul, Nat.reduceLT, Nat.reduceLeDiff, Nat.reduceEqDiff, Nat.reduceBEq, Int.reduceToNat, Int.reduceLT, Int.reduceLE, Int.reduceEq, Int.reduceNe, Int.reduceAdd, Int.reduceSub, Int.reduceMul, Int.reduceNeg, ↓reduceIte, reduceCtorEq, Rcv.pv]) ?_
      obtain ⟨q1, q2, q3⟩ := fin _ hres.symm
      rw [q1, q2, q3]
      simp only [go_sem, Nat.reduceAdd, Nat.reduceSub, Nat.reduceMul, Nat.reduceLT, Nat.reduceLeDiff, Nat.reduceEqDiff, Nat.reduceBEq, Int.reduceToNat, Int.reduceLT, Int.reduceLE, Int.reduceEq, Int.reduceNe, Int.reduceAdd, Int.reduceSub, Int.reduceMul, Int.reduceNeg, ↓reduceIte, reduceCtorEq, recvV, hroom, beginR, failR, freshR, Rcv.pv, Pdu.pv, Pdu.none, Try.ntmps28, Try.results28]
    · have f : decide (l > room) = false := by simp; omega
      simp only [go_sem, Nat.reduceAdd, Nat.reduceSub, Nat.reduceMul, Nat.reduceLT, Nat.reduceLeDiff, Nat.reduceEqDiff, Nat.reduceBEq, Int.reduceToNat, Int.reduceLT, Int.reduceLE, Int.reduceEq, Int.reduceNe, Int.reduceAdd, Int.reduceSub, Int.reduceMul, Int.reduceNeg, ↓reduceIte, reduceCtorEq, f]
      refine ⟨⟨by omega, by omega⟩, ?_⟩
      obtain ⟨q1, q2, q3⟩ := fin _ hres.symm
      rw [q1, q2, q3]
      simp only [go_sem, Nat.reduceAdd, Nat.reduceSub, Nat.reduceMul, Nat.reduceLT, Nat.reduceLeDiff, Nat.reduceEqDiff, Nat.reduceBEq, Int.reduceToNat, Int.reduceLT, Int.reduceLE, Int.reduceEq, Int.reduceNe, Int.reduceAdd, Int.reduceSub, Int.reduceMul, Int.reduceNeg, ↓reduceIte, reduceCtorEq, recvV, hroom, beginR, failR, freshR, Rcv.pv, Pdu.pv, Pdu.none, Try.ntmps28, Try.results28]
  by_cases h2 : k = 2
  · subst h2
    simp only [go_sem, Nat.reduceAdd, Nat.reduceSub, Nat.reduceMul, Nat.reduceLT, Nat.reduceLeDiff, Nat.reduceEqDiff, Nat.reduceBEq, Int.reduceToNat, Int.reduceLT, Int.reduceLE, Int.reduceEq, Int.reduceNe, Int.reduceAdd, Int.reduceSub, Int.reduceMul, Int.reduceNeg, ↓reduceIte, reduceCtorEq]
    by_cases hroom : room < l
    · have f : decide (l > room) = true := by simp; omega
      simp only [go_sem, Nat.reduceAdd, Nat.reduceSub, Nat.reduceMul, Nat.reduceLT, Nat.reduceLeDiff, Nat.reduceEqDiff, Nat.reduceBEq, Int.reduceToNat, Int.reduceLT, Int.reduceLE, Int.reduceEq, Int.reduceNe, Int.reduceAdd, Int.reduceSub, Int.reduceMul, Int.reduceNeg, ↓reduceIte, reduceCtorEq, f]
      refine CallA.same (failV_calls ⟨0, 0, [], 0, 0, block, gap, 0, room, 0⟩ 182) (by simp only [go_sem, Nat.reduceAdd, Nat.reduceSub, Nat.reduceMul, Nat.reduceLT, Nat.reduceLeDiff, Nat.reduceEqDiff, Nat.reduceBEq, Int.reduceToNat, Int.reduceLT, Int.reduceLE, Int.reduceEq, Int.reduceNe, Int.reduceAdd, Int.reduceSub, Int.reduceMul, Int.reduceNeg, ↓reduceIte, reduceCtorEq, Rcv.pv]) ?_
      obtain ⟨q1, q2, q3⟩ := fin _ hres.symm
      rw [q1, q2, q3]
      simp only [go_sem, Nat.reduceAdd, Nat.reduceSub, Nat.reduceMul, Nat.reduceLT, Nat.reduceLeDiff, Nat.reduceEqDiff, Nat.reduceBEq, Int.reduceToNat, Int.reduceLT, Int.reduceLE, Int.reduceEq, Int.reduceNe, Int.reduceAdd, Int.reduceSub, Int.reduceMul, Int.reduceNeg, ↓reduceIte, reduceCtorEq, recvV, hroom, beginR, failR, freshR, Rcv.pv, Pdu.pv, Pdu.none, Try.ntmps28, Try.results28]
    · have f : decide (l > room) = false := by simp; omega
      simp only [go_sem, Nat.reduceAdd, Nat.reduceSub, Nat.reduceMul, Nat.reduceLT, Nat.reduceLeDiff, Nat.reduceEqDiff, Nat.reduceBEq, Int.reduceToNat, Int.reduceLT, Int.reduceLE, Int.reduceEq, Int.reduceNe, Int.reduceAdd, Int.reduceSub, Int.reduceMul, Int.reduceNeg, ↓reduceIte, reduceCtorEq, f]
      refine ⟨⟨by omega, by omega⟩, ?_⟩
      refine CallA.pure (leftV_calls ⟨2, l, d, 1, 0, block, gap, 0, room, 0⟩) (by simp only [go_sem, Nat.reduceAdd, Nat.reduceSub, Nat.reduceMul, Nat.reduceLT, Nat.reduceLeDiff, Nat.reduceEqDiff, Nat.reduceBEq, Int.reduceToNat, Int.reduceLT, Int.reduceLE, Int.reduceEq, Int.reduceNe, Int.reduceAdd, Int.reduceSub, Int.reduceMul, Int.reduceNeg, ↓reduceIte, reduceCtorEq, Rcv.pv]) ?_
      simp only [go_sem, Nat.reduceAdd, Nat.reduceSub, Nat.reduceMul, Nat.reduceLT, Nat.reduceLeDiff, Nat.reduceEqDiff, Nat.reduceBEq, Int.reduceToNat, Int.reduceLT, Int.reduceLE, Int.reduceEq, Int.reduceNe, Int.reduceAdd, Int.reduceSub, Int.reduceMul, Int.reduceNeg, ↓reduceIte, reduceCtorEq]
      refine callD_pure (goV_calls ⟨2, l, d, 1, (if block = 0 then -1 else block), block, gap, 0, room, 0⟩) (by simp only [go_sem, Nat.reduceAdd, Nat.reduceSub, Nat.reduceMul, Nat.reduceLT, Nat.reduceLeDiff, Nat.reduceEqDiff, Nat.reduceBEq, Int.reduceToNat, Int.reduceLT, Int.reduceLE, Int.reduceEq, Int.reduceNe, Int.reduceAdd, Int.reduceSub, Int.reduceMul, Int.reduceNeg, ↓reduceIte, reduceCtorEq, Rcv.pv]) ?_
      simp only [go_sem, Nat.reduceAdd, Nat.reduceSub, Nat.reduceMul, Nat.reduceLT, Nat.reduceLeDiff, Nat.reduceEqDiff, Nat.reduceBEq, Int.reduceToNat, Int.reduceLT, Int.reduceLE, Int.reduceEq, Int.reduceNe, Int.reduceAdd, Int.reduceSub, Int.reduceMul, Int.reduceNeg, ↓reduceIte, reduceCtorEq, goP, Pdu.pv]
      refine endD_intro (by decide +kernel) ?_
      obtain ⟨q1, q2, q3⟩ := fin _ hres.symm
      rw [q1, q2, q3]
      simp only [go_sem, Nat.reduceAdd, Nat.reduceSub, Nat.reduceMul, Nat.reduceLT, Nat.reduceLeDiff, Nat.reduceEqDiff, Nat.reduceBEq, Int.reduceToNat, Int.reduceLT, Int.reduceLE, Int.reduceEq, Int.reduceNe, Int.reduceAdd, Int.reduceSub, Int.reduceMul, Int.reduceNeg, ↓reduceIte, reduceCtorEq, recvV, hroom, beginR, failR, freshR, goP, Rcv.pv, Pdu.pv, Pdu.none, Try.ntmps28, Try.results28]
  by_cases h3 : k = 3
  · subst h3
    by_cases hst : st = 2
    · subst hst
      simp only [go_sem, Nat.reduceAdd, Nat.reduceSub, Nat.reduceMul, Nat.reduceLT, Nat.reduceLeDiff, Nat.reduceEqDiff, Nat.reduceBEq, Int.reduceToNat, Int.reduceLT, Int.reduceLE, Int.reduceEq, Int.reduceNe, Int.reduceAdd, Int.reduceSub, Int.reduceMul, Int.reduceNeg, ↓reduceIte, reduceCtorEq]
      refine CallA.same cN (by simp only [go_sem, Nat.reduceAdd, Nat.reduceSub, Nat.reduceMul, Nat.reduceLT, Nat.reduceLeDiff, Nat.reduceEqDiff, Nat.reduceBEq, Int.reduceToNat, Int.reduceLT, Int.reduceLE, Int.reduceEq, Int.reduceNe, Int.reduceAdd, Int.reduceSub, Int.reduceMul, Int.reduceNeg, ↓reduceIte, reduceCtorEq, Rcv.pv, Pdu.pv]) ?_
      obtain ⟨q1, q2, q3⟩ := fin _ hres.symm
      rw [q1, q2, q3]
      simp only [recvV, show ¬ ((3 : Int) = 1) by decide, show ¬ ((3 : Int) = 2) by decide, if_false, and_self, if_true]
      generalize nextV ⟨2, len, got, num, left, block, gap, clock, room, err⟩ ⟨3, l, n, sy, b, g, d⟩ = x
      simp only [go_sem, Nat.reduceAdd, Nat.reduceSub, Nat.reduceMul, Nat.reduceLT, Nat.reduceLeDiff, Nat.reduceEqDiff, Nat.reduceBEq, Int.reduceToNat, Int.reduceLT, Int.reduceLE, Int.reduceEq, Int.reduceNe, Int.reduceAdd, Int.reduceSub, Int.reduceMul, Int.reduceNeg, ↓reduceIte, reduceCtorEq, Rcv.pv, Pdu.pv]
      refine endD_intro (by decide +kernel) ?_
      simp only [go_sem, Nat.reduceAdd, Nat.reduceSub, Nat.reduceMul, Nat.reduceLT, Nat.reduceLeDiff, Nat.reduceEqDiff, Nat.reduceBEq, Int.reduceToNat, Int.reduceLT, Int.reduceLE, Int.reduceEq, Int.reduceNe, Int.reduceAdd, Int.reduceSub, Int.reduceMul, Int.reduceNeg, ↓reduceIte, reduceCtorEq, Try.ntmps28, Try.results28]
    · have fs : decide (st = 2) = false := by simp [hst]
      obtain ⟨q1, q2, q3⟩ := fin _ hres.symm
      rw [q1, q2, q3]
      simp only [go_sem, Nat.reduceAdd, Nat.reduceSub, Nat.reduceMul, Nat.reduceLT, Nat.reduceLeDiff, Nat.reduceEqDiff, Nat.reduceBEq, Int.reduceToNat, Int.reduceLT, Int.reduceLE, Int.reduceEq, Int.reduceNe, Int.reduceAdd, Int.reduceSub, Int.reduceMul, Int.reduceNeg, ↓reduceIte, reduceCtorEq, recvV, hst, fs, Rcv.pv, Pdu.pv, Pdu.none, Try.ntmps28, Try.results28]
  have k1 : decide (k = 1) = false := by simp [h1]
  have k2 : decide (k = 2) = false := by simp [h2]
  have k3 : decide (k = 3) = false := by simp [h3]
  obtain ⟨q1, q2, q3⟩ := fin _ (by rw [← hres, recvV, if_neg h1, if_neg h2, if_neg (fun h => h3 h.1)])
  rw [q1, q2, q3]
  simp only [go_sem, Nat.reduceAdd, Nat.reduceSub, Nat.reduceMul, Nat.reduceLT, Nat.reduceLeDiff, Nat.reduceEqDiff, Nat.reduceBEq, Int.reduceToNat, Int.reduceLT, Int.reduceLE, Int.reduceEq, Int.reduceNe, Int.reduceAdd, Int.reduceSub, Int.reduceMul, Int.reduceNeg, ↓reduceIte, reduceCtorEq, k1, k2, k3, h1, h2, h3, Rcv.pv, Pdu.pv, Pdu.none, Try.ntmps28, Try.results28]
end Go.Proofs.Ytpnhnobnjcknjaa.Pe
