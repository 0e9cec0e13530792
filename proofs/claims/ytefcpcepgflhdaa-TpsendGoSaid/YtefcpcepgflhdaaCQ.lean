import Derived.Test.YtefcpcepgflhdaaC9
import Derived.Test.YtefcpcepgflhdaaCP
import Derived.Test.YtefcpcepgflhdaaC11
namespace Go.Proofs.Ytefcpcepgflhdaa.Pe
open Go.Pe Go.RowKit
set_option maxRecDepth 20000
set_option maxHeartbeats 4000000
set_option linter.unusedSimpArgs false
set_option linter.unusedVariables false

theorem takeR_calls (s : Snd) (p : Pdu) : PureCalls Try.prog 34 [s.pv, p.pv] (takeS s p).pv := by
  refine PureCalls.of tabOK mixed Try.func34 rfl rfl (by decide +kernel) (by simp [Try.ntmps34]) ?_
  obtain ⟨st, te, pos, num, left, gap, clock, waits, err⟩ := s
  obtain ⟨k, l, n, sy, b, g, d⟩ := p
  generalize hres : takeS ⟨st, te, pos, num, left, gap, clock, waits, err⟩ ⟨k, l, n, sy, b, g, d⟩ = res
  simp only [go_sem, Nat.reduceAdd, Nat.reduceSub, Nat.reduceMul, Nat.reduceLT, Nat.reduceLeDiff, Nat.reduceEqDiff, Nat.reduceBEq, Int.reduceToNat, Int.reduceLT, Int.reduceLE, Int.reduceEq, Int.reduceNe, Int.reduceAdd, Int.reduceSub, Int.reduceMul, Int.reduceNeg, ↓reduceIte, reduceCtorEq, Try.ntmps34, Try.results34, Snd.pv, Pdu.pv]
  cases hR : Pdu.right ⟨k, l, n, sy, b, g, d⟩ with
  | false =>
    repeat' (first | (refine wantK_splitN (fun h => ?_) (fun h => ?_) <;> simp only [go_sem, Nat.reduceAdd, Nat.reduceSub, Nat.reduceMul, Nat.reduceLT, Nat.reduceLeDiff, Nat.reduceEqDiff, Nat.reduceBEq, Int.reduceToNat, Int.reduceLT, Int.reduceLE, Int.reduceEq, Int.reduceNe, Int.reduceAdd, Int.reduceSub, Int.reduceMul, Int.reduceNeg, ↓reduceIte, reduceCtorEq, Try.ntmps34, Try.results34, *]) | (refine wantK_split (fun h => ?_) (fun h => ?_) <;> simp only [go_sem, Nat.reduceAdd, Nat.reduceSub, Nat.reduceMul, Nat.reduceLT, Nat.reduceLeDiff, Nat.reduceEqDiff, Nat.reduceBEq, Int.reduceToNat, Int.reduceLT, Int.reduceLE, Int.reduceEq, Int.reduceNe, Int.reduceAdd, Int.reduceSub, Int.reduceMul, Int.reduceNeg, ↓reduceIte, reduceCtorEq, Try.ntmps34, Try.results34, *]) | (refine condK_splitN (fun h => ?_) (fun h => ?_) <;> simp only [go_sem, Nat.reduceAdd, Nat.reduceSub, Nat.reduceMul, Nat.reduceLT, Nat.reduceLeDiff, Nat.reduceEqDiff, Nat.reduceBEq, Int.reduceToNat, Int.reduceLT, Int.reduceLE, Int.reduceEq, Int.reduceNe, Int.reduceAdd, Int.reduceSub, Int.reduceMul, Int.reduceNeg, ↓reduceIte, reduceCtorEq, Try.ntmps34, Try.results34, *]) | (refine condK_split (fun h => ?_) (fun h => ?_) <;> simp only [go_sem, Nat.reduceAdd, Nat.reduceSub, Nat.reduceMul, Nat.reduceLT, Nat.reduceLeDiff, Nat.reduceEqDiff, Nat.reduceBEq, Int.reduceToNat, Int.reduceLT, Int.reduceLE, Int.reduceEq, Int.reduceNe, Int.reduceAdd, Int.reduceSub, Int.reduceMul, Int.reduceNeg, ↓reduceIte, reduceCtorEq, Try.ntmps34, Try.results34, *]) | (refine drawK_splitN (fun h => ?_) (fun h => ?_) <;> simp only [go_sem, Nat.reduceAdd, Nat.reduceSub, Nat.reduceMul, Nat.reduceLT, Nat.reduceLeDiff, Nat.reduceEqDiff, Nat.reduceBEq, Int.reduceToNat, Int.reduceLT, Int.reduceLE, Int.reduceEq, Int.reduceNe, Int.reduceAdd, Int.reduceSub, Int.reduceMul, Int.reduceNeg, ↓reduceIte, reduceCtorEq, Try.ntmps34, Try.results34, *]) | (refine drawK_split (fun h => ?_) (fun h => ?_) <;> simp only [go_sem, Nat.reduceAdd, Nat.reduceSub, Nat.reduceMul, Nat.reduceLT, Nat.reduceLeDiff, Nat.reduceEqDiff, Nat.reduceBEq, Int.reduceToNat, Int.reduceLT, Int.reduceLE, Int.reduceEq, Int.reduceNe, Int.reduceAdd, Int.reduceSub, Int.reduceMul, Int.reduceNeg, ↓reduceIte, reduceCtorEq, Try.ntmps34, Try.results34, *]) | (refine endD_intro (by decide +kernel) ?_; simp only [go_sem, Nat.reduceAdd, Nat.reduceSub, Nat.reduceMul, Nat.reduceLT, Nat.reduceLeDiff, Nat.reduceEqDiff, Nat.reduceBEq, Int.reduceToNat, Int.reduceLT, Int.reduceLE, Int.reduceEq, Int.reduceNe, Int.reduceAdd, Int.reduceSub, Int.reduceMul, Int.reduceNeg, ↓reduceIte, reduceCtorEq, Try.ntmps34, Try.results34, *]) | (with_reducible refine And.intro ?_ ?_))
    any_goals (refine CallA.same (rightR_calls ⟨k, l, n, sy, b, g, d⟩) (by simp only [go_sem, Nat.reduceAdd, Nat.reduceSub, Nat.reduceMul, Nat.reduceLT, Nat.reduceLeDiff, Nat.reduceEqDiff, Nat.reduceBEq, Int.reduceToNat, Int.reduceLT, Int.reduceLE, Int.reduceEq, Int.reduceNe, Int.reduceAdd, Int.reduceSub, Int.reduceMul, Int.reduceNeg, ↓reduceIte, reduceCtorEq, Pdu.pv]) ?_; simp only [go_sem, Nat.reduceAdd, Nat.reduceSub, Nat.reduceMul, Nat.reduceLT, Nat.reduceLeDiff, Nat.reduceEqDiff, Nat.reduceBEq, Int.reduceToNat, Int.reduceLT, Int.reduceLE, Int.reduceEq, Int.reduceNe, Int.reduceAdd, Int.reduceSub, Int.reduceMul, Int.reduceNeg, ↓reduceIte, reduceCtorEq, Try.ntmps34, Try.results34, hR])
    all_goals subst hres
    all_goals (first | omega | (simp_all [FrzR_agg, FrzR_tup, FrzRL_cons, FrzRL_nil, FrzR_lit, FrzR_im, FrzR_own, frzOwn, FrzR_nilS, lk, hpF_eq, takeS, Snd.takes]; done) | (simp_all [FrzR_agg, FrzR_tup, FrzRL_cons, FrzRL_nil, FrzR_lit, FrzR_im, FrzR_own, frzOwn, FrzR_nilS, lk, hpF_eq, takeS, Snd.takes]; omega) | ((simp_all [FrzR_agg, FrzR_tup, FrzRL_cons, FrzRL_nil, FrzR_lit, FrzR_im, FrzR_own, frzOwn, FrzR_nilS, lk, hpF_eq, takeS, Snd.takes]; repeat' split) <;> (first | omega | (simp_all [FrzR_agg, FrzR_tup, FrzRL_cons, FrzRL_nil, FrzR_lit, FrzR_im, FrzR_own, frzOwn, FrzR_nilS, lk, hpF_eq, takeS, Snd.takes]; done) | (simp_all [FrzR_agg, FrzR_tup, FrzRL_cons, FrzRL_nil, FrzR_lit, FrzR_im, FrzR_own, frzOwn, FrzR_nilS, lk, hpF_eq, takeS, Snd.takes]; omega))) | (repeat' split) <;> (first | omega | (simp_all [FrzR_agg, FrzR_tup, FrzRL_cons, FrzRL_nil, FrzR_lit, FrzR_im, FrzR_own, frzOwn, FrzR_nilS, lk, hpF_eq, takeS, Snd.takes]; done) | (simp_all [FrzR_agg, FrzR_tup, FrzRL_cons, FrzRL_nil, FrzR_lit, FrzR_im, FrzR_own, frzOwn, FrzR_nilS, lk, hpF_eq, takeS, Snd.takes]; omega)))
  | true =>
    have hsy : k = 4 → sy = 0 ∨ sy = 1 ∨ sy = 2 := by
      intro h2'
      subst h2'
      simp [Pdu.right] at hR
      omega
    repeat' (first | (refine wantK_splitN (fun h => ?_) (fun h => ?_) <;> simp only [go_sem, Nat.reduceAdd, Nat.reduceSub, Nat.reduceMul, Nat.reduceLT, Nat.reduceLeDiff, Nat.reduceEqDiff, Nat.reduceBEq, Int.reduceToNat, Int.reduceLT, Int.reduceLE, Int.reduceEq, Int.reduceNe, Int.reduceAdd, Int.reduceSub, Int.reduceMul, Int.reduceNeg, ↓reduceIte, reduceCtorEq, Try.ntmps34, Try.results34, *]) | (refine wantK_split (fun h => ?_) (fun h => ?_) <;> simp only [go_sem, Nat.reduceAdd, Nat.reduceSub, Nat.reduceMul, Nat.reduceLT, Nat.reduceLeDiff, Nat.reduceEqDiff, Nat.reduceBEq, Int.reduceToNat, Int.reduceLT, Int.reduceLE, Int.reduceEq, Int.reduceNe, Int.reduceAdd, Int.reduceSub, Int.reduceMul, Int.reduceNeg, ↓reduceIte, reduceCtorEq, Try.ntmps34, Try.results34, *]) | (refine condK_splitN (fun h => ?_) (fun h => ?_) <;> simp only [go_sem, Nat.reduceAdd, Nat.reduceSub, Nat.reduceMul, Nat.reduceLT, Nat.reduceLeDiff, Nat.reduceEqDiff, Nat.reduceBEq, Int.reduceToNat, Int.reduceLT, Int.reduceLE, Int.reduceEq, Int.reduceNe, Int.reduceAdd, Int.reduceSub, Int.reduceMul, Int.reduceNeg, ↓reduceIte, reduceCtorEq, Try.ntmps34, Try.results34, *]) | (refine condK_split (fun h => ?_) (fun h => ?_) <;> simp only [go_sem, Nat.reduceAdd, Nat.reduceSub, Nat.reduceMul, Nat.reduceLT, Nat.reduceLeDiff, Nat.reduceEqDiff, Nat.reduceBEq, Int.reduceToNat, Int.reduceLT, Int.reduceLE, Int.reduceEq, Int.reduceNe, Int.reduceAdd, Int.reduceSub, Int.reduceMul, Int.reduceNeg, ↓reduceIte, reduceCtorEq, Try.ntmps34, Try.results34, *]) | (refine drawK_splitN (fun h => ?_) (fun h => ?_) <;> simp only [go_sem, Nat.reduceAdd, Nat.reduceSub, Nat.reduceMul, Nat.reduceLT, Nat.reduceLeDiff, Nat.reduceEqDiff, Nat.reduceBEq, Int.reduceToNat, Int.reduceLT, Int.reduceLE, Int.reduceEq, Int.reduceNe, Int.reduceAdd, Int.reduceSub, Int.reduceMul, Int.reduceNeg, ↓reduceIte, reduceCtorEq, Try.ntmps34, Try.results34, *]) | (refine drawK_split (fun h => ?_) (fun h => ?_) <;> simp only [go_sem, Nat.reduceAdd, Nat.reduceSub, Nat.reduceMul, Nat.reduceLT, Nat.reduceLeDiff, Nat.reduceEqDiff, Nat.reduceBEq, Int.reduceToNat, Int.reduceLT, Int.reduceLE, Int.reduceEq, Int.reduceNe, Int.reduceAdd, Int.reduceSub, Int.reduceMul, Int.reduceNeg, ↓reduceIte, reduceCtorEq, Try.ntmps34, Try.results34, *]) | (refine endD_intro (by decide +kernel) ?_; simp only [go_sem, Nat.reduceAdd, Nat.reduceSub, Nat.reduceMul, Nat.reduceLT, Nat.reduceLeDiff, Nat.reduceEqDiff, Nat.reduceBEq, Int.reduceToNat, Int.reduceLT, Int.reduceLE, Int.reduceEq, Int.reduceNe, Int.reduceAdd, Int.reduceSub, Int.reduceMul, Int.reduceNeg, ↓reduceIte, reduceCtorEq, Try.ntmps34, Try.results34, *]) | (with_reducible refine And.intro ?_ ?_))
    any_goals (refine CallA.same (rightR_calls ⟨k, l, n, sy, b, g, d⟩) (by simp only [go_sem, Nat.reduceAdd, Nat.reduceSub, Nat.reduceMul, Nat.reduceLT, Nat.reduceLeDiff, Nat.reduceEqDiff, Nat.reduceBEq, Int.reduceToNat, Int.reduceLT, Int.reduceLE, Int.reduceEq, Int.reduceNe, Int.reduceAdd, Int.reduceSub, Int.reduceMul, Int.reduceNeg, ↓reduceIte, reduceCtorEq, Pdu.pv]) ?_; simp only [go_sem, Nat.reduceAdd, Nat.reduceSub, Nat.reduceMul, Nat.reduceLT, Nat.reduceLeDiff, Nat.reduceEqDiff, Nat.reduceBEq, Int.reduceToNat, Int.reduceLT, Int.reduceLE, Int.reduceEq, Int.reduceNe, Int.reduceAdd, Int.reduceSub, Int.reduceMul, Int.reduceNeg, ↓reduceIte, reduceCtorEq, Try.ntmps34, Try.results34, hR])
    any_goals (subst hres; simp_all [takeS, Snd.takes]; done)
    repeat' (first | (refine wantK_splitN (fun h => ?_) (fun h => ?_) <;> simp only [go_sem, Nat.reduceAdd, Nat.reduceSub, Nat.reduceMul, Nat.reduceLT, Nat.reduceLeDiff, Nat.reduceEqDiff, Nat.reduceBEq, Int.reduceToNat, Int.reduceLT, Int.reduceLE, Int.reduceEq, Int.reduceNe, Int.reduceAdd, Int.reduceSub, Int.reduceMul, Int.reduceNeg, ↓reduceIte, reduceCtorEq, Try.ntmps34, Try.results34, *]) | (refine wantK_split (fun h => ?_) (fun h => ?_) <;> simp only [go_sem, Nat.reduceAdd, Nat.reduceSub, Nat.reduceMul, Nat.reduceLT, Nat.reduceLeDiff, Nat.reduceEqDiff, Nat.reduceBEq, Int.reduceToNat, Int.reduceLT, Int.reduceLE, Int.reduceEq, Int.reduceNe, Int.reduceAdd, Int.reduceSub, Int.reduceMul, Int.reduceNeg, ↓reduceIte, reduceCtorEq, Try.ntmps34, Try.results34, *]) | (refine condK_splitN (fun h => ?_) (fun h => ?_) <;> simp only [go_sem, Nat.reduceAdd, Nat.reduceSub, Nat.reduceMul, Nat.reduceLT, Nat.reduceLeDiff, Nat.reduceEqDiff, Nat.reduceBEq, Int.reduceToNat, Int.reduceLT, Int.reduceLE, Int.reduceEq, Int.reduceNe, Int.reduceAdd, Int.reduceSub, Int.reduceMul, Int.reduceNeg, ↓reduceIte, reduceCtorEq, Try.ntmps34, Try.results34, *]) | (refine condK_split (fun h => ?_) (fun h => ?_) <;> simp only [go_sem, Nat.reduceAdd, Nat.reduceSub, Nat.reduceMul, Nat.reduceLT, Nat.reduceLeDiff, Nat.reduceEqDiff, Nat.reduceBEq, Int.reduceToNat, Int.reduceLT, Int.reduceLE, Int.reduceEq, Int.reduceNe, Int.reduceAdd, Int.reduceSub, Int.reduceMul, Int.reduceNeg, ↓reduceIte, reduceCtorEq, Try.ntmps34, Try.results34, *]) | (refine drawK_splitN (fun h => ?_) (fun h => ?_) <;> simp only [go_sem, Nat.reduceAdd, Nat.reduceSub, Nat.reduceMul, Nat.reduceLT, Nat.reduceLeDiff, Nat.reduceEqDiff, Nat.reduceBEq, Int.reduceToNat, Int.reduceLT, Int.reduceLE, Int.reduceEq, Int.reduceNe, Int.reduceAdd, Int.reduceSub, Int.reduceMul, Int.reduceNeg, ↓reduceIte, reduceCtorEq, Try.ntmps34, Try.results34, *]) | (refine drawK_split (fun h => ?_) (fun h => ?_) <;> simp only [go_sem, Nat.reduceAdd, Nat.reduceSub, Nat.reduceMul, Nat.reduceLT, Nat.reduceLeDiff, Nat.reduceEqDiff, Nat.reduceBEq, Int.reduceToNat, Int.reduceLT, Int.reduceLE, Int.reduceEq, Int.reduceNe, Int.reduceAdd, Int.reduceSub, Int.reduceMul, Int.reduceNeg, ↓reduceIte, reduceCtorEq, Try.ntmps34, Try.results34, *]) | (refine endD_intro (by decide +kernel) ?_; simp only [go_sem, Nat.reduceAdd, Nat.reduceSub, Nat.reduceMul, Nat.reduceLT, Nat.reduceLeDiff, Nat.reduceEqDiff, Nat.reduceBEq, Int.reduceToNat, Int.reduceLT, Int.reduceLE, Int.reduceEq, Int.reduceNe, Int.reduceAdd, Int.reduceSub, Int.reduceMul, Int.reduceNeg, ↓reduceIte, reduceCtorEq, Try.ntmps34, Try.results34, *]) | (with_reducible refine And.intro ?_ ?_))
    all_goals subst hres
    all_goals (first | omega | (simp_all [FrzR_agg, FrzR_tup, FrzRL_cons, FrzRL_nil, FrzR_lit, FrzR_im, FrzR_own, frzOwn, FrzR_nilS, lk, hpF_eq, takeS, Snd.takes]; done) | (simp_all [FrzR_agg, FrzR_tup, FrzRL_cons, FrzRL_nil, FrzR_lit, FrzR_im, FrzR_own, frzOwn, FrzR_nilS, lk, hpF_eq, takeS, Snd.takes]; omega) | ((simp_all [FrzR_agg, FrzR_tup, FrzRL_cons, FrzRL_nil, FrzR_lit, FrzR_im, FrzR_own, frzOwn, FrzR_nilS, lk, hpF_eq, takeS, Snd.takes]; repeat' split) <;> (first | omega | (simp_all [FrzR_agg, FrzR_tup, FrzRL_cons, FrzRL_nil, FrzR_lit, FrzR_im, FrzR_own, frzOwn, FrzR_nilS, lk, hpF_eq, takeS, Snd.takes]; done) | (simp_all [FrzR_agg, FrzR_tup, FrzRL_cons, FrzRL_nil, FrzR_lit, FrzR_im, FrzR_own, frzOwn, FrzR_nilS, lk, hpF_eq, takeS, Snd.takes]; omega))) | (repeat' split) <;> (first | omega | (simp_all [FrzR_agg, FrzR_tup, FrzRL_cons, FrzRL_nil, FrzR_lit, FrzR_im, FrzR_own, frzOwn, FrzR_nilS, lk, hpF_eq, takeS, Snd.takes]; done) | (simp_all [FrzR_agg, FrzR_tup, FrzRL_cons, FrzRL_nil, FrzR_lit, FrzR_im, FrzR_own, frzOwn, FrzR_nilS, lk, hpF_eq, takeS, Snd.takes]; omega)))
theorem tickR_calls (s : Snd) : PureCalls Try.prog 35 [s.pv] (tickS s).pv := by
  refine PureCalls.of tabOK mixed Try.func35 rfl rfl (by decide +kernel) (by simp [Try.ntmps35]) ?_
  obtain ⟨st, te, pos, num, left, gap, clock, waits, err⟩ := s
  generalize hres : tickS ⟨st, te, pos, num, left, gap, clock, waits, err⟩ = res
  simp only [go_sem, Nat.reduceAdd, Nat.reduceSub, Nat.reduceMul, Nat.reduceLT, Nat.reduceLeDiff, Nat.reduceEqDiff, Nat.reduceBEq, Int.reduceToNat, Int.reduceLT, Int.reduceLE, Int.reduceEq, Int.reduceNe, Int.reduceAdd, Int.reduceSub, Int.reduceMul, Int.reduceNeg, ↓reduceIte, reduceCtorEq, Try.ntmps35, Try.results35, Snd.pv]
  repeat' (first | (refine wantK_splitN (fun h => ?_) (fun h => ?_) <;> simp only [go_sem, Nat.reduceAdd, Nat.reduceSub, Nat.reduceMul, Nat.reduceLT, Nat.reduceLeDiff, Nat.reduceEqDiff, Nat.reduceBEq, Int.reduceToNat, Int.reduceLT, Int.reduceLE, Int.reduceEq, Int.reduceNe, Int.reduceAdd, Int.reduceSub, Int.reduceMul, Int.reduceNeg, ↓reduceIte, reduceCtorEq, Try.ntmps35, Try.results35, *]) | (refine wantK_split (fun h => ?_) (fun h => ?_) <;> simp only [go_sem, Nat.reduceAdd, Nat.reduceSub, Nat.reduceMul, Nat.reduceLT, Nat.reduceLeDiff, Nat.reduceEqDiff, Nat.reduceBEq, Int.reduceToNat, Int.reduceLT, Int.reduceLE, Int.reduceEq, Int.reduceNe, Int.reduceAdd, Int.reduceSub, Int.reduceMul, Int.reduceNeg, ↓reduceIte, reduceCtorEq, Try.ntmps35, Try.results35, *]) | (refine condK_splitN (fun h => ?_) (fun h => ?_) <;> simp only [go_sem, Nat.reduceAdd, Nat.reduceSub, Nat.reduceMul, Nat.reduceLT, Nat.reduceLeDiff, Nat.reduceEqDiff, Nat.reduceBEq, Int.reduceToNat, Int.reduceLT, Int.reduceLE, Int.reduceEq, Int.reduceNe, Int.reduceAdd, Int.reduceSub, Int.reduceMul, Int.reduceNeg, ↓reduceIte, reduceCtorEq, Try.ntmps35, Try.results35, *]) | (refine condK_split (fun h => ?_) (fun h => ?_) <;> simp only [go_sem, Nat.reduceAdd, Nat.reduceSub, Nat.reduceMul, Nat.reduceLT, Nat.reduceLeDiff, Nat.reduceEqDiff, Nat.reduceBEq, Int.reduceToNat, Int.reduceLT, Int.reduceLE, Int.reduceEq, Int.reduceNe, Int.reduceAdd, Int.reduceSub, Int.reduceMul, Int.reduceNeg, ↓reduceIte, reduceCtorEq, Try.ntmps35, Try.results35, *]) | (refine drawK_splitN (fun h => ?_) (fun h => ?_) <;> simp only [go_sem, Nat.reduceAdd, Nat.reduceSub, Nat.reduceMul, Nat.reduceLT, Nat.reduceLeDiff, Nat.reduceEqDiff, Nat.reduceBEq, Int.reduceToNat, Int.reduceLT, Int.reduceLE, Int.reduceEq, Int.reduceNe, Int.reduceAdd, Int.reduceSub, Int.reduceMul, Int.reduceNeg, ↓reduceIte, reduceCtorEq, Try.ntmps35, Try.results35, *]) | (refine drawK_split (fun h => ?_) (fun h => ?_) <;> simp only [go_sem, Nat.reduceAdd, Nat.reduceSub, Nat.reduceMul, Nat.reduceLT, Nat.reduceLeDiff, Nat.reduceEqDiff, Nat.reduceBEq, Int.reduceToNat, Int.reduceLT, Int.reduceLE, Int.reduceEq, Int.reduceNe, Int.reduceAdd, Int.reduceSub, Int.reduceMul, Int.reduceNeg, ↓reduceIte, reduceCtorEq, Try.ntmps35, Try.results35, *]) | (refine endD_intro (by decide +kernel) ?_; simp only [go_sem, Nat.reduceAdd, Nat.reduceSub, Nat.reduceMul, Nat.reduceLT, Nat.reduceLeDiff, Nat.reduceEqDiff, Nat.reduceBEq, Int.reduceToNat, Int.reduceLT, Int.reduceLE, Int.reduceEq, Int.reduceNe, Int.reduceAdd, Int.reduceSub, Int.reduceMul, Int.reduceNeg, ↓reduceIte, reduceCtorEq, Try.ntmps35, Try.results35, *]) | (with_reducible refine And.intro ?_ ?_))
  all_goals subst hres
  all_goals (first | omega | (simp_all [FrzR_agg, FrzR_tup, FrzRL_cons, FrzRL_nil, FrzR_lit, FrzR_im, FrzR_own, frzOwn, FrzR_nilS, lk, hpF_eq, tickS]; done) | (simp_all [FrzR_agg, FrzR_tup, FrzRL_cons, FrzRL_nil, FrzR_lit, FrzR_im, FrzR_own, frzOwn, FrzR_nilS, lk, hpF_eq, tickS]; omega) | ((simp_all [FrzR_agg, FrzR_tup, FrzRL_cons, FrzRL_nil, FrzR_lit, FrzR_im, FrzR_own, frzOwn, FrzR_nilS, lk, hpF_eq, tickS]; repeat' split) <;> (first | omega | (simp_all [FrzR_agg, FrzR_tup, FrzRL_cons, FrzRL_nil, FrzR_lit, FrzR_im, FrzR_own, frzOwn, FrzR_nilS, lk, hpF_eq, tickS]; done) | (simp_all [FrzR_agg, FrzR_tup, FrzRL_cons, FrzRL_nil, FrzR_lit, FrzR_im, FrzR_own, frzOwn, FrzR_nilS, lk, hpF_eq, tickS]; omega))) | (repeat' split) <;> (first | omega | (simp_all [FrzR_agg, FrzR_tup, FrzRL_cons, FrzRL_nil, FrzR_lit, FrzR_im, FrzR_own, frzOwn, FrzR_nilS, lk, hpF_eq, tickS]; done) | (simp_all [FrzR_agg, FrzR_tup, FrzRL_cons, FrzRL_nil, FrzR_lit, FrzR_im, FrzR_own, frzOwn, FrzR_nilS, lk, hpF_eq, tickS]; omega)))
theorem newR_calls (l : List UInt8) : PureCalls Try.prog 17 [bytesPV l] (.tup [(newS l).pv, (newP l).pv, PI (newE l)]) := by
  refine PureCalls.of tabOK mixed Try.func17 rfl rfl (by decide +kernel) (by simp [Try.ntmps17]) ?_
  by_cases h0 : l.length = 0
  · have e1 : decide ((l.length : Int) < 1) = true := by simp; omega
    rw [show newS l = Snd.zero by simp [newS, h0], show newP l = Pdu.zero by simp [newP, h0], show newE l = 1 by simp [newE, h0]]
    simp only [go_sem, Nat.reduceAdd, Nat.reduceSub, Nat.reduceMul, Nat.reduceLT, Nat.reduceLeDiff, Nat.reduceEqDiff, Nat.reduceBEq, Int.reduceToNat, Int.reduceLT, Int.reduceLE, Int.reduceEq, Int.reduceNe, Int.reduceAdd, Int.reduceSub, Int.reduceMul, Int.reduceNeg, ↓reduceIte, reduceCtorEq, Try.ntmps17, Try.results17, e1, Snd.pv, Pdu.pv, Snd.zero, Pdu.zero, rowsB_nil]
  have e1 : decide ((l.length : Int) < 1) = false := by simp; omega
  by_cases h1 : 4095 < l.length
  · have e2 : decide ((l.length : Int) > 4095) = true := by simp; omega
    rw [show newS l = Snd.zero by simp [newS, h1], show newP l = Pdu.zero by simp [newP, h1], show newE l = 182 by simp only [newE, h0, h1]; simp]
    simp only [go_sem, Nat.reduceAdd, Nat.reduceSub, Nat.reduceMul, Nat.reduceLT, Nat.reduceLeDiff, Nat.reduceEqDiff, Nat.reduceBEq, Int.reduceToNat, Int.reduceLT, Int.reduceLE, Int.reduceEq, Int.reduceNe, Int.reduceAdd, Int.reduceSub, Int.reduceMul, Int.reduceNeg, ↓reduceIte, reduceCtorEq, Try.ntmps17, Try.results17, e1, e2, Snd.pv, Pdu.pv, Snd.zero, Pdu.zero, rowsB_nil]
  have e2 : decide ((l.length : Int) > 4095) = false := by simp; omega
  rw [show newE l = 0 by simp only [newE, h0, h1]; simp]
  by_cases h2 : l.length ≤ 7
  · have e3 : decide ((l.length : Int) > 7) = false := by simp; omega
    have cP := partsR_calls l
    rw [show partsL l = [⟨1, l.length, 0, 0, 0, 0, l⟩] by rw [partsL, if_neg (by omega), if_pos h2]] at cP
    rw [show newS l = ⟨3, l, l.length, 0, -1, 0, 0, 0, 0⟩ by rw [newS, if_neg (by omega), if_pos h2], show newP l = ⟨1, l.length, 0, 0, 0, 0, l⟩ by rw [newP, if_neg (by omega), if_pos h2]]
    simp only [go_sem, Nat.reduceAdd, Nat.reduceSub, Nat.reduceMul, Nat.reduceLT, Nat.reduceLeDiff, Nat.reduceEqDiff, Nat.reduceBEq, Int.reduceToNat, Int.reduceLT, Int.reduceLE, Int.reduceEq, Int.reduceNe, Int.reduceAdd, Int.reduceSub, Int.reduceMul, Int.reduceNeg, ↓reduceIte, reduceCtorEq, Try.ntmps17, Try.results17, e1, e2]
    refine CallA.same cP (by simp only [go_sem, Nat.reduceAdd, Nat.reduceSub, Nat.reduceMul, Nat.reduceLT, Nat.reduceLeDiff, Nat.reduceEqDiff, Nat.reduceBEq, Int.reduceToNat, Int.reduceLT, Int.reduceLE, Int.reduceEq, Int.reduceNe, Int.reduceAdd, Int.reduceSub, Int.reduceMul, Int.reduceNeg, ↓reduceIte, reduceCtorEq]) ?_
    simp only [go_sem, Nat.reduceAdd, Nat.reduceSub, Nat.reduceMul, Nat.reduceLT, Nat.reduceLeDiff, Nat.reduceEqDiff, Nat.reduceBEq, Int.reduceToNat, Int.reduceLT, Int.reduceLE, Int.reduceEq, Int.reduceNe, Int.reduceAdd, Int.reduceSub, Int.reduceMul, Int.reduceNeg, ↓reduceIte, reduceCtorEq, Try.ntmps17, Try.results17, e3, pduRows, Pdu.cells]
    refine ⟨⟨by omega, by omega⟩, endD_intro (by decide +kernel) ?_⟩
    simp only [go_sem, Nat.reduceAdd, Nat.reduceSub, Nat.reduceMul, Nat.reduceLT, Nat.reduceLeDiff, Nat.reduceEqDiff, Nat.reduceBEq, Int.reduceToNat, Int.reduceLT, Int.reduceLE, Int.reduceEq, Int.reduceNe, Int.reduceAdd, Int.reduceSub, Int.reduceMul, Int.reduceNeg, ↓reduceIte, reduceCtorEq, Try.ntmps17, Try.results17, Snd.pv, Pdu.pv]
  have e3 : decide ((l.length : Int) > 7) = true := by simp; omega
  have cP := partsR_calls l
  rw [show partsL l = ⟨2, l.length, 0, 0, 0, 0, l.take 6⟩ :: nexts l.length 1 (l.drop 6) by rw [partsL, if_neg (by omega), if_neg (by omega)]] at cP
  rw [show newS l = ⟨1, l, 6, 1, -1, 0, 0, 0, 0⟩ by rw [newS, if_neg (by omega), if_neg (by omega)], show newP l = ⟨2, l.length, 0, 0, 0, 0, l.take 6⟩ by rw [newP, if_neg (by omega), if_neg (by omega)]]
  simp only [go_sem, Nat.reduceAdd, Nat.reduceSub, Nat.reduceMul, Nat.reduceLT, Nat.reduceLeDiff, Nat.reduceEqDiff, Nat.reduceBEq, Int.reduceToNat, Int.reduceLT, Int.reduceLE, Int.reduceEq, Int.reduceNe, Int.reduceAdd, Int.reduceSub, Int.reduceMul, Int.reduceNeg, ↓reduceIte, reduceCtorEq, Try.ntmps17, Try.results17, e1, e2]
  refine CallA.same cP (by simp only [go_sem, Nat.reduceAdd, Nat.reduceSub, Nat.reduceMul, Nat.reduceLT, Nat.reduceLeDiff, Nat.reduceEqDiff, Nat.reduceBEq, Int.reduceToNat, Int.reduceLT, Int.reduceLE, Int.reduceEq, Int.reduceNe, Int.reduceAdd, Int.reduceSub, Int.reduceMul, Int.reduceNeg, ↓reduceIte, reduceCtorEq]) ?_
  simp only [go_sem, Nat.reduceAdd, Nat.reduceSub, Nat.reduceMul, Nat.reduceLT, Nat.reduceLeDiff, Nat.reduceEqDiff, Nat.reduceBEq, Int.reduceToNat, Int.reduceLT, Int.reduceLE, Int.reduceEq, Int.reduceNe, Int.reduceAdd, Int.reduceSub, Int.reduceMul, Int.reduceNeg, ↓reduceIte, reduceCtorEq, Try.ntmps17, Try.results17, e3, pduRows, Pdu.cells]
  refine ⟨⟨by omega, by omega⟩, by simp, endD_intro (by decide +kernel) ?_⟩
  simp only [go_sem, Nat.reduceAdd, Nat.reduceSub, Nat.reduceMul, Nat.reduceLT, Nat.reduceLeDiff, Nat.reduceEqDiff, Nat.reduceBEq, Int.reduceToNat, Int.reduceLT, Int.reduceLE, Int.reduceEq, Int.reduceNe, Int.reduceAdd, Int.reduceSub, Int.reduceMul, Int.reduceNeg, ↓reduceIte, reduceCtorEq, Try.ntmps17, Try.results17, Snd.pv, Pdu.pv]
theorem nextR_calls (s : Snd) (hs : s.ok) (hl : s.st = 2 → s.left = -1 ∨ 1 ≤ s.left) : PureCalls Try.prog 36 [s.pv] (.tup [(nextS s).pv, (nextP s).pv, PB s.goes]) := by
  refine PureCalls.of tabOK mixed Try.func36 rfl rfl (by decide +kernel) (by simp [Try.ntmps36]) ?_
  obtain ⟨st, te, pos, num, left, gap, clock, waits, err⟩ := s
  obtain ⟨h0, h1, h2⟩ := hs
  simp only at h0 h1 h2 hl
  have hw : IntKind.wrap .i64 ((te.length : Int) - pos) = te.length - pos := wrapI64 (by omega)
  have hw2 : IntKind.wrap .i64 (pos + if (te.length : Int) - pos < 7 then (te.length : Int) - pos else 7) = nextTo ⟨st, te, pos, num, left, gap, clock, waits, err⟩ := by
    rw [wrapI64 (by split <;> omega)]
    simp only [nextTo]
    split <;> split <;> omega
  have ht0 : pos ≤ nextTo ⟨st, te, pos, num, left, gap, clock, waits, err⟩ ∧ nextTo ⟨st, te, pos, num, left, gap, clock, waits, err⟩ ≤ te.length := by
    simp only [nextTo]
    split <;> omega
  generalize hS : nextS ⟨st, te, pos, num, left, gap, clock, waits, err⟩ = rs
  generalize hP : nextP ⟨st, te, pos, num, left, gap, clock, waits, err⟩ = rp
  simp only [nextS, nextP, nextN, nextL, nextT] at hS hP
  generalize hto : nextTo ⟨st, te, pos, num, left, gap, clock, waits, err⟩ = to at hw2 ht0 hS hP
  by_cases hg : st = 2 ∧ ¬ clock < gap
  · have f1 : decide (st = 2) = true := by simp [hg.1]
    have f2 : decide (clock < gap) = false := by simp; omega
    have hG : Snd.goes ⟨st, te, pos, num, left, gap, clock, waits, err⟩ = true := by simp [Snd.goes, f1, f2]
    rw [hG] at hS hP ⊢
    simp only [if_true] at hS hP
    subst hS hP
    have hl' := hl hg.1
    simp only [go_sem, Nat.reduceAdd, Nat.reduceSub, Nat.reduceMul, Nat.reduceLT, Nat.reduceLeDiff, Nat.reduceEqDiff, Nat.reduceBEq, Int.reduceToNat, Int.reduceLT, Int.reduceLE, Int.reduceEq, Int.reduceNe, Int.reduceAdd, Int.reduceSub, Int.reduceMul, Int.reduceNeg, ↓reduceIte, reduceCtorEq, Try.ntmps36, Try.results36, Snd.pv, Pdu.pv, hw, hw2, f1, f2]
    refine ⟨⟨by omega, by omega, by omega⟩, ⟨by simp; omega, by simp; omega⟩, endD_intro (by decide +kernel) ?_⟩
    by_cases he : to = te.length
    · have f3 : decide (to = (te.length : Int)) = true := by simp [he]
      simp only [go_sem, Nat.reduceAdd, Nat.reduceSub, Nat.reduceMul, Nat.reduceLT, Nat.reduceLeDiff, Nat.reduceEqDiff, Nat.reduceBEq, Int.reduceToNat, Int.reduceLT, Int.reduceLE, Int.reduceEq, Int.reduceNe, Int.reduceAdd, Int.reduceSub, Int.reduceMul, Int.reduceNeg, ↓reduceIte, reduceCtorEq, f3, hw2]
      repeat' (first | (refine wantK_splitN (fun h => ?_) (fun h => ?_) <;> simp only [go_sem, Nat.reduceAdd, Nat.reduceSub, Nat.reduceMul, Nat.reduceLT, Nat.reduceLeDiff, Nat.reduceEqDiff, Nat.reduceBEq, Int.reduceToNat, Int.reduceLT, Int.reduceLE, Int.reduceEq, Int.reduceNe, Int.reduceAdd, Int.reduceSub, Int.reduceMul, Int.reduceNeg, ↓reduceIte, reduceCtorEq, Try.ntmps36, Try.results36, f3, *]) | (refine wantK_split (fun h => ?_) (fun h => ?_) <;> simp only [go_sem, Nat.reduceAdd, Nat.reduceSub, Nat.reduceMul, Nat.reduceLT, Nat.reduceLeDiff, Nat.reduceEqDiff, Nat.reduceBEq, Int.reduceToNat, Int.reduceLT, Int.reduceLE, Int.reduceEq, Int.reduceNe, Int.reduceAdd, Int.reduceSub, Int.reduceMul, Int.reduceNeg, ↓reduceIte, reduceCtorEq, Try.ntmps36, Try.results36, f3, *]) | (refine condK_splitN (fun h => ?_) (fun h => ?_) <;> simp only [go_sem, Nat.reduceAdd, Nat.reduceSub, Nat.reduceMul, Nat.reduceLT, Nat.reduceLeDiff, Nat.reduceEqDiff, Nat.reduceBEq, Int.reduceToNat, Int.reduceLT, Int.reduceLE, Int.reduceEq, Int.reduceNe, Int.reduceAdd, Int.reduceSub, Int.reduceMul, Int.reduceNeg, ↓reduceIte, reduceCtorEq, Try.ntmps36, Try.results36, f3, *]) | (refine condK_split (fun h => ?_) (fun h => ?_) <;> simp only [go_sem, Nat.reduceAdd, Nat.reduceSub, Nat.reduceMul, Nat.reduceLT, Nat.reduceLeDiff, Nat.reduceEqDiff, Nat.reduceBEq, Int.reduceToNat, Int.reduceLT, Int.reduceLE, Int.reduceEq, Int.reduceNe, Int.reduceAdd, Int.reduceSub, Int.reduceMul, Int.reduceNeg, ↓reduceIte, reduceCtorEq, Try.ntmps36, Try.results36, f3, *]) | (refine drawK_splitN (fun h => ?_) (fun h => ?_) <;> simp only [go_sem, Nat.reduceAdd, Nat.reduceSub, Nat.reduceMul, Nat.reduceLT, Nat.reduceLeDiff, Nat.reduceEqDiff, Nat.reduceBEq, Int.reduceToNat, Int.reduceLT, Int.reduceLE, Int.reduceEq, Int.reduceNe, Int.reduceAdd, Int.reduceSub, Int.reduceMul, Int.reduceNeg, ↓reduceIte, reduceCtorEq, Try.ntmps36, Try.results36, f3, *]) | (refine drawK_split (fun h => ?_) (fun h => ?_) <;> simp only [go_sem, Nat.reduceAdd, Nat.reduceSub, Nat.reduceMul, Nat.reduceLT, Nat.reduceLeDiff, Nat.reduceEqDiff, Nat.reduceBEq, Int.reduceToNat, Int.reduceLT, Int.reduceLE, Int.reduceEq, Int.reduceNe, Int.reduceAdd, Int.reduceSub, Int.reduceMul, Int.reduceNeg, ↓reduceIte, reduceCtorEq, Try.ntmps36, Try.results36, f3, *]) | (refine endD_intro (by decide +kernel) ?_; simp only [go_sem, Nat.reduceAdd, Nat.reduceSub, Nat.reduceMul, Nat.reduceLT, Nat.reduceLeDiff, Nat.reduceEqDiff, Nat.reduceBEq, Int.reduceToNat, Int.reduceLT, Int.reduceLE, Int.reduceEq, Int.reduceNe, Int.reduceAdd, Int.reduceSub, Int.reduceMul, Int.reduceNeg, ↓reduceIte, reduceCtorEq, Try.ntmps36, Try.results36, f3, *]) | (with_reducible refine And.intro ?_ ?_))
      all_goals simp_all
    have f3 : decide (to = (te.length : Int)) = false := by simp [he]
    by_cases hl0 : left = -1
    · subst hl0
      have f4 : decide ((-1 : Int) > 0) = false := by decide
      simp only [go_sem, Nat.reduceAdd, Nat.reduceSub, Nat.reduceMul, Nat.reduceLT, Nat.reduceLeDiff, Nat.reduceEqDiff, Nat.reduceBEq, Int.reduceToNat, Int.reduceLT, Int.reduceLE, Int.reduceEq, Int.reduceNe, Int.reduceAdd, Int.reduceSub, Int.reduceMul, Int.reduceNeg, ↓reduceIte, reduceCtorEq, f3, f4, hw2]
      repeat' (first | (refine wantK_splitN (fun h => ?_) (fun h => ?_) <;> simp only [go_sem, Nat.reduceAdd, Nat.reduceSub, Nat.reduceMul, Nat.reduceLT, Nat.reduceLeDiff, Nat.reduceEqDiff, Nat.reduceBEq, Int.reduceToNat, Int.reduceLT, Int.reduceLE, Int.reduceEq, Int.reduceNe, Int.reduceAdd, Int.reduceSub, Int.reduceMul, Int.reduceNeg, ↓reduceIte, reduceCtorEq, Try.ntmps36, Try.results36, f3, *]) | (refine wantK_split (fun h => ?_) (fun h => ?_) <;> simp only [go_sem, Nat.reduceAdd, Nat.reduceSub, Nat.reduceMul, Nat.reduceLT, Nat.reduceLeDiff, Nat.reduceEqDiff, Nat.reduceBEq, Int.reduceToNat, Int.reduceLT, Int.reduceLE, Int.reduceEq, Int.reduceNe, Int.reduceAdd, Int.reduceSub, Int.reduceMul, Int.reduceNeg, ↓reduceIte, reduceCtorEq, Try.ntmps36, Try.results36, f3, *]) | (refine condK_splitN (fun h => ?_) (fun h => ?_) <;> simp only [go_sem, Nat.reduceAdd, Nat.reduceSub, Nat.reduceMul, Nat.reduceLT, Nat.reduceLeDiff, Nat.reduceEqDiff, Nat.reduceBEq, Int.reduceToNat, Int.reduceLT, Int.reduceLE, Int.reduceEq, Int.reduceNe, Int.reduceAdd, Int.reduceSub, Int.reduceMul, Int.reduceNeg, ↓reduceIte, reduceCtorEq, Try.ntmps36, Try.results36, f3, *]) | (refine condK_split (fun h => ?_) (fun h => ?_) <;> simp only [go_sem, Nat.reduceAdd, Nat.reduceSub, Nat.reduceMul, Nat.reduceLT, Nat.reduceLeDiff, Nat.reduceEqDiff, Nat.reduceBEq, Int.reduceToNat, Int.reduceLT, Int.reduceLE, Int.reduceEq, Int.reduceNe, Int.reduceAdd, Int.reduceSub, Int.reduceMul, Int.reduceNeg, ↓reduceIte, reduceCtorEq, Try.ntmps36, Try.results36, f3, *]) | (refine drawK_splitN (fun h => ?_) (fun h => ?_) <;> simp only [go_sem, Nat.reduceAdd, Nat.reduceSub, Nat.reduceMul, Nat.reduceLT, Nat.reduceLeDiff, Nat.reduceEqDiff, Nat.reduceBEq, Int.reduceToNat, Int.reduceLT, Int.reduceLE, Int.reduceEq, Int.reduceNe, Int.reduceAdd, Int.reduceSub, Int.reduceMul, Int.reduceNeg, ↓reduceIte, reduceCtorEq, Try.ntmps36, Try.results36, f3, *]) | (refine drawK_split (fun h => ?_) (fun h => ?_) <;> simp only [go_sem, Nat.reduceAdd, Nat.reduceSub, Nat.reduceMul, Nat.reduceLT, Nat.reduceLeDiff, Nat.reduceEqDiff, Nat.reduceBEq, Int.reduceToNat, Int.reduceLT, Int.reduceLE, Int.reduceEq, Int.reduceNe, Int.reduceAdd, Int.reduceSub, Int.reduceMul, Int.reduceNeg, ↓reduceIte, reduceCtorEq, Try.ntmps36, Try.results36, f3, *]) | (refine endD_intro (by decide +kernel) ?_; simp only [go_sem, Nat.reduceAdd, Nat.reduceSub, Nat.reduceMul, Nat.reduceLT, Nat.reduceLeDiff, Nat.reduceEqDiff, Nat.reduceBEq, Int.reduceToNat, Int.reduceLT, Int.reduceLE, Int.reduceEq, Int.reduceNe, Int.reduceAdd, Int.reduceSub, Int.reduceMul, Int.reduceNeg, ↓reduceIte, reduceCtorEq, Try.ntmps36, Try.results36, f3, *]) | (with_reducible refine And.intro ?_ ?_))
      all_goals simp_all
    have f4 : decide (left > 0) = true := by simp; omega
    simp only [go_sem, Nat.reduceAdd, Nat.reduceSub, Nat.reduceMul, Nat.reduceLT, Nat.reduceLeDiff, Nat.reduceEqDiff, Nat.reduceBEq, Int.reduceToNat, Int.reduceLT, Int.reduceLE, Int.reduceEq, Int.reduceNe, Int.reduceAdd, Int.reduceSub, Int.reduceMul, Int.reduceNeg, ↓reduceIte, reduceCtorEq, f3, f4, hw2]
    repeat' (first | (refine wantK_splitN (fun h => ?_) (fun h => ?_) <;> simp only [go_sem, Nat.reduceAdd, Nat.reduceSub, Nat.reduceMul, Nat.reduceLT, Nat.reduceLeDiff, Nat.reduceEqDiff, Nat.reduceBEq, Int.reduceToNat, Int.reduceLT, Int.reduceLE, Int.reduceEq, Int.reduceNe, Int.reduceAdd, Int.reduceSub, Int.reduceMul, Int.reduceNeg, ↓reduceIte, reduceCtorEq, Try.ntmps36, Try.results36, f3, *]) | (refine wantK_split (fun h => ?_) (fun h => ?_) <;> simp only [go_sem, Nat.reduceAdd, Nat.reduceSub, Nat.reduceMul, Nat.reduceLT, Nat.reduceLeDiff, Nat.reduceEqDiff, Nat.reduceBEq, Int.reduceToNat, Int.reduceLT, Int.reduceLE, Int.reduceEq, Int.reduceNe, Int.reduceAdd, Int.reduceSub, Int.reduceMul, Int.reduceNeg, ↓reduceIte, reduceCtorEq, Try.ntmps36, Try.results36, f3, *]) | (refine condK_splitN (fun h => ?_) (fun h => ?_) <;> simp only [go_sem, Nat.reduceAdd, Nat.reduceSub, Nat.reduceMul, Nat.reduceLT, Nat.reduceLeDiff, Nat.reduceEqDiff, Nat.reduceBEq, Int.reduceToNat, Int.reduceLT, Int.reduceLE, Int.reduceEq, Int.reduceNe, Int.reduceAdd, Int.reduceSub, Int.reduceMul, Int.reduceNeg, ↓reduceIte, reduceCtorEq, Try.ntmps36, Try.results36, f3, *]) | (refine condK_split (fun h => ?_) (fun h => ?_) <;> simp only [go_sem, Nat.reduceAdd, Nat.reduceSub, Nat.reduceMul, Nat.reduceLT, Nat.reduceLeDiff, Nat.reduceEqDiff, Nat.reduceBEq, Int.reduceToNat, Int.reduceLT, Int.reduceLE, Int.reduceEq, Int.reduceNe, Int.reduceAdd, Int.reduceSub, Int.reduceMul, Int.reduceNeg, ↓reduceIte, reduceCtorEq, Try.ntmps36, Try.results36, f3, *]) | (refine drawK_splitN (fun h => ?_) (fun h => ?_) <;> simp only [go_sem, Nat.reduceAdd, Nat.reduceSub, Nat.reduceMul, Nat.reduceLT, Nat.reduceLeDiff, Nat.reduceEqDiff, Nat.reduceBEq, Int.reduceToNat, Int.reduceLT, Int.reduceLE, Int.reduceEq, Int.reduceNe, Int.reduceAdd, Int.reduceSub, Int.reduceMul, Int.reduceNeg, ↓reduceIte, reduceCtorEq, Try.ntmps36, Try.results36, f3, *]) | (refine drawK_split (fun h => ?_) (fun h => ?_) <;> simp only [go_sem, Nat.reduceAdd, Nat.reduceSub, Nat.reduceMul, Nat.reduceLT, Nat.reduceLeDiff, Nat.reduceEqDiff, Nat.reduceBEq, Int.reduceToNat, Int.reduceLT, Int.reduceLE, Int.reduceEq, Int.reduceNe, Int.reduceAdd, Int.reduceSub, Int.reduceMul, Int.reduceNeg, ↓reduceIte, reduceCtorEq, Try.ntmps36, Try.results36, f3, *]) | (refine endD_intro (by decide +kernel) ?_; simp only [go_sem, Nat.reduceAdd, Nat.reduceSub, Nat.reduceMul, Nat.reduceLT, Nat.reduceLeDiff, Nat.reduceEqDiff, Nat.reduceBEq, Int.reduceToNat, Int.reduceLT, Int.reduceLE, Int.reduceEq, Int.reduceNe, Int.reduceAdd, Int.reduceSub, Int.reduceMul, Int.reduceNeg, ↓reduceIte, reduceCtorEq, Try.ntmps36, Try.results36, f3, *]) | (with_reducible refine And.intro ?_ ?_))
    all_goals simp_all
  · have hG : Snd.goes ⟨st, te, pos, num, left, gap, clock, waits, err⟩ = false := by simp [Snd.goes]; omega
    rw [hG] at hS hP ⊢
    simp only [Bool.false_eq_true, if_false] at hS hP
    subst hS hP
    simp only [go_sem, Nat.reduceAdd, Nat.reduceSub, Nat.reduceMul, Nat.reduceLT, Nat.reduceLeDiff, Nat.reduceEqDiff, Nat.reduceBEq, Int.reduceToNat, Int.reduceLT, Int.reduceLE, Int.reduceEq, Int.reduceNe, Int.reduceAdd, Int.reduceSub, Int.reduceMul, Int.reduceNeg, ↓reduceIte, reduceCtorEq, Try.ntmps36, Try.results36, Snd.pv, Pdu.pv, Pdu.zero]
    repeat' (first | (refine wantK_splitN (fun h => ?_) (fun h => ?_) <;> simp only [go_sem, Nat.reduceAdd, Nat.reduceSub, Nat.reduceMul, Nat.reduceLT, Nat.reduceLeDiff, Nat.reduceEqDiff, Nat.reduceBEq, Int.reduceToNat, Int.reduceLT, Int.reduceLE, Int.reduceEq, Int.reduceNe, Int.reduceAdd, Int.reduceSub, Int.reduceMul, Int.reduceNeg, ↓reduceIte, reduceCtorEq, Try.ntmps36, Try.results36, Snd.pv, Pdu.pv, Pdu.zero, *]) | (refine wantK_split (fun h => ?_) (fun h => ?_) <;> simp only [go_sem, Nat.reduceAdd, Nat.reduceSub, Nat.reduceMul, Nat.reduceLT, Nat.reduceLeDiff, Nat.reduceEqDiff, Nat.reduceBEq, Int.reduceToNat, Int.reduceLT, Int.reduceLE, Int.reduceEq, Int.reduceNe, Int.reduceAdd, Int.reduceSub, Int.reduceMul, Int.reduceNeg, ↓reduceIte, reduceCtorEq, Try.ntmps36, Try.results36, Snd.pv, Pdu.pv, Pdu.zero, *]) | (refine condK_splitN (fun h => ?_) (fun h => ?_) <;> simp only [go_sem, Nat.reduceAdd, Nat.reduceSub, Nat.reduceMul, Nat.reduceLT, Nat.reduceLeDiff, Nat.reduceEqDiff, Nat.reduceBEq, Int.reduceToNat, Int.reduceLT, Int.reduceLE, Int.reduceEq, Int.reduceNe, Int.reduceAdd, Int.reduceSub, Int.reduceMul, Int.reduceNeg, ↓reduceIte, reduceCtorEq, Try.ntmps36, Try.results36, Snd.pv, Pdu.pv, Pdu.zero, *]) | (refine condK_split (fun h => ?_) (fun h => ?_) <;> simp only [go_sem, Nat.reduceAdd, Nat.reduceSub, Nat.reduceMul, Nat.reduceLT, Nat.reduceLeDiff, Nat.reduceEqDiff, Nat.reduceBEq, Int.reduceToNat, Int.reduceLT, Int.reduceLE, Int.reduceEq, Int.reduceNe, Int.reduceAdd, Int.reduceSub, Int.reduceMul, Int.reduceNeg, ↓reduceIte, reduceCtorEq, Try.ntmps36, Try.results36, Snd.pv, Pdu.pv, Pdu.zero, *]) | (refine drawK_splitN (fun h => ?_) (fun h => ?_) <;> simp only [go_sem, Nat.reduceAdd, Nat.reduceSub, Nat.reduceMul, Nat.reduceLT, Nat.reduceLeDiff, Nat.reduceEqDiff, Nat.reduceBEq, Int.reduceToNat, Int.reduceLT, Int.reduceLE, Int.reduceEq, Int.reduceNe, Int.reduceAdd, Int.reduceSub, Int.reduceMul, Int.reduceNeg, ↓reduceIte, reduceCtorEq, Try.ntmps36, Try.results36, Snd.pv, Pdu.pv, Pdu.zero, *]) | (refine drawK_split (fun h => ?_) (fun h => ?_) <;> simp only [go_sem, Nat.reduceAdd, Nat.reduceSub, Nat.reduceMul, Nat.reduceLT, Nat.reduceLeDiff, Nat.reduceEqDiff, Nat.reduceBEq, Int.reduceToNat, Int.reduceLT, Int.reduceLE, Int.reduceEq, Int.reduceNe, Int.reduceAdd, Int.reduceSub, Int.reduceMul, Int.reduceNeg, ↓reduceIte, reduceCtorEq, Try.ntmps36, Try.results36, Snd.pv, Pdu.pv, Pdu.zero, *]) | (refine endD_intro (by decide +kernel) ?_; simp only [go_sem, Nat.reduceAdd, Nat.reduceSub, Nat.reduceMul, Nat.reduceLT, Nat.reduceLeDiff, Nat.reduceEqDiff, Nat.reduceBEq, Int.reduceToNat, Int.reduceLT, Int.reduceLE, Int.reduceEq, Int.reduceNe, Int.reduceAdd, Int.reduceSub, Int.reduceMul, Int.reduceNeg, ↓reduceIte, reduceCtorEq, Try.ntmps36, Try.results36, Snd.pv, Pdu.pv, Pdu.zero, *]) | (with_reducible refine And.intro ?_ ?_))
    all_goals simp_all

def tickN (s : Snd) : Nat → Snd
  | 0 => s
  | i + 1 => tickS (tickN s i)
def opS (x : Int) (o : OpS) (s : Snd) : Snd := if x = 0 then takeS s o.p else if x = 1 then tickN s o.n.toNat else nextS s
def Snd.fine (s : Snd) : Prop := s.ok ∧ s.left ≤ 255 ∧ (s.st = 2 → s.left = -1 ∨ 1 ≤ s.left)
theorem take_fine {s : Snd} (h : s.fine) (p : Pdu) : (takeS s p).fine := by
  obtain ⟨⟨h1, h2, h3⟩, h5, h4⟩ := h
  unfold takeS
  by_cases ht : s.takes p = true
  · rw [if_pos ht]
    have hR : p.right = true := by simp [Snd.takes] at ht; exact ht.2
    have hk : p.k = 4 := by simp [Snd.takes] at ht; exact ht.1.2
    have hb : 0 ≤ p.b ∧ p.b ≤ 255 := by simp [Pdu.right, hk] at hR; omega
    split
    · exact ⟨⟨h1, h2, h3⟩, h5, by simp⟩
    · split
      · split
        · exact ⟨⟨h1, h2, h3⟩, h5, by simp⟩
        · exact ⟨⟨h1, h2, h3⟩, h5, h4⟩
      · refine ⟨⟨h1, h2, h3⟩, ?_, fun _ => ?_⟩
        · simp only
          split <;> omega
        · simp only
          split <;> omega
  · rw [if_neg ht]
    exact ⟨⟨h1, h2, h3⟩, h5, h4⟩
theorem tick_fine {s : Snd} (h : s.fine) : (tickS s).fine := by
  obtain ⟨⟨h1, h2, h3⟩, h5, h4⟩ := h
  unfold tickS
  split
  · generalize (if 1099511627776 < IntKind.wrap .i64 (s.clock + 1) then 1099511627776 else IntKind.wrap .i64 (s.clock + 1)) = c
    simp only
    split
    · exact ⟨⟨h1, h2, h3⟩, h5, by simp⟩
    · exact ⟨⟨h1, h2, h3⟩, h5, h4⟩
  · exact ⟨⟨h1, h2, h3⟩, h5, h4⟩
theorem tickN_fine {s : Snd} (h : s.fine) : ∀ i, (tickN s i).fine
  | 0 => h
  | i + 1 => tick_fine (tickN_fine h i)
theorem next_fine {s : Snd} (h : s.fine) : (nextS s).fine := by
  obtain ⟨⟨h1, h2, h3⟩, h5, h4⟩ := h
  unfold nextS
  split
  · rename_i hg
    have hst : s.st = 2 := by simp [Snd.goes] at hg; exact hg.1
    have hl := h4 hst
    have hw : IntKind.wrap .i64 (s.left - 1) = s.left - 1 := wrapI64 (by omega)
    have hto : 0 ≤ nextTo s ∧ nextTo s ≤ s.text.length := by simp only [nextTo]; split <;> omega
    refine ⟨⟨hto.1, hto.2, h3⟩, ?_, fun h => ?_⟩
    · simp only [nextL, hw]
      repeat' split
      all_goals omega
    · simp only [nextT, nextL, hw] at h ⊢
      repeat' split at h
      all_goals first | omega | skip
      all_goals (repeat' split) <;> omega
  · exact ⟨⟨h1, h2, h3⟩, h5, h4⟩
theorem op_fine {s : Snd} (h : s.fine) (x : Int) (o : OpS) : (opS x o s).fine := by
  unfold opS
  split
  · exact take_fine h o.p
  · split
    · exact tickN_fine h _
    · exact next_fine h

def doSt (o : OpS) (s : Snd) (z1 z2 : List PV) (i : Nat) : St := ⟨66, [(3, .ptr 0 0), (4, .ptr 1 0), (5, .ptr 2 0), (6, .ptr 3 0), (7, .ptr 4 0), (9, PI i)], [(0, .box 28 s.cells), (1, .box 28 s.cells), (2, .box 38 o.row), (3, .box 28 z1), (4, .box 28 z2)], 9, 0⟩
def doI (o : OpS) (s : Snd) (z : List PV) (m : Nat) (st : St) : Prop := ∃ i : Nat, i ≤ o.n.toNat ∧ m = o.n.toNat - i ∧ st = doSt o (tickN s i) z z i
theorem do_calls (s : Snd) (hs : s.fine) (o : OpS) : PureCalls Try.prog 20 [s.pv, s.pv, .agg o.row] (.tup [(opS (bitsA .and .i64 o.kind 3) o s).pv, (opS (bitsA .and .i64 o.kind 3) o s).pv, PB true]) := by
  refine PureCalls.of tabOK mixed Try.func20 rfl rfl (by decide +kernel) (by simp [Try.ntmps20]) ?_
  have hn255 : o.n.toNat < 256 := o.n.toNat_lt
  have hwn : IntKind.wrap .i64 (o.n.toNat : Int) = o.n.toNat := wrapI64 (by omega)
  simp only [go_sem, Nat.reduceAdd, Nat.reduceSub, Nat.reduceMul, Nat.reduceLT, Nat.reduceLeDiff, Nat.reduceEqDiff, Nat.reduceBEq, Int.reduceToNat, Int.reduceLT, Int.reduceLE, Int.reduceEq, Int.reduceNe, Int.reduceAdd, Int.reduceSub, Int.reduceMul, Int.reduceNeg, ↓reduceIte, reduceCtorEq, Try.ntmps20, Try.results20, Snd.pv, OpS.row]
  generalize bitsA .and .i64 o.kind 3 = x
  by_cases hx0 : x = 0
  · have f1 : decide (x = 0) = true := by simp [hx0]
    have hO : opS x o s = takeS s o.p := by simp [opS, hx0]
    rw [hO]
    have c1 := take_calls s o.p
    have c2 := takeR_calls s o.p
    generalize takeS s o.p = s' at c1 c2
    simp only [go_sem, Nat.reduceAdd, Nat.reduceSub, Nat.reduceMul, Nat.reduceLT, Nat.reduceLeDiff, Nat.reduceEqDiff, Nat.reduceBEq, Int.reduceToNat, Int.reduceLT, Int.reduceLE, Int.reduceEq, Int.reduceNe, Int.reduceAdd, Int.reduceSub, Int.reduceMul, Int.reduceNeg, ↓reduceIte, reduceCtorEq, f1, Try.ntmps20, Try.results20]
    refine callD_same c1 (by simp only [go_sem, Nat.reduceAdd, Nat.reduceSub, Nat.reduceMul, Nat.reduceLT, Nat.reduceLeDiff, Nat.reduceEqDiff, Nat.reduceBEq, Int.reduceToNat, Int.reduceLT, Int.reduceLE, Int.reduceEq, Int.reduceNe, Int.reduceAdd, Int.reduceSub, Int.reduceMul, Int.reduceNeg, ↓reduceIte, reduceCtorEq, Snd.pv, Pdu.pv]) ?_
    simp only [go_sem, Nat.reduceAdd, Nat.reduceSub, Nat.reduceMul, Nat.reduceLT, Nat.reduceLeDiff, Nat.reduceEqDiff, Nat.reduceBEq, Int.reduceToNat, Int.reduceLT, Int.reduceLE, Int.reduceEq, Int.reduceNe, Int.reduceAdd, Int.reduceSub, Int.reduceMul, Int.reduceNeg, ↓reduceIte, reduceCtorEq, Snd.pv, Pdu.pv]
    refine callD_same c2 (by simp only [go_sem, Nat.reduceAdd, Nat.reduceSub, Nat.reduceMul, Nat.reduceLT, Nat.reduceLeDiff, Nat.reduceEqDiff, Nat.reduceBEq, Int.reduceToNat, Int.reduceLT, Int.reduceLE, Int.reduceEq, Int.reduceNe, Int.reduceAdd, Int.reduceSub, Int.reduceMul, Int.reduceNeg, ↓reduceIte, reduceCtorEq, Snd.pv, Pdu.pv]) ?_
    simp only [go_sem, Nat.reduceAdd, Nat.reduceSub, Nat.reduceMul, Nat.reduceLT, Nat.reduceLeDiff, Nat.reduceEqDiff, Nat.reduceBEq, Int.reduceToNat, Int.reduceLT, Int.reduceLE, Int.reduceEq, Int.reduceNe, Int.reduceAdd, Int.reduceSub, Int.reduceMul, Int.reduceNeg, ↓reduceIte, reduceCtorEq, Snd.pv, Pdu.pv]
    refine endD_intro (by decide +kernel) ?_
    simp only [go_sem, Nat.reduceAdd, Nat.reduceSub, Nat.reduceMul, Nat.reduceLT, Nat.reduceLeDiff, Nat.reduceEqDiff, Nat.reduceBEq, Int.reduceToNat, Int.reduceLT, Int.reduceLE, Int.reduceEq, Int.reduceNe, Int.reduceAdd, Int.reduceSub, Int.reduceMul, Int.reduceNeg, ↓reduceIte, reduceCtorEq, Try.ntmps20, Try.results20]
  have f0 : decide (x = 0) = false := by simp [hx0]
  by_cases hx1 : x = 1
  · have f1 : decide (x = 1) = true := by simp [hx1]
    have hO : opS x o s = tickN s o.n.toNat := by simp [opS, hx1]
    rw [hO]
    simp only [go_sem, Nat.reduceAdd, Nat.reduceSub, Nat.reduceMul, Nat.reduceLT, Nat.reduceLeDiff, Nat.reduceEqDiff, Nat.reduceBEq, Int.reduceToNat, Int.reduceLT, Int.reduceLE, Int.reduceEq, Int.reduceNe, Int.reduceAdd, Int.reduceSub, Int.reduceMul, Int.reduceNeg, ↓reduceIte, reduceCtorEq, f0, f1, Try.ntmps20, Try.results20]
    refine wpA_loop (doI o s [PI 0, .im 1 [], PI 0, PI 0, PI 0, PI 0, PI 0, PI 0, PI 0]) ⟨_, _, ?_, 0, by omega, rfl, rfl⟩ ?_
    · simp only [go_sem, Nat.reduceAdd, Nat.reduceSub, Nat.reduceMul, Nat.reduceLT, Nat.reduceLeDiff, Nat.reduceEqDiff, Nat.reduceBEq, Int.reduceToNat, Int.reduceLT, Int.reduceLE, Int.reduceEq, Int.reduceNe, Int.reduceAdd, Int.reduceSub, Int.reduceMul, Int.reduceNeg, ↓reduceIte, reduceCtorEq, Int.natCast_zero, doSt, tickN, Snd.cells, OpS.row]
    rintro m st ⟨i, hi, rfl, rfl⟩
    by_cases hc : i < o.n.toNat
    · have e1 : decide ((i : Int) < (o.n.toNat : Int)) = true := by simp; omega
      have hw : IntKind.wrap .i64 ((i : Int) + 1) = ((i + 1 : Nat) : Int) := by rw [wrapI64 (by omega)]; rfl
      have c1 := tick_calls (tickN s i)
      have c2 := tickR_calls (tickN s i)
      rw [show tickS (tickN s i) = tickN s (i + 1) from rfl] at c1 c2
      have fin : ∀ st' z, z = [PI 0, .im 1 [], PI 0, PI 0, PI 0, PI 0, PI 0, PI 0, PI 0] → Weak st' (doSt o (tickN s (i + 1)) z z (i + 1)) → ∃ m' s'', m' < o.n.toNat - i ∧ Weak st' s'' ∧ doI o s [PI 0, .im 1 [], PI 0, PI 0, PI 0, PI 0, PI 0, PI 0, PI 0] m' s'' :=
        fun st' z hz h => ⟨o.n.toNat - (i + 1), _, by omega, h, i + 1, by omega, rfl, by rw [hz]⟩
      generalize tickN s i = s1 at c1 c2
      generalize tickN s (i + 1) = s2 at c1 c2 fin
      simp only [go_sem, Nat.reduceAdd, Nat.reduceSub, Nat.reduceMul, Nat.reduceLT, Nat.reduceLeDiff, Nat.reduceEqDiff, Nat.reduceBEq, Int.reduceToNat, Int.reduceLT, Int.reduceLE, Int.reduceEq, Int.reduceNe, Int.reduceAdd, Int.reduceSub, Int.reduceMul, Int.reduceNeg, ↓reduceIte, reduceCtorEq, doSt, Snd.cells, OpS.row, hwn, e1, hw]
      refine CallA.same c1 (by simp only [go_sem, Nat.reduceAdd, Nat.reduceSub, Nat.reduceMul, Nat.reduceLT, Nat.reduceLeDiff, Nat.reduceEqDiff, Nat.reduceBEq, Int.reduceToNat, Int.reduceLT, Int.reduceLE, Int.reduceEq, Int.reduceNe, Int.reduceAdd, Int.reduceSub, Int.reduceMul, Int.reduceNeg, ↓reduceIte, reduceCtorEq, Snd.pv]) ?_
      simp only [go_sem, Nat.reduceAdd, Nat.reduceSub, Nat.reduceMul, Nat.reduceLT, Nat.reduceLeDiff, Nat.reduceEqDiff, Nat.reduceBEq, Int.reduceToNat, Int.reduceLT, Int.reduceLE, Int.reduceEq, Int.reduceNe, Int.reduceAdd, Int.reduceSub, Int.reduceMul, Int.reduceNeg, ↓reduceIte, reduceCtorEq, Snd.pv]
      refine CallA.same c2 (by simp only [go_sem, Nat.reduceAdd, Nat.reduceSub, Nat.reduceMul, Nat.reduceLT, Nat.reduceLeDiff, Nat.reduceEqDiff, Nat.reduceBEq, Int.reduceToNat, Int.reduceLT, Int.reduceLE, Int.reduceEq, Int.reduceNe, Int.reduceAdd, Int.reduceSub, Int.reduceMul, Int.reduceNeg, ↓reduceIte, reduceCtorEq, Snd.pv]) ?_
      simp only [go_sem, Nat.reduceAdd, Nat.reduceSub, Nat.reduceMul, Nat.reduceLT, Nat.reduceLeDiff, Nat.reduceEqDiff, Nat.reduceBEq, Int.reduceToNat, Int.reduceLT, Int.reduceLE, Int.reduceEq, Int.reduceNe, Int.reduceAdd, Int.reduceSub, Int.reduceMul, Int.reduceNeg, ↓reduceIte, reduceCtorEq, Snd.pv, hw]
      refine fin _ _ rfl ?_
      simp only [go_sem, Nat.reduceAdd, Nat.reduceSub, Nat.reduceMul, Nat.reduceLT, Nat.reduceLeDiff, Nat.reduceEqDiff, Nat.reduceBEq, Int.reduceToNat, Int.reduceLT, Int.reduceLE, Int.reduceEq, Int.reduceNe, Int.reduceAdd, Int.reduceSub, Int.reduceMul, Int.reduceNeg, ↓reduceIte, reduceCtorEq, doSt, Snd.cells, OpS.row]
    · have e1 : decide ((i : Int) < (o.n.toNat : Int)) = false := by simp; omega
      have : i = o.n.toNat := by omega
      subst this
      generalize tickN s o.n.toNat = s1
      simp only [go_sem, Nat.reduceAdd, Nat.reduceSub, Nat.reduceMul, Nat.reduceLT, Nat.reduceLeDiff, Nat.reduceEqDiff, Nat.reduceBEq, Int.reduceToNat, Int.reduceLT, Int.reduceLE, Int.reduceEq, Int.reduceNe, Int.reduceAdd, Int.reduceSub, Int.reduceMul, Int.reduceNeg, ↓reduceIte, reduceCtorEq, doSt, Snd.cells, OpS.row, hwn, e1]
      refine endD_intro (by decide +kernel) ?_
      simp only [go_sem, Nat.reduceAdd, Nat.reduceSub, Nat.reduceMul, Nat.reduceLT, Nat.reduceLeDiff, Nat.reduceEqDiff, Nat.reduceBEq, Int.reduceToNat, Int.reduceLT, Int.reduceLE, Int.reduceEq, Int.reduceNe, Int.reduceAdd, Int.reduceSub, Int.reduceMul, Int.reduceNeg, ↓reduceIte, reduceCtorEq, Try.ntmps20, Try.results20]
  have f1 : decide (x = 1) = false := by simp [hx1]
  have hO : opS x o s = nextS s := by simp [opS, hx0, hx1]
  rw [hO]
  have c1 := next_calls s hs.1
  have c2 := nextR_calls s hs.1 hs.2.2
  generalize nextS s = s' at c1 c2
  generalize nextP s = p' at c1 c2
  have c3 := same_calls p' p'
  rw [show decide (p' = p') = true by simp] at c3
  simp only [go_sem, Nat.reduceAdd, Nat.reduceSub, Nat.reduceMul, Nat.reduceLT, Nat.reduceLeDiff, Nat.reduceEqDiff, Nat.reduceBEq, Int.reduceToNat, Int.reduceLT, Int.reduceLE, Int.reduceEq, Int.reduceNe, Int.reduceAdd, Int.reduceSub, Int.reduceMul, Int.reduceNeg, ↓reduceIte, reduceCtorEq, f0, f1, Try.ntmps20, Try.results20]
  refine CallA.same c1 (by simp only [go_sem, Nat.reduceAdd, Nat.reduceSub, Nat.reduceMul, Nat.reduceLT, Nat.reduceLeDiff, Nat.reduceEqDiff, Nat.reduceBEq, Int.reduceToNat, Int.reduceLT, Int.reduceLE, Int.reduceEq, Int.reduceNe, Int.reduceAdd, Int.reduceSub, Int.reduceMul, Int.reduceNeg, ↓reduceIte, reduceCtorEq, Snd.pv]) ?_
  simp only [go_sem, Nat.reduceAdd, Nat.reduceSub, Nat.reduceMul, Nat.reduceLT, Nat.reduceLeDiff, Nat.reduceEqDiff, Nat.reduceBEq, Int.reduceToNat, Int.reduceLT, Int.reduceLE, Int.reduceEq, Int.reduceNe, Int.reduceAdd, Int.reduceSub, Int.reduceMul, Int.reduceNeg, ↓reduceIte, reduceCtorEq, Snd.pv, Pdu.pv]
  refine CallA.same c2 (by simp only [go_sem, Nat.reduceAdd, Nat.reduceSub, Nat.reduceMul, Nat.reduceLT, Nat.reduceLeDiff, Nat.reduceEqDiff, Nat.reduceBEq, Int.reduceToNat, Int.reduceLT, Int.reduceLE, Int.reduceEq, Int.reduceNe, Int.reduceAdd, Int.reduceSub, Int.reduceMul, Int.reduceNeg, ↓reduceIte, reduceCtorEq, Snd.pv]) ?_
  simp only [go_sem, Nat.reduceAdd, Nat.reduceSub, Nat.reduceMul, Nat.reduceLT, Nat.reduceLeDiff, Nat.reduceEqDiff, Nat.reduceBEq, Int.reduceToNat, Int.reduceLT, Int.reduceLE, Int.reduceEq, Int.reduceNe, Int.reduceAdd, Int.reduceSub, Int.reduceMul, Int.reduceNeg, ↓reduceIte, reduceCtorEq, Snd.pv, Pdu.pv]
  refine callD_same c3 (by simp only [go_sem, Nat.reduceAdd, Nat.reduceSub, Nat.reduceMul, Nat.reduceLT, Nat.reduceLeDiff, Nat.reduceEqDiff, Nat.reduceBEq, Int.reduceToNat, Int.reduceLT, Int.reduceLE, Int.reduceEq, Int.reduceNe, Int.reduceAdd, Int.reduceSub, Int.reduceMul, Int.reduceNeg, ↓reduceIte, reduceCtorEq, Pdu.pv]) ?_
  simp only [go_sem, Nat.reduceAdd, Nat.reduceSub, Nat.reduceMul, Nat.reduceLT, Nat.reduceLeDiff, Nat.reduceEqDiff, Nat.reduceBEq, Int.reduceToNat, Int.reduceLT, Int.reduceLE, Int.reduceEq, Int.reduceNe, Int.reduceAdd, Int.reduceSub, Int.reduceMul, Int.reduceNeg, ↓reduceIte, reduceCtorEq]
  refine endD_intro (by decide +kernel) ?_
  simp only [go_sem, Nat.reduceAdd, Nat.reduceSub, Nat.reduceMul, Nat.reduceLT, Nat.reduceLeDiff, Nat.reduceEqDiff, Nat.reduceBEq, Int.reduceToNat, Int.reduceLT, Int.reduceLE, Int.reduceEq, Int.reduceNe, Int.reduceAdd, Int.reduceSub, Int.reduceMul, Int.reduceNeg, ↓reduceIte, reduceCtorEq, Try.ntmps20, Try.results20]
  simp
end Go.Proofs.Ytefcpcepgflhdaa.Pe
