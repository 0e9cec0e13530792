import Derived.Test.YtefcpcepgflhdaaTab1
import Derived.Test.YtefcpcepgflhdaaPeB
namespace Go.Proofs.Ytefcpcepgflhdaa.Pe
open Go.Pe Go.RowKit
set_option maxRecDepth 20000
set_option maxHeartbeats 4000000
set_option linter.unusedSimpArgs false

structure Pdu where
  k : Int
  l : Int
  n : Int
  s : Int
  b : Int
  g : Int
  d : List UInt8
  deriving DecidableEq
structure Snd where
  st : Int
  text : List UInt8
  pos : Int
  num : Int
  left : Int
  gap : Int
  clock : Int
  waits : Int
  err : Int
  deriving DecidableEq
def Pdu.pv (p : Pdu) : PV := .agg [PI p.k, PI p.l, PI p.n, PI p.s, PI p.b, PI p.g, bytesPV p.d]
def Snd.pv (s : Snd) : PV := .agg [PI s.st, bytesPV s.text, PI s.pos, PI s.num, PI s.left, PI s.gap, PI s.clock, PI s.waits, PI s.err]

theorem same_calls (p q : Pdu) : PureCalls Try.prog 18 [p.pv, q.pv] (PB (decide (p = q))) := by
  refine PureCalls.of tabOK mixed Try.func18 rfl rfl (by decide +kernel) (by simp [Try.ntmps18]) ?_
  obtain ⟨k, l, n, s, b, g, d⟩ := p
  obtain ⟨k', l', n', s', b', g', d'⟩ := q
  simp only [go_sem, Nat.reduceAdd, Nat.reduceSub, Nat.reduceMul, Nat.reduceLT, Nat.reduceLeDiff, Nat.reduceEqDiff, Nat.reduceBEq, Int.reduceToNat, Int.reduceLT, Int.reduceLE, Int.reduceEq, Int.reduceNe, Int.reduceAdd, Int.reduceSub, Int.reduceMul, Int.reduceNeg, ↓reduceIte, reduceCtorEq, Try.ntmps18, Try.results18, Pdu.pv]
  repeat' (first | (refine wantK_splitN (fun h => ?_) (fun h => ?_) <;> simp only [go_sem, Nat.reduceAdd, Nat.reduceSub, Nat.reduceMul, Nat.reduceLT, Nat.reduceLeDiff, Nat.reduceEqDiff, Nat.reduceBEq, Int.reduceToNat, Int.reduceLT, Int.reduceLE, Int.reduceEq, Int.reduceNe, Int.reduceAdd, Int.reduceSub, Int.reduceMul, Int.reduceNeg, ↓reduceIte, reduceCtorEq, Try.ntmps18, Try.results18, h]) | (refine wantK_split (fun h => ?_) (fun h => ?_) <;> simp only [go_sem, Nat.reduceAdd, Nat.reduceSub, Nat.reduceMul, Nat.reduceLT, Nat.reduceLeDiff, Nat.reduceEqDiff, Nat.reduceBEq, Int.reduceToNat, Int.reduceLT, Int.reduceLE, Int.reduceEq, Int.reduceNe, Int.reduceAdd, Int.reduceSub, Int.reduceMul, Int.reduceNeg, ↓reduceIte, reduceCtorEq, Try.ntmps18, Try.results18, h]) | (refine condK_splitN (fun h => ?_) (fun h => ?_) <;> simp only [go_sem, Nat.reduceAdd, Nat.reduceSub, Nat.reduceMul, Nat.reduceLT, Nat.reduceLeDiff, Nat.reduceEqDiff, Nat.reduceBEq, Int.reduceToNat, Int.reduceLT, Int.reduceLE, Int.reduceEq, Int.reduceNe, Int.reduceAdd, Int.reduceSub, Int.reduceMul, Int.reduceNeg, ↓reduceIte, reduceCtorEq, Try.ntmps18, Try.results18, h]) | (refine condK_split (fun h => ?_) (fun h => ?_) <;> simp only [go_sem, Nat.reduceAdd, Nat.reduceSub, Nat.reduceMul, Nat.reduceLT, Nat.reduceLeDiff, Nat.reduceEqDiff, Nat.reduceBEq, Int.reduceToNat, Int.reduceLT, Int.reduceLE, Int.reduceEq, Int.reduceNe, Int.reduceAdd, Int.reduceSub, Int.reduceMul, Int.reduceNeg, ↓reduceIte, reduceCtorEq, Try.ntmps18, Try.results18, h]) | (refine drawK_splitN (fun h => ?_) (fun h => ?_) <;> simp only [go_sem, Nat.reduceAdd, Nat.reduceSub, Nat.reduceMul, Nat.reduceLT, Nat.reduceLeDiff, Nat.reduceEqDiff, Nat.reduceBEq, Int.reduceToNat, Int.reduceLT, Int.reduceLE, Int.reduceEq, Int.reduceNe, Int.reduceAdd, Int.reduceSub, Int.reduceMul, Int.reduceNeg, ↓reduceIte, reduceCtorEq, Try.ntmps18, Try.results18, h]) | (refine drawK_split (fun h => ?_) (fun h => ?_) <;> simp only [go_sem, Nat.reduceAdd, Nat.reduceSub, Nat.reduceMul, Nat.reduceLT, Nat.reduceLeDiff, Nat.reduceEqDiff, Nat.reduceBEq, Int.reduceToNat, Int.reduceLT, Int.reduceLE, Int.reduceEq, Int.reduceNe, Int.reduceAdd, Int.reduceSub, Int.reduceMul, Int.reduceNeg, ↓reduceIte, reduceCtorEq, Try.ntmps18, Try.results18, h]))
  all_goals simp_all [FrzR]
theorem sameS_calls (p q : Snd) : PureCalls Try.prog 19 [p.pv, q.pv] (PB (decide (p = q))) := by
  refine PureCalls.of tabOK mixed Try.func19 rfl rfl (by decide +kernel) (by simp [Try.ntmps19]) ?_
  obtain ⟨st, te, pos, num, left, gap, clock, waits, err⟩ := p
  obtain ⟨st', te', pos', num', left', gap', clock', waits', err'⟩ := q
  simp only [go_sem, Nat.reduceAdd, Nat.reduceSub, Nat.reduceMul, Nat.reduceLT, Nat.reduceLeDiff, Nat.reduceEqDiff, Nat.reduceBEq, Int.reduceToNat, Int.reduceLT, Int.reduceLE, Int.reduceEq, Int.reduceNe, Int.reduceAdd, Int.reduceSub, Int.reduceMul, Int.reduceNeg, ↓reduceIte, reduceCtorEq, Try.ntmps19, Try.results19, Snd.pv]
  repeat' (first | (refine wantK_splitN (fun h => ?_) (fun h => ?_) <;> simp only [go_sem, Nat.reduceAdd, Nat.reduceSub, Nat.reduceMul, Nat.reduceLT, Nat.reduceLeDiff, Nat.reduceEqDiff, Nat.reduceBEq, Int.reduceToNat, Int.reduceLT, Int.reduceLE, Int.reduceEq, Int.reduceNe, Int.reduceAdd, Int.reduceSub, Int.reduceMul, Int.reduceNeg, ↓reduceIte, reduceCtorEq, Try.ntmps19, Try.results19, h]) | (refine wantK_split (fun h => ?_) (fun h => ?_) <;> simp only [go_sem, Nat.reduceAdd, Nat.reduceSub, Nat.reduceMul, Nat.reduceLT, Nat.reduceLeDiff, Nat.reduceEqDiff, Nat.reduceBEq, Int.reduceToNat, Int.reduceLT, Int.reduceLE, Int.reduceEq, Int.reduceNe, Int.reduceAdd, Int.reduceSub, Int.reduceMul, Int.reduceNeg, ↓reduceIte, reduceCtorEq, Try.ntmps19, Try.results19, h]) | (refine condK_splitN (fun h => ?_) (fun h => ?_) <;> simp only [go_sem, Nat.reduceAdd, Nat.reduceSub, Nat.reduceMul, Nat.reduceLT, Nat.reduceLeDiff, Nat.reduceEqDiff, Nat.reduceBEq, Int.reduceToNat, Int.reduceLT, Int.reduceLE, Int.reduceEq, Int.reduceNe, Int.reduceAdd, Int.reduceSub, Int.reduceMul, Int.reduceNeg, ↓reduceIte, reduceCtorEq, Try.ntmps19, Try.results19, h]) | (refine condK_split (fun h => ?_) (fun h => ?_) <;> simp only [go_sem, Nat.reduceAdd, Nat.reduceSub, Nat.reduceMul, Nat.reduceLT, Nat.reduceLeDiff, Nat.reduceEqDiff, Nat.reduceBEq, Int.reduceToNat, Int.reduceLT, Int.reduceLE, Int.reduceEq, Int.reduceNe, Int.reduceAdd, Int.reduceSub, Int.reduceMul, Int.reduceNeg, ↓reduceIte, reduceCtorEq, Try.ntmps19, Try.results19, h]) | (refine drawK_splitN (fun h => ?_) (fun h => ?_) <;> simp only [go_sem, Nat.reduceAdd, Nat.reduceSub, Nat.reduceMul, Nat.reduceLT, Nat.reduceLeDiff, Nat.reduceEqDiff, Nat.reduceBEq, Int.reduceToNat, Int.reduceLT, Int.reduceLE, Int.reduceEq, Int.reduceNe, Int.reduceAdd, Int.reduceSub, Int.reduceMul, Int.reduceNeg, ↓reduceIte, reduceCtorEq, Try.ntmps19, Try.results19, h]) | (refine drawK_split (fun h => ?_) (fun h => ?_) <;> simp only [go_sem, Nat.reduceAdd, Nat.reduceSub, Nat.reduceMul, Nat.reduceLT, Nat.reduceLeDiff, Nat.reduceEqDiff, Nat.reduceBEq, Int.reduceToNat, Int.reduceLT, Int.reduceLE, Int.reduceEq, Int.reduceNe, Int.reduceAdd, Int.reduceSub, Int.reduceMul, Int.reduceNeg, ↓reduceIte, reduceCtorEq, Try.ntmps19, Try.results19, h]))
  all_goals simp_all [FrzR]
end Go.Proofs.Ytefcpcepgflhdaa.Pe
