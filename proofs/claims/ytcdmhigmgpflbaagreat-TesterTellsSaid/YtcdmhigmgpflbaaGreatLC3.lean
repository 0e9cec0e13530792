import Derived.Test.YtcdmhigmgpflbaaGreatTab1
import Derived.Test.YtcdmhigmgpflbaaGreatPeB
set_option maxRecDepth 20000
set_option maxHeartbeats 4000000
set_option linter.unusedSimpArgs false
open Nat renaming reduceAdd → zA,reduceSub → zB,reduceMul → zC,reduceLT → zD,reduceLeDiff → zE,reduceEqDiff → zF,reduceBEq → zG
open Int renaming reduceToNat → zH,reduceLT → zI,reduceLE → zJ,reduceEq → zK,reduceNe → zL,reduceAdd → zM,reduceSub → zN,reduceMul → zO,reduceNeg → zP
namespace Go.Proofs.YtcdmhigmgpflbaaGreat.Pe.Lk
open Go.Pe Go.RowKit
structure Pdu where
  k : Int
  l : Int
  n : Int
  s : Int
  b : Int
  g : Int
  d : List UInt8
  deriving DecidableEq
structure Snd where
  st : Int
  text : List UInt8
  pos : Int
  num : Int
  left : Int
  gap : Int
  clock : Int
  waits : Int
  err : Int
  deriving DecidableEq
def Pdu.pv (p : Pdu) : PV := .agg [PI p.k,PI p.l,PI p.n,PI p.s,PI p.b,PI p.g,bytesPV p.d]
def Snd.pv (s : Snd) : PV := .agg [PI s.st,bytesPV s.text,PI s.pos,PI s.num,PI s.left,PI s.gap,PI s.clock,PI s.waits,PI s.err]
end Go.Proofs.YtcdmhigmgpflbaaGreat.Pe.Lk
namespace Go.Proofs.YtcdmhigmgpflbaaGreat.Pe.Lk
open Go.Pe Go.RowKit
def z4 (a b c d : Int) : Bool := decide (a = 0) && decide (b = 0) && decide (c = 0) && decide (d = 0)
def Pdu.right (p : Pdu) : Bool :=
  if p.k = 1 then decide (p.l = p.d.length) && decide (1 ≤ p.d.length) && decide (p.d.length ≤ 7) && z4 p.n p.s p.b p.g
  else if p.k = 2 then decide (8 ≤ p.l) && decide (p.l ≤ 4095) && decide (p.d.length = 6) && z4 p.n p.s p.b p.g
  else if p.k = 3 then decide (0 ≤ p.n) && decide (p.n ≤ 15) && decide (1 ≤ p.d.length) && decide (p.d.length ≤ 7) && z4 p.l p.s p.b p.g
  else if p.k = 4 then decide (0 ≤ p.s) && decide (p.s ≤ 2) && decide (0 ≤ p.b) && decide (p.b ≤ 255) && decide (0 ≤ p.g) && decide (p.g ≤ 127) && decide (p.d.length = 0) && decide (p.l = 0) && decide (p.n = 0)
  else false
theorem in_calls (n lo hi : Int) : PureCalls Tryz.prog 102 [PI n,PI lo,PI hi] (PB (decide (lo ≤ n) && decide (n ≤ hi))) := by
  refine PureCalls.of tabOK mixed Tryz.func102 rfl rfl (by decide +kernel) (by simp [Tryz.ntmps102]) ?_
  simp only [go_sem,zA,zB,zC,zD,zE,zF,zG,zH,zI,zJ,zK,zL,zM,zN,zO,zP,↓reduceIte,reduceCtorEq,Tryz.ntmps102,Tryz.results102]
  repeat' (first | (refine wantK_splitN (fun h => ?_) (fun h => ?_) <;> simp only [go_sem,zA,zB,zC,zD,zE,zF,zG,zH,zI,zJ,zK,zL,zM,zN,zO,zP,↓reduceIte,reduceCtorEq,Tryz.ntmps102,Tryz.results102,h]) | (refine wantK_split (fun h => ?_) (fun h => ?_) <;> simp only [go_sem,zA,zB,zC,zD,zE,zF,zG,zH,zI,zJ,zK,zL,zM,zN,zO,zP,↓reduceIte,reduceCtorEq,Tryz.ntmps102,Tryz.results102,h]) | (refine condK_splitN (fun h => ?_) (fun h => ?_) <;> simp only [go_sem,zA,zB,zC,zD,zE,zF,zG,zH,zI,zJ,zK,zL,zM,zN,zO,zP,↓reduceIte,reduceCtorEq,Tryz.ntmps102,Tryz.results102,h]) | (refine condK_split (fun h => ?_) (fun h => ?_) <;> simp only [go_sem,zA,zB,zC,zD,zE,zF,zG,zH,zI,zJ,zK,zL,zM,zN,zO,zP,↓reduceIte,reduceCtorEq,Tryz.ntmps102,Tryz.results102,h]) | (refine drawK_splitN (fun h => ?_) (fun h => ?_) <;> simp only [go_sem,zA,zB,zC,zD,zE,zF,zG,zH,zI,zJ,zK,zL,zM,zN,zO,zP,↓reduceIte,reduceCtorEq,Tryz.ntmps102,Tryz.results102,h]) | (refine drawK_split (fun h => ?_) (fun h => ?_) <;> simp only [go_sem,zA,zB,zC,zD,zE,zF,zG,zH,zI,zJ,zK,zL,zM,zN,zO,zP,↓reduceIte,reduceCtorEq,Tryz.ntmps102,Tryz.results102,h]))
  all_goals (simp_all; done)
def Pdu.plain (p : Pdu) : Pdu :=
  if p.k = 1 ∨ p.k = 2 then { p with l := 0 } else if p.k = 3 then { p with n := 0 } else if p.k = 4 then { p with s := 0,b := 0,g := 0 } else p
theorem plain_calls (p : Pdu) : PureCalls Tryz.prog 100 [p.pv] p.plain.pv := by
  refine PureCalls.of tabOK mixed Tryz.func100 rfl rfl (by decide +kernel) (by simp [Tryz.ntmps100]) ?_
  obtain ⟨k,l,n,s,b,g,d⟩ := p
  simp only [go_sem,zA,zB,zC,zD,zE,zF,zG,zH,zI,zJ,zK,zL,zM,zN,zO,zP,↓reduceIte,reduceCtorEq,Tryz.ntmps100,Tryz.results100,Pdu.pv]
  repeat' (first | (refine wantK_splitN (fun h => ?_) (fun h => ?_) <;> simp only [go_sem,zA,zB,zC,zD,zE,zF,zG,zH,zI,zJ,zK,zL,zM,zN,zO,zP,↓reduceIte,reduceCtorEq,Tryz.ntmps100,Tryz.results100,h]) | (refine wantK_split (fun h => ?_) (fun h => ?_) <;> simp only [go_sem,zA,zB,zC,zD,zE,zF,zG,zH,zI,zJ,zK,zL,zM,zN,zO,zP,↓reduceIte,reduceCtorEq,Tryz.ntmps100,Tryz.results100,h]) | (refine condK_splitN (fun h => ?_) (fun h => ?_) <;> simp only [go_sem,zA,zB,zC,zD,zE,zF,zG,zH,zI,zJ,zK,zL,zM,zN,zO,zP,↓reduceIte,reduceCtorEq,Tryz.ntmps100,Tryz.results100,h]) | (refine condK_split (fun h => ?_) (fun h => ?_) <;> simp only [go_sem,zA,zB,zC,zD,zE,zF,zG,zH,zI,zJ,zK,zL,zM,zN,zO,zP,↓reduceIte,reduceCtorEq,Tryz.ntmps100,Tryz.results100,h]) | (refine drawK_splitN (fun h => ?_) (fun h => ?_) <;> simp only [go_sem,zA,zB,zC,zD,zE,zF,zG,zH,zI,zJ,zK,zL,zM,zN,zO,zP,↓reduceIte,reduceCtorEq,Tryz.ntmps100,Tryz.results100,h]) | (refine drawK_split (fun h => ?_) (fun h => ?_) <;> simp only [go_sem,zA,zB,zC,zD,zE,zF,zG,zH,zI,zJ,zK,zL,zM,zN,zO,zP,↓reduceIte,reduceCtorEq,Tryz.ntmps100,Tryz.results100,h]))
  all_goals (simp_all [Pdu.plain])
end Go.Proofs.YtcdmhigmgpflbaaGreat.Pe.Lk
namespace Go.Proofs.YtcdmhigmgpflbaaGreat.Pe.Lk
open Go.Pe Go.RowKit
theorem rightR_calls (p : Pdu) : PureCalls Tryz.prog 116 [p.pv] (PB p.right) := by
  refine PureCalls.of tabOK mixed Tryz.func116 rfl rfl (by decide +kernel) (by simp [Tryz.ntmps116]) ?_
  obtain ⟨k,l,n,s,b,g,d⟩ := p
  simp only [go_sem,zA,zB,zC,zD,zE,zF,zG,zH,zI,zJ,zK,zL,zM,zN,zO,zP,↓reduceIte,reduceCtorEq,Tryz.ntmps116,Tryz.results116,Pdu.pv]
  repeat' (first | (refine wantK_splitN (fun h => ?_) (fun h => ?_) <;> simp only [go_sem,zA,zB,zC,zD,zE,zF,zG,zH,zI,zJ,zK,zL,zM,zN,zO,zP,↓reduceIte,reduceCtorEq,Tryz.ntmps116,Tryz.results116,h]) | (refine wantK_split (fun h => ?_) (fun h => ?_) <;> simp only [go_sem,zA,zB,zC,zD,zE,zF,zG,zH,zI,zJ,zK,zL,zM,zN,zO,zP,↓reduceIte,reduceCtorEq,Tryz.ntmps116,Tryz.results116,h]) | (refine condK_splitN (fun h => ?_) (fun h => ?_) <;> simp only [go_sem,zA,zB,zC,zD,zE,zF,zG,zH,zI,zJ,zK,zL,zM,zN,zO,zP,↓reduceIte,reduceCtorEq,Tryz.ntmps116,Tryz.results116,h]) | (refine condK_split (fun h => ?_) (fun h => ?_) <;> simp only [go_sem,zA,zB,zC,zD,zE,zF,zG,zH,zI,zJ,zK,zL,zM,zN,zO,zP,↓reduceIte,reduceCtorEq,Tryz.ntmps116,Tryz.results116,h]) | (refine drawK_splitN (fun h => ?_) (fun h => ?_) <;> simp only [go_sem,zA,zB,zC,zD,zE,zF,zG,zH,zI,zJ,zK,zL,zM,zN,zO,zP,↓reduceIte,reduceCtorEq,Tryz.ntmps116,Tryz.results116,h]) | (refine drawK_split (fun h => ?_) (fun h => ?_) <;> simp only [go_sem,zA,zB,zC,zD,zE,zF,zG,zH,zI,zJ,zK,zL,zM,zN,zO,zP,↓reduceIte,reduceCtorEq,Tryz.ntmps116,Tryz.results116,h]))
  all_goals (first | (simp_all [Pdu.right,z4]; done) | (simp_all [Pdu.right,z4]; omega))
end Go.Proofs.YtcdmhigmgpflbaaGreat.Pe.Lk
namespace Go.Proofs.YtcdmhigmgpflbaaGreat.Pe.Lk
open Go.Pe Go.RowKit
theorem right_calls (p : Pdu) : PureCalls Tryz.prog 79 [p.pv] (PB p.right) := by
  refine PureCalls.of tabOK mixed Tryz.func79 rfl rfl (by decide +kernel) (by simp [Tryz.ntmps79]) ?_
  obtain ⟨k,l,n,s,b,g,d⟩ := p
  simp only [go_sem,zA,zB,zC,zD,zE,zF,zG,zH,zI,zJ,zK,zL,zM,zN,zO,zP,↓reduceIte,reduceCtorEq,Tryz.ntmps79,Tryz.results79,Pdu.pv]
  refine CallA.pure (plain_calls ⟨k,l,n,s,b,g,d⟩) (by simp only [go_sem,zA,zB,zC,zD,zE,zF,zG,zH,zI,zJ,zK,zL,zM,zN,zO,zP,↓reduceIte,reduceCtorEq,Pdu.pv]) ?_
  by_cases h1 : k = 1
  · subst h1
    simp only [go_sem,zA,zB,zC,zD,zE,zF,zG,zH,zI,zJ,zK,zL,zM,zN,zO,zP,↓reduceIte,reduceCtorEq,Tryz.ntmps79,Tryz.results79,Pdu.pv,Pdu.plain]
    repeat' (first | (refine wantK_splitN (fun h => ?_) (fun h => ?_) <;> simp only [go_sem,zA,zB,zC,zD,zE,zF,zG,zH,zI,zJ,zK,zL,zM,zN,zO,zP,↓reduceIte,reduceCtorEq,Tryz.ntmps79,Tryz.results79,h]) | (refine wantK_split (fun h => ?_) (fun h => ?_) <;> simp only [go_sem,zA,zB,zC,zD,zE,zF,zG,zH,zI,zJ,zK,zL,zM,zN,zO,zP,↓reduceIte,reduceCtorEq,Tryz.ntmps79,Tryz.results79,h]) | (refine condK_splitN (fun h => ?_) (fun h => ?_) <;> simp only [go_sem,zA,zB,zC,zD,zE,zF,zG,zH,zI,zJ,zK,zL,zM,zN,zO,zP,↓reduceIte,reduceCtorEq,Tryz.ntmps79,Tryz.results79,h]) | (refine condK_split (fun h => ?_) (fun h => ?_) <;> simp only [go_sem,zA,zB,zC,zD,zE,zF,zG,zH,zI,zJ,zK,zL,zM,zN,zO,zP,↓reduceIte,reduceCtorEq,Tryz.ntmps79,Tryz.results79,h]) | (refine drawK_splitN (fun h => ?_) (fun h => ?_) <;> simp only [go_sem,zA,zB,zC,zD,zE,zF,zG,zH,zI,zJ,zK,zL,zM,zN,zO,zP,↓reduceIte,reduceCtorEq,Tryz.ntmps79,Tryz.results79,h]) | (refine drawK_split (fun h => ?_) (fun h => ?_) <;> simp only [go_sem,zA,zB,zC,zD,zE,zF,zG,zH,zI,zJ,zK,zL,zM,zN,zO,zP,↓reduceIte,reduceCtorEq,Tryz.ntmps79,Tryz.results79,h]))
    any_goals (simp_all [Pdu.right,z4]; done)
    refine CallA.same (in_calls _ _ _) (by simp only [go_sem,zA,zB,zC,zD,zE,zF,zG,zH,zI,zJ,zK,zL,zM,zN,zO,zP,↓reduceIte,reduceCtorEq]) ?_
    simp only [go_sem,zA,zB,zC,zD,zE,zF,zG,zH,zI,zJ,zK,zL,zM,zN,zO,zP,↓reduceIte,reduceCtorEq,Tryz.ntmps79,Tryz.results79]
    refine CallA.into tabOK mixed Tryz.func101 rfl rfl (by decide +kernel) (by simp [Tryz.ntmps101]) ?_
    simp only [go_sem,zA,zB,zC,zD,zE,zF,zG,zH,zI,zJ,zK,zL,zM,zN,zO,zP,↓reduceIte,reduceCtorEq,Tryz.ntmps101,Tryz.results101]
    refine CallA.same (in_calls _ _ _) (by simp only [go_sem,zA,zB,zC,zD,zE,zF,zG,zH,zI,zJ,zK,zL,zM,zN,zO,zP,↓reduceIte,reduceCtorEq]) ?_
    simp only [go_sem,zA,zB,zC,zD,zE,zF,zG,zH,zI,zJ,zK,zL,zM,zN,zO,zP,↓reduceIte,reduceCtorEq,Tryz.ntmps79,Tryz.results79,Tryz.ntmps101,Tryz.results101]
    repeat' (first | (refine wantK_splitN (fun h => ?_) (fun h => ?_) <;> simp only [go_sem,zA,zB,zC,zD,zE,zF,zG,zH,zI,zJ,zK,zL,zM,zN,zO,zP,↓reduceIte,reduceCtorEq,Tryz.ntmps79,Tryz.results79,Tryz.ntmps101,Tryz.results101,h]) | (refine wantK_split (fun h => ?_) (fun h => ?_) <;> simp only [go_sem,zA,zB,zC,zD,zE,zF,zG,zH,zI,zJ,zK,zL,zM,zN,zO,zP,↓reduceIte,reduceCtorEq,Tryz.ntmps79,Tryz.results79,Tryz.ntmps101,Tryz.results101,h]) | (refine condK_splitN (fun h => ?_) (fun h => ?_) <;> simp only [go_sem,zA,zB,zC,zD,zE,zF,zG,zH,zI,zJ,zK,zL,zM,zN,zO,zP,↓reduceIte,reduceCtorEq,Tryz.ntmps79,Tryz.results79,Tryz.ntmps101,Tryz.results101,h]) | (refine condK_split (fun h => ?_) (fun h => ?_) <;> simp only [go_sem,zA,zB,zC,zD,zE,zF,zG,zH,zI,zJ,zK,zL,zM,zN,zO,zP,↓reduceIte,reduceCtorEq,Tryz.ntmps79,Tryz.results79,Tryz.ntmps101,Tryz.results101,h]) | (refine drawK_splitN (fun h => ?_) (fun h => ?_) <;> simp only [go_sem,zA,zB,zC,zD,zE,zF,zG,zH,zI,zJ,zK,zL,zM,zN,zO,zP,↓reduceIte,reduceCtorEq,Tryz.ntmps79,Tryz.results79,Tryz.ntmps101,Tryz.results101,h]) | (refine drawK_split (fun h => ?_) (fun h => ?_) <;> simp only [go_sem,zA,zB,zC,zD,zE,zF,zG,zH,zI,zJ,zK,zL,zM,zN,zO,zP,↓reduceIte,reduceCtorEq,Tryz.ntmps79,Tryz.results79,Tryz.ntmps101,Tryz.results101,h]))
    all_goals (first | (simp_all [Pdu.right,z4]; done) | (simp_all [Pdu.right,z4]; omega) | (simp_all [Pdu.right,z4]; rw [Bool.eq_iff_iff]; simp; omega))
  by_cases h2 : k = 2
  · subst h2
    simp only [go_sem,zA,zB,zC,zD,zE,zF,zG,zH,zI,zJ,zK,zL,zM,zN,zO,zP,↓reduceIte,reduceCtorEq,Tryz.ntmps79,Tryz.results79,Pdu.pv,Pdu.plain]
    repeat' (first | (refine wantK_splitN (fun h => ?_) (fun h => ?_) <;> simp only [go_sem,zA,zB,zC,zD,zE,zF,zG,zH,zI,zJ,zK,zL,zM,zN,zO,zP,↓reduceIte,reduceCtorEq,Tryz.ntmps79,Tryz.results79,h]) | (refine wantK_split (fun h => ?_) (fun h => ?_) <;> simp only [go_sem,zA,zB,zC,zD,zE,zF,zG,zH,zI,zJ,zK,zL,zM,zN,zO,zP,↓reduceIte,reduceCtorEq,Tryz.ntmps79,Tryz.results79,h]) | (refine condK_splitN (fun h => ?_) (fun h => ?_) <;> simp only [go_sem,zA,zB,zC,zD,zE,zF,zG,zH,zI,zJ,zK,zL,zM,zN,zO,zP,↓reduceIte,reduceCtorEq,Tryz.ntmps79,Tryz.results79,h]) | (refine condK_split (fun h => ?_) (fun h => ?_) <;> simp only [go_sem,zA,zB,zC,zD,zE,zF,zG,zH,zI,zJ,zK,zL,zM,zN,zO,zP,↓reduceIte,reduceCtorEq,Tryz.ntmps79,Tryz.results79,h]) | (refine drawK_splitN (fun h => ?_) (fun h => ?_) <;> simp only [go_sem,zA,zB,zC,zD,zE,zF,zG,zH,zI,zJ,zK,zL,zM,zN,zO,zP,↓reduceIte,reduceCtorEq,Tryz.ntmps79,Tryz.results79,h]) | (refine drawK_split (fun h => ?_) (fun h => ?_) <;> simp only [go_sem,zA,zB,zC,zD,zE,zF,zG,zH,zI,zJ,zK,zL,zM,zN,zO,zP,↓reduceIte,reduceCtorEq,Tryz.ntmps79,Tryz.results79,h]))
    any_goals (simp_all [Pdu.right,z4]; done)
    refine CallA.same (in_calls _ _ _) (by simp only [go_sem,zA,zB,zC,zD,zE,zF,zG,zH,zI,zJ,zK,zL,zM,zN,zO,zP,↓reduceIte,reduceCtorEq]) ?_
    simp only [go_sem,zA,zB,zC,zD,zE,zF,zG,zH,zI,zJ,zK,zL,zM,zN,zO,zP,↓reduceIte,reduceCtorEq,Tryz.ntmps79,Tryz.results79]
    refine CallA.into tabOK mixed Tryz.func103 rfl rfl (by decide +kernel) (by simp [Tryz.ntmps103]) ?_
    simp only [go_sem,zA,zB,zC,zD,zE,zF,zG,zH,zI,zJ,zK,zL,zM,zN,zO,zP,↓reduceIte,reduceCtorEq,Tryz.ntmps103,Tryz.results103]
    repeat' (first | (refine wantK_splitN (fun h => ?_) (fun h => ?_) <;> simp only [go_sem,zA,zB,zC,zD,zE,zF,zG,zH,zI,zJ,zK,zL,zM,zN,zO,zP,↓reduceIte,reduceCtorEq,Tryz.ntmps79,Tryz.results79,Tryz.ntmps103,Tryz.results103,h]) | (refine wantK_split (fun h => ?_) (fun h => ?_) <;> simp only [go_sem,zA,zB,zC,zD,zE,zF,zG,zH,zI,zJ,zK,zL,zM,zN,zO,zP,↓reduceIte,reduceCtorEq,Tryz.ntmps79,Tryz.results79,Tryz.ntmps103,Tryz.results103,h]) | (refine condK_splitN (fun h => ?_) (fun h => ?_) <;> simp only [go_sem,zA,zB,zC,zD,zE,zF,zG,zH,zI,zJ,zK,zL,zM,zN,zO,zP,↓reduceIte,reduceCtorEq,Tryz.ntmps79,Tryz.results79,Tryz.ntmps103,Tryz.results103,h]) | (refine condK_split (fun h => ?_) (fun h => ?_) <;> simp only [go_sem,zA,zB,zC,zD,zE,zF,zG,zH,zI,zJ,zK,zL,zM,zN,zO,zP,↓reduceIte,reduceCtorEq,Tryz.ntmps79,Tryz.results79,Tryz.ntmps103,Tryz.results103,h]) | (refine drawK_splitN (fun h => ?_) (fun h => ?_) <;> simp only [go_sem,zA,zB,zC,zD,zE,zF,zG,zH,zI,zJ,zK,zL,zM,zN,zO,zP,↓reduceIte,reduceCtorEq,Tryz.ntmps79,Tryz.results79,Tryz.ntmps103,Tryz.results103,h]) | (refine drawK_split (fun h => ?_) (fun h => ?_) <;> simp only [go_sem,zA,zB,zC,zD,zE,zF,zG,zH,zI,zJ,zK,zL,zM,zN,zO,zP,↓reduceIte,reduceCtorEq,Tryz.ntmps79,Tryz.results79,Tryz.ntmps103,Tryz.results103,h]))
    any_goals (first | (simp_all [Pdu.right,z4]; done) | (simp_all [Pdu.right,z4]; omega) | (simp_all [Pdu.right,z4]; rw [Bool.eq_iff_iff]; simp; omega))
    refine CallA.same (in_calls _ _ _) (by simp only [go_sem,zA,zB,zC,zD,zE,zF,zG,zH,zI,zJ,zK,zL,zM,zN,zO,zP,↓reduceIte,reduceCtorEq]) ?_
    simp only [go_sem,zA,zB,zC,zD,zE,zF,zG,zH,zI,zJ,zK,zL,zM,zN,zO,zP,↓reduceIte,reduceCtorEq,Tryz.ntmps79,Tryz.results79,Tryz.ntmps103,Tryz.results103]
    all_goals (first | (simp_all [Pdu.right,z4]; done) | (simp_all [Pdu.right,z4]; omega) | (simp_all [Pdu.right,z4]; rw [Bool.eq_iff_iff]; simp; omega))
  by_cases h3 : k = 3
  · subst h3
    simp only [go_sem,zA,zB,zC,zD,zE,zF,zG,zH,zI,zJ,zK,zL,zM,zN,zO,zP,↓reduceIte,reduceCtorEq,Tryz.ntmps79,Tryz.results79,Pdu.pv,Pdu.plain]
    repeat' (first | (refine wantK_splitN (fun h => ?_) (fun h => ?_) <;> simp only [go_sem,zA,zB,zC,zD,zE,zF,zG,zH,zI,zJ,zK,zL,zM,zN,zO,zP,↓reduceIte,reduceCtorEq,Tryz.ntmps79,Tryz.results79,h]) | (refine wantK_split (fun h => ?_) (fun h => ?_) <;> simp only [go_sem,zA,zB,zC,zD,zE,zF,zG,zH,zI,zJ,zK,zL,zM,zN,zO,zP,↓reduceIte,reduceCtorEq,Tryz.ntmps79,Tryz.results79,h]) | (refine condK_splitN (fun h => ?_) (fun h => ?_) <;> simp only [go_sem,zA,zB,zC,zD,zE,zF,zG,zH,zI,zJ,zK,zL,zM,zN,zO,zP,↓reduceIte,reduceCtorEq,Tryz.ntmps79,Tryz.results79,h]) | (refine condK_split (fun h => ?_) (fun h => ?_) <;> simp only [go_sem,zA,zB,zC,zD,zE,zF,zG,zH,zI,zJ,zK,zL,zM,zN,zO,zP,↓reduceIte,reduceCtorEq,Tryz.ntmps79,Tryz.results79,h]) | (refine drawK_splitN (fun h => ?_) (fun h => ?_) <;> simp only [go_sem,zA,zB,zC,zD,zE,zF,zG,zH,zI,zJ,zK,zL,zM,zN,zO,zP,↓reduceIte,reduceCtorEq,Tryz.ntmps79,Tryz.results79,h]) | (refine drawK_split (fun h => ?_) (fun h => ?_) <;> simp only [go_sem,zA,zB,zC,zD,zE,zF,zG,zH,zI,zJ,zK,zL,zM,zN,zO,zP,↓reduceIte,reduceCtorEq,Tryz.ntmps79,Tryz.results79,h]))
    any_goals (simp_all [Pdu.right,z4]; done)
    refine CallA.same (in_calls _ _ _) (by simp only [go_sem,zA,zB,zC,zD,zE,zF,zG,zH,zI,zJ,zK,zL,zM,zN,zO,zP,↓reduceIte,reduceCtorEq]) ?_
    simp only [go_sem,zA,zB,zC,zD,zE,zF,zG,zH,zI,zJ,zK,zL,zM,zN,zO,zP,↓reduceIte,reduceCtorEq,Tryz.ntmps79,Tryz.results79]
    refine CallA.into tabOK mixed Tryz.func104 rfl rfl (by decide +kernel) (by simp [Tryz.ntmps104]) ?_
    simp only [go_sem,zA,zB,zC,zD,zE,zF,zG,zH,zI,zJ,zK,zL,zM,zN,zO,zP,↓reduceIte,reduceCtorEq,Tryz.ntmps104,Tryz.results104]
    refine CallA.same (in_calls _ _ _) (by simp only [go_sem,zA,zB,zC,zD,zE,zF,zG,zH,zI,zJ,zK,zL,zM,zN,zO,zP,↓reduceIte,reduceCtorEq]) ?_
    simp only [go_sem,zA,zB,zC,zD,zE,zF,zG,zH,zI,zJ,zK,zL,zM,zN,zO,zP,↓reduceIte,reduceCtorEq,Tryz.ntmps79,Tryz.results79,Tryz.ntmps104,Tryz.results104]
    repeat' (first | (refine wantK_splitN (fun h => ?_) (fun h => ?_) <;> simp only [go_sem,zA,zB,zC,zD,zE,zF,zG,zH,zI,zJ,zK,zL,zM,zN,zO,zP,↓reduceIte,reduceCtorEq,Tryz.ntmps79,Tryz.results79,Tryz.ntmps104,Tryz.results104,h]) | (refine wantK_split (fun h => ?_) (fun h => ?_) <;> simp only [go_sem,zA,zB,zC,zD,zE,zF,zG,zH,zI,zJ,zK,zL,zM,zN,zO,zP,↓reduceIte,reduceCtorEq,Tryz.ntmps79,Tryz.results79,Tryz.ntmps104,Tryz.results104,h]) | (refine condK_splitN (fun h => ?_) (fun h => ?_) <;> simp only [go_sem,zA,zB,zC,zD,zE,zF,zG,zH,zI,zJ,zK,zL,zM,zN,zO,zP,↓reduceIte,reduceCtorEq,Tryz.ntmps79,Tryz.results79,Tryz.ntmps104,Tryz.results104,h]) | (refine condK_split (fun h => ?_) (fun h => ?_) <;> simp only [go_sem,zA,zB,zC,zD,zE,zF,zG,zH,zI,zJ,zK,zL,zM,zN,zO,zP,↓reduceIte,reduceCtorEq,Tryz.ntmps79,Tryz.results79,Tryz.ntmps104,Tryz.results104,h]) | (refine drawK_splitN (fun h => ?_) (fun h => ?_) <;> simp only [go_sem,zA,zB,zC,zD,zE,zF,zG,zH,zI,zJ,zK,zL,zM,zN,zO,zP,↓reduceIte,reduceCtorEq,Tryz.ntmps79,Tryz.results79,Tryz.ntmps104,Tryz.results104,h]) | (refine drawK_split (fun h => ?_) (fun h => ?_) <;> simp only [go_sem,zA,zB,zC,zD,zE,zF,zG,zH,zI,zJ,zK,zL,zM,zN,zO,zP,↓reduceIte,reduceCtorEq,Tryz.ntmps79,Tryz.results79,Tryz.ntmps104,Tryz.results104,h]))
    any_goals (first | (simp_all [Pdu.right,z4]; done) | (simp_all [Pdu.right,z4]; omega) | (simp_all [Pdu.right,z4]; rw [Bool.eq_iff_iff]; simp; omega))
    refine CallA.same (in_calls _ _ _) (by simp only [go_sem,zA,zB,zC,zD,zE,zF,zG,zH,zI,zJ,zK,zL,zM,zN,zO,zP,↓reduceIte,reduceCtorEq]) ?_
    simp only [go_sem,zA,zB,zC,zD,zE,zF,zG,zH,zI,zJ,zK,zL,zM,zN,zO,zP,↓reduceIte,reduceCtorEq,Tryz.ntmps79,Tryz.results79,Tryz.ntmps104,Tryz.results104]
    all_goals (first | (simp_all [Pdu.right,z4]; done) | (simp_all [Pdu.right,z4]; omega) | (simp_all [Pdu.right,z4]; rw [Bool.eq_iff_iff]; simp; omega))
  by_cases h4 : k = 4
  · subst h4
    simp only [go_sem,zA,zB,zC,zD,zE,zF,zG,zH,zI,zJ,zK,zL,zM,zN,zO,zP,↓reduceIte,reduceCtorEq,Tryz.ntmps79,Tryz.results79,Pdu.pv,Pdu.plain]
    repeat' (first | (refine wantK_splitN (fun h => ?_) (fun h => ?_) <;> simp only [go_sem,zA,zB,zC,zD,zE,zF,zG,zH,zI,zJ,zK,zL,zM,zN,zO,zP,↓reduceIte,reduceCtorEq,Tryz.ntmps79,Tryz.results79,h]) | (refine wantK_split (fun h => ?_) (fun h => ?_) <;> simp only [go_sem,zA,zB,zC,zD,zE,zF,zG,zH,zI,zJ,zK,zL,zM,zN,zO,zP,↓reduceIte,reduceCtorEq,Tryz.ntmps79,Tryz.results79,h]) | (refine condK_splitN (fun h => ?_) (fun h => ?_) <;> simp only [go_sem,zA,zB,zC,zD,zE,zF,zG,zH,zI,zJ,zK,zL,zM,zN,zO,zP,↓reduceIte,reduceCtorEq,Tryz.ntmps79,Tryz.results79,h]) | (refine condK_split (fun h => ?_) (fun h => ?_) <;> simp only [go_sem,zA,zB,zC,zD,zE,zF,zG,zH,zI,zJ,zK,zL,zM,zN,zO,zP,↓reduceIte,reduceCtorEq,Tryz.ntmps79,Tryz.results79,h]) | (refine drawK_splitN (fun h => ?_) (fun h => ?_) <;> simp only [go_sem,zA,zB,zC,zD,zE,zF,zG,zH,zI,zJ,zK,zL,zM,zN,zO,zP,↓reduceIte,reduceCtorEq,Tryz.ntmps79,Tryz.results79,h]) | (refine drawK_split (fun h => ?_) (fun h => ?_) <;> simp only [go_sem,zA,zB,zC,zD,zE,zF,zG,zH,zI,zJ,zK,zL,zM,zN,zO,zP,↓reduceIte,reduceCtorEq,Tryz.ntmps79,Tryz.results79,h]))
    any_goals (simp_all [Pdu.right,z4]; done)
    refine CallA.same (in_calls _ _ _) (by simp only [go_sem,zA,zB,zC,zD,zE,zF,zG,zH,zI,zJ,zK,zL,zM,zN,zO,zP,↓reduceIte,reduceCtorEq]) ?_
    simp only [go_sem,zA,zB,zC,zD,zE,zF,zG,zH,zI,zJ,zK,zL,zM,zN,zO,zP,↓reduceIte,reduceCtorEq,Tryz.ntmps79,Tryz.results79]
    refine CallA.into tabOK mixed Tryz.func105 rfl rfl (by decide +kernel) (by simp [Tryz.ntmps105]) ?_
    simp only [go_sem,zA,zB,zC,zD,zE,zF,zG,zH,zI,zJ,zK,zL,zM,zN,zO,zP,↓reduceIte,reduceCtorEq,Tryz.ntmps105,Tryz.results105]
    repeat' (first | (refine wantK_splitN (fun h => ?_) (fun h => ?_) <;> simp only [go_sem,zA,zB,zC,zD,zE,zF,zG,zH,zI,zJ,zK,zL,zM,zN,zO,zP,↓reduceIte,reduceCtorEq,Tryz.ntmps79,Tryz.results79,Tryz.ntmps105,Tryz.results105,h]) | (refine wantK_split (fun h => ?_) (fun h => ?_) <;> simp only [go_sem,zA,zB,zC,zD,zE,zF,zG,zH,zI,zJ,zK,zL,zM,zN,zO,zP,↓reduceIte,reduceCtorEq,Tryz.ntmps79,Tryz.results79,Tryz.ntmps105,Tryz.results105,h]) | (refine condK_splitN (fun h => ?_) (fun h => ?_) <;> simp only [go_sem,zA,zB,zC,zD,zE,zF,zG,zH,zI,zJ,zK,zL,zM,zN,zO,zP,↓reduceIte,reduceCtorEq,Tryz.ntmps79,Tryz.results79,Tryz.ntmps105,Tryz.results105,h]) | (refine condK_split (fun h => ?_) (fun h => ?_) <;> simp only [go_sem,zA,zB,zC,zD,zE,zF,zG,zH,zI,zJ,zK,zL,zM,zN,zO,zP,↓reduceIte,reduceCtorEq,Tryz.ntmps79,Tryz.results79,Tryz.ntmps105,Tryz.results105,h]) | (refine drawK_splitN (fun h => ?_) (fun h => ?_) <;> simp only [go_sem,zA,zB,zC,zD,zE,zF,zG,zH,zI,zJ,zK,zL,zM,zN,zO,zP,↓reduceIte,reduceCtorEq,Tryz.ntmps79,Tryz.results79,Tryz.ntmps105,Tryz.results105,h]) | (refine drawK_split (fun h => ?_) (fun h => ?_) <;> simp only [go_sem,zA,zB,zC,zD,zE,zF,zG,zH,zI,zJ,zK,zL,zM,zN,zO,zP,↓reduceIte,reduceCtorEq,Tryz.ntmps79,Tryz.results79,Tryz.ntmps105,Tryz.results105,h]))
    any_goals (first | (simp_all [Pdu.right,z4]; done) | (simp_all [Pdu.right,z4]; omega) | (simp_all [Pdu.right,z4]; rw [Bool.eq_iff_iff]; simp; omega))
    refine CallA.same (in_calls _ _ _) (by simp only [go_sem,zA,zB,zC,zD,zE,zF,zG,zH,zI,zJ,zK,zL,zM,zN,zO,zP,↓reduceIte,reduceCtorEq]) ?_
    simp only [go_sem,zA,zB,zC,zD,zE,zF,zG,zH,zI,zJ,zK,zL,zM,zN,zO,zP,↓reduceIte,reduceCtorEq,Tryz.ntmps79,Tryz.results79,Tryz.ntmps105,Tryz.results105]
    repeat' (first | (refine wantK_splitN (fun h => ?_) (fun h => ?_) <;> simp only [go_sem,zA,zB,zC,zD,zE,zF,zG,zH,zI,zJ,zK,zL,zM,zN,zO,zP,↓reduceIte,reduceCtorEq,Tryz.ntmps79,Tryz.results79,Tryz.ntmps105,Tryz.results105,h]) | (refine wantK_split (fun h => ?_) (fun h => ?_) <;> simp only [go_sem,zA,zB,zC,zD,zE,zF,zG,zH,zI,zJ,zK,zL,zM,zN,zO,zP,↓reduceIte,reduceCtorEq,Tryz.ntmps79,Tryz.results79,Tryz.ntmps105,Tryz.results105,h]) | (refine condK_splitN (fun h => ?_) (fun h => ?_) <;> simp only [go_sem,zA,zB,zC,zD,zE,zF,zG,zH,zI,zJ,zK,zL,zM,zN,zO,zP,↓reduceIte,reduceCtorEq,Tryz.ntmps79,Tryz.results79,Tryz.ntmps105,Tryz.results105,h]) | (refine condK_split (fun h => ?_) (fun h => ?_) <;> simp only [go_sem,zA,zB,zC,zD,zE,zF,zG,zH,zI,zJ,zK,zL,zM,zN,zO,zP,↓reduceIte,reduceCtorEq,Tryz.ntmps79,Tryz.results79,Tryz.ntmps105,Tryz.results105,h]) | (refine drawK_splitN (fun h => ?_) (fun h => ?_) <;> simp only [go_sem,zA,zB,zC,zD,zE,zF,zG,zH,zI,zJ,zK,zL,zM,zN,zO,zP,↓reduceIte,reduceCtorEq,Tryz.ntmps79,Tryz.results79,Tryz.ntmps105,Tryz.results105,h]) | (refine drawK_split (fun h => ?_) (fun h => ?_) <;> simp only [go_sem,zA,zB,zC,zD,zE,zF,zG,zH,zI,zJ,zK,zL,zM,zN,zO,zP,↓reduceIte,reduceCtorEq,Tryz.ntmps79,Tryz.results79,Tryz.ntmps105,Tryz.results105,h]))
    any_goals (first | (simp_all [Pdu.right,z4]; done) | (simp_all [Pdu.right,z4]; omega) | (simp_all [Pdu.right,z4]; rw [Bool.eq_iff_iff]; simp; omega))
    refine CallA.same (in_calls _ _ _) (by simp only [go_sem,zA,zB,zC,zD,zE,zF,zG,zH,zI,zJ,zK,zL,zM,zN,zO,zP,↓reduceIte,reduceCtorEq]) ?_
    simp only [go_sem,zA,zB,zC,zD,zE,zF,zG,zH,zI,zJ,zK,zL,zM,zN,zO,zP,↓reduceIte,reduceCtorEq,Tryz.ntmps79,Tryz.results79,Tryz.ntmps105,Tryz.results105]
    repeat' (first | (refine wantK_splitN (fun h => ?_) (fun h => ?_) <;> simp only [go_sem,zA,zB,zC,zD,zE,zF,zG,zH,zI,zJ,zK,zL,zM,zN,zO,zP,↓reduceIte,reduceCtorEq,Tryz.ntmps79,Tryz.results79,Tryz.ntmps105,Tryz.results105,h]) | (refine wantK_split (fun h => ?_) (fun h => ?_) <;> simp only [go_sem,zA,zB,zC,zD,zE,zF,zG,zH,zI,zJ,zK,zL,zM,zN,zO,zP,↓reduceIte,reduceCtorEq,Tryz.ntmps79,Tryz.results79,Tryz.ntmps105,Tryz.results105,h]) | (refine condK_splitN (fun h => ?_) (fun h => ?_) <;> simp only [go_sem,zA,zB,zC,zD,zE,zF,zG,zH,zI,zJ,zK,zL,zM,zN,zO,zP,↓reduceIte,reduceCtorEq,Tryz.ntmps79,Tryz.results79,Tryz.ntmps105,Tryz.results105,h]) | (refine condK_split (fun h => ?_) (fun h => ?_) <;> simp only [go_sem,zA,zB,zC,zD,zE,zF,zG,zH,zI,zJ,zK,zL,zM,zN,zO,zP,↓reduceIte,reduceCtorEq,Tryz.ntmps79,Tryz.results79,Tryz.ntmps105,Tryz.results105,h]) | (refine drawK_splitN (fun h => ?_) (fun h => ?_) <;> simp only [go_sem,zA,zB,zC,zD,zE,zF,zG,zH,zI,zJ,zK,zL,zM,zN,zO,zP,↓reduceIte,reduceCtorEq,Tryz.ntmps79,Tryz.results79,Tryz.ntmps105,Tryz.results105,h]) | (refine drawK_split (fun h => ?_) (fun h => ?_) <;> simp only [go_sem,zA,zB,zC,zD,zE,zF,zG,zH,zI,zJ,zK,zL,zM,zN,zO,zP,↓reduceIte,reduceCtorEq,Tryz.ntmps79,Tryz.results79,Tryz.ntmps105,Tryz.results105,h]))
    any_goals (first | (simp_all [Pdu.right,z4]; done) | (simp_all [Pdu.right,z4]; omega) | (simp_all [Pdu.right,z4]; rw [Bool.eq_iff_iff]; simp; omega))
    refine CallA.same (in_calls _ _ _) (by simp only [go_sem,zA,zB,zC,zD,zE,zF,zG,zH,zI,zJ,zK,zL,zM,zN,zO,zP,↓reduceIte,reduceCtorEq]) ?_
    simp only [go_sem,zA,zB,zC,zD,zE,zF,zG,zH,zI,zJ,zK,zL,zM,zN,zO,zP,↓reduceIte,reduceCtorEq,Tryz.ntmps79,Tryz.results79,Tryz.ntmps105,Tryz.results105]
    all_goals (first | (simp_all [Pdu.right,z4]; done) | (simp_all [Pdu.right,z4]; omega) | (simp_all [Pdu.right,z4]; rw [Bool.eq_iff_iff]; simp; omega))
  simp only [go_sem,zA,zB,zC,zD,zE,zF,zG,zH,zI,zJ,zK,zL,zM,zN,zO,zP,↓reduceIte,reduceCtorEq,Tryz.ntmps79,Tryz.results79,Pdu.pv,Pdu.plain,h1,h2,h3,h4]
  repeat' (first | (refine wantK_splitN (fun h => ?_) (fun h => ?_) <;> simp only [go_sem,zA,zB,zC,zD,zE,zF,zG,zH,zI,zJ,zK,zL,zM,zN,zO,zP,↓reduceIte,reduceCtorEq,Tryz.ntmps79,Tryz.results79,h]) | (refine wantK_split (fun h => ?_) (fun h => ?_) <;> simp only [go_sem,zA,zB,zC,zD,zE,zF,zG,zH,zI,zJ,zK,zL,zM,zN,zO,zP,↓reduceIte,reduceCtorEq,Tryz.ntmps79,Tryz.results79,h]) | (refine condK_splitN (fun h => ?_) (fun h => ?_) <;> simp only [go_sem,zA,zB,zC,zD,zE,zF,zG,zH,zI,zJ,zK,zL,zM,zN,zO,zP,↓reduceIte,reduceCtorEq,Tryz.ntmps79,Tryz.results79,h]) | (refine condK_split (fun h => ?_) (fun h => ?_) <;> simp only [go_sem,zA,zB,zC,zD,zE,zF,zG,zH,zI,zJ,zK,zL,zM,zN,zO,zP,↓reduceIte,reduceCtorEq,Tryz.ntmps79,Tryz.results79,h]) | (refine drawK_splitN (fun h => ?_) (fun h => ?_) <;> simp only [go_sem,zA,zB,zC,zD,zE,zF,zG,zH,zI,zJ,zK,zL,zM,zN,zO,zP,↓reduceIte,reduceCtorEq,Tryz.ntmps79,Tryz.results79,h]) | (refine drawK_split (fun h => ?_) (fun h => ?_) <;> simp only [go_sem,zA,zB,zC,zD,zE,zF,zG,zH,zI,zJ,zK,zL,zM,zN,zO,zP,↓reduceIte,reduceCtorEq,Tryz.ntmps79,Tryz.results79,h]))
  any_goals (simp_all [Pdu.right,z4]; done)
  refine CallA.same (in_calls _ _ _) (by simp only [go_sem,zA,zB,zC,zD,zE,zF,zG,zH,zI,zJ,zK,zL,zM,zN,zO,zP,↓reduceIte,reduceCtorEq]) ?_
  simp only [go_sem,zA,zB,zC,zD,zE,zF,zG,zH,zI,zJ,zK,zL,zM,zN,zO,zP,↓reduceIte,reduceCtorEq,Tryz.ntmps79,Tryz.results79]
  have hk : (decide (1 ≤ k) && decide (k ≤ 4)) = false := by
    simp; omega
  simp only [go_sem,zA,zB,zC,zD,zE,zF,zG,zH,zI,zJ,zK,zL,zM,zN,zO,zP,↓reduceIte,reduceCtorEq,Tryz.ntmps79,Tryz.results79,hk]
  all_goals (first | (simp_all [Pdu.right,z4]; done) | (simp_all [Pdu.right,z4]; omega) | (simp_all [Pdu.right,z4]; rw [Bool.eq_iff_iff]; simp; omega))
end Go.Proofs.YtcdmhigmgpflbaaGreat.Pe.Lk
