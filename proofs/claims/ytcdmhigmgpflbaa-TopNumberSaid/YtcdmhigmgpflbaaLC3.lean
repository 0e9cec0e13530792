import Derived.Test.YtcdmhigmgpflbaaTab1
import Derived.Test.YtcdmhigmgpflbaaPeB
namespace Go.Proofs.Ytcdmhigmgpflbaa.Pe.Lk
open Go.Pe Go.RowKit
set_option maxRecDepth 20000
set_option maxHeartbeats 4000000
set_option linter.unusedSimpArgs false

structure Pdu where
  k : Int
  l : Int
  n : Int
  s : Int
  b : Int
  g : Int
  d : List UInt8
  deriving DecidableEq
structure Snd where
  st : Int
  text : List UInt8
  pos : Int
  num : Int
  left : Int
  gap : Int
  clock : Int
  waits : Int
  err : Int
  deriving DecidableEq
def Pdu.pv (p : Pdu) : PV := .agg [PI p.k,PI p.l,PI p.n,PI p.s,PI p.b,PI p.g,bytesPV p.d]
def Snd.pv (s : Snd) : PV := .agg [PI s.st,bytesPV s.text,PI s.pos,PI s.num,PI s.left,PI s.gap,PI s.clock,PI s.waits,PI s.err]

end Go.Proofs.Ytcdmhigmgpflbaa.Pe.Lk


namespace Go.Proofs.Ytcdmhigmgpflbaa.Pe.Lk
open Go.Pe Go.RowKit
open Nat renaming reduceAdd → zA,reduceSub → zB,reduceMul → zC,reduceLT → zD,reduceLeDiff → zE,reduceEqDiff → zF,reduceBEq → zG
open Int renaming reduceToNat → zH,reduceLT → zI,reduceLE → zJ,reduceEq → zK,reduceNe → zL,reduceAdd → zM,reduceSub → zN,reduceMul → zO,reduceNeg → zP
set_option maxRecDepth 20000
set_option maxHeartbeats 4000000
set_option linter.unusedSimpArgs false

def z4 (a b c d : Int) : Bool := decide (a = 0) && decide (b = 0) && decide (c = 0) && decide (d = 0)
/-- May a part be so? -/
def Pdu.right (p : Pdu) : Bool :=
  if p.k = 1 then decide (p.l = p.d.length) && decide (1 ≤ p.d.length) && decide (p.d.length ≤ 7) && z4 p.n p.s p.b p.g
  else if p.k = 2 then decide (8 ≤ p.l) && decide (p.l ≤ 4095) && decide (p.d.length = 6) && z4 p.n p.s p.b p.g
  else if p.k = 3 then decide (0 ≤ p.n) && decide (p.n ≤ 15) && decide (1 ≤ p.d.length) && decide (p.d.length ≤ 7) && z4 p.l p.s p.b p.g
  else if p.k = 4 then decide (0 ≤ p.s) && decide (p.s ≤ 2) && decide (0 ≤ p.b) && decide (p.b ≤ 255) && decide (0 ≤ p.g) && decide (p.g ≤ 127) && decide (p.d.length = 0) && decide (p.l = 0) && decide (p.n = 0)
  else false

theorem in_calls (n lo hi : Int) : PureCalls Try.prog 154 [PI n,PI lo,PI hi] (PB (decide (lo ≤ n) && decide (n ≤ hi))) := by
  refine PureCalls.of tabOK mixed Try.func154 rfl rfl (by decide +kernel) (by simp [Try.ntmps154]) ?_
  simp only [go_sem,zA,zB,zC,zD,zE,zF,zG,zH,zI,zJ,zK,zL,zM,zN,zO,zP,↓reduceIte,reduceCtorEq,Try.ntmps154,Try.results154]
  repeat' (first | (refine wantK_splitN (fun h => ?_) (fun h => ?_) <;> simp only [go_sem,zA,zB,zC,zD,zE,zF,zG,zH,zI,zJ,zK,zL,zM,zN,zO,zP,↓reduceIte,reduceCtorEq,Try.ntmps154,Try.results154,h]) | (refine wantK_split (fun h => ?_) (fun h => ?_) <;> simp only [go_sem,zA,zB,zC,zD,zE,zF,zG,zH,zI,zJ,zK,zL,zM,zN,zO,zP,↓reduceIte,reduceCtorEq,Try.ntmps154,Try.results154,h]) | (refine condK_splitN (fun h => ?_) (fun h => ?_) <;> simp only [go_sem,zA,zB,zC,zD,zE,zF,zG,zH,zI,zJ,zK,zL,zM,zN,zO,zP,↓reduceIte,reduceCtorEq,Try.ntmps154,Try.results154,h]) | (refine condK_split (fun h => ?_) (fun h => ?_) <;> simp only [go_sem,zA,zB,zC,zD,zE,zF,zG,zH,zI,zJ,zK,zL,zM,zN,zO,zP,↓reduceIte,reduceCtorEq,Try.ntmps154,Try.results154,h]) | (refine drawK_splitN (fun h => ?_) (fun h => ?_) <;> simp only [go_sem,zA,zB,zC,zD,zE,zF,zG,zH,zI,zJ,zK,zL,zM,zN,zO,zP,↓reduceIte,reduceCtorEq,Try.ntmps154,Try.results154,h]) | (refine drawK_split (fun h => ?_) (fun h => ?_) <;> simp only [go_sem,zA,zB,zC,zD,zE,zF,zG,zH,zI,zJ,zK,zL,zM,zN,zO,zP,↓reduceIte,reduceCtorEq,Try.ntmps154,Try.results154,h]))
  all_goals (simp_all; done)
def Pdu.plain (p : Pdu) : Pdu :=
  if p.k = 1 ∨ p.k = 2 then { p with l := 0 } else if p.k = 3 then { p with n := 0 } else if p.k = 4 then { p with s := 0,b := 0,g := 0 } else p
theorem plain_calls (p : Pdu) : PureCalls Try.prog 152 [p.pv] p.plain.pv := by
  refine PureCalls.of tabOK mixed Try.func152 rfl rfl (by decide +kernel) (by simp [Try.ntmps152]) ?_
  obtain ⟨k,l,n,s,b,g,d⟩ := p
  simp only [go_sem,zA,zB,zC,zD,zE,zF,zG,zH,zI,zJ,zK,zL,zM,zN,zO,zP,↓reduceIte,reduceCtorEq,Try.ntmps152,Try.results152,Pdu.pv]
  repeat' (first | (refine wantK_splitN (fun h => ?_) (fun h => ?_) <;> simp only [go_sem,zA,zB,zC,zD,zE,zF,zG,zH,zI,zJ,zK,zL,zM,zN,zO,zP,↓reduceIte,reduceCtorEq,Try.ntmps152,Try.results152,h]) | (refine wantK_split (fun h => ?_) (fun h => ?_) <;> simp only [go_sem,zA,zB,zC,zD,zE,zF,zG,zH,zI,zJ,zK,zL,zM,zN,zO,zP,↓reduceIte,reduceCtorEq,Try.ntmps152,Try.results152,h]) | (refine condK_splitN (fun h => ?_) (fun h => ?_) <;> simp only [go_sem,zA,zB,zC,zD,zE,zF,zG,zH,zI,zJ,zK,zL,zM,zN,zO,zP,↓reduceIte,reduceCtorEq,Try.ntmps152,Try.results152,h]) | (refine condK_split (fun h => ?_) (fun h => ?_) <;> simp only [go_sem,zA,zB,zC,zD,zE,zF,zG,zH,zI,zJ,zK,zL,zM,zN,zO,zP,↓reduceIte,reduceCtorEq,Try.ntmps152,Try.results152,h]) | (refine drawK_splitN (fun h => ?_) (fun h => ?_) <;> simp only [go_sem,zA,zB,zC,zD,zE,zF,zG,zH,zI,zJ,zK,zL,zM,zN,zO,zP,↓reduceIte,reduceCtorEq,Try.ntmps152,Try.results152,h]) | (refine drawK_split (fun h => ?_) (fun h => ?_) <;> simp only [go_sem,zA,zB,zC,zD,zE,zF,zG,zH,zI,zJ,zK,zL,zM,zN,zO,zP,↓reduceIte,reduceCtorEq,Try.ntmps152,Try.results152,h]))
  all_goals (simp_all [Pdu.plain])
end Go.Proofs.Ytcdmhigmgpflbaa.Pe.Lk


namespace Go.Proofs.Ytcdmhigmgpflbaa.Pe.Lk
open Go.Pe Go.RowKit
set_option maxRecDepth 20000
set_option maxHeartbeats 4000000
set_option linter.unusedSimpArgs false

end Go.Proofs.Ytcdmhigmgpflbaa.Pe.Lk


namespace Go.Proofs.Ytcdmhigmgpflbaa.Pe.Lk
open Go.Pe Go.RowKit
open Nat renaming reduceAdd → zA,reduceSub → zB,reduceMul → zC,reduceLT → zD,reduceLeDiff → zE,reduceEqDiff → zF,reduceBEq → zG
open Int renaming reduceToNat → zH,reduceLT → zI,reduceLE → zJ,reduceEq → zK,reduceNe → zL,reduceAdd → zM,reduceSub → zN,reduceMul → zO,reduceNeg → zP
set_option maxRecDepth 20000
set_option maxHeartbeats 4000000
set_option linter.unusedSimpArgs false

theorem right_calls (p : Pdu) : PureCalls Try.prog 130 [p.pv] (PB p.right) := by
  refine PureCalls.of tabOK mixed Try.func130 rfl rfl (by decide +kernel) (by simp [Try.ntmps130]) ?_
  obtain ⟨k,l,n,s,b,g,d⟩ := p
  simp only [go_sem,zA,zB,zC,zD,zE,zF,zG,zH,zI,zJ,zK,zL,zM,zN,zO,zP,↓reduceIte,reduceCtorEq,Try.ntmps130,Try.results130,Pdu.pv]
  refine CallA.pure (plain_calls ⟨k,l,n,s,b,g,d⟩) (by simp only [go_sem,zA,zB,zC,zD,zE,zF,zG,zH,zI,zJ,zK,zL,zM,zN,zO,zP,↓reduceIte,reduceCtorEq,Pdu.pv]) ?_
  by_cases h1 : k = 1
  · subst h1
    simp only [go_sem,zA,zB,zC,zD,zE,zF,zG,zH,zI,zJ,zK,zL,zM,zN,zO,zP,↓reduceIte,reduceCtorEq,Try.ntmps130,Try.results130,Pdu.pv,Pdu.plain]
    repeat' (first | (refine wantK_splitN (fun h => ?_) (fun h => ?_) <;> simp only [go_sem,zA,zB,zC,zD,zE,zF,zG,zH,zI,zJ,zK,zL,zM,zN,zO,zP,↓reduceIte,reduceCtorEq,Try.ntmps130,Try.results130,h]) | (refine wantK_split (fun h => ?_) (fun h => ?_) <;> simp only [go_sem,zA,zB,zC,zD,zE,zF,zG,zH,zI,zJ,zK,zL,zM,zN,zO,zP,↓reduceIte,reduceCtorEq,Try.ntmps130,Try.results130,h]) | (refine condK_splitN (fun h => ?_) (fun h => ?_) <;> simp only [go_sem,zA,zB,zC,zD,zE,zF,zG,zH,zI,zJ,zK,zL,zM,zN,zO,zP,↓reduceIte,reduceCtorEq,Try.ntmps130,Try.results130,h]) | (refine condK_split (fun h => ?_) (fun h => ?_) <;> simp only [go_sem,zA,zB,zC,zD,zE,zF,zG,zH,zI,zJ,zK,zL,zM,zN,zO,zP,↓reduceIte,reduceCtorEq,Try.ntmps130,Try.results130,h]) | (refine drawK_splitN (fun h => ?_) (fun h => ?_) <;> simp only [go_sem,zA,zB,zC,zD,zE,zF,zG,zH,zI,zJ,zK,zL,zM,zN,zO,zP,↓reduceIte,reduceCtorEq,Try.ntmps130,Try.results130,h]) | (refine drawK_split (fun h => ?_) (fun h => ?_) <;> simp only [go_sem,zA,zB,zC,zD,zE,zF,zG,zH,zI,zJ,zK,zL,zM,zN,zO,zP,↓reduceIte,reduceCtorEq,Try.ntmps130,Try.results130,h]))
    any_goals (simp_all [Pdu.right,z4]; done)
    refine CallA.same (in_calls _ _ _) (by simp only [go_sem,zA,zB,zC,zD,zE,zF,zG,zH,zI,zJ,zK,zL,zM,zN,zO,zP,↓reduceIte,reduceCtorEq]) ?_
    simp only [go_sem,zA,zB,zC,zD,zE,zF,zG,zH,zI,zJ,zK,zL,zM,zN,zO,zP,↓reduceIte,reduceCtorEq,Try.ntmps130,Try.results130]
    refine CallA.into tabOK mixed Try.func153 rfl rfl (by decide +kernel) (by simp [Try.ntmps153]) ?_
    simp only [go_sem,zA,zB,zC,zD,zE,zF,zG,zH,zI,zJ,zK,zL,zM,zN,zO,zP,↓reduceIte,reduceCtorEq,Try.ntmps153,Try.results153]
    refine CallA.same (in_calls _ _ _) (by simp only [go_sem,zA,zB,zC,zD,zE,zF,zG,zH,zI,zJ,zK,zL,zM,zN,zO,zP,↓reduceIte,reduceCtorEq]) ?_
    simp only [go_sem,zA,zB,zC,zD,zE,zF,zG,zH,zI,zJ,zK,zL,zM,zN,zO,zP,↓reduceIte,reduceCtorEq,Try.ntmps130,Try.results130,Try.ntmps153,Try.results153]
    repeat' (first | (refine wantK_splitN (fun h => ?_) (fun h => ?_) <;> simp only [go_sem,zA,zB,zC,zD,zE,zF,zG,zH,zI,zJ,zK,zL,zM,zN,zO,zP,↓reduceIte,reduceCtorEq,Try.ntmps130,Try.results130,Try.ntmps153,Try.results153,h]) | (refine wantK_split (fun h => ?_) (fun h => ?_) <;> simp only [go_sem,zA,zB,zC,zD,zE,zF,zG,zH,zI,zJ,zK,zL,zM,zN,zO,zP,↓reduceIte,reduceCtorEq,Try.ntmps130,Try.results130,Try.ntmps153,Try.results153,h]) | (refine condK_splitN (fun h => ?_) (fun h => ?_) <;> simp only [go_sem,zA,zB,zC,zD,zE,zF,zG,zH,zI,zJ,zK,zL,zM,zN,zO,zP,↓reduceIte,reduceCtorEq,Try.ntmps130,Try.results130,Try.ntmps153,Try.results153,h]) | (refine condK_split (fun h => ?_) (fun h => ?_) <;> simp only [go_sem,zA,zB,zC,zD,zE,zF,zG,zH,zI,zJ,zK,zL,zM,zN,zO,zP,↓reduceIte,reduceCtorEq,Try.ntmps130,Try.results130,Try.ntmps153,Try.results153,h]) | (refine drawK_splitN (fun h => ?_) (fun h => ?_) <;> simp only [go_sem,zA,zB,zC,zD,zE,zF,zG,zH,zI,zJ,zK,zL,zM,zN,zO,zP,↓reduceIte,reduceCtorEq,Try.ntmps130,Try.results130,Try.ntmps153,Try.results153,h]) | (refine drawK_split (fun h => ?_) (fun h => ?_) <;> simp only [go_sem,zA,zB,zC,zD,zE,zF,zG,zH,zI,zJ,zK,zL,zM,zN,zO,zP,↓reduceIte,reduceCtorEq,Try.ntmps130,Try.results130,Try.ntmps153,Try.results153,h]))
    all_goals (first | (simp_all [Pdu.right,z4]; done) | (simp_all [Pdu.right,z4]; omega) | (simp_all [Pdu.right,z4]; rw [Bool.eq_iff_iff]; simp; omega))
  by_cases h2 : k = 2
  · subst h2
    simp only [go_sem,zA,zB,zC,zD,zE,zF,zG,zH,zI,zJ,zK,zL,zM,zN,zO,zP,↓reduceIte,reduceCtorEq,Try.ntmps130,Try.results130,Pdu.pv,Pdu.plain]
    repeat' (first | (refine wantK_splitN (fun h => ?_) (fun h => ?_) <;> simp only [go_sem,zA,zB,zC,zD,zE,zF,zG,zH,zI,zJ,zK,zL,zM,zN,zO,zP,↓reduceIte,reduceCtorEq,Try.ntmps130,Try.results130,h]) | (refine wantK_split (fun h => ?_) (fun h => ?_) <;> simp only [go_sem,zA,zB,zC,zD,zE,zF,zG,zH,zI,zJ,zK,zL,zM,zN,zO,zP,↓reduceIte,reduceCtorEq,Try.ntmps130,Try.results130,h]) | (refine condK_splitN (fun h => ?_) (fun h => ?_) <;> simp only [go_sem,zA,zB,zC,zD,zE,zF,zG,zH,zI,zJ,zK,zL,zM,zN,zO,zP,↓reduceIte,reduceCtorEq,Try.ntmps130,Try.results130,h]) | (refine condK_split (fun h => ?_) (fun h => ?_) <;> simp only [go_sem,zA,zB,zC,zD,zE,zF,zG,zH,zI,zJ,zK,zL,zM,zN,zO,zP,↓reduceIte,reduceCtorEq,Try.ntmps130,Try.results130,h]) | (refine drawK_splitN (fun h => ?_) (fun h => ?_) <;> simp only [go_sem,zA,zB,zC,zD,zE,zF,zG,zH,zI,zJ,zK,zL,zM,zN,zO,zP,↓reduceIte,reduceCtorEq,Try.ntmps130,Try.results130,h]) | (refine drawK_split (fun h => ?_) (fun h => ?_) <;> simp only [go_sem,zA,zB,zC,zD,zE,zF,zG,zH,zI,zJ,zK,zL,zM,zN,zO,zP,↓reduceIte,reduceCtorEq,Try.ntmps130,Try.results130,h]))
    any_goals (simp_all [Pdu.right,z4]; done)
    refine CallA.same (in_calls _ _ _) (by simp only [go_sem,zA,zB,zC,zD,zE,zF,zG,zH,zI,zJ,zK,zL,zM,zN,zO,zP,↓reduceIte,reduceCtorEq]) ?_
    simp only [go_sem,zA,zB,zC,zD,zE,zF,zG,zH,zI,zJ,zK,zL,zM,zN,zO,zP,↓reduceIte,reduceCtorEq,Try.ntmps130,Try.results130]
    refine CallA.into tabOK mixed Try.func155 rfl rfl (by decide +kernel) (by simp [Try.ntmps155]) ?_
    simp only [go_sem,zA,zB,zC,zD,zE,zF,zG,zH,zI,zJ,zK,zL,zM,zN,zO,zP,↓reduceIte,reduceCtorEq,Try.ntmps155,Try.results155]
    repeat' (first | (refine wantK_splitN (fun h => ?_) (fun h => ?_) <;> simp only [go_sem,zA,zB,zC,zD,zE,zF,zG,zH,zI,zJ,zK,zL,zM,zN,zO,zP,↓reduceIte,reduceCtorEq,Try.ntmps130,Try.results130,Try.ntmps155,Try.results155,h]) | (refine wantK_split (fun h => ?_) (fun h => ?_) <;> simp only [go_sem,zA,zB,zC,zD,zE,zF,zG,zH,zI,zJ,zK,zL,zM,zN,zO,zP,↓reduceIte,reduceCtorEq,Try.ntmps130,Try.results130,Try.ntmps155,Try.results155,h]) | (refine condK_splitN (fun h => ?_) (fun h => ?_) <;> simp only [go_sem,zA,zB,zC,zD,zE,zF,zG,zH,zI,zJ,zK,zL,zM,zN,zO,zP,↓reduceIte,reduceCtorEq,Try.ntmps130,Try.results130,Try.ntmps155,Try.results155,h]) | (refine condK_split (fun h => ?_) (fun h => ?_) <;> simp only [go_sem,zA,zB,zC,zD,zE,zF,zG,zH,zI,zJ,zK,zL,zM,zN,zO,zP,↓reduceIte,reduceCtorEq,Try.ntmps130,Try.results130,Try.ntmps155,Try.results155,h]) | (refine drawK_splitN (fun h => ?_) (fun h => ?_) <;> simp only [go_sem,zA,zB,zC,zD,zE,zF,zG,zH,zI,zJ,zK,zL,zM,zN,zO,zP,↓reduceIte,reduceCtorEq,Try.ntmps130,Try.results130,Try.ntmps155,Try.results155,h]) | (refine drawK_split (fun h => ?_) (fun h => ?_) <;> simp only [go_sem,zA,zB,zC,zD,zE,zF,zG,zH,zI,zJ,zK,zL,zM,zN,zO,zP,↓reduceIte,reduceCtorEq,Try.ntmps130,Try.results130,Try.ntmps155,Try.results155,h]))
    any_goals (first | (simp_all [Pdu.right,z4]; done) | (simp_all [Pdu.right,z4]; omega) | (simp_all [Pdu.right,z4]; rw [Bool.eq_iff_iff]; simp; omega))
    refine CallA.same (in_calls _ _ _) (by simp only [go_sem,zA,zB,zC,zD,zE,zF,zG,zH,zI,zJ,zK,zL,zM,zN,zO,zP,↓reduceIte,reduceCtorEq]) ?_
    simp only [go_sem,zA,zB,zC,zD,zE,zF,zG,zH,zI,zJ,zK,zL,zM,zN,zO,zP,↓reduceIte,reduceCtorEq,Try.ntmps130,Try.results130,Try.ntmps155,Try.results155]
    all_goals (first | (simp_all [Pdu.right,z4]; done) | (simp_all [Pdu.right,z4]; omega) | (simp_all [Pdu.right,z4]; rw [Bool.eq_iff_iff]; simp; omega))
  by_cases h3 : k = 3
  · subst h3
    simp only [go_sem,zA,zB,zC,zD,zE,zF,zG,zH,zI,zJ,zK,zL,zM,zN,zO,zP,↓reduceIte,reduceCtorEq,Try.ntmps130,Try.results130,Pdu.pv,Pdu.plain]
    repeat' (first | (refine wantK_splitN (fun h => ?_) (fun h => ?_) <;> simp only [go_sem,zA,zB,zC,zD,zE,zF,zG,zH,zI,zJ,zK,zL,zM,zN,zO,zP,↓reduceIte,reduceCtorEq,Try.ntmps130,Try.results130,h]) | (refine wantK_split (fun h => ?_) (fun h => ?_) <;> simp only [go_sem,zA,zB,zC,zD,zE,zF,zG,zH,zI,zJ,zK,zL,zM,zN,zO,zP,↓reduceIte,reduceCtorEq,Try.ntmps130,Try.results130,h]) | (refine condK_splitN (fun h => ?_) (fun h => ?_) <;> simp only [go_sem,zA,zB,zC,zD,zE,zF,zG,zH,zI,zJ,zK,zL,zM,zN,zO,zP,↓reduceIte,reduceCtorEq,Try.ntmps130,Try.results130,h]) | (refine condK_split (fun h => ?_) (fun h => ?_) <;> simp only [go_sem,zA,zB,zC,zD,zE,zF,zG,zH,zI,zJ,zK,zL,zM,zN,zO,zP,↓reduceIte,reduceCtorEq,Try.ntmps130,Try.results130,h]) | (refine drawK_splitN (fun h => ?_) (fun h => ?_) <;> simp only [go_sem,zA,zB,zC,zD,zE,zF,zG,zH,zI,zJ,zK,zL,zM,zN,zO,zP,↓reduceIte,reduceCtorEq,Try.ntmps130,Try.results130,h]) | (refine drawK_split (fun h => ?_) (fun h => ?_) <;> simp only [go_sem,zA,zB,zC,zD,zE,zF,zG,zH,zI,zJ,zK,zL,zM,zN,zO,zP,↓reduceIte,reduceCtorEq,Try.ntmps130,Try.results130,h]))
    any_goals (simp_all [Pdu.right,z4]; done)
    refine CallA.same (in_calls _ _ _) (by simp only [go_sem,zA,zB,zC,zD,zE,zF,zG,zH,zI,zJ,zK,zL,zM,zN,zO,zP,↓reduceIte,reduceCtorEq]) ?_
    simp only [go_sem,zA,zB,zC,zD,zE,zF,zG,zH,zI,zJ,zK,zL,zM,zN,zO,zP,↓reduceIte,reduceCtorEq,Try.ntmps130,Try.results130]
    refine CallA.into tabOK mixed Try.func156 rfl rfl (by decide +kernel) (by simp [Try.ntmps156]) ?_
    simp only [go_sem,zA,zB,zC,zD,zE,zF,zG,zH,zI,zJ,zK,zL,zM,zN,zO,zP,↓reduceIte,reduceCtorEq,Try.ntmps156,Try.results156]
    refine CallA.same (in_calls _ _ _) (by simp only [go_sem,zA,zB,zC,zD,zE,zF,zG,zH,zI,zJ,zK,zL,zM,zN,zO,zP,↓reduceIte,reduceCtorEq]) ?_
    simp only [go_sem,zA,zB,zC,zD,zE,zF,zG,zH,zI,zJ,zK,zL,zM,zN,zO,zP,↓reduceIte,reduceCtorEq,Try.ntmps130,Try.results130,Try.ntmps156,Try.results156]
    repeat' (first | (refine wantK_splitN (fun h => ?_) (fun h => ?_) <;> simp only [go_sem,zA,zB,zC,zD,zE,zF,zG,zH,zI,zJ,zK,zL,zM,zN,zO,zP,↓reduceIte,reduceCtorEq,Try.ntmps130,Try.results130,Try.ntmps156,Try.results156,h]) | (refine wantK_split (fun h => ?_) (fun h => ?_) <;> simp only [go_sem,zA,zB,zC,zD,zE,zF,zG,zH,zI,zJ,zK,zL,zM,zN,zO,zP,↓reduceIte,reduceCtorEq,Try.ntmps130,Try.results130,Try.ntmps156,Try.results156,h]) | (refine condK_splitN (fun h => ?_) (fun h => ?_) <;> simp only [go_sem,zA,zB,zC,zD,zE,zF,zG,zH,zI,zJ,zK,zL,zM,zN,zO,zP,↓reduceIte,reduceCtorEq,Try.ntmps130,Try.results130,Try.ntmps156,Try.results156,h]) | (refine condK_split (fun h => ?_) (fun h => ?_) <;> simp only [go_sem,zA,zB,zC,zD,zE,zF,zG,zH,zI,zJ,zK,zL,zM,zN,zO,zP,↓reduceIte,reduceCtorEq,Try.ntmps130,Try.results130,Try.ntmps156,Try.results156,h]) | (refine drawK_splitN (fun h => ?_) (fun h => ?_) <;> simp only [go_sem,zA,zB,zC,zD,zE,zF,zG,zH,zI,zJ,zK,zL,zM,zN,zO,zP,↓reduceIte,reduceCtorEq,Try.ntmps130,Try.results130,Try.ntmps156,Try.results156,h]) | (refine drawK_split (fun h => ?_) (fun h => ?_) <;> simp only [go_sem,zA,zB,zC,zD,zE,zF,zG,zH,zI,zJ,zK,zL,zM,zN,zO,zP,↓reduceIte,reduceCtorEq,Try.ntmps130,Try.results130,Try.ntmps156,Try.results156,h]))
    any_goals (first | (simp_all [Pdu.right,z4]; done) | (simp_all [Pdu.right,z4]; omega) | (simp_all [Pdu.right,z4]; rw [Bool.eq_iff_iff]; simp; omega))
    refine CallA.same (in_calls _ _ _) (by simp only [go_sem,zA,zB,zC,zD,zE,zF,zG,zH,zI,zJ,zK,zL,zM,zN,zO,zP,↓reduceIte,reduceCtorEq]) ?_
    simp only [go_sem,zA,zB,zC,zD,zE,zF,zG,zH,zI,zJ,zK,zL,zM,zN,zO,zP,↓reduceIte,reduceCtorEq,Try.ntmps130,Try.results130,Try.ntmps156,Try.results156]
    all_goals (first | (simp_all [Pdu.right,z4]; done) | (simp_all [Pdu.right,z4]; omega) | (simp_all [Pdu.right,z4]; rw [Bool.eq_iff_iff]; simp; omega))
  by_cases h4 : k = 4
  · subst h4
    simp only [go_sem,zA,zB,zC,zD,zE,zF,zG,zH,zI,zJ,zK,zL,zM,zN,zO,zP,↓reduceIte,reduceCtorEq,Try.ntmps130,Try.results130,Pdu.pv,Pdu.plain]
    repeat' (first | (refine wantK_splitN (fun h => ?_) (fun h => ?_) <;> simp only [go_sem,zA,zB,zC,zD,zE,zF,zG,zH,zI,zJ,zK,zL,zM,zN,zO,zP,↓reduceIte,reduceCtorEq,Try.ntmps130,Try.results130,h]) | (refine wantK_split (fun h => ?_) (fun h => ?_) <;> simp only [go_sem,zA,zB,zC,zD,zE,zF,zG,zH,zI,zJ,zK,zL,zM,zN,zO,zP,↓reduceIte,reduceCtorEq,Try.ntmps130,Try.results130,h]) | (refine condK_splitN (fun h => ?_) (fun h => ?_) <;> simp only [go_sem,zA,zB,zC,zD,zE,zF,zG,zH,zI,zJ,zK,zL,zM,zN,zO,zP,↓reduceIte,reduceCtorEq,Try.ntmps130,Try.results130,h]) | (refine condK_split (fun h => ?_) (fun h => ?_) <;> simp only [go_sem,zA,zB,zC,zD,zE,zF,zG,zH,zI,zJ,zK,zL,zM,zN,zO,zP,↓reduceIte,reduceCtorEq,Try.ntmps130,Try.results130,h]) | (refine drawK_splitN (fun h => ?_) (fun h => ?_) <;> simp only [go_sem,zA,zB,zC,zD,zE,zF,zG,zH,zI,zJ,zK,zL,zM,zN,zO,zP,↓reduceIte,reduceCtorEq,Try.ntmps130,Try.results130,h]) | (refine drawK_split (fun h => ?_) (fun h => ?_) <;> simp only [go_sem,zA,zB,zC,zD,zE,zF,zG,zH,zI,zJ,zK,zL,zM,zN,zO,zP,↓reduceIte,reduceCtorEq,Try.ntmps130,Try.results130,h]))
    any_goals (simp_all [Pdu.right,z4]; done)
    refine CallA.same (in_calls _ _ _) (by simp only [go_sem,zA,zB,zC,zD,zE,zF,zG,zH,zI,zJ,zK,zL,zM,zN,zO,zP,↓reduceIte,reduceCtorEq]) ?_
    simp only [go_sem,zA,zB,zC,zD,zE,zF,zG,zH,zI,zJ,zK,zL,zM,zN,zO,zP,↓reduceIte,reduceCtorEq,Try.ntmps130,Try.results130]
    refine CallA.into tabOK mixed Try.func157 rfl rfl (by decide +kernel) (by simp [Try.ntmps157]) ?_
    simp only [go_sem,zA,zB,zC,zD,zE,zF,zG,zH,zI,zJ,zK,zL,zM,zN,zO,zP,↓reduceIte,reduceCtorEq,Try.ntmps157,Try.results157]
    repeat' (first | (refine wantK_splitN (fun h => ?_) (fun h => ?_) <;> simp only [go_sem,zA,zB,zC,zD,zE,zF,zG,zH,zI,zJ,zK,zL,zM,zN,zO,zP,↓reduceIte,reduceCtorEq,Try.ntmps130,Try.results130,Try.ntmps157,Try.results157,h]) | (refine wantK_split (fun h => ?_) (fun h => ?_) <;> simp only [go_sem,zA,zB,zC,zD,zE,zF,zG,zH,zI,zJ,zK,zL,zM,zN,zO,zP,↓reduceIte,reduceCtorEq,Try.ntmps130,Try.results130,Try.ntmps157,Try.results157,h]) | (refine condK_splitN (fun h => ?_) (fun h => ?_) <;> simp only [go_sem,zA,zB,zC,zD,zE,zF,zG,zH,zI,zJ,zK,zL,zM,zN,zO,zP,↓reduceIte,reduceCtorEq,Try.ntmps130,Try.results130,Try.ntmps157,Try.results157,h]) | (refine condK_split (fun h => ?_) (fun h => ?_) <;> simp only [go_sem,zA,zB,zC,zD,zE,zF,zG,zH,zI,zJ,zK,zL,zM,zN,zO,zP,↓reduceIte,reduceCtorEq,Try.ntmps130,Try.results130,Try.ntmps157,Try.results157,h]) | (refine drawK_splitN (fun h => ?_) (fun h => ?_) <;> simp only [go_sem,zA,zB,zC,zD,zE,zF,zG,zH,zI,zJ,zK,zL,zM,zN,zO,zP,↓reduceIte,reduceCtorEq,Try.ntmps130,Try.results130,Try.ntmps157,Try.results157,h]) | (refine drawK_split (fun h => ?_) (fun h => ?_) <;> simp only [go_sem,zA,zB,zC,zD,zE,zF,zG,zH,zI,zJ,zK,zL,zM,zN,zO,zP,↓reduceIte,reduceCtorEq,Try.ntmps130,Try.results130,Try.ntmps157,Try.results157,h]))
    any_goals (first | (simp_all [Pdu.right,z4]; done) | (simp_all [Pdu.right,z4]; omega) | (simp_all [Pdu.right,z4]; rw [Bool.eq_iff_iff]; simp; omega))
    refine CallA.same (in_calls _ _ _) (by simp only [go_sem,zA,zB,zC,zD,zE,zF,zG,zH,zI,zJ,zK,zL,zM,zN,zO,zP,↓reduceIte,reduceCtorEq]) ?_
    simp only [go_sem,zA,zB,zC,zD,zE,zF,zG,zH,zI,zJ,zK,zL,zM,zN,zO,zP,↓reduceIte,reduceCtorEq,Try.ntmps130,Try.results130,Try.ntmps157,Try.results157]
    repeat' (first | (refine wantK_splitN (fun h => ?_) (fun h => ?_) <;> simp only [go_sem,zA,zB,zC,zD,zE,zF,zG,zH,zI,zJ,zK,zL,zM,zN,zO,zP,↓reduceIte,reduceCtorEq,Try.ntmps130,Try.results130,Try.ntmps157,Try.results157,h]) | (refine wantK_split (fun h => ?_) (fun h => ?_) <;> simp only [go_sem,zA,zB,zC,zD,zE,zF,zG,zH,zI,zJ,zK,zL,zM,zN,zO,zP,↓reduceIte,reduceCtorEq,Try.ntmps130,Try.results130,Try.ntmps157,Try.results157,h]) | (refine condK_splitN (fun h => ?_) (fun h => ?_) <;> simp only [go_sem,zA,zB,zC,zD,zE,zF,zG,zH,zI,zJ,zK,zL,zM,zN,zO,zP,↓reduceIte,reduceCtorEq,Try.ntmps130,Try.results130,Try.ntmps157,Try.results157,h]) | (refine condK_split (fun h => ?_) (fun h => ?_) <;> simp only [go_sem,zA,zB,zC,zD,zE,zF,zG,zH,zI,zJ,zK,zL,zM,zN,zO,zP,↓reduceIte,reduceCtorEq,Try.ntmps130,Try.results130,Try.ntmps157,Try.results157,h]) | (refine drawK_splitN (fun h => ?_) (fun h => ?_) <;> simp only [go_sem,zA,zB,zC,zD,zE,zF,zG,zH,zI,zJ,zK,zL,zM,zN,zO,zP,↓reduceIte,reduceCtorEq,Try.ntmps130,Try.results130,Try.ntmps157,Try.results157,h]) | (refine drawK_split (fun h => ?_) (fun h => ?_) <;> simp only [go_sem,zA,zB,zC,zD,zE,zF,zG,zH,zI,zJ,zK,zL,zM,zN,zO,zP,↓reduceIte,reduceCtorEq,Try.ntmps130,Try.results130,Try.ntmps157,Try.results157,h]))
    any_goals (first | (simp_all [Pdu.right,z4]; done) | (simp_all [Pdu.right,z4]; omega) | (simp_all [Pdu.right,z4]; rw [Bool.eq_iff_iff]; simp; omega))
    refine CallA.same (in_calls _ _ _) (by simp only [go_sem,zA,zB,zC,zD,zE,zF,zG,zH,zI,zJ,zK,zL,zM,zN,zO,zP,↓reduceIte,reduceCtorEq]) ?_
    simp only [go_sem,zA,zB,zC,zD,zE,zF,zG,zH,zI,zJ,zK,zL,zM,zN,zO,zP,↓reduceIte,reduceCtorEq,Try.ntmps130,Try.results130,Try.ntmps157,Try.results157]
    repeat' (first | (refine wantK_splitN (fun h => ?_) (fun h => ?_) <;> simp only [go_sem,zA,zB,zC,zD,zE,zF,zG,zH,zI,zJ,zK,zL,zM,zN,zO,zP,↓reduceIte,reduceCtorEq,Try.ntmps130,Try.results130,Try.ntmps157,Try.results157,h]) | (refine wantK_split (fun h => ?_) (fun h => ?_) <;> simp only [go_sem,zA,zB,zC,zD,zE,zF,zG,zH,zI,zJ,zK,zL,zM,zN,zO,zP,↓reduceIte,reduceCtorEq,Try.ntmps130,Try.results130,Try.ntmps157,Try.results157,h]) | (refine condK_splitN (fun h => ?_) (fun h => ?_) <;> simp only [go_sem,zA,zB,zC,zD,zE,zF,zG,zH,zI,zJ,zK,zL,zM,zN,zO,zP,↓reduceIte,reduceCtorEq,Try.ntmps130,Try.results130,Try.ntmps157,Try.results157,h]) | (refine condK_split (fun h => ?_) (fun h => ?_) <;> simp only [go_sem,zA,zB,zC,zD,zE,zF,zG,zH,zI,zJ,zK,zL,zM,zN,zO,zP,↓reduceIte,reduceCtorEq,Try.ntmps130,Try.results130,Try.ntmps157,Try.results157,h]) | (refine drawK_splitN (fun h => ?_) (fun h => ?_) <;> simp only [go_sem,zA,zB,zC,zD,zE,zF,zG,zH,zI,zJ,zK,zL,zM,zN,zO,zP,↓reduceIte,reduceCtorEq,Try.ntmps130,Try.results130,Try.ntmps157,Try.results157,h]) | (refine drawK_split (fun h => ?_) (fun h => ?_) <;> simp only [go_sem,zA,zB,zC,zD,zE,zF,zG,zH,zI,zJ,zK,zL,zM,zN,zO,zP,↓reduceIte,reduceCtorEq,Try.ntmps130,Try.results130,Try.ntmps157,Try.results157,h]))
    any_goals (first | (simp_all [Pdu.right,z4]; done) | (simp_all [Pdu.right,z4]; omega) | (simp_all [Pdu.right,z4]; rw [Bool.eq_iff_iff]; simp; omega))
    refine CallA.same (in_calls _ _ _) (by simp only [go_sem,zA,zB,zC,zD,zE,zF,zG,zH,zI,zJ,zK,zL,zM,zN,zO,zP,↓reduceIte,reduceCtorEq]) ?_
    simp only [go_sem,zA,zB,zC,zD,zE,zF,zG,zH,zI,zJ,zK,zL,zM,zN,zO,zP,↓reduceIte,reduceCtorEq,Try.ntmps130,Try.results130,Try.ntmps157,Try.results157]
    all_goals (first | (simp_all [Pdu.right,z4]; done) | (simp_all [Pdu.right,z4]; omega) | (simp_all [Pdu.right,z4]; rw [Bool.eq_iff_iff]; simp; omega))
  simp only [go_sem,zA,zB,zC,zD,zE,zF,zG,zH,zI,zJ,zK,zL,zM,zN,zO,zP,↓reduceIte,reduceCtorEq,Try.ntmps130,Try.results130,Pdu.pv,Pdu.plain,h1,h2,h3,h4]
  repeat' (first | (refine wantK_splitN (fun h => ?_) (fun h => ?_) <;> simp only [go_sem,zA,zB,zC,zD,zE,zF,zG,zH,zI,zJ,zK,zL,zM,zN,zO,zP,↓reduceIte,reduceCtorEq,Try.ntmps130,Try.results130,h]) | (refine wantK_split (fun h => ?_) (fun h => ?_) <;> simp only [go_sem,zA,zB,zC,zD,zE,zF,zG,zH,zI,zJ,zK,zL,zM,zN,zO,zP,↓reduceIte,reduceCtorEq,Try.ntmps130,Try.results130,h]) | (refine condK_splitN (fun h => ?_) (fun h => ?_) <;> simp only [go_sem,zA,zB,zC,zD,zE,zF,zG,zH,zI,zJ,zK,zL,zM,zN,zO,zP,↓reduceIte,reduceCtorEq,Try.ntmps130,Try.results130,h]) | (refine condK_split (fun h => ?_) (fun h => ?_) <;> simp only [go_sem,zA,zB,zC,zD,zE,zF,zG,zH,zI,zJ,zK,zL,zM,zN,zO,zP,↓reduceIte,reduceCtorEq,Try.ntmps130,Try.results130,h]) | (refine drawK_splitN (fun h => ?_) (fun h => ?_) <;> simp only [go_sem,zA,zB,zC,zD,zE,zF,zG,zH,zI,zJ,zK,zL,zM,zN,zO,zP,↓reduceIte,reduceCtorEq,Try.ntmps130,Try.results130,h]) | (refine drawK_split (fun h => ?_) (fun h => ?_) <;> simp only [go_sem,zA,zB,zC,zD,zE,zF,zG,zH,zI,zJ,zK,zL,zM,zN,zO,zP,↓reduceIte,reduceCtorEq,Try.ntmps130,Try.results130,h]))
  any_goals (simp_all [Pdu.right,z4]; done)
  refine CallA.same (in_calls _ _ _) (by simp only [go_sem,zA,zB,zC,zD,zE,zF,zG,zH,zI,zJ,zK,zL,zM,zN,zO,zP,↓reduceIte,reduceCtorEq]) ?_
  simp only [go_sem,zA,zB,zC,zD,zE,zF,zG,zH,zI,zJ,zK,zL,zM,zN,zO,zP,↓reduceIte,reduceCtorEq,Try.ntmps130,Try.results130]
  have hk : (decide (1 ≤ k) && decide (k ≤ 4)) = false := by
    simp; omega
  simp only [go_sem,zA,zB,zC,zD,zE,zF,zG,zH,zI,zJ,zK,zL,zM,zN,zO,zP,↓reduceIte,reduceCtorEq,Try.ntmps130,Try.results130,hk]
  all_goals (first | (simp_all [Pdu.right,z4]; done) | (simp_all [Pdu.right,z4]; omega) | (simp_all [Pdu.right,z4]; rw [Bool.eq_iff_iff]; simp; omega))
end Go.Proofs.Ytcdmhigmgpflbaa.Pe.Lk

