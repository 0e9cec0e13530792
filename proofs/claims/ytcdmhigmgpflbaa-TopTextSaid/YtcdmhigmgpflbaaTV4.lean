import Derived.Test.YtcdmhigmgpflbaaTV1
import Derived.Test.YtcdmhigmgpflbaaLE13
namespace Go.Proofs.Ytcdmhigmgpflbaa.Pe
open Go.Pe Go.RowKit
open Nat renaming reduceAdd → zA,reduceSub → zB,reduceMul → zC,reduceLT → zD,reduceLeDiff → zE,reduceEqDiff → zF,reduceBEq → zG
open Int renaming reduceToNat → zH,reduceLT → zI,reduceLE → zJ,reduceEq → zK,reduceNe → zL,reduceAdd → zM,reduceSub → zN,reduceMul → zO,reduceNeg → zP
set_option maxRecDepth 20000
set_option maxHeartbeats 4000000
set_option linter.unusedSimpArgs false
set_option linter.unusedVariables false
theorem topText_calls (b : List UInt8) (block gap : UInt8) (f : List Int) : PureCalls Try.prog 20 [bytesPV b,.lit (.int .u8 block.toNat),.lit (.int .u8 gap.toNat),intsPV f] (PB true) := by
  refine PureCalls.of tabOK mixed Try.func20 rfl rfl (by decide +kernel) (by simp [Try.ntmps20]) ?_
  simp only [go_sem,zA,zB,zC,zD,zE,zF,zG,zH,zI,zJ,zK,zL,zM,zN,zO,zP,↓reduceIte,reduceCtorEq,Try.ntmps20,Try.results20]
  (refine CallA.pure (top23_calls) (by simp only [go_sem,zA,zB,zC,zD,zE,zF,zG,zH,zI,zJ,zK,zL,zM,zN,zO,zP,↓reduceIte,reduceCtorEq,Try.ntmps20,Try.results20] <;> first | rfl | decide) ?_; simp only [go_sem,zA,zB,zC,zD,zE,zF,zG,zH,zI,zJ,zK,zL,zM,zN,zO,zP,↓reduceIte,reduceCtorEq,Try.ntmps20,Try.results20])
  by_cases h1 : b.length = 0
  · have g1 : decide ((b.length : Int) = 0) = true := decide_eq_true (by omega)
    simp only [go_sem,zA,zB,zC,zD,zE,zF,zG,zH,zI,zJ,zK,zL,zM,zN,zO,zP,↓reduceIte,reduceCtorEq,rowsB_length,g1,Try.ntmps20,Try.results20]
  have g1 : decide ((b.length : Int) = 0) = false := decide_eq_false (by omega)
  by_cases h2 : b.length > 200
  · have g2 : decide ((b.length : Int) > 200) = true := decide_eq_true (by omega)
    simp only [go_sem,zA,zB,zC,zD,zE,zF,zG,zH,zI,zJ,zK,zL,zM,zN,zO,zP,↓reduceIte,reduceCtorEq,rowsB_length,g1,g2,Try.ntmps20,Try.results20]
  have g2 : decide ((b.length : Int) > 200) = false := decide_eq_false (by omega)
  by_cases h3 : f.length > 100
  · have g3 : decide ((f.length : Int) > 100) = true := decide_eq_true (by omega)
    simp only [go_sem,zA,zB,zC,zD,zE,zF,zG,zH,zI,zJ,zK,zL,zM,zN,zO,zP,↓reduceIte,reduceCtorEq,rowsB_length,List.length_map,g1,g2,g3,Try.ntmps20,Try.results20]
  have g3 : decide ((f.length : Int) > 100) = false := decide_eq_false (by omega)
  obtain ⟨m,hm,hm1⟩ : ∃ m : Nat,(block.toNat : Int).tmod 8 = (m : Int) ∧ m ≤ 7 := ⟨block.toNat % 8,rfl,by omega⟩
  obtain ⟨k,hk,hk1⟩ : ∃ k : Nat,(gap.toNat : Int).tmod 5 = (k : Int) ∧ k ≤ 4 := ⟨gap.toNat % 5,rfl,by omega⟩
  have w1 : IntKind.wrap .i64 (block.toNat : Int) = (block.toNat : Int) := by have := block.toNat_lt; rw [wrapI64_eq]; omega
  have w2 : IntKind.wrap .i64 (gap.toNat : Int) = (gap.toNat : Int) := by have := gap.toNat_lt; rw [wrapI64_eq]; omega
  have c1 := Lk.play_calls b 4095 m k f (by omega)
  have hgr : Lk.greatL b 4095 m k f = false := by
    have hmul : (((b.length / 7 : Nat) : Int) + 1) * ((k : Int) + 2) ≤ 6000 := by
      have : ((b.length / 7 : Nat) + 1) * (k + 2) ≤ 29 * 6 := Nat.mul_le_mul (by omega) (by omega)
      have e : (((b.length / 7 : Nat) : Int) + 1) * ((k : Int) + 2) = ((((b.length / 7 : Nat) + 1) * (k + 2) : Nat) : Int) := by simp
      rw [e]
      omega
    simp only [Lk.greatL,Bool.or_eq_false_iff,decide_eq_false_iff_not]
    refine ⟨⟨⟨⟨⟨⟨⟨⟨?_,?_⟩,?_⟩,?_⟩,?_⟩,?_⟩,?_⟩,?_⟩,?_⟩ <;> omega
  have hnil : f = [] → (Lk.playV b 4095 m k f).1.st = 3 ∧ (Lk.playV b 4095 m k f).2.1.st = 3 := by
    intro hf
    subst hf
    have hmul : (b.length / 7 + 1) * (k + 2) ≤ 29 * 6 := Nat.mul_le_mul (by omega) (by omega)
    obtain ⟨s,r,n,p1,p2,p3,_⟩ := Lk.play_passes (t := b) (by omega) (by omega) (bn := m) (g := k) (R := 4095) (by omega) (by omega) (by omega) (by omega)
    rw [p1]
    exact ⟨p2,p3⟩
  obtain ⟨s,r,n,hx⟩ : ∃ s r n,Lk.playV b 4095 m k f = (s,r,n) := ⟨_,_,_,rfl⟩
  have he := Lk.play_ends hgr hx
  have hwhole := fun h => Lk.play_whole hx h
  rw [hx] at c1 hnil
  simp only at hnil
  simp only [go_sem,zA,zB,zC,zD,zE,zF,zG,zH,zI,zJ,zK,zL,zM,zN,zO,zP,↓reduceIte,reduceCtorEq,rowsB_length,List.length_map,g1,g2,g3,hm,hk,w1,w2]
  (refine CallA.pure (c1) (by simp only [go_sem,zA,zB,zC,zD,zE,zF,zG,zH,zI,zJ,zK,zL,zM,zN,zO,zP,↓reduceIte,reduceCtorEq,Lk.Snd.pv,Lk.Snd.cells,Lk.Rcv.pv,Lk.Rcv.cells] <;> first | rfl | decide) ?_; simp only [go_sem,zA,zB,zC,zD,zE,zF,zG,zH,zI,zJ,zK,zL,zM,zN,zO,zP,↓reduceIte,reduceCtorEq,Lk.Snd.pv,Lk.Snd.cells,Lk.Rcv.pv,Lk.Rcv.cells])
  have hr2 : decide (r.st = 2) = false := decide_eq_false he.2.1
  have hs34 : decide (s.st = 3) = true ∨ (decide (s.st = 3) = false ∧ decide (s.st = 4) = true) := by
    rcases he.1 with e | e
    · exact .inl (decide_eq_true e)
    · exact .inr ⟨decide_eq_false (by omega),decide_eq_true e⟩
  have main : True := trivial
  rcases hs34 with k3 | ⟨k3,k4⟩
  · simp only [go_sem,zA,zB,zC,zD,zE,zF,zG,zH,zI,zJ,zK,zL,zM,zN,zO,zP,↓reduceIte,reduceCtorEq,k3,hr2,Bool.not_true]
    by_cases hr3 : r.st = 3
    · have k5 : decide (r.st = 3) = true := decide_eq_true hr3
      have hg := hwhole hr3
      have sb := Lk.sameB_calls r.got b
      rw [decide_eq_true hg] at sb
      simp only [go_sem,zA,zB,zC,zD,zE,zF,zG,zH,zI,zJ,zK,zL,zM,zN,zO,zP,↓reduceIte,reduceCtorEq,k5,Bool.not_true]
      (refine CallA.pure (sb) (by simp only [go_sem,zA,zB,zC,zD,zE,zF,zG,zH,zI,zJ,zK,zL,zM,zN,zO,zP,↓reduceIte,reduceCtorEq,List.length_map] <;> first | rfl | decide) ?_; simp only [go_sem,zA,zB,zC,zD,zE,zF,zG,zH,zI,zJ,zK,zL,zM,zN,zO,zP,↓reduceIte,reduceCtorEq,List.length_map])
      cases hfl : decide ((f.length : Int) > 0) with
      | true => simp only [go_sem,zA,zB,zC,zD,zE,zF,zG,zH,zI,zJ,zK,zL,zM,zN,zO,zP,↓reduceIte,reduceCtorEq,hfl,Try.ntmps20,Try.results20]
      | false =>
        have h0 := of_decide_eq_false hfl
        have hf : f = [] := List.eq_nil_of_length_eq_zero (by omega)
        obtain ⟨q1,q2⟩ := hnil hf
        have k1 : decide (s.st = 3) = true := decide_eq_true q1
        have k2 : decide (r.st = 3) = true := decide_eq_true q2
        simp only [go_sem,zA,zB,zC,zD,zE,zF,zG,zH,zI,zJ,zK,zL,zM,zN,zO,zP,↓reduceIte,reduceCtorEq,hfl,k1,k2,Try.ntmps20,Try.results20]
    · have k5 : decide (r.st = 3) = false := decide_eq_false hr3
      simp only [go_sem,zA,zB,zC,zD,zE,zF,zG,zH,zI,zJ,zK,zL,zM,zN,zO,zP,↓reduceIte,reduceCtorEq,k5,Bool.not_false,List.length_map]
      cases hfl : decide ((f.length : Int) > 0) with
      | true => simp only [go_sem,zA,zB,zC,zD,zE,zF,zG,zH,zI,zJ,zK,zL,zM,zN,zO,zP,↓reduceIte,reduceCtorEq,hfl,Try.ntmps20,Try.results20]
      | false =>
        have h0 := of_decide_eq_false hfl
        have hf : f = [] := List.eq_nil_of_length_eq_zero (by omega)
        obtain ⟨q1,q2⟩ := hnil hf
        have k1 : decide (s.st = 3) = true := decide_eq_true q1
        have k2 : decide (r.st = 3) = true := decide_eq_true q2
        simp only [go_sem,zA,zB,zC,zD,zE,zF,zG,zH,zI,zJ,zK,zL,zM,zN,zO,zP,↓reduceIte,reduceCtorEq,hfl,k1,k2,Try.ntmps20,Try.results20]
  · simp only [go_sem,zA,zB,zC,zD,zE,zF,zG,zH,zI,zJ,zK,zL,zM,zN,zO,zP,↓reduceIte,reduceCtorEq,k3,k4,hr2,Bool.not_true,Bool.not_false]
    by_cases hr3 : r.st = 3
    · have k5 : decide (r.st = 3) = true := decide_eq_true hr3
      have hg := hwhole hr3
      have sb := Lk.sameB_calls r.got b
      rw [decide_eq_true hg] at sb
      simp only [go_sem,zA,zB,zC,zD,zE,zF,zG,zH,zI,zJ,zK,zL,zM,zN,zO,zP,↓reduceIte,reduceCtorEq,k5,Bool.not_true]
      (refine CallA.pure (sb) (by simp only [go_sem,zA,zB,zC,zD,zE,zF,zG,zH,zI,zJ,zK,zL,zM,zN,zO,zP,↓reduceIte,reduceCtorEq,List.length_map] <;> first | rfl | decide) ?_; simp only [go_sem,zA,zB,zC,zD,zE,zF,zG,zH,zI,zJ,zK,zL,zM,zN,zO,zP,↓reduceIte,reduceCtorEq,List.length_map])
      cases hfl : decide ((f.length : Int) > 0) with
      | true => simp only [go_sem,zA,zB,zC,zD,zE,zF,zG,zH,zI,zJ,zK,zL,zM,zN,zO,zP,↓reduceIte,reduceCtorEq,hfl,Try.ntmps20,Try.results20]
      | false =>
        have h0 := of_decide_eq_false hfl
        have hf : f = [] := List.eq_nil_of_length_eq_zero (by omega)
        obtain ⟨q1,q2⟩ := hnil hf
        have k1 : decide (s.st = 3) = true := decide_eq_true q1
        have k2 : decide (r.st = 3) = true := decide_eq_true q2
        simp only [go_sem,zA,zB,zC,zD,zE,zF,zG,zH,zI,zJ,zK,zL,zM,zN,zO,zP,↓reduceIte,reduceCtorEq,hfl,k1,k2,Try.ntmps20,Try.results20]
    · have k5 : decide (r.st = 3) = false := decide_eq_false hr3
      simp only [go_sem,zA,zB,zC,zD,zE,zF,zG,zH,zI,zJ,zK,zL,zM,zN,zO,zP,↓reduceIte,reduceCtorEq,k5,Bool.not_false,List.length_map]
      cases hfl : decide ((f.length : Int) > 0) with
      | true => simp only [go_sem,zA,zB,zC,zD,zE,zF,zG,zH,zI,zJ,zK,zL,zM,zN,zO,zP,↓reduceIte,reduceCtorEq,hfl,Try.ntmps20,Try.results20]
      | false =>
        have h0 := of_decide_eq_false hfl
        have hf : f = [] := List.eq_nil_of_length_eq_zero (by omega)
        obtain ⟨q1,q2⟩ := hnil hf
        have k1 : decide (s.st = 3) = true := decide_eq_true q1
        have k2 : decide (r.st = 3) = true := decide_eq_true q2
        simp only [go_sem,zA,zB,zC,zD,zE,zF,zG,zH,zI,zJ,zK,zL,zM,zN,zO,zP,↓reduceIte,reduceCtorEq,hfl,k1,k2,Try.ntmps20,Try.results20]
end Go.Proofs.Ytcdmhigmgpflbaa.Pe

