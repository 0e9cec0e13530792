import Derived.Test.YtcdmhigmgpflbaaDI20
namespace Go.Proofs.Ytcdmhigmgpflbaa.Pe
open Go.Pe Go.RowKit
set_option maxRecDepth 20000
set_option maxHeartbeats 4000000
set_option linter.unusedSimpArgs false
set_option linter.unusedVariables false
/-- A sum takes a bit. -/
def takeB (s : UInt8) (b : Bool) : UInt8 := if decide (s.toNat ≥ 128) = b then s <<< 1 else (s <<< 1) ^^^ 29
def bitB (x : UInt8) (k : Nat) : Bool := decide (x.toNat / 2 ^ (7 - k) % 2 = 1)
def bI (b : Bool) : Int := if b = true then 1 else 0
def takeI (s b : Int) : Int := if bitsA .xor .i64 (s.fdiv 128) b = 1 then bitsA .xor .i64 (bitsA .and .i64 (IntKind.wrap .i64 (s * 2)) 255) 29 else bitsA .and .i64 (IntKind.wrap .i64 (s * 2)) 255
theorem take_all : ∀ n : Nat,n < 256 → (takeI (n : Int) 0 = ((takeB (UInt8.ofNat n) false).toNat : Int)) ∧ (takeI (n : Int) 1 = ((takeB (UInt8.ofNat n) true).toNat : Int)) := by decide +kernel
theorem take_eq (s : UInt8) (b : Bool) : takeI (s.toNat : Int) (bI b) = ((takeB s b).toNat : Int) := by
  obtain ⟨h1,h2⟩ := take_all s.toNat s.toNat_lt
  rw [UInt8.ofNat_toNat] at h1 h2
  cases b with
  | false => exact h1
  | true => exact h2
theorem bit_all : ∀ k : Nat,k < 8 → ∀ n : Nat,n < 256 → bitsA .and .i64 ((n : Int).fdiv (2 ^ min (7 - k) 64)) 1 = if n / 2 ^ (7 - k) % 2 = 1 then 1 else 0 := by decide +kernel
theorem bit_eq (x : UInt8) {k : Nat} (h : k < 8) : bitsA .and .i64 ((x.toNat : Int).fdiv (2 ^ min (7 - k) 64)) 1 = bI (bitB x k) := by
  rw [bit_all k h x.toNat x.toNat_lt,bI,bitB]
  simp
theorem end_all : ∀ n : Nat,n < 256 → bitsA .xor .i64 (n : Int) 255 = ((UInt8.ofNat n ^^^ 255).toNat : Int) := by decide +kernel
theorem end_eq (x : UInt8) : bitsA .xor .i64 (x.toNat : Int) 255 = ((x ^^^ 255).toNat : Int) := by
  have := end_all x.toNat x.toNat_lt
  rwa [UInt8.ofNat_toNat] at this
/-- So many bits of a byte,from the k-th on. -/
def bitsB (x : UInt8) : Nat → Nat → UInt8 → UInt8
  | 0,_,s => s
  | m + 1,k,s => bitsB x m (k + 1) (takeB s (bitB x k))
theorem bitsB_succ (x : UInt8) (m k : Nat) (s : UInt8) : bitsB x (m + 1) k s = bitsB x m (k + 1) (takeB s (bitB x k)) := rfl
theorem bitsB_zero (x : UInt8) (k : Nat) (s : UInt8) : bitsB x 0 k s = s := rfl
/-- A byte's bits. -/
def byteB (x s : UInt8) : UInt8 := bitsB x 8 0 s
/-- Row by row. -/
def crcF (f : UInt8 → UInt8 → UInt8) : UInt8 → List UInt8 → UInt8
  | s,[] => s
  | s,x :: l => crcF f (f x s) l
theorem crcF_cons (f : UInt8 → UInt8 → UInt8) (s x : UInt8) (l : List UInt8) : crcF f s (x :: l) = crcF f (f x s) l := rfl
theorem crcF_nil (f : UInt8 → UInt8 → UInt8) (s : UInt8) : crcF f s [] = s := rfl
def crcV (l : List UInt8) : UInt8 := crcF byteB 255 l ^^^ 255
end Go.Proofs.Ytcdmhigmgpflbaa.Pe


namespace Go.Proofs.Ytcdmhigmgpflbaa.Pe
open Go.Pe Go.RowKit
open Nat renaming reduceAdd → zA,reduceSub → zB,reduceMul → zC,reduceLT → zD,reduceLeDiff → zE,reduceEqDiff → zF,reduceBEq → zG
open Int renaming reduceToNat → zH,reduceLT → zI,reduceLE → zJ,reduceEq → zK,reduceNe → zL,reduceAdd → zM,reduceSub → zN,reduceMul → zO,reduceNeg → zP
set_option maxRecDepth 20000
set_option maxHeartbeats 4000000
set_option linter.unusedSimpArgs false
set_option linter.unusedVariables false
def crSt (l : List UInt8) (i : Nat) (s : UInt8) : St := ⟨33,[(3,.ptr 0 0),(9,bytesPV l),(10,PI l.length),(11,PI i)],[(0,.box 217 [PI s.toNat,PI 8,PI 29])],200,0⟩
def crI (f : UInt8 → UInt8 → UInt8) (l : List UInt8) (m : Nat) (st : St) : Prop := ∃ (i : Nat) (s : UInt8),i ≤ l.length ∧ m = l.length - i ∧ crcF f s (l.drop i) = crcF f 255 l ∧ st = crSt l i s
def cbSt (l : List UInt8) (i : Nat) (x : UInt8) (k : Nat) (s : UInt8) : St := ⟨33,[(3,.ptr 0 0),(5,.lit (.int .u8 x.toNat)),(9,bytesPV l),(10,PI l.length),(11,PI i),(15,PI k)],[(0,.box 217 [PI s.toNat,PI 8,PI 29])],300,0⟩
def cbI (l : List UInt8) (i : Nat) (x : UInt8) (r : UInt8) (m : Nat) (st : St) : Prop := ∃ (k : Nat) (s : UInt8),k ≤ 8 ∧ m = 8 - k ∧ bitsB x (8 - k) k s = r ∧ st = cbSt l i x k s
theorem crc_calls (l : List UInt8) (hl : l.length ≤ 1000000) : PureCalls Try.prog 136 [bytesPV l] (PI (crcV l).toNat) := by
  refine PureCalls.of tabOK mixed Try.func136 rfl rfl (by decide +kernel) (by simp [Try.ntmps136]) ?_
  obtain ⟨f,hf⟩ : ∃ f,f = byteB := ⟨_,rfl⟩
  have hV : crcV l = crcF f 255 l ^^^ 255 := by rw [hf]; rfl
  simp only [go_sem,zA,zB,zC,zD,zE,zF,zG,zH,zI,zJ,zK,zL,zM,zN,zO,zP,↓reduceIte,reduceCtorEq,Try.ntmps136,Try.results136,rowsB_length]
  refine wpA_loop (crI f l) ⟨l.length,_,?_,0,255,by omega,rfl,by rw [List.drop_zero],rfl⟩ ?_
  · have u255 : ((UInt8.toNat 255 : Nat) : Int) = 255 := rfl
    simp only [go_sem,zA,zB,zC,zD,zE,zF,zG,zH,zI,zJ,zK,zL,zM,zN,zO,zP,↓reduceIte,reduceCtorEq,crSt,u255,Int.natCast_zero,refsIn,refsInL,Blk.refsIn]
  rintro m st ⟨i,s,hi,rfl,hg,rfl⟩
  by_cases hc : i < l.length
  · have f1 : decide ((i : Int) < (l.length : Int)) = true := decide_eq_true (by omega)
    have f3 : (0 : Int) ≤ (i : Int) ∧ (i : Int) < (l.length : Int) := by omega
    have hw1 := wrapIN (i := i) (by omega)
    have gx : (rowsB l).getD i [] = [.lit (.int .u8 (l.getD i 0).toNat)] := rowsB_getD hc
    simp only [go_sem,zA,zB,zC,zD,zE,zF,zG,zH,zI,zJ,zK,zL,zM,zN,zO,zP,↓reduceIte,reduceCtorEq,crSt,f1,f3.1,f3.2,rowsB_length,gx,Int.toNat_natCast,List.headD_cons,List.length_cons,List.length_nil,Nat.le_add_left]
    obtain ⟨x,hx⟩ : ∃ x,l.getD i 0 = x := ⟨_,rfl⟩
    have hd : l.drop i = x :: l.drop (i + 1) := by
      rw [← hx,List.drop_eq_getElem_cons hc]
      simp [List.getD_eq_getElem?_getD,hc]
    rw [hd,crcF_cons] at hg
    rw [hx]
    obtain ⟨r,hr⟩ : ∃ r,bitsB x 8 0 s = r := ⟨_,rfl⟩
    have hfx : f x s = r := by rw [hf,← hr,byteB]
    rw [hfx] at hg
    refine wpA_loop (cbI l i x r) ⟨8,_,?_,0,s,by omega,rfl,by rw [Nat.sub_zero]; exact hr,rfl⟩ ?_
    · simp only [go_sem,zA,zB,zC,zD,zE,zF,zG,zH,zI,zJ,zK,zL,zM,zN,zO,zP,↓reduceIte,reduceCtorEq,cbSt,Int.natCast_zero,refsIn,refsInL,Blk.refsIn]
    rintro m st ⟨k,s',hk,rfl,hb,rfl⟩
    by_cases hk2 : k < 8
    · have g1 : decide ((k : Int) < 8) = true := decide_eq_true (by omega)
      have hw2 := wrapIN (i := k) (by omega)
      have w7 : IntKind.wrap .i64 (7 - (k : Int)) = ((7 - k : Nat) : Int) := by rw [wrapI64_eq]; omega
      have h7 : (0 : Int) ≤ ((7 - k : Nat) : Int) := by omega
      have wx : IntKind.wrap .i64 (x.toNat : Int) = (x.toNat : Int) := by have := x.toNat_lt; rw [wrapI64_eq]; omega
      have be := bit_eq x hk2
      have te := take_eq s' (bitB x k)
      have hb : bitsB x (8 - (k + 1)) (k + 1) (takeB s' (bitB x k)) = r := by
        rw [← hb,show 8 - k = (8 - (k + 1)) + 1 by omega,bitsB_succ]
      generalize takeB s' (bitB x k) = t at te hb
      simp only [go_sem,zA,zB,zC,zD,zE,zF,zG,zH,zI,zJ,zK,zL,zM,zN,zO,zP,↓reduceIte,reduceCtorEq,cbSt,g1,w7,h7,wx,be,Int.toNat_natCast]
      generalize bI (bitB x k) = b at te
      refine CallA.into tabOK mixed Try.func161 rfl rfl (by decide +kernel) (by simp [Try.ntmps161]) ?_
      have q7 : IntKind.wrap .i64 7 = 7 := rfl
      have q256 : IntKind.wrap .i64 (1 * 2 ^ min 8 64) = 256 := rfl
      have q255 : IntKind.wrap .i64 255 = 255 := rfl
      have q0 : (0 : Int) ≤ 7 := by decide
      have q8 : (0 : Int) ≤ 8 := by decide
      have p7 : (2 : Int) ^ min 7 64 = 128 := rfl
      have p1 : (2 : Int) ^ min 1 64 = 2 := rfl
      simp only [go_sem,zA,zB,zC,zD,zE,zF,zG,zH,zI,zJ,zK,zL,zM,zN,zO,zP,↓reduceIte,reduceCtorEq,Try.ntmps161,Try.results161,q7,q0,p7,Int.reduceToNat]
      refine endD_intro (by decide +kernel) ?_
      simp only [go_sem,zA,zB,zC,zD,zE,zF,zG,zH,zI,zJ,zK,zL,zM,zN,zO,zP,↓reduceIte,reduceCtorEq,q8,q255,q256,p1,Int.reduceToNat]
      refine endD_intro (by decide +kernel) ?_
      simp only [go_sem,zA,zB,zC,zD,zE,zF,zG,zH,zI,zJ,zK,zL,zM,zN,zO,zP,↓reduceIte,reduceCtorEq]
      unfold takeI at te
      by_cases hx1 : bitsA .xor .i64 ((s'.toNat : Int).fdiv 128) b = 1
      · have hx2 : decide (bitsA .xor .i64 ((s'.toNat : Int).fdiv 128) b = 1) = true := decide_eq_true hx1
        rw [if_pos hx1] at te
        simp only [go_sem,zA,zB,zC,zD,zE,zF,zG,zH,zI,zJ,zK,zL,zM,zN,zO,zP,↓reduceIte,reduceCtorEq,hx2]
        refine endD_intro (by decide +kernel) ?_
        simp only [go_sem,zA,zB,zC,zD,zE,zF,zG,zH,zI,zJ,zK,zL,zM,zN,zO,zP,↓reduceIte,reduceCtorEq,te,Try.ntmps161,Try.results161]
        refine ⟨8 - (k + 1),_,by omega,?_,k + 1,t,by omega,rfl,hb,rfl⟩
        simp only [go_sem,zA,zB,zC,zD,zE,zF,zG,zH,zI,zJ,zK,zL,zM,zN,zO,zP,↓reduceIte,reduceCtorEq,cbSt,hw2,refsIn,refsInL,Blk.refsIn]
      · have hx2 : decide (bitsA .xor .i64 ((s'.toNat : Int).fdiv 128) b = 1) = false := decide_eq_false hx1
        rw [if_neg hx1] at te
        simp only [go_sem,zA,zB,zC,zD,zE,zF,zG,zH,zI,zJ,zK,zL,zM,zN,zO,zP,↓reduceIte,reduceCtorEq,hx2,te,Try.ntmps161,Try.results161]
        refine ⟨8 - (k + 1),_,by omega,?_,k + 1,t,by omega,rfl,hb,rfl⟩
        simp only [go_sem,zA,zB,zC,zD,zE,zF,zG,zH,zI,zJ,zK,zL,zM,zN,zO,zP,↓reduceIte,reduceCtorEq,cbSt,hw2,refsIn,refsInL,Blk.refsIn]
    · have g1 : decide ((k : Int) < 8) = false := decide_eq_false (by omega)
      have hk3 : k = 8 := by omega
      subst hk3
      rw [Nat.sub_self,bitsB_zero] at hb
      simp only [go_sem,zA,zB,zC,zD,zE,zF,zG,zH,zI,zJ,zK,zL,zM,zN,zO,zP,↓reduceIte,reduceCtorEq,cbSt,g1]
      refine ⟨l.length - (i + 1),_,by omega,?_,i + 1,s',by omega,rfl,by rw [hb]; exact hg,rfl⟩
      simp only [go_sem,zA,zB,zC,zD,zE,zF,zG,zH,zI,zJ,zK,zL,zM,zN,zO,zP,↓reduceIte,reduceCtorEq,crSt,hw1,refsIn,refsInL,Blk.refsIn]
  · have f1 : decide ((i : Int) < (l.length : Int)) = false := decide_eq_false (by omega)
    have hi2 : i = l.length := by omega
    rw [hi2,List.drop_length] at hg
    have e : crcV l = s ^^^ 255 := by rw [hV,← hg,crcF_nil]
    simp only [go_sem,zA,zB,zC,zD,zE,zF,zG,zH,zI,zJ,zK,zL,zM,zN,zO,zP,↓reduceIte,reduceCtorEq,crSt,f1,end_eq,e,Try.ntmps136,Try.results136]
end Go.Proofs.Ytcdmhigmgpflbaa.Pe


namespace Go.Proofs.Ytcdmhigmgpflbaa.Pe
open Go.Pe Go.RowKit
open Nat renaming reduceAdd → zA,reduceSub → zB,reduceMul → zC,reduceLT → zD,reduceLeDiff → zE,reduceEqDiff → zF,reduceBEq → zG
open Int renaming reduceToNat → zH,reduceLT → zI,reduceLE → zJ,reduceEq → zK,reduceNe → zL,reduceAdd → zM,reduceSub → zN,reduceMul → zO,reduceNeg → zP
set_option maxRecDepth 20000
set_option maxHeartbeats 4000000
set_option linter.unusedSimpArgs false
set_option linter.unusedVariables false
def sumV (id count : Int) (b : List UInt8) : UInt8 := crcV (u8of (id.fdiv (2 ^ min 8 64)) :: u8of id :: u8of count :: b)
theorem crc_at {l : List UInt8} {x : UInt8} (h : crcV l = x) (hl : l.length ≤ 1000000) : PureCalls Try.prog 136 [bytesPV l] (PI x.toNat) := h ▸ crc_calls l hl
theorem sum_calls (id count : Int) (b : List UInt8) (hl : b.length ≤ 900000) : PureCalls Try.prog 106 [PI id,PI count,bytesPV b] (.lit (.int .u8 (sumV id count b).toNat)) := by
  refine PureCalls.of tabOK mixed Try.func106 rfl rfl (by decide +kernel) (by simp [Try.ntmps106]) ?_
  obtain ⟨x,hx⟩ : ∃ x,sumV id count b = x := ⟨_,rfl⟩
  have c1 := crc_at hx (by simp only [List.length_cons]; omega)
  have e1 := u8of_eq (id.fdiv (2 ^ min 8 64))
  have e2 := u8of_eq id
  have e3 := u8of_eq count
  have r3 : ∀ x y z : UInt8,([[.lit (.int .u8 x.toNat)],[.lit (.int .u8 y.toNat)],[.lit (.int .u8 z.toNat)]] : List (List PV)) ++ rowsB b = rowsB (x :: y :: z :: b) := fun _ _ _ => rfl
  have w8 : IntKind.wrap .u8 (x.toNat : Int) = (x.toNat : Int) := by rw [IntKind.wrap_u8]; have := x.toNat_lt; omega
  simp only [go_sem,zA,zB,zC,zD,zE,zF,zG,zH,zI,zJ,zK,zL,zM,zN,zO,zP,↓reduceIte,reduceCtorEq,Try.ntmps106,Try.results106,e1,e2,e3,rowsB_length,r3]
  refine ⟨⟨by omega,by omega⟩,?_⟩
  (refine CallA.pure (c1) (by simp only [go_sem,zA,zB,zC,zD,zE,zF,zG,zH,zI,zJ,zK,zL,zM,zN,zO,zP,↓reduceIte,reduceCtorEq,hx,w8,Try.ntmps106,Try.results106] <;> first | rfl | decide) ?_; simp only [go_sem,zA,zB,zC,zD,zE,zF,zG,zH,zI,zJ,zK,zL,zM,zN,zO,zP,↓reduceIte,reduceCtorEq,hx,w8,Try.ntmps106,Try.results106])
def wrapV (id count : Int) (b : List UInt8) : List UInt8 × Bool :=
  if id.fdiv (2 ^ min 16 64) ≠ 0 ∨ count < 0 ∨ count ≥ 15 ∨ b.length > 6 then ([],false) else (sumV id count b :: u8of count :: b,true)
theorem wrap_calls (id count : Int) (b : List UInt8) (hl : b.length ≤ 900000) : PureCalls Try.prog 62 [PI id,PI count,bytesPV b] (.tup [bytesPV (wrapV id count b).1,PB (wrapV id count b).2]) := by
  refine PureCalls.of tabOK mixed Try.func62 rfl rfl (by decide +kernel) (by simp [Try.ntmps62]) ?_
  have c1 := sum_calls id count b hl
  simp only [go_sem,zA,zB,zC,zD,zE,zF,zG,zH,zI,zJ,zK,zL,zM,zN,zO,zP,↓reduceIte,reduceCtorEq,Try.ntmps62,Try.results62]
  by_cases h1 : id.fdiv (2 ^ min 16 64) = 0
  · have g1 : decide (id.fdiv (2 ^ min 16 64) = 0) = true := decide_eq_true h1
    by_cases h2 : count < 0
    · have g2 : decide (count < 0) = true := decide_eq_true h2
      have e : wrapV id count b = ([],false) := by rw [wrapV,if_pos (.inr (.inl h2))]
      simp only [go_sem,zA,zB,zC,zD,zE,zF,zG,zH,zI,zJ,zK,zL,zM,zN,zO,zP,↓reduceIte,reduceCtorEq,g1,g2,e,Bool.not_true,rowsB_nil,Try.ntmps62,Try.results62]
    have g2 : decide (count < 0) = false := decide_eq_false h2
    by_cases h3 : count ≥ 15
    · have g3 : decide (count ≥ 15) = true := decide_eq_true h3
      have e : wrapV id count b = ([],false) := by rw [wrapV,if_pos (.inr (.inr (.inl h3)))]
      simp only [go_sem,zA,zB,zC,zD,zE,zF,zG,zH,zI,zJ,zK,zL,zM,zN,zO,zP,↓reduceIte,reduceCtorEq,g1,g2,g3,e,Bool.not_true,rowsB_nil,Try.ntmps62,Try.results62]
    have g3 : decide (count ≥ 15) = false := decide_eq_false h3
    by_cases h4 : b.length > 6
    · have g4 : decide ((b.length : Int) > 6) = true := decide_eq_true (by omega)
      have e : wrapV id count b = ([],false) := by rw [wrapV,if_pos (.inr (.inr (.inr h4)))]
      simp only [go_sem,zA,zB,zC,zD,zE,zF,zG,zH,zI,zJ,zK,zL,zM,zN,zO,zP,↓reduceIte,reduceCtorEq,g1,g2,g3,g4,e,Bool.not_true,rowsB_nil,rowsB_length,Try.ntmps62,Try.results62]
    have g4 : decide ((b.length : Int) > 6) = false := decide_eq_false (by omega)
    have e : wrapV id count b = (sumV id count b :: u8of count :: b,true) := by rw [wrapV,if_neg]; simp only [h1]; omega
    have e3 := u8of_eq count
    rw [e]
    generalize sumV id count b = x at c1
    have r2 : ∀ x y : UInt8,([[.lit (.int .u8 x.toNat)],[.lit (.int .u8 y.toNat)]] : List (List PV)) ++ rowsB b = rowsB (x :: y :: b) := fun _ _ => rfl
    simp only [go_sem,zA,zB,zC,zD,zE,zF,zG,zH,zI,zJ,zK,zL,zM,zN,zO,zP,↓reduceIte,reduceCtorEq,g1,g2,g3,g4,Bool.not_true,rowsB_length]
    (refine CallA.pure (c1) (by simp only [go_sem,zA,zB,zC,zD,zE,zF,zG,zH,zI,zJ,zK,zL,zM,zN,zO,zP,↓reduceIte,reduceCtorEq,rowsB_length,e3,r2,Try.ntmps62,Try.results62] <;> first | rfl | decide) ?_; simp only [go_sem,zA,zB,zC,zD,zE,zF,zG,zH,zI,zJ,zK,zL,zM,zN,zO,zP,↓reduceIte,reduceCtorEq,rowsB_length,e3,r2,Try.ntmps62,Try.results62])
    exact ⟨by omega,by omega⟩
  · have g1 : decide (id.fdiv (2 ^ min 16 64) = 0) = false := decide_eq_false h1
    have e : wrapV id count b = ([],false) := by rw [wrapV,if_pos (.inl h1)]
    simp only [go_sem,zA,zB,zC,zD,zE,zF,zG,zH,zI,zJ,zK,zL,zM,zN,zO,zP,↓reduceIte,reduceCtorEq,g1,e,Bool.not_false,rowsB_nil,Try.ntmps62,Try.results62]
end Go.Proofs.Ytcdmhigmgpflbaa.Pe

