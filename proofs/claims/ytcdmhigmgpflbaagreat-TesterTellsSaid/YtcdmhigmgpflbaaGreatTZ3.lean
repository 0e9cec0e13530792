import Derived.Test.YtcdmhigmgpflbaaGreatTS3
import Derived.Test.YtcdmhigmgpflbaaGreatDL2
set_option maxRecDepth 20000
set_option maxHeartbeats 4000000
set_option linter.unusedSimpArgs false
set_option linter.unusedVariables false
open Nat renaming reduceAdd → zA,reduceSub → zB,reduceMul → zC,reduceLT → zD,reduceLeDiff → zE,reduceEqDiff → zF,reduceBEq → zG
open Int renaming reduceToNat → zH,reduceLT → zI,reduceLE → zJ,reduceEq → zK,reduceNe → zL,reduceAdd → zM,reduceSub → zN,reduceMul → zO,reduceNeg → zP,natCast_zero → yCb
open List renaming length_cons → yBa,length_nil → yBb,map_cons → yBi,map_nil → yBj
namespace Go.Proofs.YtcdmhigmgpflbaaGreat.Pe
open Go.Pe Go.RowKit
def restN (n : Int) (i : Nat) : Int := n.fdiv (2 ^ min (8 * i) 64)
theorem restN_zero (n : Int) : restN n 0 = n := by show n.fdiv 1 = n; rw [Int.fdiv_one]
theorem restN_succ (n : Int) {i : Nat} (h : i < 7) : restN n (i + 1) = restN n i / 256 := by
  unfold restN
  rw [Nat.min_eq_left (by omega),Nat.min_eq_left (by omega),Int.fdiv_eq_ediv_of_nonneg _ (Int.pow_nonneg (by decide)),Int.fdiv_eq_ediv_of_nonneg _ (Int.pow_nonneg (by decide)),
    show 8 * (i + 1) = 8 * i + 8 by omega,Int.pow_add,Int.ediv_ediv_of_nonneg (Int.pow_nonneg (by decide))]
  rfl
theorem restN_fits {n : Int} (h : -9223372036854775808 ≤ n ∧ n ≤ 9223372036854775807) (i : Nat) (hi : i ≤ 7) : -9223372036854775808 ≤ restN n i ∧ restN n i ≤ 9223372036854775807 := by
  induction i with
  | zero => rw [restN_zero]; exact h
  | succ i ih =>
    have := ih (by omega)
    rw [restN_succ n (by omega)]
    omega
theorem bytesN_succ (n : Int) (i : Nat) : u8of (restN n i) :: bytesN n i = bytesN n (i + 1) := rfl
def nrS (n : Int) (k : Int) (i : Nat) (v : PV) (hp : List (Nat × Blk)) (nx : Nat) : St := ⟨29,[(0,PI (restN n i)),(1,PI k),(5,v),(6,PI i)],hp,nx,0⟩
def nrB (n : Int) (i b v : Nat) : List (Nat × Blk) := [(b,.arr 5 1 (rowsB (bytesN n i)) v false)]
def nrI (n k : Int) (K : Nat) (m : Nat) (st : St) : Prop := (m = K ∧ st = nrS n k 0 (.lit (.slice none 0 0)) [] 10) ∨ (m + 1 = K ∧ st = nrS n k 1 (.own 10 1) (nrB n 1 10 1) 20) ∨ (m + 2 = K ∧ st = nrS n k 2 (.own 20 1) (nrB n 2 20 1) 30) ∨ (m + 3 = K ∧ st = nrS n k 3 (.own 30 1) (nrB n 3 30 1) 40) ∨ (m + 4 = K ∧ st = nrS n k 4 (.own 40 1) (nrB n 4 40 1) 50)
theorem tmod_neg {x : Int} (h : x.tmod 256 < 0) : x.tmod 256 + 256 = x % 256 := by
  have := Int.tmod_add_mul_tdiv x 256
  have := Int.emod_add_mul_ediv x 256
  have : -256 < x.tmod 256 := by
    have := Int.lt_tmod_of_pos x (show (0 : Int) < 256 by decide)
    omega
  omega
theorem tmod_pos {x : Int} (h : ¬ x.tmod 256 < 0) : x.tmod 256 = x % 256 := by
  have := Int.tmod_add_mul_tdiv x 256
  have := Int.emod_add_mul_ediv x 256
  have := Int.tmod_lt_of_pos x (show (0 : Int) < 256 by decide)
  omega
theorem low_div {x : Int} : (x - x % 256).tdiv 256 = x / 256 := by
  have e : x - x % 256 = 256 * (x / 256) := by omega
  rw [e,Int.mul_tdiv_cancel_left _ (by decide)]
theorem low_byte (x : Int) : IntKind.wrap .u8 (x % 256) = ((u8of x).toNat : Int) := by
  rw [← u8of_eq,IntKind.wrap_u8,IntKind.wrap_u8]
  omega
theorem znumR_calls (n : Int) (K : Nat) (hK : 1 ≤ K ∧ K ≤ 4) (h : -9223372036854775808 ≤ n ∧ n ≤ 9223372036854775807) : PureCalls Tryz.prog 37 [PI n,PI K] (bytesPV (bytesN n K)) := by
  refine PureCalls.of tabOK mixed Tryz.func37 rfl rfl (by decide +kernel) (by simp [Tryz.ntmps37]) ?_
  simp only [go_sem,zA,zB,zC,zD,zE,zF,zG,zH,zI,zJ,zK,zL,zM,zN,zO,zP,↓reduceIte,reduceCtorEq,Tryz.ntmps37,Tryz.results37]
  have r0 := restN_zero n
  refine wpA_loop (nrI n K K) ⟨K,_,?_,.inl ⟨rfl,rfl⟩⟩ ?_
  · simp only [go_sem,zA,zB,zC,zD,zE,zF,zG,zH,zI,zJ,zK,zL,zM,zN,zO,zP,↓reduceIte,reduceCtorEq,nrS,r0,refsIn,refsInL,Blk.refsIn]
    done
  rintro m st (⟨hm,rfl⟩ | ⟨hm,rfl⟩ | ⟨hm,rfl⟩ | ⟨hm,rfl⟩ | ⟨hm,rfl⟩)
  · have hc : 0 < K := by omega
    have hf := restN_fits h 0 (by decide)
    have hs := restN_succ n (i := 0) (by decide)
    have hb := bytesN_succ n 0
    have bl := bytesN_len n 0
    obtain ⟨x,hx⟩ : ∃ x,restN n 0 = x := ⟨_,rfl⟩
    rw [hx] at hf hs hb
    have wd : IntKind.wrap .i64 (x - x % 256) = x - x % 256 := by rw [wrapI64_eq]; omega
    have wq : IntKind.wrap .i64 (x / 256) = x / 256 := by rw [wrapI64_eq]; omega
    have wi : IntKind.wrap .i64 1 = 1 := rfl
    have wu := low_byte x
    have rb : [[PV.lit (.int .u8 (u8of x).toNat)]] ++ rowsB (bytesN n 0) = rowsB (bytesN n 1) := by rw [← hb]; rfl
    have f1 : decide ((0 : Int) < (K : Int)) = true := decide_eq_true (by omega)
    by_cases hn : x.tmod 256 < 0
    · have g : decide (x.tmod 256 < 0) = true := decide_eq_true hn
      have wl : IntKind.wrap .i64 (x.tmod 256 + 256) = x % 256 := by rw [tmod_neg hn,wrapI64_eq]; omega
      simp only [go_sem,zA,zB,zC,zD,zE,zF,zG,zH,zI,zJ,zK,zL,zM,zN,zO,zP,↓reduceIte,reduceCtorEq,nrS,nrB,f1,hx,g,wl,wd,wq,low_div,wu,rowsB_length,bl]
      refine ⟨m - 1,_,?_,?_,.inr (.inl ⟨by omega,rfl⟩)⟩
      · omega
      simp only [go_sem,zA,zB,zC,zD,zE,zF,zG,zH,zI,zJ,zK,zL,zM,zN,zO,zP,↓reduceIte,reduceCtorEq,nrS,nrB,hs,rb,wi,refsIn,refsInL,Blk.refsIn]
      rw [← hb]
      rfl
    · have g : decide (x.tmod 256 < 0) = false := decide_eq_false hn
      have tm := tmod_pos hn
      simp only [go_sem,zA,zB,zC,zD,zE,zF,zG,zH,zI,zJ,zK,zL,zM,zN,zO,zP,↓reduceIte,reduceCtorEq,nrS,nrB,f1,hx,g]
      simp only [go_sem,zA,zB,zC,zD,zE,zF,zG,zH,zI,zJ,zK,zL,zM,zN,zO,zP,↓reduceIte,reduceCtorEq,tm,wd,wq,low_div,wu,rowsB_length,bl]
      refine ⟨m - 1,_,?_,?_,.inr (.inl ⟨by omega,rfl⟩)⟩
      · omega
      simp only [go_sem,zA,zB,zC,zD,zE,zF,zG,zH,zI,zJ,zK,zL,zM,zN,zO,zP,↓reduceIte,reduceCtorEq,nrS,nrB,hs,rb,wi,refsIn,refsInL,Blk.refsIn]
      rw [← hb]
      rfl
  · by_cases hc : 1 < K
    · have hf := restN_fits h 1 (by decide)
      have hs := restN_succ n (i := 1) (by decide)
      have hb := bytesN_succ n 1
      have bl := bytesN_len n 1
      obtain ⟨x,hx⟩ : ∃ x,restN n 1 = x := ⟨_,rfl⟩
      rw [hx] at hf hs hb
      have wd : IntKind.wrap .i64 (x - x % 256) = x - x % 256 := by rw [wrapI64_eq]; omega
      have wq : IntKind.wrap .i64 (x / 256) = x / 256 := by rw [wrapI64_eq]; omega
      have wi : IntKind.wrap .i64 2 = 2 := rfl
      have wu := low_byte x
      have rb : [[PV.lit (.int .u8 (u8of x).toNat)]] ++ rowsB (bytesN n 1) = rowsB (bytesN n 2) := by rw [← hb]; rfl
      have f1 : decide ((1 : Int) < (K : Int)) = true := decide_eq_true (by omega)
      by_cases hn : x.tmod 256 < 0
      · have g : decide (x.tmod 256 < 0) = true := decide_eq_true hn
        have wl : IntKind.wrap .i64 (x.tmod 256 + 256) = x % 256 := by rw [tmod_neg hn,wrapI64_eq]; omega
        simp only [go_sem,zA,zB,zC,zD,zE,zF,zG,zH,zI,zJ,zK,zL,zM,zN,zO,zP,↓reduceIte,reduceCtorEq,nrS,nrB,f1,hx,g,wl,wd,wq,low_div,wu,rowsB_length,bl]
        refine ⟨m - 1,_,?_,?_,.inr (.inr (.inl ⟨by omega,rfl⟩))⟩
        · omega
        simp only [go_sem,zA,zB,zC,zD,zE,zF,zG,zH,zI,zJ,zK,zL,zM,zN,zO,zP,↓reduceIte,reduceCtorEq,nrS,nrB,hs,rb,wi,refsIn,refsInL,Blk.refsIn]
        rw [← hb]
        rfl
      · have g : decide (x.tmod 256 < 0) = false := decide_eq_false hn
        have tm := tmod_pos hn
        simp only [go_sem,zA,zB,zC,zD,zE,zF,zG,zH,zI,zJ,zK,zL,zM,zN,zO,zP,↓reduceIte,reduceCtorEq,nrS,nrB,f1,hx,g]
        simp only [go_sem,zA,zB,zC,zD,zE,zF,zG,zH,zI,zJ,zK,zL,zM,zN,zO,zP,↓reduceIte,reduceCtorEq,tm,wd,wq,low_div,wu,rowsB_length,bl]
        refine ⟨m - 1,_,?_,?_,.inr (.inr (.inl ⟨by omega,rfl⟩))⟩
        · omega
        simp only [go_sem,zA,zB,zC,zD,zE,zF,zG,zH,zI,zJ,zK,zL,zM,zN,zO,zP,↓reduceIte,reduceCtorEq,nrS,nrB,hs,rb,wi,refsIn,refsInL,Blk.refsIn]
        rw [← hb]
        rfl
    · have f1 : decide ((1 : Int) < (K : Int)) = false := decide_eq_false (by omega)
      have hk : K = 1 := by omega
      rw [hk]
      rw [hk] at f1
      simp only [go_sem,zA,zB,zC,zD,zE,zF,zG,zH,zI,zJ,zK,zL,zM,zN,zO,zP,↓reduceIte,reduceCtorEq,nrS,nrB,f1,Tryz.ntmps37,Tryz.results37]
      done
  · by_cases hc : 2 < K
    · have hf := restN_fits h 2 (by decide)
      have hs := restN_succ n (i := 2) (by decide)
      have hb := bytesN_succ n 2
      have bl := bytesN_len n 2
      obtain ⟨x,hx⟩ : ∃ x,restN n 2 = x := ⟨_,rfl⟩
      rw [hx] at hf hs hb
      have wd : IntKind.wrap .i64 (x - x % 256) = x - x % 256 := by rw [wrapI64_eq]; omega
      have wq : IntKind.wrap .i64 (x / 256) = x / 256 := by rw [wrapI64_eq]; omega
      have wi : IntKind.wrap .i64 3 = 3 := rfl
      have wu := low_byte x
      have rb : [[PV.lit (.int .u8 (u8of x).toNat)]] ++ rowsB (bytesN n 2) = rowsB (bytesN n 3) := by rw [← hb]; rfl
      have f1 : decide ((2 : Int) < (K : Int)) = true := decide_eq_true (by omega)
      by_cases hn : x.tmod 256 < 0
      · have g : decide (x.tmod 256 < 0) = true := decide_eq_true hn
        have wl : IntKind.wrap .i64 (x.tmod 256 + 256) = x % 256 := by rw [tmod_neg hn,wrapI64_eq]; omega
        simp only [go_sem,zA,zB,zC,zD,zE,zF,zG,zH,zI,zJ,zK,zL,zM,zN,zO,zP,↓reduceIte,reduceCtorEq,nrS,nrB,f1,hx,g,wl,wd,wq,low_div,wu,rowsB_length,bl]
        refine ⟨m - 1,_,?_,?_,.inr (.inr (.inr (.inl ⟨by omega,rfl⟩)))⟩
        · omega
        simp only [go_sem,zA,zB,zC,zD,zE,zF,zG,zH,zI,zJ,zK,zL,zM,zN,zO,zP,↓reduceIte,reduceCtorEq,nrS,nrB,hs,rb,wi,refsIn,refsInL,Blk.refsIn]
        rw [← hb]
        rfl
      · have g : decide (x.tmod 256 < 0) = false := decide_eq_false hn
        have tm := tmod_pos hn
        simp only [go_sem,zA,zB,zC,zD,zE,zF,zG,zH,zI,zJ,zK,zL,zM,zN,zO,zP,↓reduceIte,reduceCtorEq,nrS,nrB,f1,hx,g]
        simp only [go_sem,zA,zB,zC,zD,zE,zF,zG,zH,zI,zJ,zK,zL,zM,zN,zO,zP,↓reduceIte,reduceCtorEq,tm,wd,wq,low_div,wu,rowsB_length,bl]
        refine ⟨m - 1,_,?_,?_,.inr (.inr (.inr (.inl ⟨by omega,rfl⟩)))⟩
        · omega
        simp only [go_sem,zA,zB,zC,zD,zE,zF,zG,zH,zI,zJ,zK,zL,zM,zN,zO,zP,↓reduceIte,reduceCtorEq,nrS,nrB,hs,rb,wi,refsIn,refsInL,Blk.refsIn]
        rw [← hb]
        rfl
    · have f1 : decide ((2 : Int) < (K : Int)) = false := decide_eq_false (by omega)
      have hk : K = 2 := by omega
      rw [hk]
      rw [hk] at f1
      simp only [go_sem,zA,zB,zC,zD,zE,zF,zG,zH,zI,zJ,zK,zL,zM,zN,zO,zP,↓reduceIte,reduceCtorEq,nrS,nrB,f1,Tryz.ntmps37,Tryz.results37]
      done
  · by_cases hc : 3 < K
    · have hf := restN_fits h 3 (by decide)
      have hs := restN_succ n (i := 3) (by decide)
      have hb := bytesN_succ n 3
      have bl := bytesN_len n 3
      obtain ⟨x,hx⟩ : ∃ x,restN n 3 = x := ⟨_,rfl⟩
      rw [hx] at hf hs hb
      have wd : IntKind.wrap .i64 (x - x % 256) = x - x % 256 := by rw [wrapI64_eq]; omega
      have wq : IntKind.wrap .i64 (x / 256) = x / 256 := by rw [wrapI64_eq]; omega
      have wi : IntKind.wrap .i64 4 = 4 := rfl
      have wu := low_byte x
      have rb : [[PV.lit (.int .u8 (u8of x).toNat)]] ++ rowsB (bytesN n 3) = rowsB (bytesN n 4) := by rw [← hb]; rfl
      have f1 : decide ((3 : Int) < (K : Int)) = true := decide_eq_true (by omega)
      by_cases hn : x.tmod 256 < 0
      · have g : decide (x.tmod 256 < 0) = true := decide_eq_true hn
        have wl : IntKind.wrap .i64 (x.tmod 256 + 256) = x % 256 := by rw [tmod_neg hn,wrapI64_eq]; omega
        simp only [go_sem,zA,zB,zC,zD,zE,zF,zG,zH,zI,zJ,zK,zL,zM,zN,zO,zP,↓reduceIte,reduceCtorEq,nrS,nrB,f1,hx,g,wl,wd,wq,low_div,wu,rowsB_length,bl]
        refine ⟨m - 1,_,?_,?_,.inr (.inr (.inr (.inr ⟨by omega,rfl⟩)))⟩
        · omega
        simp only [go_sem,zA,zB,zC,zD,zE,zF,zG,zH,zI,zJ,zK,zL,zM,zN,zO,zP,↓reduceIte,reduceCtorEq,nrS,nrB,hs,rb,wi,refsIn,refsInL,Blk.refsIn]
        rw [← hb]
        rfl
      · have g : decide (x.tmod 256 < 0) = false := decide_eq_false hn
        have tm := tmod_pos hn
        simp only [go_sem,zA,zB,zC,zD,zE,zF,zG,zH,zI,zJ,zK,zL,zM,zN,zO,zP,↓reduceIte,reduceCtorEq,nrS,nrB,f1,hx,g]
        simp only [go_sem,zA,zB,zC,zD,zE,zF,zG,zH,zI,zJ,zK,zL,zM,zN,zO,zP,↓reduceIte,reduceCtorEq,tm,wd,wq,low_div,wu,rowsB_length,bl]
        refine ⟨m - 1,_,?_,?_,.inr (.inr (.inr (.inr ⟨by omega,rfl⟩)))⟩
        · omega
        simp only [go_sem,zA,zB,zC,zD,zE,zF,zG,zH,zI,zJ,zK,zL,zM,zN,zO,zP,↓reduceIte,reduceCtorEq,nrS,nrB,hs,rb,wi,refsIn,refsInL,Blk.refsIn]
        rw [← hb]
        rfl
    · have f1 : decide ((3 : Int) < (K : Int)) = false := decide_eq_false (by omega)
      have hk : K = 3 := by omega
      rw [hk]
      rw [hk] at f1
      simp only [go_sem,zA,zB,zC,zD,zE,zF,zG,zH,zI,zJ,zK,zL,zM,zN,zO,zP,↓reduceIte,reduceCtorEq,nrS,nrB,f1,Tryz.ntmps37,Tryz.results37]
      done
  · have f1 : decide ((4 : Int) < (K : Int)) = false := decide_eq_false (by omega)
    have hk : K = 4 := by omega
    subst hk
    simp only [go_sem,zA,zB,zC,zD,zE,zF,zG,zH,zI,zJ,zK,zL,zM,zN,zO,zP,↓reduceIte,reduceCtorEq,nrS,nrB,f1,Tryz.ntmps37,Tryz.results37]
    done
end Go.Proofs.YtcdmhigmgpflbaaGreat.Pe
namespace Go.Proofs.YtcdmhigmgpflbaaGreat.Pe
open Go.Pe Go.RowKit
theorem join_calls (a b c : List UInt8) (h : a.length + b.length + c.length ≤ 1000000) : PureCalls Tryz.prog 36 [bytesPV a,bytesPV b,bytesPV c] (bytesPV (a ++ (b ++ c))) := by
  refine PureCalls.of tabOK mixed Tryz.func36 rfl rfl (by decide +kernel) (by simp [Tryz.ntmps36]) ?_
  have e : rowsB a ++ rowsB b ++ rowsB c = rowsB (a ++ (b ++ c)) := by simp [rowsB]
  simp only [go_sem,zA,zB,zC,zD,zE,zF,zG,zH,zI,zJ,zK,zL,zM,zN,zO,zP,↓reduceIte,reduceCtorEq,Tryz.ntmps36,Tryz.results36,rowsB_length,List.length_append,e]
  exact ⟨⟨by omega,by omega⟩,⟨by omega,by omega⟩,⟨by omega,by omega⟩,by rw [List.append_assoc]⟩
theorem join_at {a b c o : List UInt8} (ho : a ++ (b ++ c) = o) (h : a.length + b.length + c.length ≤ 1000000) : PureCalls Tryz.prog 36 [bytesPV a,bytesPV b,bytesPV c] (bytesPV o) := ho ▸ join_calls a b c h
def Fits (n : Int) : Prop := -9223372036854775808 ≤ n ∧ n ≤ 9223372036854775807
theorem numR_at {n : Int} {k : Nat} {kn : Int} (hk : (k : Int) = kn) (h4 : 1 ≤ k ∧ k ≤ 4) (h : Fits n) : PureCalls Tryz.prog 37 [PI n,PI kn] (bytesPV (bytesN n k)) := by subst hk; exact znumR_calls n k h4 h
theorem zsesR_calls (n : Int) (h : Fits n) : PureCalls Tryz.prog 9 [PI n] (bytesPV (sesQ n)) := by
  refine PureCalls.of tabOK mixed Tryz.func9 rfl rfl (by decide +kernel) (by simp [Tryz.ntmps9]) ?_
  have c1 := numR_at (k := 1) (kn := 1) rfl (by decide) h
  have c2 := join_at (a := [16]) (b := bytesN n 1) (c := []) (o := sesQ n) (by simp [sesQ]) (by simp [bytesN_len])
  simp only [go_sem,zA,zB,zC,zD,zE,zF,zG,zH,zI,zJ,zK,zL,zM,zN,zO,zP,↓reduceIte,reduceCtorEq,Tryz.ntmps9,Tryz.results9]
  (refine CallA.pure (c1) (by simp only [go_sem,zA,zB,zC,zD,zE,zF,zG,zH,zI,zJ,zK,zL,zM,zN,zO,zP,↓reduceIte,reduceCtorEq] <;> first | rfl | decide) ?_; simp only [go_sem,zA,zB,zC,zD,zE,zF,zG,zH,zI,zJ,zK,zL,zM,zN,zO,zP,↓reduceIte,reduceCtorEq])
  (refine CallA.pure (c2) (by simp only [go_sem,zA,zB,zC,zD,zE,zF,zG,zH,zI,zJ,zK,zL,zM,zN,zO,zP,↓reduceIte,reduceCtorEq,rowsB,rowB,yBi,yBj] <;> first | rfl | decide) ?_; simp only [go_sem,zA,zB,zC,zD,zE,zF,zG,zH,zI,zJ,zK,zL,zM,zN,zO,zP,↓reduceIte,reduceCtorEq,Tryz.ntmps9,Tryz.results9])
  done
theorem zseedR_calls : PureCalls Tryz.prog 11 [] (bytesPV seedQ) := by
  refine PureCalls.of tabOK mixed Tryz.func11 rfl rfl (by decide +kernel) (by simp [Tryz.ntmps11]) ?_
  simp only [go_sem,zA,zB,zC,zD,zE,zF,zG,zH,zI,zJ,zK,zL,zM,zN,zO,zP,↓reduceIte,reduceCtorEq,Tryz.ntmps11,Tryz.results11]
  rfl
theorem zreadR_calls (n : Int) (h : Fits n) : PureCalls Tryz.prog 13 [PI n] (bytesPV (readQ n)) := by
  refine PureCalls.of tabOK mixed Tryz.func13 rfl rfl (by decide +kernel) (by simp [Tryz.ntmps13]) ?_
  have c1 := numR_at (k := 2) (kn := 2) rfl (by decide) h
  have c2 := join_at (a := [34]) (b := bytesN n 2) (c := []) (o := readQ n) (by simp [readQ]) (by simp [bytesN_len])
  simp only [go_sem,zA,zB,zC,zD,zE,zF,zG,zH,zI,zJ,zK,zL,zM,zN,zO,zP,↓reduceIte,reduceCtorEq,Tryz.ntmps13,Tryz.results13]
  (refine CallA.pure (c1) (by simp only [go_sem,zA,zB,zC,zD,zE,zF,zG,zH,zI,zJ,zK,zL,zM,zN,zO,zP,↓reduceIte,reduceCtorEq] <;> first | rfl | decide) ?_; simp only [go_sem,zA,zB,zC,zD,zE,zF,zG,zH,zI,zJ,zK,zL,zM,zN,zO,zP,↓reduceIte,reduceCtorEq])
  (refine CallA.pure (c2) (by simp only [go_sem,zA,zB,zC,zD,zE,zF,zG,zH,zI,zJ,zK,zL,zM,zN,zO,zP,↓reduceIte,reduceCtorEq,rowsB,rowB,yBi,yBj] <;> first | rfl | decide) ?_; simp only [go_sem,zA,zB,zC,zD,zE,zF,zG,zH,zI,zJ,zK,zL,zM,zN,zO,zP,↓reduceIte,reduceCtorEq,Tryz.ntmps13,Tryz.results13])
  done
theorem zwriteR_calls (n : Int) (b : List UInt8) (hb : b.length ≤ 900000) (h : Fits n) : PureCalls Tryz.prog 15 [PI n,bytesPV b] (bytesPV (writeQ n b)) := by
  refine PureCalls.of tabOK mixed Tryz.func15 rfl rfl (by decide +kernel) (by simp [Tryz.ntmps15]) ?_
  have c1 := numR_at (k := 2) (kn := 2) rfl (by decide) h
  have c2 := join_at (a := [46]) (b := bytesN n 2) (c := b) (o := writeQ n b) (by simp [writeQ]) (by simp [bytesN_len]; omega)
  simp only [go_sem,zA,zB,zC,zD,zE,zF,zG,zH,zI,zJ,zK,zL,zM,zN,zO,zP,↓reduceIte,reduceCtorEq,Tryz.ntmps15,Tryz.results15]
  (refine CallA.pure (c1) (by simp only [go_sem,zA,zB,zC,zD,zE,zF,zG,zH,zI,zJ,zK,zL,zM,zN,zO,zP,↓reduceIte,reduceCtorEq] <;> first | rfl | decide) ?_; simp only [go_sem,zA,zB,zC,zD,zE,zF,zG,zH,zI,zJ,zK,zL,zM,zN,zO,zP,↓reduceIte,reduceCtorEq])
  (refine CallA.pure (c2) (by simp only [go_sem,zA,zB,zC,zD,zE,zF,zG,zH,zI,zJ,zK,zL,zM,zN,zO,zP,↓reduceIte,reduceCtorEq,rowsB,rowB,yBi,yBj] <;> first | rfl | decide) ?_; simp only [go_sem,zA,zB,zC,zD,zE,zF,zG,zH,zI,zJ,zK,zL,zM,zN,zO,zP,↓reduceIte,reduceCtorEq,Tryz.ntmps15,Tryz.results15])
  done
theorem zclearR_calls : PureCalls Tryz.prog 17 [] (bytesPV clearQ) := by
  refine PureCalls.of tabOK mixed Tryz.func17 rfl rfl (by decide +kernel) (by simp [Tryz.ntmps17]) ?_
  simp only [go_sem,zA,zB,zC,zD,zE,zF,zG,zH,zI,zJ,zK,zL,zM,zN,zO,zP,↓reduceIte,reduceCtorEq,Tryz.ntmps17,Tryz.results17]
  rfl
theorem ztrblR_calls (n : Int) (h : Fits n) : PureCalls Tryz.prog 19 [PI n] (bytesPV (trblQ n)) := by
  refine PureCalls.of tabOK mixed Tryz.func19 rfl rfl (by decide +kernel) (by simp [Tryz.ntmps19]) ?_
  have c1 := numR_at (k := 1) (kn := 1) rfl (by decide) h
  have c2 := join_at (a := [25]) (b := bytesN n 1) (c := []) (o := trblQ n) (by simp [trblQ]) (by simp [bytesN_len])
  simp only [go_sem,zA,zB,zC,zD,zE,zF,zG,zH,zI,zJ,zK,zL,zM,zN,zO,zP,↓reduceIte,reduceCtorEq,Tryz.ntmps19,Tryz.results19]
  (refine CallA.pure (c1) (by simp only [go_sem,zA,zB,zC,zD,zE,zF,zG,zH,zI,zJ,zK,zL,zM,zN,zO,zP,↓reduceIte,reduceCtorEq] <;> first | rfl | decide) ?_; simp only [go_sem,zA,zB,zC,zD,zE,zF,zG,zH,zI,zJ,zK,zL,zM,zN,zO,zP,↓reduceIte,reduceCtorEq])
  (refine CallA.pure (c2) (by simp only [go_sem,zA,zB,zC,zD,zE,zF,zG,zH,zI,zJ,zK,zL,zM,zN,zO,zP,↓reduceIte,reduceCtorEq,rowsB,rowB,yBi,yBj] <;> first | rfl | decide) ?_; simp only [go_sem,zA,zB,zC,zD,zE,zF,zG,zH,zI,zJ,zK,zL,zM,zN,zO,zP,↓reduceIte,reduceCtorEq,Tryz.ntmps19,Tryz.results19])
  done
theorem zbeginR_calls (v n : Int) (hv : Fits v) (h : Fits n) : PureCalls Tryz.prog 21 [PI v,PI n] (bytesPV (beginQ v n)) := by
  refine PureCalls.of tabOK mixed Tryz.func21 rfl rfl (by decide +kernel) (by simp [Tryz.ntmps21]) ?_
  have c0 := numR_at (k := 4) (kn := 4) rfl (by decide) hv
  have c1 := numR_at (k := 4) (kn := 4) rfl (by decide) h
  have c2 := join_at (a := [52]) (b := bytesN v 4) (c := bytesN n 4) (o := beginQ v n) (by simp [beginQ]) (by simp [bytesN_len])
  simp only [go_sem,zA,zB,zC,zD,zE,zF,zG,zH,zI,zJ,zK,zL,zM,zN,zO,zP,↓reduceIte,reduceCtorEq,Tryz.ntmps21,Tryz.results21]
  (refine CallA.pure (c0) (by simp only [go_sem,zA,zB,zC,zD,zE,zF,zG,zH,zI,zJ,zK,zL,zM,zN,zO,zP,↓reduceIte,reduceCtorEq] <;> first | rfl | decide) ?_; simp only [go_sem,zA,zB,zC,zD,zE,zF,zG,zH,zI,zJ,zK,zL,zM,zN,zO,zP,↓reduceIte,reduceCtorEq])
  (refine CallA.pure (c1) (by simp only [go_sem,zA,zB,zC,zD,zE,zF,zG,zH,zI,zJ,zK,zL,zM,zN,zO,zP,↓reduceIte,reduceCtorEq] <;> first | rfl | decide) ?_; simp only [go_sem,zA,zB,zC,zD,zE,zF,zG,zH,zI,zJ,zK,zL,zM,zN,zO,zP,↓reduceIte,reduceCtorEq])
  (refine CallA.pure (c2) (by simp only [go_sem,zA,zB,zC,zD,zE,zF,zG,zH,zI,zJ,zK,zL,zM,zN,zO,zP,↓reduceIte,reduceCtorEq,rowsB,rowB,yBi,yBj] <;> first | rfl | decide) ?_; simp only [go_sem,zA,zB,zC,zD,zE,zF,zG,zH,zI,zJ,zK,zL,zM,zN,zO,zP,↓reduceIte,reduceCtorEq,Tryz.ntmps21,Tryz.results21])
  done
theorem zblockR_calls (n : Int) (b : List UInt8) (hb : b.length ≤ 900000) (h : Fits n) : PureCalls Tryz.prog 23 [PI n,bytesPV b] (bytesPV (blockQ n b)) := by
  refine PureCalls.of tabOK mixed Tryz.func23 rfl rfl (by decide +kernel) (by simp [Tryz.ntmps23]) ?_
  have c1 := numR_at (k := 2) (kn := 2) rfl (by decide) h
  have c2 := join_at (a := [54]) (b := bytesN n 2) (c := b) (o := blockQ n b) (by simp [blockQ]) (by simp [bytesN_len]; omega)
  simp only [go_sem,zA,zB,zC,zD,zE,zF,zG,zH,zI,zJ,zK,zL,zM,zN,zO,zP,↓reduceIte,reduceCtorEq,Tryz.ntmps23,Tryz.results23]
  (refine CallA.pure (c1) (by simp only [go_sem,zA,zB,zC,zD,zE,zF,zG,zH,zI,zJ,zK,zL,zM,zN,zO,zP,↓reduceIte,reduceCtorEq] <;> first | rfl | decide) ?_; simp only [go_sem,zA,zB,zC,zD,zE,zF,zG,zH,zI,zJ,zK,zL,zM,zN,zO,zP,↓reduceIte,reduceCtorEq])
  (refine CallA.pure (c2) (by simp only [go_sem,zA,zB,zC,zD,zE,zF,zG,zH,zI,zJ,zK,zL,zM,zN,zO,zP,↓reduceIte,reduceCtorEq,rowsB,rowB,yBi,yBj] <;> first | rfl | decide) ?_; simp only [go_sem,zA,zB,zC,zD,zE,zF,zG,zH,zI,zJ,zK,zL,zM,zN,zO,zP,↓reduceIte,reduceCtorEq,Tryz.ntmps23,Tryz.results23])
  done
theorem zendR_calls : PureCalls Tryz.prog 25 [] (bytesPV endQ) := by
  refine PureCalls.of tabOK mixed Tryz.func25 rfl rfl (by decide +kernel) (by simp [Tryz.ntmps25]) ?_
  simp only [go_sem,zA,zB,zC,zD,zE,zF,zG,zH,zI,zJ,zK,zL,zM,zN,zO,zP,↓reduceIte,reduceCtorEq,Tryz.ntmps25,Tryz.results25]
  rfl
end Go.Proofs.YtcdmhigmgpflbaaGreat.Pe
namespace Go.Proofs.YtcdmhigmgpflbaaGreat.Pe
open Go.Pe Go.RowKit
theorem zposR_calls (q a : List UInt8) : PureCalls Tryz.prog 27 [bytesPV q,bytesPV a] (PB (posV q a)) := by
  refine PureCalls.of tabOK mixed Tryz.func27 rfl rfl (by decide +kernel) (by simp [Tryz.ntmps27]) ?_
  have z : decide ((0 : Int) > 0) = false := rfl
  cases q with
  | nil =>
    simp only [go_sem,zA,zB,zC,zD,zE,zF,zG,zH,zI,zJ,zK,zL,zM,zN,zO,zP,↓reduceIte,reduceCtorEq,Tryz.ntmps27,Tryz.results27,rowsB_nil,yBb,yCb,z]
    refine endD_intro (by decide +kernel) ?_
    simp only [go_sem,zA,zB,zC,zD,zE,zF,zG,zH,zI,zJ,zK,zL,zM,zN,zO,zP,↓reduceIte,reduceCtorEq,posV,Tryz.ntmps27,Tryz.results27]
  | cons c q =>
    have hz : decide (((q.length + 1 : Nat) : Int) > 0) = true := decide_eq_true (by omega)
    cases a with
    | nil =>
      simp only [go_sem,zA,zB,zC,zD,zE,zF,zG,zH,zI,zJ,zK,zL,zM,zN,zO,zP,↓reduceIte,reduceCtorEq,Tryz.ntmps27,Tryz.results27,rowsB_nil,rowsB_length,yBa,yBb,yCb,z,hz]
      refine endD_intro (by decide +kernel) ?_
      simp only [go_sem,zA,zB,zC,zD,zE,zF,zG,zH,zI,zJ,zK,zL,zM,zN,zO,zP,↓reduceIte,reduceCtorEq,posV,Tryz.ntmps27,Tryz.results27]
    | cons d a =>
      have gc : (rowsB (c :: q)).getD 0 [] = [.lit (.int .u8 c.toNat)] := rfl
      have gd : (rowsB (d :: a)).getD 0 [] = [.lit (.int .u8 d.toNat)] := rfl
      have hz2 : decide (((a.length + 1 : Nat) : Int) > 0) = true := decide_eq_true (by omega)
      have h1 : (0 : Int) < ((q.length + 1 : Nat) : Int) := by omega
      have h2 : (0 : Int) < ((a.length + 1 : Nat) : Int) := by omega
      have wc := wrU' c
      have wd := wrU' d
      have hc := c.toNat_lt
      have w64 : IntKind.wrap .i64 ((c.toNat : Int) + 64) = (c.toNat : Int) + 64 := by rw [wrapI64_eq]; omega
      have tm : ((c.toNat : Int) + 64).tmod 256 = ((c + 64).toNat : Int) := by
        rw [Int.tmod_eq_emod_of_nonneg (by omega),UInt8.toNat_add]
        simp only [UInt8.reduceToNat]
        omega
      have he : decide ((d.toNat : Int) = ((c + 64).toNat : Int)) = posV (c :: q) (d :: a) := by
        show _ = decide (d = c + 64)
        by_cases e : d = c + 64
        · rw [e]; simp
        · rw [decide_eq_false e]; exact decide_eq_false fun e' => e (UInt8.toNat_inj.1 (by omega))
      simp only [go_sem,zA,zB,zC,zD,zE,zF,zG,zH,zI,zJ,zK,zL,zM,zN,zO,zP,↓reduceIte,reduceCtorEq,Tryz.ntmps27,Tryz.results27,rowsB_length,yBa,hz,hz2,gc,gd,h1,h2,wc,wd,w64,tm,he]
      refine endD_intro (by decide +kernel) ?_
      simp only [go_sem,zA,zB,zC,zD,zE,zF,zG,zH,zI,zJ,zK,zL,zM,zN,zO,zP,↓reduceIte,reduceCtorEq,Tryz.ntmps27,Tryz.results27]
theorem keyR22_at {seed secret k : Int} (h : keyV seed secret = k) : PureCalls Tryz.prog 38 [PI seed,PI secret] (PI k) := h ▸ keyR22_calls seed secret
def kzSt (secret : Int) (p o : UInt8) (l : List UInt8) (i : Nat) : St := ⟨41,[(0,bytesPV (p :: o :: l)),(1,PI secret),(6,PI (numB (l.take i))),(7,PI ((i + 2 : Nat) : Int))],[],20,0⟩
def kzI (secret : Int) (p o : UInt8) (l : List UInt8) (m : Nat) (st : St) : Prop := ∃ i : Nat,i ≤ 4 ∧ m = 4 - i ∧ st = kzSt secret p o l i
theorem zkeyForR_calls (a : List UInt8) (secret : Int) : PureCalls Tryz.prog 6 [bytesPV a,PI secret] (.tup [bytesPV (keyForV secret a).1,PB (keyForV secret a).2]) := by
  refine PureCalls.of tabOK mixed Tryz.func6 rfl rfl (by decide +kernel) (by simp [Tryz.ntmps6]) ?_
  by_cases h6 : a.length = 6
  rotate_left 1
  · rw [keyForV_len h6]
    have g : decide ((a.length : Int) = 6) = false := decide_eq_false (by omega)
    simp only [go_sem,zA,zB,zC,zD,zE,zF,zG,zH,zI,zJ,zK,zL,zM,zN,zO,zP,↓reduceIte,reduceCtorEq,Tryz.ntmps6,Tryz.results6,rowsB_length,rowsB_nil,g,Bool.not_false]
    done
  obtain ⟨p,o,x,y,z,w,rfl⟩ := list6' h6
  have gl : (rowsB [p,o,x,y,z,w]).length = 6 := rfl
  have g0 : (rowsB [p,o,x,y,z,w]).getD 0 [] = [.lit (.int .u8 p.toNat)] := rfl
  have g1 : (rowsB [p,o,x,y,z,w]).getD 1 [] = [.lit (.int .u8 o.toNat)] := rfl
  have i0 : (0 : Int) < 6 := by decide
  have i1 : (1 : Int) < 6 := by decide
  have z6 : decide ((6 : Int) = 6) = true := rfl
  by_cases hp : p = 0x67
  rotate_left 1
  · have g : decide ((p.toNat : Int) = 103) = false := decide_eq_false fun e => hp (UInt8.toNat_inj.1 (by simp only [UInt8.reduceToNat]; omega))
    have e : keyForV secret [p,o,x,y,z,w] = ([],false) := by
      show (if p = 0x67 ∧ o = 1 then (keyQ (keyV (numB [x,y,z,w]) secret),true) else ([],false)) = _
      rw [if_neg (fun h => hp h.1)]
    rw [e]
    simp only [go_sem,zA,zB,zC,zD,zE,zF,zG,zH,zI,zJ,zK,zL,zM,zN,zO,zP,↓reduceIte,reduceCtorEq,Tryz.ntmps6,Tryz.results6,rowsB_length,rowsB_nil,yBa,yBb,gl,g0,g1,i0,i1,z6,g,Bool.not_true,Bool.not_false]
    done
  have gp : decide ((p.toNat : Int) = 103) = true := decide_eq_true (by rw [hp]; rfl)
  by_cases ho : o = 1
  rotate_left 1
  · have g : decide ((o.toNat : Int) = 1) = false := decide_eq_false fun e => ho (UInt8.toNat_inj.1 (by simp only [UInt8.reduceToNat]; omega))
    have e : keyForV secret [p,o,x,y,z,w] = ([],false) := by
      show (if p = 0x67 ∧ o = 1 then (keyQ (keyV (numB [x,y,z,w]) secret),true) else ([],false)) = _
      rw [if_neg (fun h => ho h.2)]
    rw [e]
    simp only [go_sem,zA,zB,zC,zD,zE,zF,zG,zH,zI,zJ,zK,zL,zM,zN,zO,zP,↓reduceIte,reduceCtorEq,Tryz.ntmps6,Tryz.results6,rowsB_length,rowsB_nil,yBa,yBb,gl,g0,g1,i0,i1,z6,gp,g,Bool.not_true,Bool.not_false]
    done
  have go : decide ((o.toNat : Int) = 1) = true := decide_eq_true (by rw [ho]; rfl)
  have e : keyForV secret [p,o,x,y,z,w] = (keyQ (keyV (numB [x,y,z,w]) secret),true) := by
    show (if p = 0x67 ∧ o = 1 then (keyQ (keyV (numB [x,y,z,w]) secret),true) else ([],false)) = _
    rw [if_pos ⟨hp,ho⟩]
  rw [e]
  simp only [go_sem,zA,zB,zC,zD,zE,zF,zG,zH,zI,zJ,zK,zL,zM,zN,zO,zP,↓reduceIte,reduceCtorEq,Tryz.ntmps6,Tryz.results6,rowsB_length,yBa,yBb,gl,g0,g1,i0,i1,z6,gp,go,Bool.not_true]
  obtain ⟨l,hl⟩ : ∃ l,l = [x,y,z,w] := ⟨_,rfl⟩
  have hll : l.length = 4 := by rw [hl]; rfl
  rw [← hl]
  clear gl g0 g1 e h6
  refine wpA_loop (kzI secret p o l) ⟨_,_,?_,0,by omega,rfl,rfl⟩ ?_
  · have n0 : numB [] = 0 := rfl
    simp only [go_sem,zA,zB,zC,zD,zE,zF,zG,zH,zI,zJ,zK,zL,zM,zN,zO,zP,↓reduceIte,reduceCtorEq,kzSt,List.take_zero,yCb,n0]
    done
  rintro m st ⟨i,hi,rfl,rfl⟩
  by_cases hc : i < 4
  · have f1 : decide (((i + 2 : Nat) : Int) < 6) = true := decide_eq_true (by omega)
    have hw : IntKind.wrap .i64 (((i + 2 : Nat) : Int) + 1) = ((i + 1 + 2 : Nat) : Int) := by rw [wrapI64_eq]; omega
    have hln : (rowsB (p :: o :: l)).length = 6 := by rw [rowsB_length]; simp [hll]
    obtain ⟨f3,f4⟩ : (0 : Int) ≤ ((i + 2 : Nat) : Int) ∧ ((i + 2 : Nat) : Int) < (6 : Int) := by omega
    have hil : i < l.length := by omega
    have hrow : (rowsB (p :: o :: l)).getD (i + 2) [] = [.lit (.int .u8 l[i].toNat)] := by simp [rowsB,List.getD_eq_getElem?_getD,hil,rowB]
    have hs : numB (l.take (i + 1)) = numB (l.take i) * 256 + l[i].toNat := by rw [List.take_succ_eq_append_getElem hil,numB_snoc]
    generalize l[i] = c at hrow hs
    have hlt := numB_lt i (l.take i) (by simp; omega)
    have hlt2 : numB (l.take i) < 16777216 := by
      have : (256 : Nat) ^ i ≤ 256 ^ 3 := Nat.pow_le_pow_right (by decide) (by omega)
      omega
    have wc := wrU' c
    have hcl := c.toNat_lt
    have w1 : IntKind.wrap .i64 ((numB (l.take i) : Int) * 256) = (numB (l.take i) : Int) * 256 := by rw [wrapI64_eq]; omega
    have w2 : IntKind.wrap .i64 ((numB (l.take i) : Int) * 256 + (c.toNat : Int)) = (numB (l.take (i + 1)) : Int) := by rw [hs,wrapI64_eq]; omega
    simp only [go_sem,zA,zB,zC,zD,zE,zF,zG,zH,zI,zJ,zK,zL,zM,zN,zO,zP,↓reduceIte,reduceCtorEq,kzSt,f1,f3,f4,hw,hll,hln,hrow,Int.toNat_natCast,wc,w1,w2,List.headD_cons,yBa,yBb,Nat.le_add_left]
    refine ⟨4 - (i + 1),_,by omega,?_,i + 1,by omega,rfl,rfl⟩
    simp only [go_sem,zA,zB,zC,zD,zE,zF,zG,zH,zI,zJ,zK,zL,zM,zN,zO,zP,↓reduceIte,reduceCtorEq,kzSt,hw]
    done
  · have f1 : decide (((i + 2 : Nat) : Int) < 6) = false := decide_eq_false (by omega)
    have hi4 : l.take i = l := by rw [List.take_of_length_le (by omega)]
    obtain ⟨k,hk⟩ : ∃ k,keyV (numB l) secret = k := ⟨_,rfl⟩
    have kf := keyV_wide (numB l) secret
    rw [hk] at kf
    have c1 := keyR22_at hk
    have c2 := numR_at (n := k) (k := 4) (kn := 4) rfl (by decide) ⟨by omega,by omega⟩
    have c3 := join_at (a := [39,2]) (b := bytesN k 4) (c := []) (o := keyQ k) (by rw [bytesN4]; simp [keyQ]) (by simp [bytesN_len])
    simp only [go_sem,zA,zB,zC,zD,zE,zF,zG,zH,zI,zJ,zK,zL,zM,zN,zO,zP,↓reduceIte,reduceCtorEq,kzSt,f1,hi4,hk]
    (refine CallA.pure (c1) (by simp only [go_sem,zA,zB,zC,zD,zE,zF,zG,zH,zI,zJ,zK,zL,zM,zN,zO,zP,↓reduceIte,reduceCtorEq] <;> first | rfl | decide) ?_; simp only [go_sem,zA,zB,zC,zD,zE,zF,zG,zH,zI,zJ,zK,zL,zM,zN,zO,zP,↓reduceIte,reduceCtorEq])
    (refine CallA.pure (c2) (by simp only [go_sem,zA,zB,zC,zD,zE,zF,zG,zH,zI,zJ,zK,zL,zM,zN,zO,zP,↓reduceIte,reduceCtorEq] <;> first | rfl | decide) ?_; simp only [go_sem,zA,zB,zC,zD,zE,zF,zG,zH,zI,zJ,zK,zL,zM,zN,zO,zP,↓reduceIte,reduceCtorEq])
    (refine CallA.pure (c3) (by simp only [go_sem,zA,zB,zC,zD,zE,zF,zG,zH,zI,zJ,zK,zL,zM,zN,zO,zP,↓reduceIte,reduceCtorEq,yBi,yBj,rowsB,rowB] <;> first | rfl | decide) ?_; simp only [go_sem,zA,zB,zC,zD,zE,zF,zG,zH,zI,zJ,zK,zL,zM,zN,zO,zP,↓reduceIte,reduceCtorEq,Tryz.ntmps6,Tryz.results6])
    done
end Go.Proofs.YtcdmhigmgpflbaaGreat.Pe
