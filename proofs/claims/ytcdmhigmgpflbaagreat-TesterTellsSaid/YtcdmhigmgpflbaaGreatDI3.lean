import Derived.Test.YtcdmhigmgpflbaaGreatDT7
set_option maxRecDepth 20000
set_option maxHeartbeats 4000000
set_option linter.unusedSimpArgs false
set_option linter.unusedVariables false
open Nat renaming reduceAdd → zA,reduceSub → zB,reduceMul → zC,reduceLT → zD,reduceLeDiff → zE,reduceEqDiff → zF,reduceBEq → zG
open Int renaming reduceToNat → zH,reduceLT → zI,reduceLE → zJ,reduceEq → zK,reduceNe → zL,reduceAdd → zM,reduceSub → zN,reduceMul → zO,reduceNeg → zP,natCast_zero → yCb,tmod_eq_emod_of_nonneg → yCc
namespace Go.Proofs.YtcdmhigmgpflbaaGreat.Pe
open Go.Pe Go.RowKit
structure Itm where
  id : Int
  wr : Bool
  data : List UInt8
  deriving DecidableEq
def Itm.cells (x : Itm) : List PV := [PI x.id,PB x.wr,bytesPV x.data]
abbrev itmRows (l : List Itm) : List (List PV) := l.map Itm.cells
abbrev itmsPV (l : List Itm) : PV := .im 3 (itmRows l)
structure Srv where
  ses : Int
  op : Bool
  seed : Int
  wrong : Int
  quiet : Int
  draw : Int
  sec : Int
  items : List Itm
  dtc : List Trb
  deriving DecidableEq
def Srv.cells (s : Srv) : List PV := [PI s.ses,PB s.op,PI s.seed,PI s.wrong,PI s.quiet,PI s.draw,PI s.sec,itmsPV s.items,trbsPV s.dtc]
def Srv.pv (s : Srv) : PV := .agg s.cells
abbrev lowV (n : Int) : Int := bitsA .and .i64 n 4294967295
theorem low_calls (n : Int) : PureCalls Tryz.prog 50 [PI n] (PI (lowV n)) := by
  refine PureCalls.of tabOK mixed Tryz.func50 rfl rfl (by decide +kernel) (by simp [Tryz.ntmps50]) ?_
  simp only [go_sem,zA,zB,zC,zD,zE,zF,zG,zH,zI,zJ,zK,zL,zM,zN,zO,zP,↓reduceIte,reduceCtorEq,Tryz.ntmps50,Tryz.results50]
def newSrv (secret draw : Int) (l : List Itm) : Srv := ⟨1,false,-1,0,0,lowV draw,lowV secret,l,[]⟩
theorem newD_calls (secret draw : Int) (l : List Itm) : PureCalls Tryz.prog 48 [PI secret,PI draw,itmsPV l] (newSrv secret draw l).pv := by
  refine PureCalls.of tabOK mixed Tryz.func48 rfl rfl (by decide +kernel) (by simp [Tryz.ntmps48]) ?_
  simp only [go_sem,zA,zB,zC,zD,zE,zF,zG,zH,zI,zJ,zK,zL,zM,zN,zO,zP,↓reduceIte,reduceCtorEq,Tryz.ntmps48,Tryz.results48,newSrv,Srv.pv,Srv.cells]
theorem wide_calls (n : Int) : PureCalls Tryz.prog 51 [PI n] (PB (decide (0 ≤ n) && decide (n ≤ 4294967295))) := by
  refine PureCalls.of tabOK mixed Tryz.func51 rfl rfl (by decide +kernel) (by simp [Tryz.ntmps51]) ?_
  simp only [go_sem,zA,zB,zC,zD,zE,zF,zG,zH,zI,zJ,zK,zL,zM,zN,zO,zP,↓reduceIte,reduceCtorEq,Tryz.ntmps51,Tryz.results51]
  repeat' (first | (refine wantK_splitN (fun h => ?_) (fun h => ?_) <;> simp only [go_sem,zA,zB,zC,zD,zE,zF,zG,zH,zI,zJ,zK,zL,zM,zN,zO,zP,↓reduceIte,reduceCtorEq,Tryz.ntmps51,Tryz.results51,h]) | (refine wantK_split (fun h => ?_) (fun h => ?_) <;> simp only [go_sem,zA,zB,zC,zD,zE,zF,zG,zH,zI,zJ,zK,zL,zM,zN,zO,zP,↓reduceIte,reduceCtorEq,Tryz.ntmps51,Tryz.results51,h]) | (refine condK_splitN (fun h => ?_) (fun h => ?_) <;> simp only [go_sem,zA,zB,zC,zD,zE,zF,zG,zH,zI,zJ,zK,zL,zM,zN,zO,zP,↓reduceIte,reduceCtorEq,Tryz.ntmps51,Tryz.results51,h]) | (refine condK_split (fun h => ?_) (fun h => ?_) <;> simp only [go_sem,zA,zB,zC,zD,zE,zF,zG,zH,zI,zJ,zK,zL,zM,zN,zO,zP,↓reduceIte,reduceCtorEq,Tryz.ntmps51,Tryz.results51,h]) | (refine drawK_splitN (fun h => ?_) (fun h => ?_) <;> simp only [go_sem,zA,zB,zC,zD,zE,zF,zG,zH,zI,zJ,zK,zL,zM,zN,zO,zP,↓reduceIte,reduceCtorEq,Tryz.ntmps51,Tryz.results51,h]) | (refine drawK_split (fun h => ?_) (fun h => ?_) <;> simp only [go_sem,zA,zB,zC,zD,zE,zF,zG,zH,zI,zJ,zK,zL,zM,zN,zO,zP,↓reduceIte,reduceCtorEq,Tryz.ntmps51,Tryz.results51,h]))
  all_goals simp_all
theorem within_calls (n lo hi : Int) : PureCalls Tryz.prog 129 [PI n,PI lo,PI hi] (PB (decide (lo ≤ n) && decide (n ≤ hi))) := by
  refine PureCalls.of tabOK mixed Tryz.func129 rfl rfl (by decide +kernel) (by simp [Tryz.ntmps129]) ?_
  simp only [go_sem,zA,zB,zC,zD,zE,zF,zG,zH,zI,zJ,zK,zL,zM,zN,zO,zP,↓reduceIte,reduceCtorEq,Tryz.ntmps129,Tryz.results129]
  repeat' (first | (refine wantK_splitN (fun h => ?_) (fun h => ?_) <;> simp only [go_sem,zA,zB,zC,zD,zE,zF,zG,zH,zI,zJ,zK,zL,zM,zN,zO,zP,↓reduceIte,reduceCtorEq,Tryz.ntmps129,Tryz.results129,h]) | (refine wantK_split (fun h => ?_) (fun h => ?_) <;> simp only [go_sem,zA,zB,zC,zD,zE,zF,zG,zH,zI,zJ,zK,zL,zM,zN,zO,zP,↓reduceIte,reduceCtorEq,Tryz.ntmps129,Tryz.results129,h]) | (refine condK_splitN (fun h => ?_) (fun h => ?_) <;> simp only [go_sem,zA,zB,zC,zD,zE,zF,zG,zH,zI,zJ,zK,zL,zM,zN,zO,zP,↓reduceIte,reduceCtorEq,Tryz.ntmps129,Tryz.results129,h]) | (refine condK_split (fun h => ?_) (fun h => ?_) <;> simp only [go_sem,zA,zB,zC,zD,zE,zF,zG,zH,zI,zJ,zK,zL,zM,zN,zO,zP,↓reduceIte,reduceCtorEq,Tryz.ntmps129,Tryz.results129,h]) | (refine drawK_splitN (fun h => ?_) (fun h => ?_) <;> simp only [go_sem,zA,zB,zC,zD,zE,zF,zG,zH,zI,zJ,zK,zL,zM,zN,zO,zP,↓reduceIte,reduceCtorEq,Tryz.ntmps129,Tryz.results129,h]) | (refine drawK_split (fun h => ?_) (fun h => ?_) <;> simp only [go_sem,zA,zB,zC,zD,zE,zF,zG,zH,zI,zJ,zK,zL,zM,zN,zO,zP,↓reduceIte,reduceCtorEq,Tryz.ntmps129,Tryz.results129,h]))
  all_goals simp_all
def denyV (service why : Int) : List UInt8 := [127,u8of service,u8of why]
theorem deny_calls (service why : Int) : PureCalls Tryz.prog 84 [PI service,PI why] (bytesPV (denyV service why)) := by
  refine PureCalls.of tabOK mixed Tryz.func84 rfl rfl (by decide +kernel) (by simp [Tryz.ntmps84]) ?_
  simp only [go_sem,zA,zB,zC,zD,zE,zF,zG,zH,zI,zJ,zK,zL,zM,zN,zO,zP,↓reduceIte,reduceCtorEq,Tryz.ntmps84,Tryz.results84]
  rw [u8of_eq,u8of_eq]; rfl
theorem denyR_calls (service why : Int) : PureCalls Tryz.prog 69 [PI service,PI why] (bytesPV (denyV service why)) := by
  refine PureCalls.of tabOK mixed Tryz.func69 rfl rfl (by decide +kernel) (by simp [Tryz.ntmps69]) ?_
  simp only [go_sem,zA,zB,zC,zD,zE,zF,zG,zH,zI,zJ,zK,zL,zM,zN,zO,zP,↓reduceIte,reduceCtorEq,Tryz.ntmps69,Tryz.results69]
  rw [u8of_eq,u8of_eq]; rfl
end Go.Proofs.YtcdmhigmgpflbaaGreat.Pe
namespace Go.Proofs.YtcdmhigmgpflbaaGreat.Pe
open Go.Pe Go.RowKit
theorem wrapU32 (n : Int) : IntKind.wrap .u32 n = n % 4294967296 := by simp [IntKind.wrap,IntKind.bits,IntKind.signed]
theorem wrapI64_eq (n : Int) : IntKind.wrap .i64 n = (n + 9223372036854775808) % 18446744073709551616 - 9223372036854775808 := by
  rw [IntKind.wrap_i64]
theorem lowV_eq (n : Int) : lowV n = n % 4294967296 := by
  have h1 : (BitVec.ofInt 64 n &&& BitVec.ofInt 64 4294967295).toNat = (n % 18446744073709551616).toNat % 4294967296 := by
    rw [BitVec.toNat_and,BitVec.toNat_ofInt]
    show (n % 18446744073709551616).toNat &&& (2 ^ 32 - 1) = _
    rw [Nat.and_two_pow_sub_one_eq_mod]
  show IntKind.wrap .i64 ((BitVec.ofInt 64 n &&& BitVec.ofInt 64 4294967295).toNat : Int) = _
  rw [h1,wrapI64 (by omega)]
  omega
theorem xor_lt {a b : Nat} (ha : a < 4294967296) (hb : b < 4294967296) : a ^^^ b < 4294967296 := Nat.xor_lt_two_pow (n := 32) ha hb
theorem xor64 {a b : Nat} (ha : a < 4294967296) (hb : b < 4294967296) : bitsA .xor .i64 (a : Int) (b : Int) = ((a ^^^ b : Nat) : Int) := by
  have h1 : (BitVec.ofInt 64 (a : Int) ^^^ BitVec.ofInt 64 (b : Int)).toNat = a ^^^ b := by
    rw [BitVec.toNat_xor,BitVec.toNat_ofInt,BitVec.toNat_ofInt]
    congr 1 <;> omega
  show IntKind.wrap .i64 ((BitVec.ofInt 64 (a : Int) ^^^ BitVec.ofInt 64 (b : Int)).toNat : Int) = _
  have := xor_lt ha hb
  rw [h1,wrapI64 (by omega)]
theorem xor32 {a b : Nat} (ha : a < 4294967296) (hb : b < 4294967296) : bitsA .xor .u32 (a : Int) (b : Int) = ((a ^^^ b : Nat) : Int) := by
  have h1 : (BitVec.ofInt 32 (a : Int) ^^^ BitVec.ofInt 32 (b : Int)).toNat = a ^^^ b := by
    rw [BitVec.toNat_xor,BitVec.toNat_ofInt,BitVec.toNat_ofInt]
    congr 1 <;> omega
  show IntKind.wrap .u32 ((BitVec.ofInt 32 (a : Int) ^^^ BitVec.ofInt 32 (b : Int)).toNat : Int) = _
  have := xor_lt ha hb
  rw [h1,wrapU32]
  omega
@[irreducible] def keyF : Nat := 2654435761
theorem keyF_eq : (2654435761 : Int) = ((keyF : Nat) : Int) := by unfold keyF; rfl
@[irreducible] def keyS (s x : Nat) : Nat := ((x * keyF + s) % 4294967296) ^^^ ((x * keyF + s) % 4294967296 / 32768)
def itN (f : Nat → Nat) : Nat → Nat → Nat
  | 0,x => x
  | n + 1,x => itN f n (f x)
theorem itN_succ (f : Nat → Nat) (n x : Nat) : itN f (n + 1) x = itN f n (f x) := rfl
theorem itN_zero (f : Nat → Nat) (x : Nat) : itN f 0 x = x := rfl
theorem keyS_lt (s x : Nat) : keyS s x < 4294967296 := by
  unfold keyS
  generalize x * keyF + s = p
  exact xor_lt (Nat.mod_lt _ (by decide)) (by omega)
theorem roundU {x s y : Nat} (h : (x * keyF + s) % 4294967296 = y) : IntKind.wrap .u32 (IntKind.wrap .u32 ((x : Int) * 2654435761) + (s : Int)) = (y : Int) := by
  have e : (x : Int) * 2654435761 = ((x * keyF : Nat) : Int) := (congrArg (fun z => (x : Int) * z) keyF_eq).trans (Int.natCast_mul x keyF).symm
  rw [e]
  generalize x * keyF = p at h ⊢
  rw [wrapU32,wrapU32,← h]
  omega
theorem round_ex (s x : Nat) : ∃ y : Nat,y < 4294967296 ∧ IntKind.wrap .u32 (IntKind.wrap .u32 ((x : Int) * 2654435761) + (s : Int)) = (y : Int) ∧ keyS s x = y ^^^ (y / 32768) :=
  ⟨(x * keyF + s) % 4294967296,Nat.mod_lt _ (by decide),roundU rfl,by unfold keyS; rfl⟩
def nat32 (n : Int) : Nat := (n % 4294967296).toNat
theorem nat32_lt (n : Int) : nat32 n < 4294967296 := by unfold nat32; omega
theorem nat32_eq (n : Int) : ((nat32 n : Nat) : Int) = n % 4294967296 := by unfold nat32; omega
def keyV (seed secret : Int) : Int := itN (keyS (nat32 secret)) 3 (nat32 seed ^^^ nat32 secret)
theorem mulM : ∃ M : Int → Int,(∀ z : Int,IntKind.wrap .u32 (z * 2654435761) = M z) ∧ ∀ s x : Nat,∃ y : Nat,y < 4294967296 ∧ IntKind.wrap .u32 (M (x : Int) + (s : Int)) = (y : Int) ∧ keyS s x = y ^^^ (y / 32768) := by
  refine ⟨fun z => IntKind.wrap .u32 (z * 2654435761),fun z => rfl,fun s x => ?_⟩
  exact round_ex s x
def kdSt (secret : Int) (x i : Nat) : St := ⟨25,[(1,PI secret),(5,.lit (.int .u32 x)),(11,PI i)],[],20,0⟩
def kdI (secret : Int) (r : Nat) (m : Nat) (st : St) : Prop := ∃ i x : Nat,i ≤ 3 ∧ m = 3 - i ∧ x < 4294967296 ∧ itN (keyS (nat32 secret)) (3 - i) x = r ∧ st = kdSt secret x i
theorem keyD_calls (seed secret : Int) : PureCalls Tryz.prog 35 [PI seed,PI secret] (PI (keyV seed secret)) := by
  refine PureCalls.of tabOK mixed Tryz.func35 rfl rfl (by decide +kernel) (by simp [Tryz.ntmps35]) ?_
  have e1 : IntKind.wrap .u32 seed = ((nat32 seed : Nat) : Int) := by rw [wrapU32,nat32_eq]
  have e2 : IntKind.wrap .u32 secret = ((nat32 secret : Nat) : Int) := by rw [wrapU32,nat32_eq]
  have e3 := xor32 (nat32_lt seed) (nat32_lt secret)
  obtain ⟨M,hM,hR⟩ := mulM
  rw [keyV]
  obtain ⟨r,hr⟩ : ∃ r,itN (keyS (nat32 secret)) 3 (nat32 seed ^^^ nat32 secret) = r := ⟨_,rfl⟩
  rw [hr]
  simp only [go_sem,zA,zB,zC,zD,zE,zF,zG,zH,zI,zJ,zK,zL,zM,zN,zO,zP,↓reduceIte,reduceCtorEq,Tryz.ntmps35,Tryz.results35,e1,e2,e3]
  refine wpA_loop (kdI secret r) ⟨3,_,?_,0,_,by omega,rfl,xor_lt (nat32_lt seed) (nat32_lt secret),by rw [Nat.sub_zero]; exact hr,rfl⟩ ?_
  · simp only [go_sem,zA,zB,zC,zD,zE,zF,zG,zH,zI,zJ,zK,zL,zM,zN,zO,zP,↓reduceIte,reduceCtorEq,kdSt,yCb]
  rintro m st ⟨i,x,hi,rfl,hx,hk,rfl⟩
  by_cases hc : i < 3
  · have f1 : decide ((i : Int) < 3) = true := decide_eq_true (by omega)
    have hw := wrapIN (i := i) (by omega)
    obtain ⟨s,hs⟩ : ∃ s,nat32 secret = s := ⟨_,rfl⟩
    have hsl := nat32_lt secret
    rw [hs] at e2 hsl
    obtain ⟨y,hyl,w1,hkS⟩ := hR s x
    have w2 : (y : Int).fdiv (2 ^ min 15 32) = ((y / 32768 : Nat) : Int) := by
      show (y : Int).fdiv 32768 = _
      rw [Int.fdiv_eq_ediv_of_nonneg _ (by decide)]
      omega
    have w3 := xor32 (a := y) (b := y / 32768) hyl (by omega)
    simp only [go_sem,zA,zB,zC,zD,zE,zF,zG,zH,zI,zJ,zK,zL,zM,zN,zO,zP,↓reduceIte,reduceCtorEq,kdSt,f1,e2,hM,w1,w2,w3,hw]
    refine ⟨3 - (i + 1),_,by omega,?_,i + 1,keyS s x,by omega,rfl,keyS_lt _ _,?_,rfl⟩
    · simp only [go_sem,zA,zB,zC,zD,zE,zF,zG,zH,zI,zJ,zK,zL,zM,zN,zO,zP,↓reduceIte,reduceCtorEq,kdSt,hkS]
    · rw [← hk,hs,show 3 - i = (3 - (i + 1)) + 1 by omega,itN_succ]
  · have f1 : decide ((i : Int) < 3) = false := decide_eq_false (by omega)
    rw [show 3 - i = 0 by omega] at hk
    rw [itN_zero] at hk
    subst hk
    have w4 : IntKind.wrap .i64 (x : Int) = (x : Int) := wrapI64 (by omega)
    simp only [go_sem,zA,zB,zC,zD,zE,zF,zG,zH,zI,zJ,zK,zL,zM,zN,zO,zP,↓reduceIte,reduceCtorEq,kdSt,f1,w4,Tryz.ntmps35,Tryz.results35]
end Go.Proofs.YtcdmhigmgpflbaaGreat.Pe
namespace Go.Proofs.YtcdmhigmgpflbaaGreat.Pe
open Go.Pe Go.RowKit
def fourV (n : Int) : List UInt8 := [u8of (n.fdiv (2 ^ min 24 64)),u8of (n.fdiv (2 ^ min 16 64)),u8of (n.fdiv (2 ^ min 8 64)),u8of n]
theorem four_calls (n : Int) : PureCalls Tryz.prog 127 [PI n] (bytesPV (fourV n)) := by
  refine PureCalls.of tabOK mixed Tryz.func127 rfl rfl (by decide +kernel) (by simp [Tryz.ntmps127]) ?_
  simp only [go_sem,zA,zB,zC,zD,zE,zF,zG,zH,zI,zJ,zK,zL,zM,zN,zO,zP,↓reduceIte,reduceCtorEq,Tryz.ntmps127,Tryz.results127]
  rw [u8of_eq,u8of_eq,u8of_eq,u8of_eq]; rfl
theorem u8of_mod {a b : Int} (h : a % 256 = b % 256) : u8of a = u8of b := by
  unfold u8of
  rw [IntKind.wrap_u8,IntKind.wrap_u8,h]
theorem fourR_calls (n : Int) (h : 0 ≤ n ∧ n ≤ 4294967295) : PureCalls Tryz.prog 70 [PI n] (bytesPV (fourV n)) := by
  refine PureCalls.of tabOK mixed Tryz.func70 rfl rfl (by decide +kernel) (by simp [Tryz.ntmps70]) ?_
  have w1 : IntKind.wrap .i64 (n.tdiv 16777216) = n / 16777216 := by rw [Int.tdiv_eq_ediv_of_nonneg h.1,wrapI64 (by omega)]
  have w2 : IntKind.wrap .i64 (n.tdiv 65536) = n / 65536 := by rw [Int.tdiv_eq_ediv_of_nonneg h.1,wrapI64 (by omega)]
  have w3 : IntKind.wrap .i64 (n.tdiv 256) = n / 256 := by rw [Int.tdiv_eq_ediv_of_nonneg h.1,wrapI64 (by omega)]
  have w4 : (n / 65536).tmod 256 = n / 65536 % 256 := by rw [yCc (by omega)]
  have w5 : (n / 256).tmod 256 = n / 256 % 256 := by rw [yCc (by omega)]
  have w6 : n.tmod 256 = n % 256 := by rw [yCc (by omega)]
  have e1 : n.fdiv (2 ^ min 24 64) = n / 16777216 := by show n.fdiv 16777216 = _; rw [Int.fdiv_eq_ediv_of_nonneg _ (by decide)]
  have e2 : n.fdiv (2 ^ min 16 64) = n / 65536 := by show n.fdiv 65536 = _; rw [Int.fdiv_eq_ediv_of_nonneg _ (by decide)]
  have e3 : n.fdiv (2 ^ min 8 64) = n / 256 := by show n.fdiv 256 = _; rw [Int.fdiv_eq_ediv_of_nonneg _ (by decide)]
  have q : fourV n = [u8of (n / 16777216),u8of (n / 65536 % 256),u8of (n / 256 % 256),u8of (n % 256)] := by
    rw [fourV,e1,e2,e3,u8of_mod (a := n / 65536 % 256) (b := n / 65536) (by omega),u8of_mod (a := n / 256 % 256) (b := n / 256) (by omega),u8of_mod (a := n % 256) (b := n) (by omega)]
  simp only [go_sem,zA,zB,zC,zD,zE,zF,zG,zH,zI,zJ,zK,zL,zM,zN,zO,zP,↓reduceIte,reduceCtorEq,Tryz.ntmps70,Tryz.results70,w1,w2,w3,w4,w5,w6]
  rw [u8of_eq,u8of_eq,u8of_eq,u8of_eq,q]; rfl
theorem fourV_len (n : Int) : (fourV n).length = 4 := rfl
theorem mulR : ∃ M : Int → Int,(∀ z : Int,IntKind.wrap .i64 (z * 2654435761) = M z) ∧ ∀ s x : Nat,∃ y : Nat,y < 4294967296 ∧ lowV (IntKind.wrap .i64 (M (x : Int) + (s : Int))) = (y : Int) ∧ keyS s x = y ^^^ (y / 32768) := by
  refine ⟨fun z => IntKind.wrap .i64 (z * 2654435761),fun z => rfl,fun s x => ?_⟩
  obtain ⟨y,h1,h2,h3⟩ := round_ex s x
  refine ⟨y,h1,?_,h3⟩
  rw [← h2]
  show lowV (IntKind.wrap .i64 (IntKind.wrap .i64 ((x : Int) * 2654435761) + (s : Int))) = _
  generalize (x : Int) * 2654435761 = p
  rw [lowV_eq,wrapI64_eq,wrapI64_eq,wrapU32,wrapU32]
  omega
def krSt (secret : Int) (x i : Nat) : St := ⟨27,[(1,PI secret),(5,PI x),(6,PI i)],[],20,0⟩
def krI (secret : Int) (r : Nat) (m : Nat) (st : St) : Prop := ∃ i x : Nat,i ≤ 3 ∧ m = 3 - i ∧ x < 4294967296 ∧ itN (keyS (nat32 secret)) (3 - i) x = r ∧ st = krSt secret x i
theorem keyR22_calls (seed secret : Int) : PureCalls Tryz.prog 38 [PI seed,PI secret] (PI (keyV seed secret)) := by
  refine PureCalls.of tabOK mixed Tryz.func38 rfl rfl (by decide +kernel) (by simp [Tryz.ntmps38]) ?_
  have e1 : lowV seed = ((nat32 seed : Nat) : Int) := by rw [lowV_eq,nat32_eq]
  have e2 : lowV secret = ((nat32 secret : Nat) : Int) := by rw [lowV_eq,nat32_eq]
  have e3 := xor64 (nat32_lt seed) (nat32_lt secret)
  obtain ⟨M,hM,hR⟩ := mulR
  rw [keyV]
  obtain ⟨r,hr⟩ : ∃ r,itN (keyS (nat32 secret)) 3 (nat32 seed ^^^ nat32 secret) = r := ⟨_,rfl⟩
  rw [hr]
  have c1 := low_calls seed
  have c2 := low_calls secret
  rw [e1] at c1
  rw [e2] at c2
  simp only [go_sem,zA,zB,zC,zD,zE,zF,zG,zH,zI,zJ,zK,zL,zM,zN,zO,zP,↓reduceIte,reduceCtorEq,Tryz.ntmps38,Tryz.results38]
  (refine CallA.pure (c1) (by simp only [go_sem,zA,zB,zC,zD,zE,zF,zG,zH,zI,zJ,zK,zL,zM,zN,zO,zP,↓reduceIte,reduceCtorEq] <;> first | rfl | decide) ?_; simp only [go_sem,zA,zB,zC,zD,zE,zF,zG,zH,zI,zJ,zK,zL,zM,zN,zO,zP,↓reduceIte,reduceCtorEq])
  (refine CallA.pure (c2) (by simp only [go_sem,zA,zB,zC,zD,zE,zF,zG,zH,zI,zJ,zK,zL,zM,zN,zO,zP,↓reduceIte,reduceCtorEq,e3] <;> first | rfl | decide) ?_; simp only [go_sem,zA,zB,zC,zD,zE,zF,zG,zH,zI,zJ,zK,zL,zM,zN,zO,zP,↓reduceIte,reduceCtorEq,e3])
  refine wpA_loop (krI secret r) ⟨3,_,?_,0,_,by omega,rfl,xor_lt (nat32_lt seed) (nat32_lt secret),by rw [Nat.sub_zero]; exact hr,rfl⟩ ?_
  · simp only [go_sem,zA,zB,zC,zD,zE,zF,zG,zH,zI,zJ,zK,zL,zM,zN,zO,zP,↓reduceIte,reduceCtorEq,krSt,yCb]
  rintro m st ⟨i,x,hi,rfl,hx,hk,rfl⟩
  by_cases hc : i < 3
  · have f1 : decide ((i : Int) < 3) = true := decide_eq_true (by omega)
    have hw := wrapIN (i := i) (by omega)
    obtain ⟨s,hs⟩ : ∃ s,nat32 secret = s := ⟨_,rfl⟩
    have hsl := nat32_lt secret
    rw [hs] at c2 hsl
    obtain ⟨y,hyl,w1,hkS⟩ := hR s x
    have w2 : (y : Int).fdiv (2 ^ min 15 64) = ((y / 32768 : Nat) : Int) := by
      show (y : Int).fdiv 32768 = _
      rw [Int.fdiv_eq_ediv_of_nonneg _ (by decide)]
      omega
    have w3 := xor64 (a := y) (b := y / 32768) hyl (by omega)
    have c3 := low_calls (IntKind.wrap .i64 (M (x : Int) + (s : Int)))
    rw [w1] at c3
    simp only [go_sem,zA,zB,zC,zD,zE,zF,zG,zH,zI,zJ,zK,zL,zM,zN,zO,zP,↓reduceIte,reduceCtorEq,krSt,f1,hM]
    (refine CallA.pure (c2) (by simp only [go_sem,zA,zB,zC,zD,zE,zF,zG,zH,zI,zJ,zK,zL,zM,zN,zO,zP,↓reduceIte,reduceCtorEq,hM] <;> first | rfl | decide) ?_; simp only [go_sem,zA,zB,zC,zD,zE,zF,zG,zH,zI,zJ,zK,zL,zM,zN,zO,zP,↓reduceIte,reduceCtorEq,hM])
    (refine CallA.pure (c3) (by simp only [go_sem,zA,zB,zC,zD,zE,zF,zG,zH,zI,zJ,zK,zL,zM,zN,zO,zP,↓reduceIte,reduceCtorEq,w2,w3,hw] <;> first | rfl | decide) ?_; simp only [go_sem,zA,zB,zC,zD,zE,zF,zG,zH,zI,zJ,zK,zL,zM,zN,zO,zP,↓reduceIte,reduceCtorEq,w2,w3,hw])
    refine ⟨3 - (i + 1),_,by omega,?_,i + 1,keyS s x,by omega,rfl,keyS_lt _ _,?_,rfl⟩
    · simp only [go_sem,zA,zB,zC,zD,zE,zF,zG,zH,zI,zJ,zK,zL,zM,zN,zO,zP,↓reduceIte,reduceCtorEq,krSt,hkS]
    · rw [← hk,hs,show 3 - i = (3 - (i + 1)) + 1 by omega,itN_succ]
  · have f1 : decide ((i : Int) < 3) = false := decide_eq_false (by omega)
    rw [show 3 - i = 0 by omega] at hk
    rw [itN_zero] at hk
    subst hk
    simp only [go_sem,zA,zB,zC,zD,zE,zF,zG,zH,zI,zJ,zK,zL,zM,zN,zO,zP,↓reduceIte,reduceCtorEq,krSt,f1,Tryz.ntmps38,Tryz.results38]
end Go.Proofs.YtcdmhigmgpflbaaGreat.Pe
