import Derived.Test.YtcdmhigmgpflbaaTSb
import Derived.Test.YtcdmhigmgpflbaaDLe
namespace Go.Proofs.Ytcdmhigmgpflbaa.Pe
open Go.Pe Go.RowKit
open Nat renaming reduceAdd → zA,reduceSub → zB,reduceMul → zC,reduceLT → zD,reduceLeDiff → zE,reduceEqDiff → zF,reduceBEq → zG
open Int renaming reduceToNat → zH,reduceLT → zI,reduceLE → zJ,reduceEq → zK,reduceNe → zL,reduceAdd → zM,reduceSub → zN,reduceMul → zO,reduceNeg → zP
set_option maxRecDepth 20000
set_option maxHeartbeats 4000000
set_option linter.unusedSimpArgs false
set_option linter.unusedVariables false
theorem numB_take {l : List UInt8} {i : Nat} (h : i < l.length) : numB (l.take (i + 1)) = numB (l.take i) * 256 + l[i].toNat := by rw [List.take_succ_eq_append_getElem h,numB_snoc]
def byV (l : List UInt8) (i : Nat) : Int := (numB (l.take (i - 1)) : Nat)
def bySt (id : UInt16) (v n : UInt32) (b W K l m : List UInt8) (i : Nat) : St := ⟨142,[(0,.lit (.int .u16 id.toNat)),(1,.lit (.int .u32 v.toNat)),(2,.lit (.int .u32 n.toNat)),(3,bytesPV b),(9,PB true),(10,bytesPV W),(11,bytesPV K),(12,bytesPV (0x34 :: (l ++ m))),(13,PI (byV l i)),(14,PI (byV m i)),(15,PI i)],[],100,0⟩
def byI (id : UInt16) (v n : UInt32) (b W K l m : List UInt8) (k : Nat) (st : St) : Prop := ∃ i : Nat,1 ≤ i ∧ i ≤ 5 ∧ k = 5 - i ∧ st = bySt id v n b W K l m i
theorem testerBytes_calls (id : UInt16) (v n : UInt32) (b : List UInt8) : PureCalls Try.prog 17 [.lit (.int .u16 id.toNat),.lit (.int .u32 v.toNat),.lit (.int .u32 n.toNat),bytesPV b] (PB true) := by
  refine PureCalls.of tabOK mixed Try.func17 rfl rfl (by decide +kernel) (by simp [Try.ntmps17]) ?_
  have wi := wr16 id
  have wv := wr32 v
  have wn := wr32 n
  have hv := u32_wide v
  have hn := u32_wide n
  have hi : 0 ≤ (id.toNat : Int) ∧ (id.toNat : Int) ≤ 65535 := by have := id.toNat_lt; omega
  simp only [go_sem,zA,zB,zC,zD,zE,zF,zG,zH,zI,zJ,zK,zL,zM,zN,zO,zP,↓reduceIte,reduceCtorEq,Try.ntmps17,Try.results17]
  (refine CallA.pure (h23_calls) (by simp only [go_sem,zA,zB,zC,zD,zE,zF,zG,zH,zI,zJ,zK,zL,zM,zN,zO,zP,↓reduceIte,reduceCtorEq,rowsB_length] <;> first | rfl | decide) ?_; simp only [go_sem,zA,zB,zC,zD,zE,zF,zG,zH,zI,zJ,zK,zL,zM,zN,zO,zP,↓reduceIte,reduceCtorEq,rowsB_length])
  cases g0 : decide ((b.length : Int) > 300) with
  | true => simp only [go_sem,zA,zB,zC,zD,zE,zF,zG,zH,zI,zJ,zK,zL,zM,zN,zO,zP,↓reduceIte,reduceCtorEq,rowsB_length,g0,Try.ntmps17,Try.results17]
  | false =>
  have hbl : b.length ≤ 300 := by have := of_decide_eq_false g0; omega
  have c1 := write_calls id.toNat b (by omega)
  have c2 := block_calls id.toNat b (by omega)
  have c3 := begin_calls v.toNat n.toNat
  have hid := idV_idB hi
  have c4 := read_calls id.toNat
  obtain ⟨x,y,hx,hy⟩ : ∃ x y : UInt8,u8of ((id.toNat : Int).fdiv (2 ^ min 8 64)) = x ∧ u8of (id.toNat : Int) = y := ⟨_,_,rfl,rfl⟩
  rw [hx,hy] at hid
  have e2 : bytesN (id.toNat : Int) 2 = [x,y] := by rw [bytesN2,hx,hy]
  have eW : writeQ (id.toNat : Int) b = 0x2E :: x :: y :: b := by unfold writeQ; rw [e2]; rfl
  have eK : blockQ (id.toNat : Int) b = 0x36 :: x :: y :: b := by unfold blockQ; rw [e2]; rfl
  have eR : readQ (id.toNat : Int) = [0x22,x,y] := by unfold readQ; rw [e2]
  have eB : beginQ (v.toNat : Int) (n.toNat : Int) = 0x34 :: (fourV v.toNat ++ fourV n.toNat) := by unfold beginQ; rw [bytesN4,bytesN4]
  rw [eW] at c1
  rw [eK] at c2
  rw [eB] at c3
  rw [eR] at c4
  have ll := fourV_len (v.toNat : Int)
  have lm := fourV_len (n.toNat : Int)
  have nl := numB_four hv
  have nm := numB_four hn
  generalize fourV (v.toNat : Int) = l at c3 ll nl
  generalize fourV (n.toNat : Int) = m at c3 lm nm
  have wb : IntKind.wrap .i64 (3 + (b.length : Int)) = ((b.length + 3 : Nat) : Int) := by rw [wrapI64_eq]; omega
  have z1 : decide (((b.length + 1 + 1 + 1 : Nat) : Int) = ((b.length + 3 : Nat) : Int)) = true := decide_eq_true (by omega)
  have z9 : decide (((l.length + m.length + 1 : Nat) : Int) = 9) = true := decide_eq_true (by omega)
  have gW : (rowsB (0x2E :: x :: y :: b)).getD 0 [] = [.lit (.int .u8 46)] := rfl
  have gK : (rowsB (0x36 :: x :: y :: b)).getD 0 [] = [.lit (.int .u8 54)] := rfl
  have gB : (rowsB (0x34 :: (l ++ m))).getD 0 [] = [.lit (.int .u8 52)] := rfl
  have i0 : (0 : Int) < ((b.length + 1 + 1 + 1 : Nat) : Int) := by omega
  have i9 : (0 : Int) < ((l.length + m.length + 1 : Nat) : Int) := by omega
  simp only [go_sem,zA,zB,zC,zD,zE,zF,zG,zH,zI,zJ,zK,zL,zM,zN,zO,zP,↓reduceIte,reduceCtorEq,rowsB_length,g0,wi]
  (refine CallA.pure (c1) (by simp only [go_sem,zA,zB,zC,zD,zE,zF,zG,zH,zI,zJ,zK,zL,zM,zN,zO,zP,↓reduceIte,reduceCtorEq,wi] <;> first | rfl | decide) ?_; simp only [go_sem,zA,zB,zC,zD,zE,zF,zG,zH,zI,zJ,zK,zL,zM,zN,zO,zP,↓reduceIte,reduceCtorEq,wi])
  (refine CallA.pure (c2) (by simp only [go_sem,zA,zB,zC,zD,zE,zF,zG,zH,zI,zJ,zK,zL,zM,zN,zO,zP,↓reduceIte,reduceCtorEq,wv,wn] <;> first | rfl | decide) ?_; simp only [go_sem,zA,zB,zC,zD,zE,zF,zG,zH,zI,zJ,zK,zL,zM,zN,zO,zP,↓reduceIte,reduceCtorEq,wv,wn])
  (refine CallA.pure (c3) (by simp only [go_sem,zA,zB,zC,zD,zE,zF,zG,zH,zI,zJ,zK,zL,zM,zN,zO,zP,↓reduceIte,reduceCtorEq,rowsB_length,List.length_cons,List.length_append,wb,z1,z9,gW,gK,gB,i0,i9] <;> first | rfl | decide) ?_; simp only [go_sem,zA,zB,zC,zD,zE,zF,zG,zH,zI,zJ,zK,zL,zM,zN,zO,zP,↓reduceIte,reduceCtorEq,rowsB_length,List.length_cons,List.length_append,wb,z1,z9,gW,gK,gB,i0,i9])
  refine wpA_loop (byI id v n b (0x2E :: x :: y :: b) (0x36 :: x :: y :: b) l m) ⟨4,_,?_,1,by omega,by omega,rfl,rfl⟩ ?_
  · have n0 : numB [] = 0 := rfl
    simp only [go_sem,zA,zB,zC,zD,zE,zF,zG,zH,zI,zJ,zK,zL,zM,zN,zO,zP,↓reduceIte,reduceCtorEq,bySt,byV,List.take_zero,Int.natCast_zero,Int.natCast_one,n0]
    done
  rintro k st ⟨i,h1,h5,rfl,rfl⟩
  by_cases hc : i < 5
  · have f1 : decide ((i : Int) < 5) = true := decide_eq_true (by omega)
    have hw := wrapIN (i := i) (by omega)
    obtain ⟨j,rfl⟩ : ∃ j,i = j + 1 := ⟨i - 1,by omega⟩
    have hjl : j < l.length := by omega
    have hjm : j < m.length := by omega
    have r1 : (rowsB (0x34 :: (l ++ m))).getD (j + 1) [] = [.lit (.int .u8 l[j].toNat)] := by
      simp [rowsB,rowB,List.getD_eq_getElem?_getD,List.getElem?_append,hjl]
    have r2 : (rowsB (0x34 :: (l ++ m))).getD (j + 1 + 4) [] = [.lit (.int .u8 m[j].toNat)] := by
      simp [rowsB,rowB,List.getD_eq_getElem?_getD,List.getElem?_append,hjm,ll]
      rw [if_neg (by omega)]
      rfl
    have s1 := numB_take hjl
    have s2 := numB_take hjm
    have b1 : numB (l.take j) < 16777216 := by
      have h := numB_lt j (l.take j) (by simp; omega)
      have : (256 : Nat) ^ j ≤ 256 ^ 3 := Nat.pow_le_pow_right (by decide) (by omega)
      omega
    have b2 : numB (m.take j) < 16777216 := by
      have h := numB_lt j (m.take j) (by simp; omega)
      have : (256 : Nat) ^ j ≤ 256 ^ 3 := Nat.pow_le_pow_right (by decide) (by omega)
      omega
    generalize l[j] = c at r1 s1
    generalize m[j] = d at r2 s2
    have hc := c.toNat_lt
    have hd := d.toNat_lt
    have wc := wrU' c
    have wd := wrU' d
    have y1 : byV l (j + 1) = ((numB (l.take j) : Nat) : Int) := by unfold byV; simp only [Nat.add_sub_cancel]
    have y2 : byV m (j + 1) = ((numB (m.take j) : Nat) : Int) := by unfold byV; simp only [Nat.add_sub_cancel]
    have y3 : byV l (j + 1 + 1) = ((numB (l.take (j + 1)) : Nat) : Int) := by unfold byV; simp only [Nat.add_sub_cancel]
    have y4 : byV m (j + 1 + 1) = ((numB (m.take (j + 1)) : Nat) : Int) := by unfold byV; simp only [Nat.add_sub_cancel]
    have v1 : IntKind.wrap .i64 (byV l (j + 1) * 256) = byV l (j + 1) * 256 := by rw [wrapI64_eq]; omega
    have v2 : IntKind.wrap .i64 (byV m (j + 1) * 256) = byV m (j + 1) * 256 := by rw [wrapI64_eq]; omega
    have v3 : IntKind.wrap .i64 (byV l (j + 1) * 256 + (c.toNat : Int)) = byV l (j + 1 + 1) := by rw [wrapI64_eq]; omega
    have v4 : IntKind.wrap .i64 (byV m (j + 1) * 256 + (d.toNat : Int)) = byV m (j + 1 + 1) := by rw [wrapI64_eq]; omega
    have w4 : IntKind.wrap .i64 (((j + 1 : Nat) : Int) + 4) = ((j + 1 + 4 : Nat) : Int) := by rw [wrapI64_eq]; omega
    obtain ⟨f2,f3,f4,f5⟩ : (0 : Int) ≤ ((j + 1 : Nat) : Int) ∧ ((j + 1 : Nat) : Int) < ((l.length + m.length + 1 : Nat) : Int) ∧ (0 : Int) ≤ ((j + 1 + 4 : Nat) : Int) ∧ ((j + 1 + 4 : Nat) : Int) < ((l.length + m.length + 1 : Nat) : Int) := by omega
    simp only [go_sem,zA,zB,zC,zD,zE,zF,zG,zH,zI,zJ,zK,zL,zM,zN,zO,zP,↓reduceIte,reduceCtorEq,bySt,f1,f2,f3,f4,f5,hw,w4,rowsB_length,List.length_cons,List.length_append,Int.toNat_natCast,r1,r2,wc,wd,v1,v2,v3,v4]
    refine ⟨5 - (j + 1 + 1),_,by omega,?_,j + 1 + 1,by omega,by omega,rfl,rfl⟩
    simp only [go_sem,zA,zB,zC,zD,zE,zF,zG,zH,zI,zJ,zK,zL,zM,zN,zO,zP,↓reduceIte,reduceCtorEq,bySt,hw]
  · have f1 : decide ((i : Int) < 5) = false := decide_eq_false (by omega)
    obtain rfl : i = 5 := by omega
    have vl : byV l 5 = (v.toNat : Int) := by rw [← nl]; unfold byV; rw [List.take_of_length_le (by omega)]
    have vm : byV m 5 = (n.toNat : Int) := by rw [← nm]; unfold byV; rw [List.take_of_length_le (by omega)]
    have w1 : (rowsB (0x2E :: x :: y :: b)).getD 1 [] = [.lit (.int .u8 x.toNat)] := rfl
    have w2 : (rowsB (0x2E :: x :: y :: b)).getD 2 [] = [.lit (.int .u8 y.toNat)] := rfl
    have wx := wrU' x
    have wy := wrU' y
    have wm : IntKind.wrap .i64 ((x.toNat : Int) * 256) = (x.toNat : Int) * 256 := by have := x.toNat_lt; rw [wrapI64_eq]; omega
    have wi2 : IntKind.wrap .i64 ((x.toNat : Int) * 256 + (y.toNat : Int)) = (id.toNat : Int) := by have := x.toNat_lt; have := y.toNat_lt; rw [← hid]; unfold idV; rw [wrapI64_eq]; omega
    have i1 : (1 : Int) < ((b.length + 1 + 1 + 1 : Nat) : Int) := by omega
    have i2 : (2 : Int) < ((b.length + 1 + 1 + 1 : Nat) : Int) := by omega
    have ht : ∀ c : UInt8,List.take (b.length + 1 + 1 + 1) (c :: x :: y :: b) = c :: x :: y :: b := fun c => List.take_of_length_le (by simp)
    have sm1 := same23_calls (x :: y :: b) (x :: y :: b)
    have sm2 := same23_calls b b
    have sm3 := same23_calls [x,y] [x,y]
    rw [decide_eq_true rfl] at sm1 sm2 sm3
    have zi : decide ((id.toNat : Int) = (id.toNat : Int)) = true := decide_eq_true rfl
    simp only [go_sem,zA,zB,zC,zD,zE,zF,zG,zH,zI,zJ,zK,zL,zM,zN,zO,zP,↓reduceIte,reduceCtorEq,bySt,f1,vl,vm,wi,wv,wn,w1,w2,wx,wy,wm,wi2,i1,i2,rowsB_length,List.length_cons,Int.toNat_natCast,ht,List.drop_succ_cons,List.drop_zero]
    refine ⟨by omega,by omega,?_⟩
    (refine callD_pure (sm1) (by simp only [go_sem,zA,zB,zC,zD,zE,zF,zG,zH,zI,zJ,zK,zL,zM,zN,zO,zP,↓reduceIte,reduceCtorEq,rowsB_length,List.length_cons,Int.toNat_natCast,ht,List.drop_succ_cons,List.drop_zero] <;> first | rfl | decide) ?_; simp only [go_sem,zA,zB,zC,zD,zE,zF,zG,zH,zI,zJ,zK,zL,zM,zN,zO,zP,↓reduceIte,reduceCtorEq,rowsB_length,List.length_cons,Int.toNat_natCast,ht,List.drop_succ_cons,List.drop_zero])
    refine ⟨by omega,?_⟩
    (refine callD_pure (sm2) (by simp only [go_sem,zA,zB,zC,zD,zE,zF,zG,zH,zI,zJ,zK,zL,zM,zN,zO,zP,↓reduceIte,reduceCtorEq,wi,wv,wn,decide_true] <;> first | rfl | decide) ?_; simp only [go_sem,zA,zB,zC,zD,zE,zF,zG,zH,zI,zJ,zK,zL,zM,zN,zO,zP,↓reduceIte,reduceCtorEq,wi,wv,wn,decide_true])
    (refine callD_pure (c4) (by simp only [go_sem,zA,zB,zC,zD,zE,zF,zG,zH,zI,zJ,zK,zL,zM,zN,zO,zP,↓reduceIte,reduceCtorEq,rowsB_length,List.length_cons,List.length_nil] <;> first | rfl | decide) ?_; simp only [go_sem,zA,zB,zC,zD,zE,zF,zG,zH,zI,zJ,zK,zL,zM,zN,zO,zP,↓reduceIte,reduceCtorEq,rowsB_length,List.length_cons,List.length_nil])
    refine ⟨by omega,?_⟩
    (refine callD_pure (sm3) (by simp only [go_sem,zA,zB,zC,zD,zE,zF,zG,zH,zI,zJ,zK,zL,zM,zN,zO,zP,↓reduceIte,reduceCtorEq] <;> first | rfl | decide) ?_; simp only [go_sem,zA,zB,zC,zD,zE,zF,zG,zH,zI,zJ,zK,zL,zM,zN,zO,zP,↓reduceIte,reduceCtorEq])
    refine endD_intro (by decide +kernel) ?_
    simp only [go_sem,zA,zB,zC,zD,zE,zF,zG,zH,zI,zJ,zK,zL,zM,zN,zO,zP,↓reduceIte,reduceCtorEq,Try.ntmps17,Try.results17]
end Go.Proofs.Ytcdmhigmgpflbaa.Pe

