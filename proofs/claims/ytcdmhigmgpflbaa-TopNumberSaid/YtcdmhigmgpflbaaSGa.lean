import Derived.Test.YtcdmhigmgpflbaaSG4
import Derived.Test.YtcdmhigmgpflbaaSG7
namespace Go.Proofs.Ytcdmhigmgpflbaa.Pe
open Go.Pe Go.RowKit
set_option maxRecDepth 20000
set_option maxHeartbeats 4000000
set_option linter.unusedSimpArgs false
set_option linter.unusedVariables false
/-- A bit among bytes. -/
def bitAt (x : List UInt8) (p : Int) : Bool := (x.getD (p.toNat / 8) 0).toNat.testBit (p.toNat % 8)
theorem mask_all : ∀ i,i < 8 → ∀ j,j < 8 → ∀ n,n < 256 → (((UInt8.ofNat n &&& ~~~ UInt8.ofNat (2 ^ i)) ||| UInt8.ofNat (2 ^ i)).toNat.testBit j = (decide (j = i) || n.testBit j)) ∧ ((UInt8.ofNat n &&& ~~~ UInt8.ofNat (2 ^ i)).toNat.testBit j = (!decide (j = i) && n.testBit j)) := by decide +kernel
theorem putAt_bit {n : Int} {x : List UInt8} {i : Nat} {p q : Int} (hp : 0 ≤ p) (hq : 0 ≤ q) (hl : p.toNat / 8 < x.length) : bitAt (putAt n x i p) q = if q = p then onB n i else bitAt x q := by
  have h8 : p.toNat % 8 < 8 := Nat.mod_lt _ (by decide)
  have h8' : q.toNat % 8 < 8 := Nat.mod_lt _ (by decide)
  by_cases hb : q.toNat / 8 = p.toNat / 8
  · have key := mask_all (p.toNat % 8) h8 (q.toNat % 8) h8' (x.getD (p.toNat / 8) 0).toNat (UInt8.toNat_lt _)
    rw [UInt8.ofNat_toNat] at key
    have hset : ∀ c,(x.set (p.toNat / 8) c).getD (q.toNat / 8) 0 = c := fun c => by rw [hb]; exact set_self _ hl c
    have hqp : decide (q.toNat % 8 = p.toNat % 8) = decide (q = p) := by
      by_cases e : q = p
      · rw [e]; simp
      · rw [decide_eq_false e,decide_eq_false]; omega
    rw [hqp] at key
    unfold bitAt putAt
    cases hon : onB n i with
    | true =>
      rw [if_pos rfl,hset]
      refine key.1.trans ?_
      by_cases e : q = p
      · rw [if_pos e,decide_eq_true e]; rfl
      · rw [if_neg e,decide_eq_false e,hb]; rfl
    | false =>
      rw [if_neg (by decide),hset]
      refine key.2.trans ?_
      by_cases e : q = p
      · rw [if_pos e,decide_eq_true e]; rfl
      · rw [if_neg e,decide_eq_false e,hb]; rfl
  · have hset : ∀ c,(x.set (p.toNat / 8) c).getD (q.toNat / 8) 0 = x.getD (q.toNat / 8) 0 := fun c => by
      simp [List.getD_eq_getElem?_getD,List.getElem?_set,Ne.symm hb]
    have hne : q ≠ p := fun e => hb (by rw [e])
    unfold bitAt putAt
    rw [if_neg hne]
    split <;> rw [hset]
theorem putL_len (n : Int) : ∀ (P : List Int) (x : List UInt8) (i : Nat),(putL n x i P).length = x.length
  | [],_,_ => rfl
  | p :: P,x,i => by rw [putL,putL_len n P,putAt_len]
theorem putL_bit {n : Int} : ∀ (P : List Int) (x : List UInt8) (i : Nat) (q : Int),(∀ p ∈ P,0 ≤ p ∧ p.toNat / 8 < x.length) → P.Nodup → 0 ≤ q →
    (q ∉ P → bitAt (putL n x i P) q = bitAt x q) ∧ ∀ j,P[j]? = some q → bitAt (putL n x i P) q = onB n (i + j)
  | [],x,i,q,_,_,_ => ⟨fun _ => rfl,fun j h => by simp at h⟩
  | p :: P,x,i,q,hP,hN,hq => by
    have hp := hP p List.mem_cons_self
    obtain ⟨n1,n2⟩ := List.nodup_cons.1 hN
    obtain ⟨q1,q2⟩ := putL_bit (n := n) P (putAt n x i p) (i + 1) q (fun p' h => by rw [putAt_len]; exact hP p' (List.mem_cons_of_mem _ h)) n2 hq
    have hb := putAt_bit (n := n) (i := i) (q := q) hp.1 hq hp.2
    refine ⟨fun hno => ?_,fun j hj => ?_⟩
    · rw [putL,q1 (fun h => hno (List.mem_cons_of_mem _ h)),hb,if_neg (fun e => hno (by rw [e]; exact List.mem_cons_self))]
    · cases j with
      | zero =>
        simp at hj
        subst hj
        rw [putL,q1 n1,hb,if_pos rfl]
        rfl
      | succ j =>
        rw [List.getElem?_cons_succ] at hj
        rw [putL,q2 j hj]
        congr 1
        omega
theorem onB_eq (n : Int) {i : Nat} (h : i ≤ 64) : onB n i = decide ((n / 2 ^ i) % 2 = 1) := by
  unfold onB
  have hm : min i 64 = i := by omega
  have hf : n.fdiv (2 ^ i) = n / 2 ^ i := Int.fdiv_eq_ediv_of_nonneg _ (Int.pow_nonneg (by decide))
  rw [hm,hf]
  generalize n / 2 ^ i = m
  have : bitsA .and .i64 m 1 = m % 2 := by
    show IntKind.wrap .i64 ((BitVec.ofInt 64 m &&& BitVec.ofInt 64 1).toNat : Int) = _
    rw [BitVec.toNat_and,BitVec.toNat_ofInt,show (BitVec.ofInt 64 1).toNat = 1 from rfl,Nat.and_one_is_mod,wrapI64_eq]
    omega
  rw [this]
/-- The number that a signal's bits make. -/
def getL (x : List UInt8) : Int → Nat → List Int → Int
  | v,_,[] => v
  | v,i,p :: ps => getL x (v + (if bitAt x p = true then 2 ^ i else 0)) (i + 1) ps
theorem pow_split (m : Int) (L : Nat) : m % 2 ^ (L + 1) = m % 2 + 2 * ((m / 2) % 2 ^ L) := by
  have hp : (0 : Int) < 2 ^ L := Int.pow_pos (by decide)
  have h1 := Int.emod_add_mul_ediv (m / 2) (2 ^ L)
  have h2 := Int.emod_add_mul_ediv m 2
  have e : (2 : Int) ^ (L + 1) = 2 * 2 ^ L := by rw [Int.pow_succ,Int.mul_comm]
  have hr := Int.emod_nonneg (m / 2) (show (2 : Int) ^ L ≠ 0 by omega)
  have hr2 := Int.emod_lt_of_pos (m / 2) hp
  generalize (2 : Int) ^ L = B at *
  generalize hq : (m / 2) / B = Q at *
  generalize (m / 2) % B = R at *
  have hm : m = (m % 2 + 2 * R) + (2 * B) * Q := by
    rw [Int.mul_assoc]
    omega
  rw [e]
  generalize hT : m % 2 + 2 * R = T at hm
  have hT0 : 0 ≤ T ∧ T < 2 * B := by omega
  rw [hm,Int.add_mul_emod_self_left,Int.emod_eq_of_lt hT0.1 hT0.2,← hT]
theorem getL_eq {x : List UInt8} {n : Int} : ∀ (P : List Int) (v : Int) (i : Nat),i + P.length ≤ 64 → (∀ j q,P[j]? = some q → bitAt x q = onB n (i + j)) → getL x v i P = v + 2 ^ i * ((n / 2 ^ i) % 2 ^ P.length)
  | [],v,i,_,_ => by simp [getL,Int.emod_one]
  | p :: P,v,i,hi,h => by
    simp only [List.length_cons] at hi
    have h0 := h 0 p rfl
    rw [Nat.add_zero,onB_eq n (by omega)] at h0
    rw [getL,getL_eq (n := n) P _ (i + 1) (by omega) (fun j q hj => by rw [h (j + 1) q (by simpa using hj)]; congr 1; omega),h0,List.length_cons,pow_split]
    have e1 : n / 2 ^ (i + 1) = n / 2 ^ i / 2 := by rw [Int.pow_succ,Int.ediv_ediv_of_nonneg (Int.pow_nonneg (by decide))]
    rw [e1,Int.pow_succ]
    have h2 : n / 2 ^ i % 2 = 0 ∨ n / 2 ^ i % 2 = 1 := by omega
    generalize n / 2 ^ i = m at h2
    generalize (m / 2) % 2 ^ P.length = R
    generalize (2 : Int) ^ i = B
    rcases h2 with h2 | h2
    · rw [h2,if_neg (by decide),Int.mul_add,Int.mul_zero,Int.mul_assoc]
      omega
    · rw [h2,if_pos (by decide),Int.mul_add,Int.mul_one,Int.mul_assoc]
      omega
def signV (s : Sgl) (v : Int) : Int := if v > (endsV s).2 then v - 2 * halfV s else v
def getV (b : List UInt8) (s : Sgl) : Int × Bool := if rightG s b.length = true then (signV s (getL b 0 0 (placesV s)),true) else (0,false)
theorem sign_back {s : Sgl} {n : Int} (h : 1 ≤ s.len ∧ s.len ≤ 32) (hf : fitsV s n = true) : signV s (n % 2 ^ s.len.toNat) = n := by
  have h2 : (2 : Int) ^ s.len.toNat = 2 * halfV s := by
    obtain ⟨k,hk⟩ : ∃ k : Nat,s.len.toNat = k + 1 := ⟨s.len.toNat - 1,by omega⟩
    rw [halfV,hk,Int.pow_succ,Int.mul_comm]
    rfl
  obtain ⟨h1,_⟩ := half_ok h
  rw [h2]
  unfold fitsV at hf
  simp only [Bool.and_eq_true,decide_eq_true_eq] at hf
  unfold signV
  unfold endsV at hf ⊢
  generalize halfV s = x at *
  split at hf
  · rename_i hs
    simp only [hs,if_true] at hf ⊢
    by_cases hn : 0 ≤ n
    · rw [Int.emod_eq_of_lt hn (by omega),if_neg (by omega)]
    · have : n % (2 * x) = n + 2 * x := by
        rw [← Int.add_emod_right,Int.emod_eq_of_lt (by omega) (by omega)]
      rw [this,if_pos (by omega)]
      omega
  · rename_i hs
    simp only [hs,if_false,Bool.false_eq_true] at hf ⊢
    rw [Int.emod_eq_of_lt (by omega) (by omega),if_neg (by omega)]
theorem rightG_more {s : Sgl} {n : Int} (h : rightG s n = true) : rightG s 8 = true := by
  obtain ⟨h1,h2,h3,h4⟩ := rightG_true h
  unfold rightG at h ⊢
  rw [if_neg (by omega)] at h
  rw [if_neg (by omega)]
  have ha : (walkP s).all (fun p => decide (p < 8 * 8)) = true := by
    rw [List.all_eq_true]
    intro p hp
    have := h4 p hp
    exact decide_eq_true (by omega)
  have hb : (walkP s).all (fun p => decide (p < 8 * n)) = true := by
    rw [List.all_eq_true]
    intro p hp
    exact decide_eq_true (h4 p hp)
  rw [hb,if_neg (by decide)] at h
  rw [ha,if_neg (by decide)]
  exact h
/-- No two places are the same. -/
def apartV (s o : Sgl) (n : Int) : Bool := rightG s n && rightG o n && decide ((walkP s ++ walkP o).Nodup)
theorem places_perm {s : Sgl} {n : Int} (h : rightG s n = true) : (placesV s).Perm (walkP s) ∧ (placesV s).length = s.len.toNat := by
  have h8 := rightG_more h
  unfold placesV
  rw [if_pos h8]
  split
  · exact ⟨List.reverse_perm _,by rw [List.length_reverse,walkP,walkL_len]⟩
  · exact ⟨List.Perm.refl _,by rw [walkP,walkL_len]⟩
/-- What is put is got. -/
theorem put_get {s o : Sgl} {b : List UInt8} {n m : Int} (ha : apartV s o b.length = true) (h1 : (putV b o m).2 = true) (h2 : (putV (putV b o m).1 s n).2 = true) :
    getV (putV (putV b o m).1 s n).1 s = (n,true) ∧ getV (putV (putV b o m).1 s n).1 o = (m,true) ∧ (putV (putV b o m).1 s n).1.length = b.length := by
  unfold apartV at ha
  simp only [Bool.and_eq_true,decide_eq_true_eq] at ha
  obtain ⟨⟨rs,ro⟩,hN⟩ := ha
  obtain ⟨ps,ls⟩ := places_perm rs
  obtain ⟨po,lo⟩ := places_perm ro
  rw [List.nodup_append] at hN
  obtain ⟨ns,no,nd⟩ := hN
  have ns' := ps.nodup_iff.2 ns
  have no' := po.nodup_iff.2 no
  have hfo : fitsV o m = true := by
    unfold putV at h1
    split at h1
    · rename_i h; exact h.2
    · cases h1
  have e1 : putV b o m = (putL m b 0 (placesV o),true) := by rw [putV,if_pos ⟨ro,hfo⟩]
  rw [e1] at h2 ⊢
  simp only at h2 ⊢
  have hl1 : (putL m b 0 (placesV o)).length = b.length := putL_len _ _ _ _
  have hfs : fitsV s n = true := by
    unfold putV at h2
    split at h2
    · rename_i h; exact h.2
    · cases h2
  have e2 : putV (putL m b 0 (placesV o)) s n = (putL n (putL m b 0 (placesV o)) 0 (placesV s),true) := by rw [putV,if_pos ⟨by rw [hl1]; exact rs,hfs⟩]
  rw [e2]
  have hl2 : (putL n (putL m b 0 (placesV o)) 0 (placesV s)).length = b.length := by rw [putL_len,hl1]
  have ms := (places_mem rs).1
  have mo := (places_mem ro).1
  have bs : ∀ p ∈ placesV s,0 ≤ p ∧ p.toNat / 8 < (putL m b 0 (placesV o)).length := fun p hp => by have := ms p hp; rw [hl1]; omega
  have bo : ∀ p ∈ placesV o,0 ≤ p ∧ p.toNat / 8 < b.length := fun p hp => by have := mo p hp; omega
  obtain ⟨_,lens,_⟩ := rightG_true rs
  obtain ⟨_,leno,_⟩ := rightG_true ro
  refine ⟨?_,?_,hl2⟩
  · rw [getV,if_pos (by rw [hl2]; exact rs),getL_eq (n := n) (placesV s) 0 0 (by rw [ls]; omega) (fun j q hj => ?_)]
    · rw [ls]
      have := sign_back lens hfs
      simp only [Int.pow_zero,Int.ediv_one,Int.one_mul,Int.zero_add]
      rw [this]
    · have hq := List.mem_of_getElem? hj
      exact (putL_bit (placesV s) _ 0 q bs ns' (ms q hq).1).2 j hj
  · rw [getV,if_pos (by rw [hl2]; exact ro),getL_eq (n := m) (placesV o) 0 0 (by rw [lo]; omega) (fun j q hj => ?_)]
    · rw [lo]
      have := sign_back leno hfo
      simp only [Int.pow_zero,Int.ediv_one,Int.one_mul,Int.zero_add]
      rw [this]
    · have hq := List.mem_of_getElem? hj
      have hno : q ∉ placesV s := fun h => nd q (ps.mem_iff.1 h) q (po.mem_iff.1 hq) rfl
      rw [(putL_bit (placesV s) _ 0 q bs ns' (mo q hq).1).1 hno]
      exact (putL_bit (placesV o) _ 0 q bo no' (mo q hq).1).2 j hj
end Go.Proofs.Ytcdmhigmgpflbaa.Pe


namespace Go.Proofs.Ytcdmhigmgpflbaa.Pe
open Go.Pe Go.RowKit
open Nat renaming reduceAdd → zA,reduceSub → zB,reduceMul → zC,reduceLT → zD,reduceLeDiff → zE,reduceEqDiff → zF,reduceBEq → zG
open Int renaming reduceToNat → zH,reduceLT → zI,reduceLE → zJ,reduceEq → zK,reduceNe → zL,reduceAdd → zM,reduceSub → zN,reduceMul → zO,reduceNeg → zP
set_option maxRecDepth 20000
set_option maxHeartbeats 4000000
set_option linter.unusedSimpArgs false
set_option linter.unusedVariables false
/-- Turned round as far as so many from both ends. -/
def mixL (i : Nat) (l : List Int) : List Int := (List.range l.length).map fun j => if j < i ∨ l.length ≤ j + i then l.getD (l.length - 1 - j) 0 else l.getD j 0
theorem mixL_len (i : Nat) (l : List Int) : (mixL i l).length = l.length := by simp [mixL]
theorem mixL_get (i : Nat) (l : List Int) {j : Nat} (h : j < l.length) : (mixL i l).getD j 0 = if j < i ∨ l.length ≤ j + i then l.getD (l.length - 1 - j) 0 else l.getD j 0 := by
  simp [mixL,List.getD_eq_getElem?_getD,h]
theorem list_ext0 {a b : List Int} (hl : a.length = b.length) (h : ∀ j,j < a.length → a.getD j 0 = b.getD j 0) : a = b := by
  refine List.ext_getElem hl fun j h1 h2 => ?_
  have := h j h1
  simpa [List.getD_eq_getElem?_getD,h1,h2] using this
theorem mixL_zero (l : List Int) : mixL 0 l = l := by
  refine list_ext0 (mixL_len _ _) fun j hj => ?_
  rw [mixL_len] at hj
  rw [mixL_get _ _ hj,if_neg (by omega)]
theorem mixL_half (l : List Int) : mixL (l.length / 2) l = l.reverse := by
  refine list_ext0 (by rw [mixL_len,List.length_reverse]) fun j hj => ?_
  rw [mixL_len] at hj
  have hr : l.reverse.getD j 0 = l.getD (l.length - 1 - j) 0 := by
    rw [List.getD_eq_getElem?_getD,List.getElem?_reverse hj,← List.getD_eq_getElem?_getD]
  rw [mixL_get _ _ hj,hr]
  split
  · rfl
  · have : l.length - 1 - j = j := by omega
    rw [this]
theorem set_getD (l : List Int) (i : Nat) (x : Int) (j : Nat) (h : i < l.length) : (l.set i x).getD j 0 = if j = i then x else l.getD j 0 := by
  simp only [List.getD_eq_getElem?_getD,List.getElem?_set]
  by_cases hj : i = j
  · subst hj; simp [h]
  · rw [if_neg hj,if_neg (fun e => hj e.symm)]
theorem mixL_step {i : Nat} {l : List Int} (h : i < l.length / 2) : ((mixL i l).set i (l.getD (l.length - 1 - i) 0)).set (l.length - 1 - i) (l.getD i 0) = mixL (i + 1) l := by
  refine list_ext0 (by simp [mixL_len]) fun j hj => ?_
  rw [List.length_set,List.length_set,mixL_len] at hj
  rw [set_getD _ _ _ _ (by rw [List.length_set,mixL_len]; omega),set_getD _ _ _ _ (by rw [mixL_len]; omega),mixL_get _ _ hj,mixL_get _ _ hj]
  by_cases h1 : j = l.length - 1 - i
  · rw [if_pos h1,if_pos (by omega)]
    congr 1
    omega
  · rw [if_neg h1]
    by_cases h2 : j = i
    · rw [if_pos h2,if_pos (by omega),h2]
    · rw [if_neg h2]
      by_cases h3 : j < i ∨ l.length ≤ j + i
      · rw [if_pos h3,if_pos (by omega)]
      · rw [if_neg h3,if_neg (by omega)]
theorem rowI_set (l : List Int) (j : Nat) (x : Int) : (l.map rowI).set j [PI x] = (l.set j x).map rowI := by
  simp [List.map_set,rowI]
theorem places_calls (s : Sgl) : PureCalls Try.prog 105 [s.pv] (intsPV (placesV s)) := by
  refine PureCalls.ofF tabOK mixed Try.func105 rfl rfl (by decide +kernel) (by simp [Try.ntmps105]) ?_
  have c1 := rightG_calls s 8
  simp only [go_sem,zA,zB,zC,zD,zE,zF,zG,zH,zI,zJ,zK,zL,zM,zN,zO,zP,↓reduceIte,reduceCtorEq,Try.ntmps105,Try.results105,Sgl.pv,Sgl.cells]
  cases hr : rightG s 8 with
  | false =>
    have e : placesV s = [] := by rw [placesV,if_neg (by rw [hr]; decide)]
    rw [hr] at c1
    (refine CallA.pure (c1) (by simp only [go_sem,zA,zB,zC,zD,zE,zF,zG,zH,zI,zJ,zK,zL,zM,zN,zO,zP,↓reduceIte,reduceCtorEq,Sgl.pv,Sgl.cells,e,List.map_nil,Try.ntmps105,Try.results105] <;> first | rfl | decide) ?_; simp only [go_sem,zA,zB,zC,zD,zE,zF,zG,zH,zI,zJ,zK,zL,zM,zN,zO,zP,↓reduceIte,reduceCtorEq,Sgl.pv,Sgl.cells,e,List.map_nil,Try.ntmps105,Try.results105])
    done
  | true =>
  rw [hr] at c1
  obtain ⟨_,hlen,hst,hlt⟩ := rightG_true hr
  (refine CallA.pure (c1) (by simp only [go_sem,zA,zB,zC,zD,zE,zF,zG,zH,zI,zJ,zK,zL,zM,zN,zO,zP,↓reduceIte,reduceCtorEq,Sgl.pv,Sgl.cells,Try.ntmps105,Try.results105] <;> first | rfl | decide) ?_; simp only [go_sem,zA,zB,zC,zD,zE,zF,zG,zH,zI,zJ,zK,zL,zM,zN,zO,zP,↓reduceIte,reduceCtorEq,Sgl.pv,Sgl.cells,Try.ntmps105,Try.results105])
  refine CallA.into tabOK mixed Try.func103 rfl rfl (by decide +kernel) (by simp [Try.ntmps103]) ?_
  simp only [go_sem,zA,zB,zC,zD,zE,zF,zG,zH,zI,zJ,zK,zL,zM,zN,zO,zP,↓reduceIte,reduceCtorEq,Try.ntmps103,Try.results103]
  have hL : ((s.len.toNat : Nat) : Int) = s.len := by omega
  generalize hN : s.len.toNat = N at hL
  have hW : walkP s = walkL s.big N s.start := by rw [walkP,hN]
  refine ⟨_,_,_,[.ptr 2 0],_,⟨by simp only [go_sem,zA,zB,zC,zD,zE,zF,zG,zH,zI,zJ,zK,zL,zM,zN,zO,zP,↓reduceIte,reduceCtorEq],rfl,by simp only [go_sem,zA,zB,zC,zD,zE,zF,zG,zH,zI,zJ,zK,zL,zM,zN,zO,zP,↓reduceIte,reduceCtorEq],Try.func135,rfl,rfl,by decide +kernel,by decide +kernel,by decide +kernel,by simp only [go_sem,zA,zB,zC,zD,zE,zF,zG,zH,zI,zJ,zK,zL,zM,zN,zO,zP,↓reduceIte,reduceCtorEq,Try.ntmps135,Try.results135],?_,?_,?_⟩⟩
  · simp only [go_sem,zA,zB,zC,zD,zE,zF,zG,zH,zI,zJ,zK,zL,zM,zN,zO,zP,↓reduceIte,reduceCtorEq]
  · simp only [go_sem,zA,zB,zC,zD,zE,zF,zG,zH,zI,zJ,zK,zL,zM,zN,zO,zP,↓reduceIte,reduceCtorEq]
  intro D l R0
  simp only [go_sem,zA,zB,zC,zD,zE,zF,zG,zH,zI,zJ,zK,zL,zM,zN,zO,zP,↓reduceIte,reduceCtorEq,rangeHp,Try.ntmps135,Try.results135]
  have hWl : (walkP s).length = N := by rw [hW,walkL_len]
  refine wpY_loopS (fun m st => ∃ (k v : Nat) (p : Int),k ≤ N ∧ m = N - k ∧ (0 ≤ p ∧ p < 79) ∧ (walkP s).drop k = walkL s.big (N - k) p ∧ st = ⟨29,[(0,.lit (.func (.yield l) #[] #[])),(1,.ptr 2 0),(3,PI p),(7,PI s.len),(8,PI k)],
    [(4,.obj l (.loop (lpOf R0 none))),(3,.obj D (.deferred (some []))),(2,.box 85 s.cells),(100,.arr 3 1 (((walkP s).take k).map rowI) v false),(1,.box 58 [.own 100 v]),(0,.box 85 s.cells)],200,5⟩) ⟨N,_,WeakS.nil 1 0 100 3 1 58 _ rfl rfl rfl (.weak ?_),0,0,s.start,by omega,rfl,by omega,by rw [hW]; rfl,rfl⟩ ?_
  · simp only [go_sem,zA,zB,zC,zD,zE,zF,zG,zH,zI,zJ,zK,zL,zM,zN,zO,zP,↓reduceIte,reduceCtorEq,Int.natCast_zero,Sgl.cells,refsIn,refsInL,Blk.refsIn,List.take_zero,List.map_nil,List.set_cons_zero]
  rintro m st ⟨k,v,p,hk,rfl,hp,hdr,rfl⟩
  by_cases hc : k < N
  · have f1 : decide ((k : Int) < s.len) = true := decide_eq_true (by omega)
    have hd := hdr
    rw [walkL_cons (by omega)] at hd
    obtain ⟨ht1,ht2⟩ := take_next hd
    have hpl : p < 8 * 8 := hlt p (List.mem_of_mem_drop (i := k) (by rw [hd]; exact List.mem_cons_self))
    have hw1 := wrapIN (i := k) (by omega)
    have hp2 := next_ok (big := s.big) (p := p) (m := 64) ⟨hp.1,by omega⟩
    have hrl : (((walkP s).take k).map rowI).length = k := by rw [List.length_map,List.length_take,hWl]; omega
    have hnew : ((walkP s).take k).map rowI ++ [[PI p]] = ((walkP s).take (k + 1)).map rowI := by rw [ht1,List.map_append]; rfl
    simp only [go_sem,zA,zB,zC,zD,zE,zF,zG,zH,zI,zJ,zK,zL,zM,zN,zO,zP,↓reduceIte,reduceCtorEq,f1,Sgl.cells]
    refine ⟨rfl,rfl,_,rfl,?_⟩
    simp only [go_sem,zA,zB,zC,zD,zE,zF,zG,zH,zI,zJ,zK,zL,zM,zN,zO,zP,↓reduceIte,reduceCtorEq,hrl,hnew,Try.ntmps135,Try.results135]
    refine ⟨⟨by omega,by omega⟩,?_⟩
    by_cases hb : s.big = false
    · have e : nextP s.big p = p + 1 := by rw [nextP,if_pos hb]
      have gb : (!s.big) = true := by rw [hb]; rfl
      have wp : IntKind.wrap .i64 (p + 1) = p + 1 := by rw [wrapI64_eq]; omega
      rw [e] at hp2 ht2
      simp only [go_sem,zA,zB,zC,zD,zE,zF,zG,zH,zI,zJ,zK,zL,zM,zN,zO,zP,↓reduceIte,reduceCtorEq,gb,wp]
      refine ⟨N - (k + 1),_,by omega,.weak ?_,k + 1,v + 1,p + 1,by omega,rfl,by omega,ht2,rfl⟩
      simp only [go_sem,zA,zB,zC,zD,zE,zF,zG,zH,zI,zJ,zK,zL,zM,zN,zO,zP,↓reduceIte,reduceCtorEq,hw1,refsIn,refsInL,Blk.refsIn]
    · have gb : (!s.big) = false := by simpa using hb
      by_cases h8 : p.tmod 8 = 0
      · have e : nextP s.big p = p + 15 := by rw [nextP,if_neg hb,if_pos h8]
        have g8 : decide (p.tmod 8 = 0) = true := decide_eq_true h8
        have wp : IntKind.wrap .i64 (p + 15) = p + 15 := by rw [wrapI64_eq]; omega
        rw [e] at hp2 ht2
        simp only [go_sem,zA,zB,zC,zD,zE,zF,zG,zH,zI,zJ,zK,zL,zM,zN,zO,zP,↓reduceIte,reduceCtorEq,gb,g8,wp]
        refine ⟨N - (k + 1),_,by omega,.weak ?_,k + 1,v + 1,p + 15,by omega,rfl,by omega,ht2,rfl⟩
        simp only [go_sem,zA,zB,zC,zD,zE,zF,zG,zH,zI,zJ,zK,zL,zM,zN,zO,zP,↓reduceIte,reduceCtorEq,hw1,refsIn,refsInL,Blk.refsIn]
      · have e : nextP s.big p = p - 1 := by rw [nextP,if_neg hb,if_neg h8]
        have g8 : decide (p.tmod 8 = 0) = false := decide_eq_false h8
        have wp : IntKind.wrap .i64 (p - 1) = p - 1 := by rw [wrapI64_eq]; omega
        rw [e] at hp2 ht2
        simp only [go_sem,zA,zB,zC,zD,zE,zF,zG,zH,zI,zJ,zK,zL,zM,zN,zO,zP,↓reduceIte,reduceCtorEq,gb,g8,wp]
        refine ⟨N - (k + 1),_,by omega,.weak ?_,k + 1,v + 1,p - 1,by omega,rfl,by omega,ht2,rfl⟩
        simp only [go_sem,zA,zB,zC,zD,zE,zF,zG,zH,zI,zJ,zK,zL,zM,zN,zO,zP,↓reduceIte,reduceCtorEq,hw1,refsIn,refsInL,Blk.refsIn]
  · have f1 : decide ((k : Int) < s.len) = false := decide_eq_false (by omega)
    have hk : k = N := by omega
    simp only [go_sem,zA,zB,zC,zD,zE,zF,zG,zH,zI,zJ,zK,zL,zM,zN,zO,zP,↓reduceIte,reduceCtorEq,f1,Sgl.cells,Try.ntmps135,Try.results135]
    refine ⟨none,rfl,?_⟩
    have htk : (walkP s).take k = walkP s := List.take_of_length_le (by rw [hWl]; omega)
    rw [htk]
    cases hbg : s.big with
    | false =>
      have e : placesV s = walkP s := by rw [placesV,if_pos hr,if_neg (by rw [hbg]; decide)]
      simp only [go_sem,zA,zB,zC,zD,zE,zF,zG,zH,zI,zJ,zK,zL,zM,zN,zO,zP,↓reduceIte,reduceCtorEq,hbg,e,Try.ntmps105,Try.results105]
      done
    | true =>
      have e : placesV s = (walkP s).reverse := by rw [placesV,if_pos hr,if_pos hbg]
      have hw2 : IntKind.wrap .i64 ((N : Int).tdiv 2) = ((N / 2 : Nat) : Int) := by
        rw [show (N : Int).tdiv 2 = ((N / 2 : Nat) : Int) from rfl,wrapI64_eq]; omega
      simp only [go_sem,zA,zB,zC,zD,zE,zF,zG,zH,zI,zJ,zK,zL,zM,zN,zO,zP,↓reduceIte,reduceCtorEq,hbg,List.length_map,hWl,hw2,Try.ntmps105,Try.results105]
      clear hdr htk hk hc f1
      generalize walkP s = W at hWl e
      refine wpA_loop (fun m st => ∃ i : Nat,i ≤ N / 2 ∧ m = N / 2 - i ∧ st = ⟨48,[(3,.ptr 1 0),(20,PI ((N / 2 : Nat) : Int)),(21,PI i)],[(3,.obj D (.deferred (some []))),(100,.arr 3 1 ((mixL i W).map rowI) v false),(1,.box 58 [.own 100 v])],200,0⟩) ⟨N / 2,_,?_,0,by omega,rfl,rfl⟩ ?_
      · simp only [go_sem,zA,zB,zC,zD,zE,zF,zG,zH,zI,zJ,zK,zL,zM,zN,zO,zP,↓reduceIte,reduceCtorEq,Int.natCast_zero,mixL_zero,refsIn,refsInL,Blk.refsIn]
      rintro m st ⟨i,hi,rfl,rfl⟩
      have hml : ((mixL i W).map rowI).length = N := by rw [List.length_map,mixL_len,hWl]
      by_cases hc : i < N / 2
      · have f1 : decide ((i : Int) < ((N / 2 : Nat) : Int)) = true := decide_eq_true (by omega)
        have w1 : IntKind.wrap .i64 ((N : Int) - 1) = (N : Int) - 1 := by rw [wrapI64_eq]; omega
        have w2 : IntKind.wrap .i64 ((N : Int) - 1 - (i : Int)) = ((N - 1 - i : Nat) : Int) := by rw [wrapI64_eq]; omega
        have w3 := wrapIN (i := i) (by omega)
        have b1 : (0 : Int) ≤ (i : Int) ∧ (i : Int) < (N : Int) := by omega
        have b2 : (0 : Int) ≤ ((N - 1 - i : Nat) : Int) ∧ ((N - 1 - i : Nat) : Int) < (N : Int) := by omega
        have b3 : i < N := by omega
        have b4 : N - 1 - i < N := by omega
        have r1 : ((mixL i W).map rowI).getD i [] = [PI (W.getD i 0)] := by
          rw [rowI_getD (by rw [mixL_len]; omega),mixL_get _ _ (by omega),if_neg (by omega)]
        have r2 : ((mixL i W).map rowI).getD (N - 1 - i) [] = [PI (W.getD (N - 1 - i) 0)] := by
          rw [rowI_getD (by rw [mixL_len]; omega),mixL_get _ _ (by omega),if_neg (by omega)]
        simp only [go_sem,zA,zB,zC,zD,zE,zF,zG,zH,zI,zJ,zK,zL,zM,zN,zO,zP,↓reduceIte,reduceCtorEq,f1,w1,w2,hml,b1.1,b1.2,b2.1,b2.2,b3,b4,r1,r2,Int.toNat_natCast,rowI_set,List.length_cons,List.length_nil,List.length_map,List.length_set,mixL_len,hWl,Nat.le_add_left,List.headD_cons,List.cons_append,List.nil_append,List.drop_succ_cons,List.drop_zero]
        have hst : ((mixL i W).set i (W.getD (N - 1 - i) 0)).set (N - 1 - i) (W.getD i 0) = mixL (i + 1) W := by
          have := mixL_step (l := W) (i := i) (by rw [hWl]; exact hc)
          rwa [hWl] at this
        refine endD_intro (by decide +kernel) ?_
        simp only [go_sem,zA,zB,zC,zD,zE,zF,zG,zH,zI,zJ,zK,zL,zM,zN,zO,zP,↓reduceIte,reduceCtorEq]
        refine ⟨N / 2 - (i + 1),_,by omega,?_,i + 1,by omega,rfl,rfl⟩
        have r3 := rowI_getD (l := (mixL i W).set i (W.getD (N - 1 - i) 0)) (j := N - 1 - i) (by rw [List.length_set,mixL_len]; omega)
        simp only [go_sem,zA,zB,zC,zD,zE,zF,zG,zH,zI,zJ,zK,zL,zM,zN,zO,zP,↓reduceIte,reduceCtorEq,w3,r3,rowI_set,hst,List.drop_succ_cons,List.drop_zero,refsIn,refsInL,Blk.refsIn]
        done
      · have f1 : decide ((i : Int) < ((N / 2 : Nat) : Int)) = false := decide_eq_false (by omega)
        have hi : i = W.length / 2 := by rw [hWl]; omega
        rw [hi] at f1 ⊢
        rw [mixL_half]
        simp only [go_sem,zA,zB,zC,zD,zE,zF,zG,zH,zI,zJ,zK,zL,zM,zN,zO,zP,↓reduceIte,reduceCtorEq,f1,e,Try.ntmps105,Try.results105]
        done
end Go.Proofs.Ytcdmhigmgpflbaa.Pe


namespace Go.Proofs.Ytcdmhigmgpflbaa.Pe
open Go.Pe Go.RowKit
open Nat renaming reduceAdd → zA,reduceSub → zB,reduceMul → zC,reduceLT → zD,reduceLeDiff → zE,reduceEqDiff → zF,reduceBEq → zG
open Int renaming reduceToNat → zH,reduceLT → zI,reduceLE → zJ,reduceEq → zK,reduceNe → zL,reduceAdd → zM,reduceSub → zN,reduceMul → zO,reduceNeg → zP
set_option maxRecDepth 20000
set_option maxHeartbeats 4000000
set_option linter.unusedSimpArgs false
set_option linter.unusedVariables false
def getSt (s : Sgl) (b : List UInt8) (P : List Int) (v : Int) (i : Nat) : St := ⟨42,[(0,bytesPV b),(3,.ptr 0 0),(6,PI v),(16,intsPV P),(17,PI P.length),(18,PI i)],[(0,.box 85 s.cells)],200,0⟩
def getI (s : Sgl) (b : List UInt8) (P : List Int) (m : Nat) (st : St) : Prop := ∃ (i : Nat) (v : Int),i ≤ P.length ∧ m = P.length - i ∧ (0 ≤ v ∧ v < 2 ^ i) ∧ getL b v i (P.drop i) = getL b 0 0 P ∧ st = getSt s b P v i
theorem gbit_all : ∀ k,k < 8 → ∀ n : Nat,n < 256 → bitsA .and .u8 ((n : Int).fdiv (2 ^ min k 8)) 1 = bI (n.testBit k) := by decide +kernel
theorem shl_bit (c : Bool) {i : Nat} (h : i < 32) : IntKind.wrap .i64 (bI c * 2 ^ min i 64) = if c = true then 2 ^ i else 0 := by
  rw [Nat.min_eq_left (by omega)]
  cases c with
  | false => simp [bI,wrapI64_eq]
  | true =>
    have h1 : (1 : Int) ≤ 2 ^ i ∧ (2 : Int) ^ i ≤ 2147483648 := by
      have a : 1 ≤ 2 ^ i := Nat.one_le_two_pow
      have b : 2 ^ i ≤ 2 ^ 31 := Nat.pow_le_pow_right (by decide) (by omega)
      have c : ((2 ^ i : Nat) : Int) = 2 ^ i := by push_cast; rfl
      rw [← c]
      omega
    rw [if_pos rfl,bI,if_pos rfl,Int.one_mul]
    generalize (2 : Int) ^ i = x at h1
    rw [wrapI64_eq]
    omega
theorem or_bit (c : Bool) {v : Int} {i : Nat} (h : i < 32) (hv : 0 ≤ v ∧ v < 2 ^ i) : bitsA .or .i64 v (if c = true then 2 ^ i else 0) = v + (if c = true then 2 ^ i else 0) := by
  obtain ⟨a,rfl⟩ : ∃ a : Nat,v = a := ⟨v.toNat,by omega⟩
  have e : ((2 ^ i : Nat) : Int) = 2 ^ i := by push_cast; rfl
  have ha : a < 2 ^ i := by have := hv.2; rw [← e] at this; omega
  have hb : 2 ^ i ≤ 2 ^ 31 := Nat.pow_le_pow_right (by decide) (by omega)
  have key : ∀ d : Nat,d ≤ 2 ^ 31 → a ||| d = a + d → bitsA .or .i64 (a : Int) (d : Int) = (a : Int) + (d : Int) := by
    intro d hd hor
    show IntKind.wrap .i64 ((BitVec.ofInt 64 (a : Int) ||| BitVec.ofInt 64 (d : Int)).toNat : Int) = _
    have e1 : (BitVec.ofInt 64 (a : Int)).toNat = a := by rw [BitVec.toNat_ofInt]; omega
    have e2 : (BitVec.ofInt 64 (d : Int)).toNat = d := by rw [BitVec.toNat_ofInt]; omega
    rw [BitVec.toNat_or,e1,e2,hor,wrapI64_eq]
    omega
  cases c with
  | false => 
    have := key 0 (by decide) (by simp)
    simpa using this
  | true =>
    have := key (2 ^ i) hb (by
      have := Nat.two_pow_add_eq_or_of_lt ha 1
      rw [Nat.mul_one] at this
      rw [Nat.or_comm,← this,Nat.add_comm])
    rw [e] at this
    simpa using this
theorem get_calls (b : List UInt8) (s : Sgl) (hl : b.length ≤ 100) : PureCalls Try.prog 65 [bytesPV b,s.pv] (.tup [PI (getV b s).1,PB (getV b s).2]) := by
  refine PureCalls.of tabOK mixed Try.func65 rfl rfl (by decide +kernel) (by simp [Try.ntmps65]) ?_
  have c1 := rightG_calls s b.length
  have c3 := places_calls s
  simp only [go_sem,zA,zB,zC,zD,zE,zF,zG,zH,zI,zJ,zK,zL,zM,zN,zO,zP,↓reduceIte,reduceCtorEq,Try.ntmps65,Try.results65,Sgl.pv,Sgl.cells,rowsB_length]
  cases hr : rightG s b.length with
  | false =>
    rw [hr] at c1
    have e : getV b s = (0,false) := by rw [getV,if_neg (by rw [hr]; simp)]
    rw [e]
    (refine CallA.pure (c1) (by simp only [go_sem,zA,zB,zC,zD,zE,zF,zG,zH,zI,zJ,zK,zL,zM,zN,zO,zP,↓reduceIte,reduceCtorEq,Sgl.pv,Sgl.cells,rowsB_length,rowsB_nil,Try.ntmps65,Try.results65] <;> first | rfl | decide) ?_; simp only [go_sem,zA,zB,zC,zD,zE,zF,zG,zH,zI,zJ,zK,zL,zM,zN,zO,zP,↓reduceIte,reduceCtorEq,Sgl.pv,Sgl.cells,rowsB_length,rowsB_nil,Try.ntmps65,Try.results65])
  | true =>
  rw [hr] at c1
  obtain ⟨hbl,hlen,hst,hlt⟩ := rightG_true hr
  (refine CallA.pure (c1) (by simp only [go_sem,zA,zB,zC,zD,zE,zF,zG,zH,zI,zJ,zK,zL,zM,zN,zO,zP,↓reduceIte,reduceCtorEq,Sgl.pv,Sgl.cells,rowsB_length] <;> first | rfl | decide) ?_; simp only [go_sem,zA,zB,zC,zD,zE,zF,zG,zH,zI,zJ,zK,zL,zM,zN,zO,zP,↓reduceIte,reduceCtorEq,Sgl.pv,Sgl.cells,rowsB_length])
  have e : getV b s = (signV s (getL b 0 0 (placesV s)),true) := by rw [getV,if_pos hr]
  rw [e]
  obtain ⟨hP,hPl⟩ := places_mem hr
  (refine CallA.pure (c3) (by simp only [go_sem,zA,zB,zC,zD,zE,zF,zG,zH,zI,zJ,zK,zL,zM,zN,zO,zP,↓reduceIte,reduceCtorEq,Sgl.pv,Sgl.cells,rowsB_length,List.length_map] <;> first | rfl | decide) ?_; simp only [go_sem,zA,zB,zC,zD,zE,zF,zG,zH,zI,zJ,zK,zL,zM,zN,zO,zP,↓reduceIte,reduceCtorEq,Sgl.pv,Sgl.cells,rowsB_length,List.length_map])
  clear e c1 c3 hr
  generalize placesV s = P at hP hPl
  refine wpA_loop (getI s b P) ⟨P.length,_,?_,0,0,by omega,rfl,by decide,rfl,rfl⟩ ?_
  · simp only [go_sem,zA,zB,zC,zD,zE,zF,zG,zH,zI,zJ,zK,zL,zM,zN,zO,zP,↓reduceIte,reduceCtorEq,getSt,Sgl.cells,Int.natCast_zero,refsIn,refsInL,Blk.refsIn]
  rintro m st ⟨i,v,hi,rfl,hv,hg,rfl⟩
  by_cases hc : i < P.length
  · have f1 : decide ((i : Int) < (P.length : Int)) = true := decide_eq_true (by omega)
    have f2 := rowI_getD hc
    have f3 : (0 : Int) ≤ (i : Int) ∧ (i : Int) < (P.length : Int) := by omega
    have hp := hP (P.getD i 0) (getD_mem hc)
    obtain ⟨p,hpp⟩ : ∃ p,P.getD i 0 = p := ⟨_,rfl⟩
    rw [hpp] at hp f2
    have h8 : IntKind.wrap .i64 (p.tdiv 8) = ((p.toNat / 8 : Nat) : Int) := by
      rw [Int.tdiv_eq_ediv_of_nonneg hp.1,wrapI64_eq]; omega
    have h9 : p.tmod 8 = ((p.toNat % 8 : Nat) : Int) := by
      rw [Int.tmod_eq_emod_of_nonneg hp.1]; omega
    have hj : p.toNat / 8 < b.length := by omega
    have hj0 : (0 : Int) ≤ ((p.toNat / 8 : Nat) : Int) ∧ ((p.toNat / 8 : Nat) : Int) < (b.length : Int) := by omega
    have h10 : (0 : Int) ≤ ((p.toNat % 8 : Nat) : Int) := by omega
    have gx : (rowsB b).getD (p.toNat / 8) [] = [.lit (.int .u8 (b.getD (p.toNat / 8) 0).toNat)] := rowsB_getD hj
    have hd := drop_getD hc
    rw [hpp] at hd
    rw [hd] at hg
    have hw1 := wrapIN (i := i) (by omega)
    have hi0 : (0 : Int) ≤ (i : Int) := by omega
    have be : bitsA .and .u8 ((((b.getD (p.toNat / 8) 0).toNat : Nat) : Int).fdiv (2 ^ min (p.toNat % 8) 8)) 1 = bI (bitAt b p) := gbit_all (p.toNat % 8) (Nat.mod_lt _ (by decide)) _ (UInt8.toNat_lt _)
    have wb : IntKind.wrap .i64 (bI (bitAt b p)) = bI (bitAt b p) := by cases bitAt b p <;> rfl
    have wS := shl_bit (bitAt b p) (i := i) (by omega)
    have hor := or_bit (bitAt b p) (i := i) (by omega) hv
    simp only [go_sem,zA,zB,zC,zD,zE,zF,zG,zH,zI,zJ,zK,zL,zM,zN,zO,zP,↓reduceIte,reduceCtorEq,getSt,f1,f2,f3.1,f3.2,h8,h9,h10,hj,hj0.1,hj0.2,gx,List.length_map,Int.toNat_natCast,rowsB_length,List.headD_cons,List.length_cons,List.length_nil,Nat.le_add_left,hi0,be,wb,wS,hor]
    have hg : getL b (v + (if bitAt b p = true then 2 ^ i else 0)) (i + 1) (P.drop (i + 1)) = getL b 0 0 P := hg
    have hv2 : 0 ≤ v + (if bitAt b p = true then (2 : Int) ^ i else 0) ∧ v + (if bitAt b p = true then (2 : Int) ^ i else 0) < 2 ^ (i + 1) := by
      rw [Int.pow_succ]
      split <;> omega
    refine ⟨P.length - (i + 1),_,by omega,?_,i + 1,_,by omega,rfl,hv2,hg,rfl⟩
    simp only [go_sem,zA,zB,zC,zD,zE,zF,zG,zH,zI,zJ,zK,zL,zM,zN,zO,zP,↓reduceIte,reduceCtorEq,getSt,Sgl.cells,hw1,refsIn,refsInL,Blk.refsIn]
    done
  · have f1 : decide ((i : Int) < (P.length : Int)) = false := decide_eq_false (by omega)
    have hi2 : i = P.length := by omega
    rw [hi2,List.drop_length] at hg
    have hg : v = getL b 0 0 P := hg
    obtain ⟨_,hh⟩ := half_ok hlen
    have c2 := ends_calls s hlen
    have hl0 : (0 : Int) ≤ s.len := by omega
    have hv3 : v ≤ 4294967296 := by
      have h1 : 2 ^ i ≤ 2 ^ 32 := Nat.pow_le_pow_right (by decide) (by omega)
      have e : ((2 ^ i : Nat) : Int) = 2 ^ i := by push_cast; rfl
      rw [← e] at hv
      omega
    simp only [go_sem,zA,zB,zC,zD,zE,zF,zG,zH,zI,zJ,zK,zL,zM,zN,zO,zP,↓reduceIte,reduceCtorEq,getSt,f1,Sgl.cells]
    refine CallA.into tabOK mixed Try.func109 rfl rfl (by decide +kernel) (by simp [Try.ntmps109]) ?_
    simp only [go_sem,zA,zB,zC,zD,zE,zF,zG,zH,zI,zJ,zK,zL,zM,zN,zO,zP,↓reduceIte,reduceCtorEq,Try.ntmps109,Try.results109]
    (refine CallA.pure (c2) (by simp only [go_sem,zA,zB,zC,zD,zE,zF,zG,zH,zI,zJ,zK,zL,zM,zN,zO,zP,↓reduceIte,reduceCtorEq,Sgl.pv,Sgl.cells] <;> first | rfl | decide) ?_; simp only [go_sem,zA,zB,zC,zD,zE,zF,zG,zH,zI,zJ,zK,zL,zM,zN,zO,zP,↓reduceIte,reduceCtorEq,Sgl.pv,Sgl.cells])
    rw [← hg]
    by_cases hgt : v > (endsV s).2
    · have g1 : decide (v > (endsV s).2) = true := decide_eq_true hgt
      have e : signV s v = v - 2 * halfV s := by rw [signV,if_pos hgt]
      have w1 : IntKind.wrap .i64 (v - 2 * halfV s) = v - 2 * halfV s := by
        have := half_ok hlen
        rw [wrapI64_eq]; omega
      simp only [go_sem,zA,zB,zC,zD,zE,zF,zG,zH,zI,zJ,zK,zL,zM,zN,zO,zP,↓reduceIte,reduceCtorEq,g1,hl0,hh,w1,e,Try.ntmps109,Try.results109,Try.ntmps65,Try.results65]
      done
    · have g1 : decide (v > (endsV s).2) = false := decide_eq_false hgt
      have e : signV s v = v := by rw [signV,if_neg hgt]
      simp only [go_sem,zA,zB,zC,zD,zE,zF,zG,zH,zI,zJ,zK,zL,zM,zN,zO,zP,↓reduceIte,reduceCtorEq,g1,e,Try.ntmps109,Try.results109,Try.ntmps65,Try.results65]
      done
end Go.Proofs.Ytcdmhigmgpflbaa.Pe


namespace Go.Proofs.Ytcdmhigmgpflbaa.Pe
open Go.Pe Go.RowKit
open Nat renaming reduceAdd → zA,reduceSub → zB,reduceMul → zC,reduceLT → zD,reduceLeDiff → zE,reduceEqDiff → zF,reduceBEq → zG
open Int renaming reduceToNat → zH,reduceLT → zI,reduceLE → zJ,reduceEq → zK,reduceNe → zL,reduceAdd → zM,reduceSub → zN,reduceMul → zO,reduceNeg → zP
set_option maxRecDepth 20000
set_option maxHeartbeats 4000000
set_option linter.unusedSimpArgs false
set_option linter.unusedVariables false
/-- Which bits are taken. -/
def tkOf (L : List Int) : List Bool := (List.range 64).map fun q : Nat => decide ((q : Int) ∈ L)
def tkC (L : List Int) : List PV := (tkOf L).map fun b => PB b
theorem tkC_len (L : List Int) : (tkC L).length = 64 := by simp [tkC,tkOf]
theorem tkC_get (L : List Int) {p : Int} (h : 0 ≤ p ∧ p < 64) : (tkC L).getD p.toNat .any = PB (decide (p ∈ L)) := by
  have hp : p.toNat < 64 := by omega
  have e : ((p.toNat : Nat) : Int) = p := by omega
  simp [tkC,tkOf,List.getD_eq_getElem?_getD,hp,e]
theorem tkC_set (L : List Int) {p : Int} (h : 0 ≤ p ∧ p < 64) : (tkC L).set p.toNat (PB true) = tkC (L ++ [p]) := by
  refine List.ext_getElem (by simp [tkC_len]) fun j h1 h2 => ?_
  have hj : j < 64 := by rw [tkC_len] at h2; exact h2
  rw [List.getElem_set]
  by_cases hp : p.toNat = j
  · have : (j : Int) = p := by omega
    rw [if_pos hp]
    simp [tkC,tkOf,this]
  · have : (j : Int) ≠ p := by omega
    rw [if_neg hp]
    simp [tkC,tkOf,this]
theorem tkC_drop (L : List Int) {p : Int} (h : 0 ≤ p ∧ p < 64) : List.drop (p.toNat * 1) (tkC L) = PB (decide (p ∈ L)) :: List.drop (p.toNat + 1) (tkC L) := by
  have hp : p.toNat < (tkC L).length := by rw [tkC_len]; omega
  rw [Nat.mul_one,List.drop_eq_getElem_cons hp]
  have := tkC_get L h
  simp [List.getD_eq_getElem?_getD,hp] at this
  rw [this]
theorem tkC_splice (L : List Int) {p : Int} (h : 0 ≤ p ∧ p < 64) : splice (tkC L) (p.toNat * 1) [PB true] = tkC (L ++ [p]) := by
  have hp : p.toNat < (tkC L).length := by rw [tkC_len]; omega
  rw [← tkC_set L h,Nat.mul_one,splice,List.set_eq_take_append_cons_drop,if_pos hp]
  simp
theorem dup_nodup {A W r : List Int} {k : Nat} {p : Int} (h : p ∈ A ++ W.take k) (hd : W.drop k = p :: r) : ¬ (A ++ W).Nodup := by
  intro hN
  have e : A ++ W = (A ++ W.take k) ++ (p :: r) := by rw [List.append_assoc,← hd,List.take_append_drop]
  rw [e] at hN
  exact (List.nodup_append.1 hN).2.2 p h p List.mem_cons_self rfl
theorem nd0 {A W : List Int} (h : A.Nodup) : (A ++ W.take 0).Nodup := by rw [List.take_zero,List.append_nil]; exact h
theorem apart_o {s o : Sgl} {n : Int} (h : ¬ (walkP s ++ walkP o).Nodup) : apartV s o n = false := by rw [apartV,decide_eq_false h,Bool.and_false]
theorem apart_s {s o : Sgl} {n : Int} (h : ¬ ([] ++ walkP s).Nodup) : apartV s o n = false := apart_o fun h' => h (List.nodup_append.1 h').1
theorem tkC_refs (ok : Nat → Bool) (L : List Int) : refsInL ok (tkC L) = true := refsInL_all fun x hx => by
  obtain ⟨b,_,rfl⟩ := List.mem_map.1 hx
  rfl
def apS (j : Nat) (s o : Sgl) (n : Int) (L : List Int) (defs : List (Nat × Blk)) (nx : Nat) : St := ⟨28,[(1,PI n),(4,.ptr 0 0),(5,.ptr 1 0),(9,.im 6 [s.cells,o.cells]),(10,PI 2),(11,PI j)],defs ++ [(1,.box 147 (tkC L)),(0,.box 4 [PB false])],nx,0⟩
def apI (s o : Sgl) (n : Int) (m : Nat) (st : St) (ds : List (Nat × Nat)) : Prop := (m = 2 ∧ st = apS 0 s o n [] [] 100 ∧ ds = []) ∨ (m = 1 ∧ ∃ D,st = apS 1 s o n (walkP s) [(103,.obj D (.deferred (some [])))] 200 ∧ ds = [(103,D)] ∧ rightG s n = true ∧ (walkP s).Nodup) ∨
    (m = 0 ∧ ∃ D D',st = apS 2 s o n (walkP s ++ walkP o) [(203,.obj D' (.deferred (some []))),(103,.obj D (.deferred (some [])))] 300 ∧ ds = [(203,D'),(103,D)] ∧ rightG s n = true ∧ rightG o n = true ∧ (walkP s ++ walkP o).Nodup)
theorem apI0 {s o : Sgl} {n : Int} : apI s o n 2 (apS 0 s o n [] [] 100) [] := .inl ⟨rfl,rfl,rfl⟩
def wkI (nx : Nat) (l : Nat) (R0 : Loop) (D : Nat) (s : Sgl) (n : Int) (pre : List Int) (N a b c : Nat) (rest : List (Nat × Blk)) (m : Nat) (st : St) : Prop := ∃ (k : Nat) (p : Int),k ≤ N ∧ m = N - k ∧ (0 ≤ p ∧ p < 8 * n + 15) ∧ (pre ++ (walkP s).take k).Nodup ∧ (walkP s).drop k = walkL s.big (N - k) p ∧
  st = ⟨29,[(0,.lit (.func (.yield l) #[] #[])),(1,.ptr a 0),(3,PI p),(7,PI s.len),(8,PI k)],(c,.obj l (.loop (lpOf R0 none))) :: (b,.obj D (.deferred (some []))) :: (a,.box 85 s.cells) :: rest ++ [(1,.box 147 (tkC (pre ++ (walkP s).take k))),(0,.box 4 [PB false])],nx,nx⟩
def rest0 (s : Sgl) : List (Nat × Blk) := [(100,.box 85 s.cells)]
def rest1 (o : Sgl) (D : Nat) : List (Nat × Blk) := [(200,.box 85 o.cells),(103,.obj D (.deferred (some [])))]
theorem apart_calls (s o : Sgl) (n : Int) : PureCalls Try.prog 60 [.im 6 [s.cells,o.cells],PI n] (PB (apartV s o n)) := by
  refine PureCalls.ofF tabOK mixed Try.func60 rfl rfl (by decide +kernel) (by simp [Try.ntmps60]) ?_
  have c1 := rightG_calls s n
  have c2 := rightG_calls o n
  simp only [go_sem,zA,zB,zC,zD,zE,zF,zG,zH,zI,zJ,zK,zL,zM,zN,zO,zP,↓reduceIte,reduceCtorEq,Try.ntmps60,Try.results60,Sgl.pv,Sgl.cells]
  refine wpF_loop (by decide +kernel) (apI s o n) ⟨2,_,.weak ?_,apI0⟩ ?_
  · simp only [go_sem,zA,zB,zC,zD,zE,zF,zG,zH,zI,zJ,zK,zL,zM,zN,zO,zP,↓reduceIte,reduceCtorEq,apS,Sgl.cells,refsIn,tkC_refs,Blk.refsIn]
    exact rfl
  rintro m st ds (⟨rfl,rfl,rfl⟩ | ⟨rfl,D0,rfl,rfl,hrs,hN⟩ | ⟨rfl,D0,D1,rfl,rfl,hrs,hro,hN⟩)
  · simp only [go_sem,zA,zB,zC,zD,zE,zF,zG,zH,zI,zJ,zK,zL,zM,zN,zO,zP,↓reduceIte,reduceCtorEq,apS,Sgl.cells]
    cases hr : rightG s n with
    | false =>
      rw [hr] at c1
      have e : apartV s o n = false := by rw [apartV,hr]; rfl
      (refine CallA.pure (c1) (by simp only [go_sem,zA,zB,zC,zD,zE,zF,zG,zH,zI,zJ,zK,zL,zM,zN,zO,zP,↓reduceIte,reduceCtorEq,Sgl.pv,Sgl.cells,e,Try.ntmps60,Try.results60] <;> first | rfl | decide) ?_; simp only [go_sem,zA,zB,zC,zD,zE,zF,zG,zH,zI,zJ,zK,zL,zM,zN,zO,zP,↓reduceIte,reduceCtorEq,Sgl.pv,Sgl.cells,e,Try.ntmps60,Try.results60])
      done
    | true =>
      rw [hr] at c1
      (refine CallA.pure (c1) (by simp only [go_sem,zA,zB,zC,zD,zE,zF,zG,zH,zI,zJ,zK,zL,zM,zN,zO,zP,↓reduceIte,reduceCtorEq,Sgl.pv,Sgl.cells] <;> first | rfl | decide) ?_; simp only [go_sem,zA,zB,zC,zD,zE,zF,zG,zH,zI,zJ,zK,zL,zM,zN,zO,zP,↓reduceIte,reduceCtorEq,Sgl.pv,Sgl.cells])
      obtain ⟨_,hlen,hst,hlt⟩ := rightG_true hr
      refine CallA.into tabOK mixed Try.func103 rfl rfl (by decide +kernel) (by simp [Try.ntmps103]) ?_
      simp only [go_sem,zA,zB,zC,zD,zE,zF,zG,zH,zI,zJ,zK,zL,zM,zN,zO,zP,↓reduceIte,reduceCtorEq,Try.ntmps103,Try.results103]
      have hL : ((s.len.toNat : Nat) : Int) = s.len := by omega
      generalize hNN : s.len.toNat = N at hL
      have hW : walkP s = walkL s.big N s.start := by rw [walkP,hNN]
      refine ⟨_,_,_,[.ptr 102 0],_,⟨by simp only [go_sem,zA,zB,zC,zD,zE,zF,zG,zH,zI,zJ,zK,zL,zM,zN,zO,zP,↓reduceIte,reduceCtorEq],rfl,by simp only [go_sem,zA,zB,zC,zD,zE,zF,zG,zH,zI,zJ,zK,zL,zM,zN,zO,zP,↓reduceIte,reduceCtorEq],Try.func135,rfl,rfl,by decide +kernel,by decide +kernel,by decide +kernel,by simp only [go_sem,zA,zB,zC,zD,zE,zF,zG,zH,zI,zJ,zK,zL,zM,zN,zO,zP,↓reduceIte,reduceCtorEq,Try.ntmps135,Try.results135],?_,?_,?_⟩⟩
      · simp only [go_sem,zA,zB,zC,zD,zE,zF,zG,zH,zI,zJ,zK,zL,zM,zN,zO,zP,↓reduceIte,reduceCtorEq]
      · simp only [go_sem,zA,zB,zC,zD,zE,zF,zG,zH,zI,zJ,zK,zL,zM,zN,zO,zP,↓reduceIte,reduceCtorEq]
      intro D l R0
      simp only [go_sem,zA,zB,zC,zD,zE,zF,zG,zH,zI,zJ,zK,zL,zM,zN,zO,zP,↓reduceIte,reduceCtorEq,rangeHp,Try.ntmps135,Try.results135]
      refine wpY_loop (wkI 105 l R0 D s n [] N 102 103 104 (rest0 s)) ⟨N,_,?_,0,s.start,by omega,rfl,by omega,List.nodup_nil,by rw [hW]; rfl,rfl⟩ ?_
      · simp only [go_sem,zA,zB,zC,zD,zE,zF,zG,zH,zI,zJ,zK,zL,zM,zN,zO,zP,↓reduceIte,reduceCtorEq,rest0,Int.natCast_zero,Sgl.cells,refsIn,refsInL,tkC_refs,List.take_zero,List.append_nil,Blk.refsIn]
        done
      rintro m st ⟨k,p,hk,rfl,hp,hnd,hdr,rfl⟩
      by_cases hc : k < N
      · have f1 : decide ((k : Int) < s.len) = true := decide_eq_true (by omega)
        have hd := hdr
        rw [walkL_cons (by omega)] at hd
        obtain ⟨ht1,ht2⟩ := take_next hd
        have hpm : p ∈ walkP s := List.mem_of_mem_drop (i := k) (by rw [hd]; exact List.mem_cons_self)
        have hpl := hlt p hpm
        have h64 : 0 ≤ p ∧ p < 64 := by omega
        have hp2 := next_ok (big := s.big) (p := p) (m := 8 * n) ⟨hp.1,by omega⟩
        have hw1 := wrapIN (i := k) (by omega)
        have hdup : p ∈ [] ++ (walkP s).take k → apartV s o n = false := fun h => apart_s (dup_nodup h hd)
        have hnew : [] ++ (walkP s).take (k + 1) = ([] ++ (walkP s).take k) ++ [p] := by rw [ht1,List.append_assoc]
        generalize hLL : [] ++ (walkP s).take k = L at hnd hdup hnew ⊢
        have gd := tkC_drop L h64
        have gs : List.take (p.toNat * 1) (tkC L) ++ [PB true] ++ List.drop (p.toNat * 1 + 1) (tkC L) = tkC (L ++ [p]) := tkC_splice L h64
        have gl : p.toNat * 1 + 1 ≤ (tkC L).length := by rw [tkC_len]; omega
        by_cases hin : p ∈ L
        · rw [decide_eq_true hin] at gd
          have e := hdup hin
          simp only [go_sem,zA,zB,zC,zD,zE,zF,zG,zH,zI,zJ,zK,zL,zM,zN,zO,zP,↓reduceIte,reduceCtorEq,rest0,f1,Sgl.cells]
          refine ⟨rfl,rfl,_,rfl,?_⟩
          simp only [go_sem,zA,zB,zC,zD,zE,zF,zG,zH,zI,zJ,zK,zL,zM,zN,zO,zP,↓reduceIte,reduceCtorEq,h64.1,h64.2,gd,List.length_cons,Nat.le_add_left,List.headD_cons,Try.ntmps135,Try.results135]
          refine ⟨some .ret,rfl,?_⟩
          simp only [go_sem,zA,zB,zC,zD,zE,zF,zG,zH,zI,zJ,zK,zL,zM,zN,zO,zP,↓reduceIte,reduceCtorEq,e,Try.ntmps60,Try.results60]
          done
        · rw [decide_eq_false hin] at gd
          have hnd2 : (L ++ [p]).Nodup := by
            rw [List.nodup_append]
            exact ⟨hnd,by simp,fun a ha b hb e => hin (by rw [List.mem_singleton] at hb; rw [← hb,← e]; exact ha)⟩
          simp only [go_sem,zA,zB,zC,zD,zE,zF,zG,zH,zI,zJ,zK,zL,zM,zN,zO,zP,↓reduceIte,reduceCtorEq,rest0,f1,Sgl.cells]
          refine ⟨rfl,rfl,_,rfl,?_⟩
          simp only [go_sem,zA,zB,zC,zD,zE,zF,zG,zH,zI,zJ,zK,zL,zM,zN,zO,zP,↓reduceIte,reduceCtorEq,h64.1,h64.2,gd,gl,List.length_cons,List.length_nil,Nat.le_add_left,List.headD_cons,Try.ntmps135,Try.results135]
          by_cases hb : s.big = false
          · have e : nextP s.big p = p + 1 := by rw [nextP,if_pos hb]
            have gb : (!s.big) = true := by rw [hb]; rfl
            have wp : IntKind.wrap .i64 (p + 1) = p + 1 := by rw [wrapI64_eq]; omega
            rw [e] at hp2 ht2
            simp only [go_sem,zA,zB,zC,zD,zE,zF,zG,zH,zI,zJ,zK,zL,zM,zN,zO,zP,↓reduceIte,reduceCtorEq,gb,wp]
            refine ⟨N - (k + 1),_,by omega,?_,k + 1,p + 1,by omega,rfl,by omega,by rw [hnew]; exact hnd2,ht2,rfl⟩
            rw [hnew]
            simp only [go_sem,zA,zB,zC,zD,zE,zF,zG,zH,zI,zJ,zK,zL,zM,zN,zO,zP,↓reduceIte,reduceCtorEq,hw1,gs,Sgl.cells,rest0,refsIn,refsInL,tkC_refs,Blk.refsIn]
            done
          · have gb : (!s.big) = false := by simpa using hb
            by_cases h8 : p.tmod 8 = 0
            · have e : nextP s.big p = p + 15 := by rw [nextP,if_neg hb,if_pos h8]
              have g8 : decide (p.tmod 8 = 0) = true := decide_eq_true h8
              have wp : IntKind.wrap .i64 (p + 15) = p + 15 := by rw [wrapI64_eq]; omega
              rw [e] at hp2 ht2
              simp only [go_sem,zA,zB,zC,zD,zE,zF,zG,zH,zI,zJ,zK,zL,zM,zN,zO,zP,↓reduceIte,reduceCtorEq,gb,g8,wp]
              refine ⟨N - (k + 1),_,by omega,?_,k + 1,p + 15,by omega,rfl,by omega,by rw [hnew]; exact hnd2,ht2,rfl⟩
              rw [hnew]
              simp only [go_sem,zA,zB,zC,zD,zE,zF,zG,zH,zI,zJ,zK,zL,zM,zN,zO,zP,↓reduceIte,reduceCtorEq,hw1,gs,Sgl.cells,rest0,refsIn,refsInL,tkC_refs,Blk.refsIn]
              done
            · have e : nextP s.big p = p - 1 := by rw [nextP,if_neg hb,if_neg h8]
              have g8 : decide (p.tmod 8 = 0) = false := decide_eq_false h8
              have wp : IntKind.wrap .i64 (p - 1) = p - 1 := by rw [wrapI64_eq]; omega
              rw [e] at hp2 ht2
              simp only [go_sem,zA,zB,zC,zD,zE,zF,zG,zH,zI,zJ,zK,zL,zM,zN,zO,zP,↓reduceIte,reduceCtorEq,gb,g8,wp]
              refine ⟨N - (k + 1),_,by omega,?_,k + 1,p - 1,by omega,rfl,by omega,by rw [hnew]; exact hnd2,ht2,rfl⟩
              rw [hnew]
              simp only [go_sem,zA,zB,zC,zD,zE,zF,zG,zH,zI,zJ,zK,zL,zM,zN,zO,zP,↓reduceIte,reduceCtorEq,hw1,gs,Sgl.cells,rest0,refsIn,refsInL,tkC_refs,Blk.refsIn]
              done
      · have f1 : decide ((k : Int) < s.len) = false := decide_eq_false (by omega)
        have hk : k = N := by omega
        have htk : (walkP s).take k = walkP s := List.take_of_length_le (by rw [hW,walkL_len]; omega)
        rw [htk] at hnd ⊢
        simp only [go_sem,zA,zB,zC,zD,zE,zF,zG,zH,zI,zJ,zK,zL,zM,zN,zO,zP,↓reduceIte,reduceCtorEq,rest0,f1,Sgl.cells,Try.ntmps135,Try.results135]
        refine ⟨none,rfl,?_⟩
        simp only [go_sem,zA,zB,zC,zD,zE,zF,zG,zH,zI,zJ,zK,zL,zM,zN,zO,zP,↓reduceIte,reduceCtorEq]
        refine ⟨1,_,by decide,.weak ?_,.inr (.inl ⟨rfl,D,rfl,rfl,hr,hnd⟩)⟩
        have w1 : IntKind.wrap .i64 1 = 1 := rfl
        have w2 : IntKind.wrap .i64 2 = 2 := rfl
        simp only [go_sem,zA,zB,zC,zD,zE,zF,zG,zH,zI,zJ,zK,zL,zM,zN,zO,zP,↓reduceIte,reduceCtorEq,apS,w1,w2,Sgl.cells,refsIn,refsInL,tkC_refs,Blk.refsIn]
        done
      done
  · rw [hrs] at c1
    clear c1
    simp only [go_sem,zA,zB,zC,zD,zE,zF,zG,zH,zI,zJ,zK,zL,zM,zN,zO,zP,↓reduceIte,reduceCtorEq,apS,Sgl.cells]
    cases hr : rightG o n with
    | false =>
      rw [hr] at c2
      have e : apartV s o n = false := by rw [apartV,hr,Bool.and_false]; rfl
      (refine CallA.pure (c2) (by simp only [go_sem,zA,zB,zC,zD,zE,zF,zG,zH,zI,zJ,zK,zL,zM,zN,zO,zP,↓reduceIte,reduceCtorEq,Sgl.pv,Sgl.cells,e,Try.ntmps60,Try.results60] <;> first | rfl | decide) ?_; simp only [go_sem,zA,zB,zC,zD,zE,zF,zG,zH,zI,zJ,zK,zL,zM,zN,zO,zP,↓reduceIte,reduceCtorEq,Sgl.pv,Sgl.cells,e,Try.ntmps60,Try.results60])
      done
    | true =>
      rw [hr] at c2
      (refine CallA.pure (c2) (by simp only [go_sem,zA,zB,zC,zD,zE,zF,zG,zH,zI,zJ,zK,zL,zM,zN,zO,zP,↓reduceIte,reduceCtorEq,Sgl.pv,Sgl.cells] <;> first | rfl | decide) ?_; simp only [go_sem,zA,zB,zC,zD,zE,zF,zG,zH,zI,zJ,zK,zL,zM,zN,zO,zP,↓reduceIte,reduceCtorEq,Sgl.pv,Sgl.cells])
      obtain ⟨_,hlen,hst,hlt⟩ := rightG_true hr
      refine CallA.into tabOK mixed Try.func103 rfl rfl (by decide +kernel) (by simp [Try.ntmps103]) ?_
      simp only [go_sem,zA,zB,zC,zD,zE,zF,zG,zH,zI,zJ,zK,zL,zM,zN,zO,zP,↓reduceIte,reduceCtorEq,Try.ntmps103,Try.results103]
      have hL : ((o.len.toNat : Nat) : Int) = o.len := by omega
      generalize hNN : o.len.toNat = N at hL
      have hW : walkP o = walkL o.big N o.start := by rw [walkP,hNN]
      refine ⟨_,_,_,[.ptr 202 0],_,⟨by simp only [go_sem,zA,zB,zC,zD,zE,zF,zG,zH,zI,zJ,zK,zL,zM,zN,zO,zP,↓reduceIte,reduceCtorEq],rfl,by simp only [go_sem,zA,zB,zC,zD,zE,zF,zG,zH,zI,zJ,zK,zL,zM,zN,zO,zP,↓reduceIte,reduceCtorEq],Try.func135,rfl,rfl,by decide +kernel,by decide +kernel,by decide +kernel,by simp only [go_sem,zA,zB,zC,zD,zE,zF,zG,zH,zI,zJ,zK,zL,zM,zN,zO,zP,↓reduceIte,reduceCtorEq,Try.ntmps135,Try.results135],?_,?_,?_⟩⟩
      · simp only [go_sem,zA,zB,zC,zD,zE,zF,zG,zH,zI,zJ,zK,zL,zM,zN,zO,zP,↓reduceIte,reduceCtorEq]
      · simp only [go_sem,zA,zB,zC,zD,zE,zF,zG,zH,zI,zJ,zK,zL,zM,zN,zO,zP,↓reduceIte,reduceCtorEq]
      intro D l R0
      simp only [go_sem,zA,zB,zC,zD,zE,zF,zG,zH,zI,zJ,zK,zL,zM,zN,zO,zP,↓reduceIte,reduceCtorEq,rangeHp,Try.ntmps135,Try.results135]
      refine wpY_loop (wkI 205 l R0 D o n (walkP s) N 202 203 204 (rest1 o D0)) ⟨N,_,?_,0,o.start,by omega,rfl,by omega,(nd0 hN),by rw [hW]; rfl,rfl⟩ ?_
      · simp only [go_sem,zA,zB,zC,zD,zE,zF,zG,zH,zI,zJ,zK,zL,zM,zN,zO,zP,↓reduceIte,reduceCtorEq,rest1,Int.natCast_zero,Sgl.cells,refsIn,refsInL,tkC_refs,List.take_zero,List.append_nil,Blk.refsIn]
        done
      rintro m st ⟨k,p,hk,rfl,hp,hnd,hdr,rfl⟩
      by_cases hc : k < N
      · have f1 : decide ((k : Int) < o.len) = true := decide_eq_true (by omega)
        have hd := hdr
        rw [walkL_cons (by omega)] at hd
        obtain ⟨ht1,ht2⟩ := take_next hd
        have hpm : p ∈ walkP o := List.mem_of_mem_drop (i := k) (by rw [hd]; exact List.mem_cons_self)
        have hpl := hlt p hpm
        have h64 : 0 ≤ p ∧ p < 64 := by omega
        have hp2 := next_ok (big := o.big) (p := p) (m := 8 * n) ⟨hp.1,by omega⟩
        have hw1 := wrapIN (i := k) (by omega)
        have hdup : p ∈ (walkP s) ++ (walkP o).take k → apartV s o n = false := fun h => apart_o (dup_nodup h hd)
        have hnew : (walkP s) ++ (walkP o).take (k + 1) = ((walkP s) ++ (walkP o).take k) ++ [p] := by rw [ht1,List.append_assoc]
        generalize hLL : (walkP s) ++ (walkP o).take k = L at hnd hdup hnew ⊢
        have gd := tkC_drop L h64
        have gs : List.take (p.toNat * 1) (tkC L) ++ [PB true] ++ List.drop (p.toNat * 1 + 1) (tkC L) = tkC (L ++ [p]) := tkC_splice L h64
        have gl : p.toNat * 1 + 1 ≤ (tkC L).length := by rw [tkC_len]; omega
        by_cases hin : p ∈ L
        · rw [decide_eq_true hin] at gd
          have e := hdup hin
          simp only [go_sem,zA,zB,zC,zD,zE,zF,zG,zH,zI,zJ,zK,zL,zM,zN,zO,zP,↓reduceIte,reduceCtorEq,rest1,f1,Sgl.cells]
          refine ⟨rfl,rfl,_,rfl,?_⟩
          simp only [go_sem,zA,zB,zC,zD,zE,zF,zG,zH,zI,zJ,zK,zL,zM,zN,zO,zP,↓reduceIte,reduceCtorEq,h64.1,h64.2,gd,List.length_cons,Nat.le_add_left,List.headD_cons,Try.ntmps135,Try.results135]
          refine ⟨some .ret,rfl,?_⟩
          simp only [go_sem,zA,zB,zC,zD,zE,zF,zG,zH,zI,zJ,zK,zL,zM,zN,zO,zP,↓reduceIte,reduceCtorEq,e,Try.ntmps60,Try.results60]
          done
        · rw [decide_eq_false hin] at gd
          have hnd2 : (L ++ [p]).Nodup := by
            rw [List.nodup_append]
            exact ⟨hnd,by simp,fun a ha b hb e => hin (by rw [List.mem_singleton] at hb; rw [← hb,← e]; exact ha)⟩
          simp only [go_sem,zA,zB,zC,zD,zE,zF,zG,zH,zI,zJ,zK,zL,zM,zN,zO,zP,↓reduceIte,reduceCtorEq,rest1,f1,Sgl.cells]
          refine ⟨rfl,rfl,_,rfl,?_⟩
          simp only [go_sem,zA,zB,zC,zD,zE,zF,zG,zH,zI,zJ,zK,zL,zM,zN,zO,zP,↓reduceIte,reduceCtorEq,h64.1,h64.2,gd,gl,List.length_cons,List.length_nil,Nat.le_add_left,List.headD_cons,Try.ntmps135,Try.results135]
          by_cases hb : o.big = false
          · have e : nextP o.big p = p + 1 := by rw [nextP,if_pos hb]
            have gb : (!o.big) = true := by rw [hb]; rfl
            have wp : IntKind.wrap .i64 (p + 1) = p + 1 := by rw [wrapI64_eq]; omega
            rw [e] at hp2 ht2
            simp only [go_sem,zA,zB,zC,zD,zE,zF,zG,zH,zI,zJ,zK,zL,zM,zN,zO,zP,↓reduceIte,reduceCtorEq,gb,wp]
            refine ⟨N - (k + 1),_,by omega,?_,k + 1,p + 1,by omega,rfl,by omega,by rw [hnew]; exact hnd2,ht2,rfl⟩
            rw [hnew]
            simp only [go_sem,zA,zB,zC,zD,zE,zF,zG,zH,zI,zJ,zK,zL,zM,zN,zO,zP,↓reduceIte,reduceCtorEq,hw1,gs,Sgl.cells,rest1,refsIn,refsInL,tkC_refs,Blk.refsIn]
            done
          · have gb : (!o.big) = false := by simpa using hb
            by_cases h8 : p.tmod 8 = 0
            · have e : nextP o.big p = p + 15 := by rw [nextP,if_neg hb,if_pos h8]
              have g8 : decide (p.tmod 8 = 0) = true := decide_eq_true h8
              have wp : IntKind.wrap .i64 (p + 15) = p + 15 := by rw [wrapI64_eq]; omega
              rw [e] at hp2 ht2
              simp only [go_sem,zA,zB,zC,zD,zE,zF,zG,zH,zI,zJ,zK,zL,zM,zN,zO,zP,↓reduceIte,reduceCtorEq,gb,g8,wp]
              refine ⟨N - (k + 1),_,by omega,?_,k + 1,p + 15,by omega,rfl,by omega,by rw [hnew]; exact hnd2,ht2,rfl⟩
              rw [hnew]
              simp only [go_sem,zA,zB,zC,zD,zE,zF,zG,zH,zI,zJ,zK,zL,zM,zN,zO,zP,↓reduceIte,reduceCtorEq,hw1,gs,Sgl.cells,rest1,refsIn,refsInL,tkC_refs,Blk.refsIn]
              done
            · have e : nextP o.big p = p - 1 := by rw [nextP,if_neg hb,if_neg h8]
              have g8 : decide (p.tmod 8 = 0) = false := decide_eq_false h8
              have wp : IntKind.wrap .i64 (p - 1) = p - 1 := by rw [wrapI64_eq]; omega
              rw [e] at hp2 ht2
              simp only [go_sem,zA,zB,zC,zD,zE,zF,zG,zH,zI,zJ,zK,zL,zM,zN,zO,zP,↓reduceIte,reduceCtorEq,gb,g8,wp]
              refine ⟨N - (k + 1),_,by omega,?_,k + 1,p - 1,by omega,rfl,by omega,by rw [hnew]; exact hnd2,ht2,rfl⟩
              rw [hnew]
              simp only [go_sem,zA,zB,zC,zD,zE,zF,zG,zH,zI,zJ,zK,zL,zM,zN,zO,zP,↓reduceIte,reduceCtorEq,hw1,gs,Sgl.cells,rest1,refsIn,refsInL,tkC_refs,Blk.refsIn]
              done
      · have f1 : decide ((k : Int) < o.len) = false := decide_eq_false (by omega)
        have hk : k = N := by omega
        have htk : (walkP o).take k = walkP o := List.take_of_length_le (by rw [hW,walkL_len]; omega)
        rw [htk] at hnd ⊢
        simp only [go_sem,zA,zB,zC,zD,zE,zF,zG,zH,zI,zJ,zK,zL,zM,zN,zO,zP,↓reduceIte,reduceCtorEq,rest1,f1,Sgl.cells,Try.ntmps135,Try.results135]
        refine ⟨none,rfl,?_⟩
        simp only [go_sem,zA,zB,zC,zD,zE,zF,zG,zH,zI,zJ,zK,zL,zM,zN,zO,zP,↓reduceIte,reduceCtorEq]
        refine ⟨0,_,by decide,.weak ?_,.inr (.inr ⟨rfl,D0,D,rfl,rfl,hrs,hr,hnd⟩)⟩
        have w1 : IntKind.wrap .i64 1 = 1 := rfl
        have w2 : IntKind.wrap .i64 2 = 2 := rfl
        simp only [go_sem,zA,zB,zC,zD,zE,zF,zG,zH,zI,zJ,zK,zL,zM,zN,zO,zP,↓reduceIte,reduceCtorEq,apS,w1,w2,Sgl.cells,refsIn,refsInL,tkC_refs,Blk.refsIn]
        done
      done
  · have e : apartV s o n = true := by rw [apartV,hrs,hro,decide_eq_true hN]; rfl
    simp only [go_sem,zA,zB,zC,zD,zE,zF,zG,zH,zI,zJ,zK,zL,zM,zN,zO,zP,↓reduceIte,reduceCtorEq,apS,Sgl.cells,e,Try.ntmps60,Try.results60]
    done
end Go.Proofs.Ytcdmhigmgpflbaa.Pe

