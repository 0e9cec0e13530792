import Derived.Test.YtcdmhigmgpflbaaGreatDLe
set_option maxRecDepth 20000
set_option maxHeartbeats 4000000
set_option linter.unusedSimpArgs false
set_option linter.unusedVariables false
open Nat renaming reduceAdd → zA,reduceSub → zB,reduceMul → zC,reduceLT → zD,reduceLeDiff → zE,reduceEqDiff → zF,reduceBEq → zG
open Int renaming reduceToNat → zH,reduceLT → zI,reduceLE → zJ,reduceEq → zK,reduceNe → zL,reduceAdd → zM,reduceSub → zN,reduceMul → zO,reduceNeg → zP,toNat_natCast → yCa
open List renaming length_cons → yBa,length_nil → yBb,length_map → yBm
namespace Go.Proofs.YtcdmhigmgpflbaaGreat.Pe
open Go.Pe Go.RowKit
theorem itmRows_at {l : List Itm} {i : Nat} (h : i < l.length) : (itmRows l).getD i [] = [PI l[i].id,PB l[i].wr,bytesPV l[i].data] := by simp [itmRows,List.getD_eq_getElem?_getD,h,Itm.cells]
def plSt (s : Srv) (id : Int) (i : Nat) : St := ⟨22,[(1,PI id),(2,.ptr 0 0),(5,PI i)],[(0,.box 26 s.cells)],20,0⟩
def plI (s : Srv) (id : Int) (m : Nat) (st : St) : Prop := ∃ i : Nat,i ≤ s.items.length ∧ m = s.items.length - i ∧ (s.items.take i).findIdx? (hitV id false) = none ∧ st = plSt s id i
theorem place_calls (s : Srv) (id : Int) (h : s.items.length < 1000000) : PureCalls Tryz.prog 71 [s.pv,PI id] (PI (findI s.items id false)) := by
  refine PureCalls.of tabOK mixed Tryz.func71 rfl rfl (by decide +kernel) (by simp [Tryz.ntmps71]) ?_
  simp only [go_sem,zA,zB,zC,zD,zE,zF,zG,zH,zI,zJ,zK,zL,zM,zN,zO,zP,↓reduceIte,reduceCtorEq,Tryz.ntmps71,Tryz.results71,Srv.pv,Srv.cells]
  refine wpA_loop (plI s id) ⟨_,_,?_,0,by omega,rfl,rfl,rfl⟩ ?_
  · simp only [go_sem,zA,zB,zC,zD,zE,zF,zG,zH,zI,zJ,zK,zL,zM,zN,zO,zP,↓reduceIte,reduceCtorEq,plSt,Srv.cells,refsIn,refsInL,Blk.refsIn,Int.natCast_zero]
  rintro m st ⟨i,hi,rfl,hno,rfl⟩
  by_cases hc : i < s.items.length
  · have f1 : decide ((i : Int) < (s.items.length : Int)) = true := decide_eq_true (by omega)
    have hw := wrapIN (i := i) (by omega)
    obtain ⟨f3,f4⟩ : (0 : Int) ≤ (i : Int) ∧ (i : Int) < (s.items.length : Int) := by omega
    have hrow := itmRows_at hc
    obtain ⟨n1,n2⟩ := find_snoc hc hno
    have hx : hitV id false s.items[i] = decide (s.items[i].id = id) := by simp [hitV]
    rw [hx] at n1 n2
    generalize s.items[i] = x at hrow n1 n2
    cases g : decide (x.id = id) with
    | true =>
      have e := n2 g
      have e2 : findI s.items id false = (i : Int) := by simp only [findI,findV,e]
      simp only [go_sem,zA,zB,zC,zD,zE,zF,zG,zH,zI,zJ,zK,zL,zM,zN,zO,zP,↓reduceIte,reduceCtorEq,plSt,f1,f3,f4,hrow,yCa,yBm,Srv.cells,g,e2,Tryz.ntmps71,Tryz.results71]
    | false =>
      have e := n1 g
      simp only [go_sem,zA,zB,zC,zD,zE,zF,zG,zH,zI,zJ,zK,zL,zM,zN,zO,zP,↓reduceIte,reduceCtorEq,plSt,f1,f3,f4,hrow,yCa,yBm,Srv.cells,g,hw]
      refine ⟨s.items.length - (i + 1),_,by omega,?_,i + 1,by omega,rfl,e,rfl⟩
      simp only [go_sem,zA,zB,zC,zD,zE,zF,zG,zH,zI,zJ,zK,zL,zM,zN,zO,zP,↓reduceIte,reduceCtorEq,plSt,hw,Srv.cells,refsIn,refsInL,Blk.refsIn]
  · have f1 : decide ((i : Int) < (s.items.length : Int)) = false := decide_eq_false (by omega)
    have e2 : findI s.items id false = -1 := by rw [List.take_of_length_le (by omega)] at hno; simp [findI,findV,hno]
    simp only [go_sem,zA,zB,zC,zD,zE,zF,zG,zH,zI,zJ,zK,zL,zM,zN,zO,zP,↓reduceIte,reduceCtorEq,plSt,f1,yBm,Srv.cells,e2,Tryz.ntmps71,Tryz.results71]
def longV (c : UInt8) (r : List UInt8) : Bool :=
  if c = 0x10 ∨ c = 0x19 then decide (r.length = 1) else if c = 0x27 then (match r with | [k] => decide (k = 1) | [k,_,_,_,_] => decide (k = 2) | _ => false)
  else if c = 0x22 then decide (r.length = 2) else if c = 0x2E then decide (3 ≤ r.length) else if c = 0x14 ∨ c = 0x3E then decide (r.length = 0) else true
theorem long27 {r : List UInt8} (h1 : r.length ≠ 1) (h5 : r.length ≠ 5) : longV 0x27 r = false := by
  unfold longV
  rw [if_neg (by decide),if_pos rfl]
  match r,h1,h5 with
  | [],_,_ => rfl
  | [_],h,_ => exact absurd rfl h
  | [_,_],_,_ => rfl
  | [_,_,_],_,_ => rfl
  | [_,_,_,_],_,_ => rfl
  | [_,_,_,_,_],_,h => exact absurd rfl h
  | _ :: _ :: _ :: _ :: _ :: _ :: _,_,_ => rfl
theorem long_at (c : UInt8) (r : List UInt8) (b : Bool) (h : longV c r = b) : PureCalls Tryz.prog 96 [bytesPV (c :: r)] (PB b) := by
  have gc : (rowsB (c :: r)).getD 0 [] = [.lit (.int .u8 c.toNat)] := rfl
  have lr : (rowsB (c :: r)).length = r.length + 1 := by rw [rowsB_length]; rfl
  have hz : (0 : Int) < ((r.length + 1 : Nat) : Int) := by omega
  by_cases h10 : c = 0x10
  · subst h10
    have u : ((UInt8.toNat 16 : Nat) : Int) = 16 := rfl
    have hb : decide (((r.length + 1 : Nat) : Int) = 2) = b := by rw [← h]; simp [longV]; omega
    refine PureCalls.of tabOK mixed Tryz.func96 rfl rfl (by decide +kernel) (by simp [Tryz.ntmps96]) ?_
    simp only [go_sem,zA,zB,zC,zD,zE,zF,zG,zH,zI,zJ,zK,zL,zM,zN,zO,zP,↓reduceIte,reduceCtorEq,Tryz.ntmps96,Tryz.results96,gc,rowsB_length,yBa,hz,u,hb]
  by_cases h19 : c = 0x19
  · subst h19
    have u : ((UInt8.toNat 25 : Nat) : Int) = 25 := rfl
    have hb : decide (((r.length + 1 : Nat) : Int) = 2) = b := by rw [← h]; simp [longV]; omega
    refine PureCalls.of tabOK mixed Tryz.func96 rfl rfl (by decide +kernel) (by simp [Tryz.ntmps96]) ?_
    simp only [go_sem,zA,zB,zC,zD,zE,zF,zG,zH,zI,zJ,zK,zL,zM,zN,zO,zP,↓reduceIte,reduceCtorEq,Tryz.ntmps96,Tryz.results96,gc,rowsB_length,yBa,hz,u,hb]
  by_cases h22 : c = 0x22
  · subst h22
    have u : ((UInt8.toNat 34 : Nat) : Int) = 34 := rfl
    have hb : decide (((r.length + 1 : Nat) : Int) = 3) = b := by rw [← h]; simp [longV]; omega
    refine PureCalls.of tabOK mixed Tryz.func96 rfl rfl (by decide +kernel) (by simp [Tryz.ntmps96]) ?_
    simp only [go_sem,zA,zB,zC,zD,zE,zF,zG,zH,zI,zJ,zK,zL,zM,zN,zO,zP,↓reduceIte,reduceCtorEq,Tryz.ntmps96,Tryz.results96,gc,rowsB_length,yBa,hz,u,hb]
  by_cases h2e : c = 0x2E
  · subst h2e
    have u : ((UInt8.toNat 46 : Nat) : Int) = 46 := rfl
    have hb : decide (((r.length + 1 : Nat) : Int) ≥ 4) = b := by rw [← h]; simp [longV]; omega
    refine PureCalls.of tabOK mixed Tryz.func96 rfl rfl (by decide +kernel) (by simp [Tryz.ntmps96]) ?_
    simp only [go_sem,zA,zB,zC,zD,zE,zF,zG,zH,zI,zJ,zK,zL,zM,zN,zO,zP,↓reduceIte,reduceCtorEq,Tryz.ntmps96,Tryz.results96,gc,rowsB_length,yBa,hz,u,hb]
  by_cases h14 : c = 0x14
  · subst h14
    have u : ((UInt8.toNat 20 : Nat) : Int) = 20 := rfl
    have hb : decide (((r.length + 1 : Nat) : Int) = 1) = b := by
      cases r with
      | nil => rw [← h]; rfl
      | cons x r => rw [← h]; simp [longV]; omega
    refine PureCalls.of tabOK mixed Tryz.func96 rfl rfl (by decide +kernel) (by simp [Tryz.ntmps96]) ?_
    simp only [go_sem,zA,zB,zC,zD,zE,zF,zG,zH,zI,zJ,zK,zL,zM,zN,zO,zP,↓reduceIte,reduceCtorEq,Tryz.ntmps96,Tryz.results96,gc,rowsB_length,yBa,hz,u,hb]
  by_cases h3e : c = 0x3E
  · subst h3e
    have u : ((UInt8.toNat 62 : Nat) : Int) = 62 := rfl
    have hb : decide (((r.length + 1 : Nat) : Int) = 1) = b := by
      cases r with
      | nil => rw [← h]; rfl
      | cons x r => rw [← h]; simp [longV]; omega
    refine PureCalls.of tabOK mixed Tryz.func96 rfl rfl (by decide +kernel) (by simp [Tryz.ntmps96]) ?_
    simp only [go_sem,zA,zB,zC,zD,zE,zF,zG,zH,zI,zJ,zK,zL,zM,zN,zO,zP,↓reduceIte,reduceCtorEq,Tryz.ntmps96,Tryz.results96,gc,rowsB_length,yBa,hz,u,hb]
  by_cases h27 : c = 0x27
  · subst h27
    have u : ((UInt8.toNat 39 : Nat) : Int) = 39 := rfl
    have i0 : (0 : Int) < 2 := by decide
    by_cases h1 : r.length = 1
    · obtain ⟨k,rfl⟩ := List.length_eq_one_iff.1 h1
      have gk : (rowsB [39,k]).getD 1 [] = [.lit (.int .u8 k.toNat)] := rfl
      have hb : decide ((k.toNat : Int) = 1) = b := by
        rw [← h]
        show _ = decide (k = 1)
        by_cases e : k = 1
        · subst e; rfl
        · rw [decide_eq_false e]; exact decide_eq_false fun e' => e (UInt8.toNat_inj.1 (by simp only [UInt8.reduceToNat]; omega))
      cases b
      · refine PureCalls.of tabOK mixed Tryz.func96 rfl rfl (by decide +kernel) (by simp [Tryz.ntmps96]) ?_
        simp only [go_sem,zA,zB,zC,zD,zE,zF,zG,zH,zI,zJ,zK,zL,zM,zN,zO,zP,↓reduceIte,reduceCtorEq,Tryz.ntmps96,Tryz.results96,gc,gk,rowsB_length,yBa,yBb,hz,i0,u,hb]
      · refine PureCalls.of tabOK mixed Tryz.func96 rfl rfl (by decide +kernel) (by simp [Tryz.ntmps96]) ?_
        simp only [go_sem,zA,zB,zC,zD,zE,zF,zG,zH,zI,zJ,zK,zL,zM,zN,zO,zP,↓reduceIte,reduceCtorEq,Tryz.ntmps96,Tryz.results96,gc,gk,rowsB_length,yBa,yBb,hz,i0,u,hb]
    by_cases h5 : r.length = 5
    · obtain ⟨k,x,y,z,w,rfl⟩ : ∃ k x y z w,r = [k,x,y,z,w] := by
        match r,h5 with
        | [k,x,y,z,w],_ => exact ⟨k,x,y,z,w,rfl⟩
      have gk : (rowsB [39,k,x,y,z,w]).getD 1 [] = [.lit (.int .u8 k.toNat)] := rfl
      have hb : decide ((k.toNat : Int) = 2) = b := by
        rw [← h]
        show _ = decide (k = 2)
        by_cases e : k = 2
        · subst e; rfl
        · rw [decide_eq_false e]; exact decide_eq_false fun e' => e (UInt8.toNat_inj.1 (by simp only [UInt8.reduceToNat]; omega))
      refine PureCalls.of tabOK mixed Tryz.func96 rfl rfl (by decide +kernel) (by simp [Tryz.ntmps96]) ?_
      simp only [go_sem,zA,zB,zC,zD,zE,zF,zG,zH,zI,zJ,zK,zL,zM,zN,zO,zP,↓reduceIte,reduceCtorEq,Tryz.ntmps96,Tryz.results96,gc,gk,rowsB_length,yBa,yBb,hz,i0,u,hb]
    have hb : false = b := by rw [← h,long27 h1 h5]
    subst hb
    have g1 : decide (((r.length + 1 : Nat) : Int) = 2) = false := decide_eq_false (by omega)
    have g2 : decide (((r.length + 1 : Nat) : Int) = 6) = false := decide_eq_false (by omega)
    refine PureCalls.of tabOK mixed Tryz.func96 rfl rfl (by decide +kernel) (by simp [Tryz.ntmps96]) ?_
    simp only [go_sem,zA,zB,zC,zD,zE,zF,zG,zH,zI,zJ,zK,zL,zM,zN,zO,zP,↓reduceIte,reduceCtorEq,Tryz.ntmps96,Tryz.results96,gc,rowsB_length,yBa,yBb,hz,u,g1,g2]
  have ne : ∀ k : UInt8,c ≠ k → decide ((c.toNat : Int) = (k.toNat : Int)) = false := fun k hk => decide_eq_false fun e => hk (UInt8.toNat_inj.1 (by omega))
  have hb : true = b := by rw [← h]; simp [longV,h10,h19,h22,h2e,h14,h3e,h27]
  have n1 : decide ((c.toNat : Int) = 16) = false := ne 0x10 h10
  have n2 : decide ((c.toNat : Int) = 25) = false := ne 0x19 h19
  have n3 : decide ((c.toNat : Int) = 34) = false := ne 0x22 h22
  have n4 : decide ((c.toNat : Int) = 46) = false := ne 0x2E h2e
  have n5 : decide ((c.toNat : Int) = 20) = false := ne 0x14 h14
  have n6 : decide ((c.toNat : Int) = 62) = false := ne 0x3E h3e
  have n7 : decide ((c.toNat : Int) = 39) = false := ne 0x27 h27
  subst hb
  refine PureCalls.of tabOK mixed Tryz.func96 rfl rfl (by decide +kernel) (by simp [Tryz.ntmps96]) ?_
  simp only [go_sem,zA,zB,zC,zD,zE,zF,zG,zH,zI,zJ,zK,zL,zM,zN,zO,zP,↓reduceIte,reduceCtorEq,Tryz.ntmps96,Tryz.results96,gc,rowsB_length,yBa,hz,n1,n2,n3,n4,n5,n6,n7]
end Go.Proofs.YtcdmhigmgpflbaaGreat.Pe
