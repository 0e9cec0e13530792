import Derived.Test.YtcdmhigmgpflbaaGreatDLh
set_option maxRecDepth 20000
set_option maxHeartbeats 4000000
set_option linter.unusedSimpArgs false
set_option linter.unusedVariables false
open Nat renaming reduceAdd → zA,reduceSub → zB,reduceMul → zC,reduceLT → zD,reduceLeDiff → zE,reduceEqDiff → zF,reduceBEq → zG
open Int renaming reduceToNat → zH,reduceLT → zI,reduceLE → zJ,reduceEq → zK,reduceNe → zL,reduceAdd → zM,reduceSub → zN,reduceMul → zO,reduceNeg → zP,toNat_natCast → yCa
open List renaming length_cons → yBa,length_nil → yBb,length_map → yBm
namespace Go.Proofs.YtcdmhigmgpflbaaGreat.Pe
open Go.Pe Go.RowKit
theorem wrU (a : UInt8) : IntKind.wrap .i64 (a.toNat : Int) = (a.toNat : Int) := by have := a.toNat_lt; rw [wrapI64_eq]; omega
theorem wrM (a : UInt8) : IntKind.wrap .i64 ((a.toNat : Int) * 256) = (a.toNat : Int) * 256 := by have := a.toNat_lt; rw [wrapI64_eq]; omega
theorem wrI (a b : UInt8) : IntKind.wrap .i64 ((a.toNat : Int) * 256 + (b.toNat : Int)) = idV a b := by have := a.toNat_lt; have := b.toNat_lt; unfold idV; rw [wrapI64_eq]; omega
theorem findI_some {l : List Itm} {id : Int} {w : Bool} {i : Nat} (h : findV l id w = some i) : findI l id w = (i : Int) := by simp only [findI,h]
theorem findI_none {l : List Itm} {id : Int} {w : Bool} (h : findV l id w = none) : findI l id w = -1 := by simp only [findI,h]
theorem ref_22 (s : Srv) (h : s.items.length < 1000000) (a b : UInt8) : PureCalls Tryz.prog 68 [s.pv,bytesPV [0x22,a,b]] (PI (match findV s.items (idV a b) false with | some _ => 0 | none => 0x31)) := by
  have gc : (rowsB [0x22,a,b]).getD 0 [] = [.lit (.int .u8 (UInt8.toNat 0x22))] := rfl
  have g1 : (rowsB [0x22,a,b]).getD 1 [] = [.lit (.int .u8 a.toNat)] := rfl
  have g2 : (rowsB [0x22,a,b]).getD 2 [] = [.lit (.int .u8 b.toNat)] := rfl
  have u : ((UInt8.toNat 34 : Nat) : Int) = 34 := rfl
  have hl : longV 0x22 [a,b] = true := rfl
  have cp := place_calls s (idV a b) h
  have w1 := wrU a
  have w2 := wrU b
  have w3 := wrM a
  have w4 := wrI a b
  cases hf : findV s.items (idV a b) false with
  | none =>
    rw [findI_none hf] at cp
    refine PureCalls.of tabOK mixed Tryz.func68 rfl rfl (by decide +kernel) (by simp [Tryz.ntmps68]) ?_
    simp only [go_sem,zA,zB,zC,zD,zE,zF,zG,zH,zI,zJ,zK,zL,zM,zN,zO,zP,↓reduceIte,reduceCtorEq,Tryz.ntmps68,Tryz.results68,Srv.pv,Srv.cells,gc,g1,g2,rowsB_length,yBa,yBb,u]
    (refine CallA.pure (long_at _ _ _ hl) (by simp only [go_sem,zA,zB,zC,zD,zE,zF,zG,zH,zI,zJ,zK,zL,zM,zN,zO,zP,↓reduceIte,reduceCtorEq,Srv.pv,Srv.cells,gc,g1,g2,rowsB_length,yBa,yBb,u,w1,w2,w3,w4] <;> first | rfl | decide) ?_; simp only [go_sem,zA,zB,zC,zD,zE,zF,zG,zH,zI,zJ,zK,zL,zM,zN,zO,zP,↓reduceIte,reduceCtorEq,Srv.pv,Srv.cells,gc,g1,g2,rowsB_length,yBa,yBb,u,w1,w2,w3,w4])
    (refine callD_pure (cp) (by simp only [go_sem,zA,zB,zC,zD,zE,zF,zG,zH,zI,zJ,zK,zL,zM,zN,zO,zP,↓reduceIte,reduceCtorEq,Srv.pv,Srv.cells] <;> first | rfl | decide) ?_; simp only [go_sem,zA,zB,zC,zD,zE,zF,zG,zH,zI,zJ,zK,zL,zM,zN,zO,zP,↓reduceIte,reduceCtorEq,Srv.pv,Srv.cells])
    refine endD_intro (by decide +kernel) ?_
    simp only [go_sem,zA,zB,zC,zD,zE,zF,zG,zH,zI,zJ,zK,zL,zM,zN,zO,zP,↓reduceIte,reduceCtorEq,gc,u,rowsB_length,yBa,yBb,Tryz.ntmps68,Tryz.results68]
  | some i =>
    rw [findI_some hf] at cp
    have hi : decide ((i : Int) < 0) = false := decide_eq_false (by omega)
    refine PureCalls.of tabOK mixed Tryz.func68 rfl rfl (by decide +kernel) (by simp [Tryz.ntmps68]) ?_
    simp only [go_sem,zA,zB,zC,zD,zE,zF,zG,zH,zI,zJ,zK,zL,zM,zN,zO,zP,↓reduceIte,reduceCtorEq,Tryz.ntmps68,Tryz.results68,Srv.pv,Srv.cells,gc,g1,g2,rowsB_length,yBa,yBb,u]
    (refine CallA.pure (long_at _ _ _ hl) (by simp only [go_sem,zA,zB,zC,zD,zE,zF,zG,zH,zI,zJ,zK,zL,zM,zN,zO,zP,↓reduceIte,reduceCtorEq,Srv.pv,Srv.cells,gc,g1,g2,rowsB_length,yBa,yBb,u,w1,w2,w3,w4] <;> first | rfl | decide) ?_; simp only [go_sem,zA,zB,zC,zD,zE,zF,zG,zH,zI,zJ,zK,zL,zM,zN,zO,zP,↓reduceIte,reduceCtorEq,Srv.pv,Srv.cells,gc,g1,g2,rowsB_length,yBa,yBb,u,w1,w2,w3,w4])
    (refine callD_pure (cp) (by simp only [go_sem,zA,zB,zC,zD,zE,zF,zG,zH,zI,zJ,zK,zL,zM,zN,zO,zP,↓reduceIte,reduceCtorEq,Srv.pv,Srv.cells] <;> first | rfl | decide) ?_; simp only [go_sem,zA,zB,zC,zD,zE,zF,zG,zH,zI,zJ,zK,zL,zM,zN,zO,zP,↓reduceIte,reduceCtorEq,Srv.pv,Srv.cells])
    refine endD_intro (by decide +kernel) ?_
    simp only [go_sem,zA,zB,zC,zD,zE,zF,zG,zH,zI,zJ,zK,zL,zM,zN,zO,zP,↓reduceIte,reduceCtorEq,gc,u,rowsB_length,yBa,yBb,hi,Tryz.ntmps68,Tryz.results68]
def refW (s : Srv) (a b : UInt8) (d : List UInt8) : Int := if s.ses = 1 then 0x22 else if s.op = false then 0x33 else match findV s.items (idV a b) true with
  | some i => if d.length = (s.items.getD i itmZ).data.length then 0 else 0x13
  | none => 0x31
theorem find_wr {l : List Itm} (h : okIts none l = true) (id : Int) : (findV l id false = none ∧ findV l id true = none) ∨ ∃ i,∃ hi : i < l.length,findV l id false = some i ∧ findV l id true = if l[i].wr = true then some i else none := by
  cases hf : findV l id false with
  | none =>
    refine .inl ⟨rfl,?_⟩
    unfold findV at hf ⊢
    rw [List.findIdx?_eq_none_iff] at hf ⊢
    intro x hx
    have := hf x hx
    simp [hitV] at this ⊢
    exact fun e => absurd e this
  | some i =>
    refine .inr ⟨i,find_lt hf,rfl,?_⟩
    have hi := find_lt hf
    have hid : l[i].id = id := by
      unfold findV at hf
      rw [List.findIdx?_eq_some_iff_getElem] at hf
      obtain ⟨_,hp,_⟩ := hf
      simpa [hitV] using hp
    have := find_own h hi true
    rw [hid] at this
    rw [this]
    simp
theorem ref_2e (s : Srv) (hits : okIts none s.items = true) (h : s.items.length < 1000000) (a b : UInt8) (d : List UInt8) (hd : d ≠ []) (hdl : d.length < 1000000) : PureCalls Tryz.prog 68 [s.pv,bytesPV (0x2E :: a :: b :: d)] (PI (refW s a b d)) := by
  have gc : (rowsB (0x2E :: a :: b :: d)).getD 0 [] = [.lit (.int .u8 (UInt8.toNat 0x2E))] := rfl
  have g1 : (rowsB (0x2E :: a :: b :: d)).getD 1 [] = [.lit (.int .u8 a.toNat)] := rfl
  have g2 : (rowsB (0x2E :: a :: b :: d)).getD 2 [] = [.lit (.int .u8 b.toNat)] := rfl
  have u : ((UInt8.toNat 46 : Nat) : Int) = 46 := rfl
  have hl : longV 0x2E (a :: b :: d) = true := by
    have : d.length ≠ 0 := fun e => hd (List.eq_nil_of_length_eq_zero e)
    simp [longV]; omega
  have w1 := wrU a
  have w2 := wrU b
  have w3 := wrM a
  have w4 := wrI a b
  have w5 : IntKind.wrap .i64 (((d.length + 1 + 1 + 1 : Nat) : Int) - 3) = (d.length : Int) := by rw [wrapI64_eq]; omega
  have cp := place_calls s (idV a b) h
  unfold refW
  by_cases hs : s.ses = 1
  · have k1 : decide (s.ses = 1) = true := decide_eq_true hs
    rw [if_pos hs]
    refine PureCalls.of tabOK mixed Tryz.func68 rfl rfl (by decide +kernel) (by simp [Tryz.ntmps68]) ?_
    simp only [go_sem,zA,zB,zC,zD,zE,zF,zG,zH,zI,zJ,zK,zL,zM,zN,zO,zP,↓reduceIte,reduceCtorEq,Tryz.ntmps68,Tryz.results68,Srv.pv,Srv.cells,gc,g1,g2,rowsB_length,yBa,yBb,gt00,gt10,gt20,u]
    (refine CallA.pure (long_at _ _ _ hl) (by simp only [go_sem,zA,zB,zC,zD,zE,zF,zG,zH,zI,zJ,zK,zL,zM,zN,zO,zP,↓reduceIte,reduceCtorEq,Srv.pv,Srv.cells,gc,g1,g2,rowsB_length,yBa,yBb,gt00,gt10,gt20,u,w1,w2,w3,w4] <;> first | rfl | decide) ?_; simp only [go_sem,zA,zB,zC,zD,zE,zF,zG,zH,zI,zJ,zK,zL,zM,zN,zO,zP,↓reduceIte,reduceCtorEq,Srv.pv,Srv.cells,gc,g1,g2,rowsB_length,yBa,yBb,gt00,gt10,gt20,u,w1,w2,w3,w4])
    (refine callD_pure (cp) (by simp only [go_sem,zA,zB,zC,zD,zE,zF,zG,zH,zI,zJ,zK,zL,zM,zN,zO,zP,↓reduceIte,reduceCtorEq,Srv.pv,Srv.cells] <;> first | rfl | decide) ?_; simp only [go_sem,zA,zB,zC,zD,zE,zF,zG,zH,zI,zJ,zK,zL,zM,zN,zO,zP,↓reduceIte,reduceCtorEq,Srv.pv,Srv.cells])
    refine endD_intro (by decide +kernel) ?_
    simp only [go_sem,zA,zB,zC,zD,zE,zF,zG,zH,zI,zJ,zK,zL,zM,zN,zO,zP,↓reduceIte,reduceCtorEq,gc,u,rowsB_length,yBa,yBb,gt00,Tryz.ntmps68,Tryz.results68,yBm,yCa,k1]
  have k1 : decide (s.ses = 1) = false := decide_eq_false hs
  rw [if_neg hs]
  cases ho : s.op with
  | false =>
    rw [if_pos rfl]
    refine PureCalls.of tabOK mixed Tryz.func68 rfl rfl (by decide +kernel) (by simp [Tryz.ntmps68]) ?_
    simp only [go_sem,zA,zB,zC,zD,zE,zF,zG,zH,zI,zJ,zK,zL,zM,zN,zO,zP,↓reduceIte,reduceCtorEq,Tryz.ntmps68,Tryz.results68,Srv.pv,Srv.cells,gc,g1,g2,rowsB_length,yBa,yBb,gt00,gt10,gt20,u]
    (refine CallA.pure (long_at _ _ _ hl) (by simp only [go_sem,zA,zB,zC,zD,zE,zF,zG,zH,zI,zJ,zK,zL,zM,zN,zO,zP,↓reduceIte,reduceCtorEq,Srv.pv,Srv.cells,gc,g1,g2,rowsB_length,yBa,yBb,gt00,gt10,gt20,u,w1,w2,w3,w4] <;> first | rfl | decide) ?_; simp only [go_sem,zA,zB,zC,zD,zE,zF,zG,zH,zI,zJ,zK,zL,zM,zN,zO,zP,↓reduceIte,reduceCtorEq,Srv.pv,Srv.cells,gc,g1,g2,rowsB_length,yBa,yBb,gt00,gt10,gt20,u,w1,w2,w3,w4])
    (refine callD_pure (cp) (by simp only [go_sem,zA,zB,zC,zD,zE,zF,zG,zH,zI,zJ,zK,zL,zM,zN,zO,zP,↓reduceIte,reduceCtorEq,Srv.pv,Srv.cells] <;> first | rfl | decide) ?_; simp only [go_sem,zA,zB,zC,zD,zE,zF,zG,zH,zI,zJ,zK,zL,zM,zN,zO,zP,↓reduceIte,reduceCtorEq,Srv.pv,Srv.cells])
    refine endD_intro (by decide +kernel) ?_
    simp only [go_sem,zA,zB,zC,zD,zE,zF,zG,zH,zI,zJ,zK,zL,zM,zN,zO,zP,↓reduceIte,reduceCtorEq,gc,u,rowsB_length,yBa,yBb,gt00,Tryz.ntmps68,Tryz.results68,yBm,yCa,k1,ho]
  | true =>
  rw [if_neg (by decide)]
  rcases find_wr hits (idV a b) with ⟨e1,e2⟩ | ⟨i,hi,e1,e2⟩
  · rw [findI_none e1] at cp
    rw [e2]
    refine PureCalls.of tabOK mixed Tryz.func68 rfl rfl (by decide +kernel) (by simp [Tryz.ntmps68]) ?_
    simp only [go_sem,zA,zB,zC,zD,zE,zF,zG,zH,zI,zJ,zK,zL,zM,zN,zO,zP,↓reduceIte,reduceCtorEq,Tryz.ntmps68,Tryz.results68,Srv.pv,Srv.cells,gc,g1,g2,rowsB_length,yBa,yBb,gt00,gt10,gt20,u]
    (refine CallA.pure (long_at _ _ _ hl) (by simp only [go_sem,zA,zB,zC,zD,zE,zF,zG,zH,zI,zJ,zK,zL,zM,zN,zO,zP,↓reduceIte,reduceCtorEq,Srv.pv,Srv.cells,gc,g1,g2,rowsB_length,yBa,yBb,gt00,gt10,gt20,u,w1,w2,w3,w4] <;> first | rfl | decide) ?_; simp only [go_sem,zA,zB,zC,zD,zE,zF,zG,zH,zI,zJ,zK,zL,zM,zN,zO,zP,↓reduceIte,reduceCtorEq,Srv.pv,Srv.cells,gc,g1,g2,rowsB_length,yBa,yBb,gt00,gt10,gt20,u,w1,w2,w3,w4])
    (refine callD_pure (cp) (by simp only [go_sem,zA,zB,zC,zD,zE,zF,zG,zH,zI,zJ,zK,zL,zM,zN,zO,zP,↓reduceIte,reduceCtorEq,Srv.pv,Srv.cells] <;> first | rfl | decide) ?_; simp only [go_sem,zA,zB,zC,zD,zE,zF,zG,zH,zI,zJ,zK,zL,zM,zN,zO,zP,↓reduceIte,reduceCtorEq,Srv.pv,Srv.cells])
    refine endD_intro (by decide +kernel) ?_
    simp only [go_sem,zA,zB,zC,zD,zE,zF,zG,zH,zI,zJ,zK,zL,zM,zN,zO,zP,↓reduceIte,reduceCtorEq,gc,u,rowsB_length,yBa,yBb,gt00,Tryz.ntmps68,Tryz.results68,yBm,yCa,k1,ho]
  · rw [findI_some e1] at cp
    have hrow := itmRows_at hi
    have hgd := itm_getD hi
    have k2 : decide ((i : Int) < 0) = false := decide_eq_false (by omega)
    obtain ⟨k3,k4⟩ : (0 : Int) ≤ (i : Int) ∧ (i : Int) < (s.items.length : Int) := by omega
    rw [e2]
    generalize s.items[i] = x at hrow hgd
    cases hw : x.wr with
    | false =>
      rw [hw] at hrow
      show PureCalls _ _ _ (PI 0x31)
      refine PureCalls.of tabOK mixed Tryz.func68 rfl rfl (by decide +kernel) (by simp [Tryz.ntmps68]) ?_
      simp only [go_sem,zA,zB,zC,zD,zE,zF,zG,zH,zI,zJ,zK,zL,zM,zN,zO,zP,↓reduceIte,reduceCtorEq,Tryz.ntmps68,Tryz.results68,Srv.pv,Srv.cells,gc,g1,g2,rowsB_length,yBa,yBb,gt00,gt10,gt20,u]
      (refine CallA.pure (long_at _ _ _ hl) (by simp only [go_sem,zA,zB,zC,zD,zE,zF,zG,zH,zI,zJ,zK,zL,zM,zN,zO,zP,↓reduceIte,reduceCtorEq,Srv.pv,Srv.cells,gc,g1,g2,rowsB_length,yBa,yBb,gt00,gt10,gt20,u,w1,w2,w3,w4] <;> first | rfl | decide) ?_; simp only [go_sem,zA,zB,zC,zD,zE,zF,zG,zH,zI,zJ,zK,zL,zM,zN,zO,zP,↓reduceIte,reduceCtorEq,Srv.pv,Srv.cells,gc,g1,g2,rowsB_length,yBa,yBb,gt00,gt10,gt20,u,w1,w2,w3,w4])
      (refine callD_pure (cp) (by simp only [go_sem,zA,zB,zC,zD,zE,zF,zG,zH,zI,zJ,zK,zL,zM,zN,zO,zP,↓reduceIte,reduceCtorEq,Srv.pv,Srv.cells] <;> first | rfl | decide) ?_; simp only [go_sem,zA,zB,zC,zD,zE,zF,zG,zH,zI,zJ,zK,zL,zM,zN,zO,zP,↓reduceIte,reduceCtorEq,Srv.pv,Srv.cells])
      refine endD_intro (by decide +kernel) ?_
      simp only [go_sem,zA,zB,zC,zD,zE,zF,zG,zH,zI,zJ,zK,zL,zM,zN,zO,zP,↓reduceIte,reduceCtorEq,gc,u,rowsB_length,yBa,yBb,gt00,Tryz.ntmps68,Tryz.results68,yBm,yCa,k1,ho,k2,k3,k4,hrow]
    | true =>
      rw [hw] at hrow
      rw [if_pos rfl]
      show PureCalls _ _ _ (PI (if d.length = (s.items.getD i itmZ).data.length then 0 else 0x13))
      rw [hgd]
      by_cases hq : d.length = x.data.length
      · have k5 : decide ((d.length : Int) = (x.data.length : Int)) = true := decide_eq_true (by omega)
        rw [if_pos hq]
        refine PureCalls.of tabOK mixed Tryz.func68 rfl rfl (by decide +kernel) (by simp [Tryz.ntmps68]) ?_
        simp only [go_sem,zA,zB,zC,zD,zE,zF,zG,zH,zI,zJ,zK,zL,zM,zN,zO,zP,↓reduceIte,reduceCtorEq,Tryz.ntmps68,Tryz.results68,Srv.pv,Srv.cells,gc,g1,g2,rowsB_length,yBa,yBb,gt00,gt10,gt20,u]
        (refine CallA.pure (long_at _ _ _ hl) (by simp only [go_sem,zA,zB,zC,zD,zE,zF,zG,zH,zI,zJ,zK,zL,zM,zN,zO,zP,↓reduceIte,reduceCtorEq,Srv.pv,Srv.cells,gc,g1,g2,rowsB_length,yBa,yBb,gt00,gt10,gt20,u,w1,w2,w3,w4] <;> first | rfl | decide) ?_; simp only [go_sem,zA,zB,zC,zD,zE,zF,zG,zH,zI,zJ,zK,zL,zM,zN,zO,zP,↓reduceIte,reduceCtorEq,Srv.pv,Srv.cells,gc,g1,g2,rowsB_length,yBa,yBb,gt00,gt10,gt20,u,w1,w2,w3,w4])
        (refine callD_pure (cp) (by simp only [go_sem,zA,zB,zC,zD,zE,zF,zG,zH,zI,zJ,zK,zL,zM,zN,zO,zP,↓reduceIte,reduceCtorEq,Srv.pv,Srv.cells] <;> first | rfl | decide) ?_; simp only [go_sem,zA,zB,zC,zD,zE,zF,zG,zH,zI,zJ,zK,zL,zM,zN,zO,zP,↓reduceIte,reduceCtorEq,Srv.pv,Srv.cells])
        refine endD_intro (by decide +kernel) ?_
        simp only [go_sem,zA,zB,zC,zD,zE,zF,zG,zH,zI,zJ,zK,zL,zM,zN,zO,zP,↓reduceIte,reduceCtorEq,gc,u,rowsB_length,yBa,yBb,gt00,Tryz.ntmps68,Tryz.results68,yBm,yCa,k1,ho,k2,k3,k4,hrow,w5,k5]
      · have k5 : decide ((d.length : Int) = (x.data.length : Int)) = false := decide_eq_false (by omega)
        rw [if_neg hq]
        refine PureCalls.of tabOK mixed Tryz.func68 rfl rfl (by decide +kernel) (by simp [Tryz.ntmps68]) ?_
        simp only [go_sem,zA,zB,zC,zD,zE,zF,zG,zH,zI,zJ,zK,zL,zM,zN,zO,zP,↓reduceIte,reduceCtorEq,Tryz.ntmps68,Tryz.results68,Srv.pv,Srv.cells,gc,g1,g2,rowsB_length,yBa,yBb,gt00,gt10,gt20,u]
        (refine CallA.pure (long_at _ _ _ hl) (by simp only [go_sem,zA,zB,zC,zD,zE,zF,zG,zH,zI,zJ,zK,zL,zM,zN,zO,zP,↓reduceIte,reduceCtorEq,Srv.pv,Srv.cells,gc,g1,g2,rowsB_length,yBa,yBb,gt00,gt10,gt20,u,w1,w2,w3,w4] <;> first | rfl | decide) ?_; simp only [go_sem,zA,zB,zC,zD,zE,zF,zG,zH,zI,zJ,zK,zL,zM,zN,zO,zP,↓reduceIte,reduceCtorEq,Srv.pv,Srv.cells,gc,g1,g2,rowsB_length,yBa,yBb,gt00,gt10,gt20,u,w1,w2,w3,w4])
        (refine callD_pure (cp) (by simp only [go_sem,zA,zB,zC,zD,zE,zF,zG,zH,zI,zJ,zK,zL,zM,zN,zO,zP,↓reduceIte,reduceCtorEq,Srv.pv,Srv.cells] <;> first | rfl | decide) ?_; simp only [go_sem,zA,zB,zC,zD,zE,zF,zG,zH,zI,zJ,zK,zL,zM,zN,zO,zP,↓reduceIte,reduceCtorEq,Srv.pv,Srv.cells])
        refine endD_intro (by decide +kernel) ?_
        simp only [go_sem,zA,zB,zC,zD,zE,zF,zG,zH,zI,zJ,zK,zL,zM,zN,zO,zP,↓reduceIte,reduceCtorEq,gc,u,rowsB_length,yBa,yBb,gt00,Tryz.ntmps68,Tryz.results68,yBm,yCa,k1,ho,k2,k3,k4,hrow,w5,k5]
theorem ref_14 (s : Srv) : PureCalls Tryz.prog 68 [s.pv,bytesPV [0x14]] (PI (if s.ses = 2 then 0 else 0x22)) := by
  have gc : (rowsB [0x14]).getD 0 [] = [.lit (.int .u8 (UInt8.toNat 0x14))] := rfl
  have u : ((UInt8.toNat 20 : Nat) : Int) = 20 := rfl
  have hl : longV 0x14 [] = true := rfl
  by_cases hs : s.ses = 2
  · have k1 : decide (s.ses = 2) = true := decide_eq_true hs
    rw [if_pos hs]
    refine PureCalls.of tabOK mixed Tryz.func68 rfl rfl (by decide +kernel) (by simp [Tryz.ntmps68]) ?_
    simp only [go_sem,zA,zB,zC,zD,zE,zF,zG,zH,zI,zJ,zK,zL,zM,zN,zO,zP,↓reduceIte,reduceCtorEq,Tryz.ntmps68,Tryz.results68,Srv.pv,Srv.cells,gc,rowsB_length,yBa,yBb,gt00,u,k1]
    (refine CallA.pure (long_at _ _ _ hl) (by simp only [go_sem,zA,zB,zC,zD,zE,zF,zG,zH,zI,zJ,zK,zL,zM,zN,zO,zP,↓reduceIte,reduceCtorEq,Srv.pv,Srv.cells,gc,rowsB_length,yBa,yBb,gt00,u,k1,Tryz.ntmps68,Tryz.results68] <;> first | rfl | decide) ?_; simp only [go_sem,zA,zB,zC,zD,zE,zF,zG,zH,zI,zJ,zK,zL,zM,zN,zO,zP,↓reduceIte,reduceCtorEq,Srv.pv,Srv.cells,gc,rowsB_length,yBa,yBb,gt00,u,k1,Tryz.ntmps68,Tryz.results68])
  · have k1 : decide (s.ses = 2) = false := decide_eq_false hs
    rw [if_neg hs]
    refine PureCalls.of tabOK mixed Tryz.func68 rfl rfl (by decide +kernel) (by simp [Tryz.ntmps68]) ?_
    simp only [go_sem,zA,zB,zC,zD,zE,zF,zG,zH,zI,zJ,zK,zL,zM,zN,zO,zP,↓reduceIte,reduceCtorEq,Tryz.ntmps68,Tryz.results68,Srv.pv,Srv.cells,gc,rowsB_length,yBa,yBb,gt00,u,k1]
    (refine CallA.pure (long_at _ _ _ hl) (by simp only [go_sem,zA,zB,zC,zD,zE,zF,zG,zH,zI,zJ,zK,zL,zM,zN,zO,zP,↓reduceIte,reduceCtorEq,Srv.pv,Srv.cells,gc,rowsB_length,yBa,yBb,gt00,u,k1,Tryz.ntmps68,Tryz.results68] <;> first | rfl | decide) ?_; simp only [go_sem,zA,zB,zC,zD,zE,zF,zG,zH,zI,zJ,zK,zL,zM,zN,zO,zP,↓reduceIte,reduceCtorEq,Srv.pv,Srv.cells,gc,rowsB_length,yBa,yBb,gt00,u,k1,Tryz.ntmps68,Tryz.results68])
theorem ref_19 (s : Srv) (m : UInt8) : PureCalls Tryz.prog 68 [s.pv,bytesPV [0x19,m]] (PI 0) := by
  have gc : (rowsB [0x19,m]).getD 0 [] = [.lit (.int .u8 (UInt8.toNat 0x19))] := rfl
  have u : ((UInt8.toNat 25 : Nat) : Int) = 25 := rfl
  have hl : longV 0x19 [m] = true := rfl
  refine PureCalls.of tabOK mixed Tryz.func68 rfl rfl (by decide +kernel) (by simp [Tryz.ntmps68]) ?_
  simp only [go_sem,zA,zB,zC,zD,zE,zF,zG,zH,zI,zJ,zK,zL,zM,zN,zO,zP,↓reduceIte,reduceCtorEq,Tryz.ntmps68,Tryz.results68,Srv.pv,Srv.cells,gc,rowsB_length,yBa,yBb,gt00,u,u]
  (refine CallA.pure (long_at _ _ _ hl) (by simp only [go_sem,zA,zB,zC,zD,zE,zF,zG,zH,zI,zJ,zK,zL,zM,zN,zO,zP,↓reduceIte,reduceCtorEq,Srv.pv,Srv.cells,gc,rowsB_length,yBa,yBb,gt00,u,u,Tryz.ntmps68,Tryz.results68] <;> first | rfl | decide) ?_; simp only [go_sem,zA,zB,zC,zD,zE,zF,zG,zH,zI,zJ,zK,zL,zM,zN,zO,zP,↓reduceIte,reduceCtorEq,Srv.pv,Srv.cells,gc,rowsB_length,yBa,yBb,gt00,u,u,Tryz.ntmps68,Tryz.results68])
theorem ref_3e (s : Srv) : PureCalls Tryz.prog 68 [s.pv,bytesPV [0x3E]] (PI 0) := by
  have gc : (rowsB [0x3E]).getD 0 [] = [.lit (.int .u8 (UInt8.toNat 0x3E))] := rfl
  have u : ((UInt8.toNat 62 : Nat) : Int) = 62 := rfl
  have hl : longV 0x3E [] = true := rfl
  refine PureCalls.of tabOK mixed Tryz.func68 rfl rfl (by decide +kernel) (by simp [Tryz.ntmps68]) ?_
  simp only [go_sem,zA,zB,zC,zD,zE,zF,zG,zH,zI,zJ,zK,zL,zM,zN,zO,zP,↓reduceIte,reduceCtorEq,Tryz.ntmps68,Tryz.results68,Srv.pv,Srv.cells,gc,rowsB_length,yBa,yBb,gt00,u,u]
  (refine CallA.pure (long_at _ _ _ hl) (by simp only [go_sem,zA,zB,zC,zD,zE,zF,zG,zH,zI,zJ,zK,zL,zM,zN,zO,zP,↓reduceIte,reduceCtorEq,Srv.pv,Srv.cells,gc,rowsB_length,yBa,yBb,gt00,u,u,Tryz.ntmps68,Tryz.results68] <;> first | rfl | decide) ?_; simp only [go_sem,zA,zB,zC,zD,zE,zF,zG,zH,zI,zJ,zK,zL,zM,zN,zO,zP,↓reduceIte,reduceCtorEq,Srv.pv,Srv.cells,gc,rowsB_length,yBa,yBb,gt00,u,u,Tryz.ntmps68,Tryz.results68])
theorem ref_hand (s : Srv) (c : UInt8) (r : List UInt8) (hc : c = 0x34 ∨ c = 0x36 ∨ c = 0x37) : PureCalls Tryz.prog 68 [s.pv,bytesPV (c :: r)] (PI (if ¬ s.ses = 3 then 0x22 else if s.op = false then 0x33 else 0)) := by
  rcases hc with rfl | rfl | rfl
  · have gc : (rowsB (52 :: r)).getD 0 [] = [.lit (.int .u8 (UInt8.toNat 52))] := rfl
    have u : ((UInt8.toNat 52 : Nat) : Int) = 52 := rfl
    have hl : longV 52 r = true := rfl
    by_cases hs : s.ses = 3
    rotate_left 1
    · have k1 : decide (s.ses = 3) = false := decide_eq_false hs
      rw [if_pos hs]
      refine PureCalls.of tabOK mixed Tryz.func68 rfl rfl (by decide +kernel) (by simp [Tryz.ntmps68]) ?_
      simp only [go_sem,zA,zB,zC,zD,zE,zF,zG,zH,zI,zJ,zK,zL,zM,zN,zO,zP,↓reduceIte,reduceCtorEq,Tryz.ntmps68,Tryz.results68,Srv.pv,Srv.cells,gc,rowsB_length,yBa,yBb,gt00,u,k1]
      (refine CallA.pure (long_at _ _ _ hl) (by simp only [go_sem,zA,zB,zC,zD,zE,zF,zG,zH,zI,zJ,zK,zL,zM,zN,zO,zP,↓reduceIte,reduceCtorEq,Srv.pv,Srv.cells,gc,rowsB_length,yBa,yBb,gt00,u,k1,Tryz.ntmps68,Tryz.results68] <;> first | rfl | decide) ?_; simp only [go_sem,zA,zB,zC,zD,zE,zF,zG,zH,zI,zJ,zK,zL,zM,zN,zO,zP,↓reduceIte,reduceCtorEq,Srv.pv,Srv.cells,gc,rowsB_length,yBa,yBb,gt00,u,k1,Tryz.ntmps68,Tryz.results68])
    have k1 : decide (s.ses = 3) = true := decide_eq_true hs
    rw [if_neg (fun h => h hs)]
    cases ho : s.op with
    | false =>
      rw [if_pos rfl]
      refine PureCalls.of tabOK mixed Tryz.func68 rfl rfl (by decide +kernel) (by simp [Tryz.ntmps68]) ?_
      simp only [go_sem,zA,zB,zC,zD,zE,zF,zG,zH,zI,zJ,zK,zL,zM,zN,zO,zP,↓reduceIte,reduceCtorEq,Tryz.ntmps68,Tryz.results68,Srv.pv,Srv.cells,gc,rowsB_length,yBa,yBb,gt00,u,k1,ho]
      (refine CallA.pure (long_at _ _ _ hl) (by simp only [go_sem,zA,zB,zC,zD,zE,zF,zG,zH,zI,zJ,zK,zL,zM,zN,zO,zP,↓reduceIte,reduceCtorEq,Srv.pv,Srv.cells,gc,rowsB_length,yBa,yBb,gt00,u,k1,ho,Tryz.ntmps68,Tryz.results68] <;> first | rfl | decide) ?_; simp only [go_sem,zA,zB,zC,zD,zE,zF,zG,zH,zI,zJ,zK,zL,zM,zN,zO,zP,↓reduceIte,reduceCtorEq,Srv.pv,Srv.cells,gc,rowsB_length,yBa,yBb,gt00,u,k1,ho,Tryz.ntmps68,Tryz.results68])
    | true =>
      rw [if_neg (by decide)]
      refine PureCalls.of tabOK mixed Tryz.func68 rfl rfl (by decide +kernel) (by simp [Tryz.ntmps68]) ?_
      simp only [go_sem,zA,zB,zC,zD,zE,zF,zG,zH,zI,zJ,zK,zL,zM,zN,zO,zP,↓reduceIte,reduceCtorEq,Tryz.ntmps68,Tryz.results68,Srv.pv,Srv.cells,gc,rowsB_length,yBa,yBb,gt00,u,k1,ho]
      (refine CallA.pure (long_at _ _ _ hl) (by simp only [go_sem,zA,zB,zC,zD,zE,zF,zG,zH,zI,zJ,zK,zL,zM,zN,zO,zP,↓reduceIte,reduceCtorEq,Srv.pv,Srv.cells,gc,rowsB_length,yBa,yBb,gt00,u,k1,ho,Tryz.ntmps68,Tryz.results68] <;> first | rfl | decide) ?_; simp only [go_sem,zA,zB,zC,zD,zE,zF,zG,zH,zI,zJ,zK,zL,zM,zN,zO,zP,↓reduceIte,reduceCtorEq,Srv.pv,Srv.cells,gc,rowsB_length,yBa,yBb,gt00,u,k1,ho,Tryz.ntmps68,Tryz.results68])
  · have gc : (rowsB (54 :: r)).getD 0 [] = [.lit (.int .u8 (UInt8.toNat 54))] := rfl
    have u : ((UInt8.toNat 54 : Nat) : Int) = 54 := rfl
    have hl : longV 54 r = true := rfl
    by_cases hs : s.ses = 3
    rotate_left 1
    · have k1 : decide (s.ses = 3) = false := decide_eq_false hs
      rw [if_pos hs]
      refine PureCalls.of tabOK mixed Tryz.func68 rfl rfl (by decide +kernel) (by simp [Tryz.ntmps68]) ?_
      simp only [go_sem,zA,zB,zC,zD,zE,zF,zG,zH,zI,zJ,zK,zL,zM,zN,zO,zP,↓reduceIte,reduceCtorEq,Tryz.ntmps68,Tryz.results68,Srv.pv,Srv.cells,gc,rowsB_length,yBa,yBb,gt00,u,k1]
      (refine CallA.pure (long_at _ _ _ hl) (by simp only [go_sem,zA,zB,zC,zD,zE,zF,zG,zH,zI,zJ,zK,zL,zM,zN,zO,zP,↓reduceIte,reduceCtorEq,Srv.pv,Srv.cells,gc,rowsB_length,yBa,yBb,gt00,u,k1,Tryz.ntmps68,Tryz.results68] <;> first | rfl | decide) ?_; simp only [go_sem,zA,zB,zC,zD,zE,zF,zG,zH,zI,zJ,zK,zL,zM,zN,zO,zP,↓reduceIte,reduceCtorEq,Srv.pv,Srv.cells,gc,rowsB_length,yBa,yBb,gt00,u,k1,Tryz.ntmps68,Tryz.results68])
    have k1 : decide (s.ses = 3) = true := decide_eq_true hs
    rw [if_neg (fun h => h hs)]
    cases ho : s.op with
    | false =>
      rw [if_pos rfl]
      refine PureCalls.of tabOK mixed Tryz.func68 rfl rfl (by decide +kernel) (by simp [Tryz.ntmps68]) ?_
      simp only [go_sem,zA,zB,zC,zD,zE,zF,zG,zH,zI,zJ,zK,zL,zM,zN,zO,zP,↓reduceIte,reduceCtorEq,Tryz.ntmps68,Tryz.results68,Srv.pv,Srv.cells,gc,rowsB_length,yBa,yBb,gt00,u,k1,ho]
      (refine CallA.pure (long_at _ _ _ hl) (by simp only [go_sem,zA,zB,zC,zD,zE,zF,zG,zH,zI,zJ,zK,zL,zM,zN,zO,zP,↓reduceIte,reduceCtorEq,Srv.pv,Srv.cells,gc,rowsB_length,yBa,yBb,gt00,u,k1,ho,Tryz.ntmps68,Tryz.results68] <;> first | rfl | decide) ?_; simp only [go_sem,zA,zB,zC,zD,zE,zF,zG,zH,zI,zJ,zK,zL,zM,zN,zO,zP,↓reduceIte,reduceCtorEq,Srv.pv,Srv.cells,gc,rowsB_length,yBa,yBb,gt00,u,k1,ho,Tryz.ntmps68,Tryz.results68])
    | true =>
      rw [if_neg (by decide)]
      refine PureCalls.of tabOK mixed Tryz.func68 rfl rfl (by decide +kernel) (by simp [Tryz.ntmps68]) ?_
      simp only [go_sem,zA,zB,zC,zD,zE,zF,zG,zH,zI,zJ,zK,zL,zM,zN,zO,zP,↓reduceIte,reduceCtorEq,Tryz.ntmps68,Tryz.results68,Srv.pv,Srv.cells,gc,rowsB_length,yBa,yBb,gt00,u,k1,ho]
      (refine CallA.pure (long_at _ _ _ hl) (by simp only [go_sem,zA,zB,zC,zD,zE,zF,zG,zH,zI,zJ,zK,zL,zM,zN,zO,zP,↓reduceIte,reduceCtorEq,Srv.pv,Srv.cells,gc,rowsB_length,yBa,yBb,gt00,u,k1,ho,Tryz.ntmps68,Tryz.results68] <;> first | rfl | decide) ?_; simp only [go_sem,zA,zB,zC,zD,zE,zF,zG,zH,zI,zJ,zK,zL,zM,zN,zO,zP,↓reduceIte,reduceCtorEq,Srv.pv,Srv.cells,gc,rowsB_length,yBa,yBb,gt00,u,k1,ho,Tryz.ntmps68,Tryz.results68])
  · have gc : (rowsB (55 :: r)).getD 0 [] = [.lit (.int .u8 (UInt8.toNat 55))] := rfl
    have u : ((UInt8.toNat 55 : Nat) : Int) = 55 := rfl
    have hl : longV 55 r = true := rfl
    by_cases hs : s.ses = 3
    rotate_left 1
    · have k1 : decide (s.ses = 3) = false := decide_eq_false hs
      rw [if_pos hs]
      refine PureCalls.of tabOK mixed Tryz.func68 rfl rfl (by decide +kernel) (by simp [Tryz.ntmps68]) ?_
      simp only [go_sem,zA,zB,zC,zD,zE,zF,zG,zH,zI,zJ,zK,zL,zM,zN,zO,zP,↓reduceIte,reduceCtorEq,Tryz.ntmps68,Tryz.results68,Srv.pv,Srv.cells,gc,rowsB_length,yBa,yBb,gt00,u,k1]
      (refine CallA.pure (long_at _ _ _ hl) (by simp only [go_sem,zA,zB,zC,zD,zE,zF,zG,zH,zI,zJ,zK,zL,zM,zN,zO,zP,↓reduceIte,reduceCtorEq,Srv.pv,Srv.cells,gc,rowsB_length,yBa,yBb,gt00,u,k1,Tryz.ntmps68,Tryz.results68] <;> first | rfl | decide) ?_; simp only [go_sem,zA,zB,zC,zD,zE,zF,zG,zH,zI,zJ,zK,zL,zM,zN,zO,zP,↓reduceIte,reduceCtorEq,Srv.pv,Srv.cells,gc,rowsB_length,yBa,yBb,gt00,u,k1,Tryz.ntmps68,Tryz.results68])
    have k1 : decide (s.ses = 3) = true := decide_eq_true hs
    rw [if_neg (fun h => h hs)]
    cases ho : s.op with
    | false =>
      rw [if_pos rfl]
      refine PureCalls.of tabOK mixed Tryz.func68 rfl rfl (by decide +kernel) (by simp [Tryz.ntmps68]) ?_
      simp only [go_sem,zA,zB,zC,zD,zE,zF,zG,zH,zI,zJ,zK,zL,zM,zN,zO,zP,↓reduceIte,reduceCtorEq,Tryz.ntmps68,Tryz.results68,Srv.pv,Srv.cells,gc,rowsB_length,yBa,yBb,gt00,u,k1,ho]
      (refine CallA.pure (long_at _ _ _ hl) (by simp only [go_sem,zA,zB,zC,zD,zE,zF,zG,zH,zI,zJ,zK,zL,zM,zN,zO,zP,↓reduceIte,reduceCtorEq,Srv.pv,Srv.cells,gc,rowsB_length,yBa,yBb,gt00,u,k1,ho,Tryz.ntmps68,Tryz.results68] <;> first | rfl | decide) ?_; simp only [go_sem,zA,zB,zC,zD,zE,zF,zG,zH,zI,zJ,zK,zL,zM,zN,zO,zP,↓reduceIte,reduceCtorEq,Srv.pv,Srv.cells,gc,rowsB_length,yBa,yBb,gt00,u,k1,ho,Tryz.ntmps68,Tryz.results68])
    | true =>
      rw [if_neg (by decide)]
      refine PureCalls.of tabOK mixed Tryz.func68 rfl rfl (by decide +kernel) (by simp [Tryz.ntmps68]) ?_
      simp only [go_sem,zA,zB,zC,zD,zE,zF,zG,zH,zI,zJ,zK,zL,zM,zN,zO,zP,↓reduceIte,reduceCtorEq,Tryz.ntmps68,Tryz.results68,Srv.pv,Srv.cells,gc,rowsB_length,yBa,yBb,gt00,u,k1,ho]
      (refine CallA.pure (long_at _ _ _ hl) (by simp only [go_sem,zA,zB,zC,zD,zE,zF,zG,zH,zI,zJ,zK,zL,zM,zN,zO,zP,↓reduceIte,reduceCtorEq,Srv.pv,Srv.cells,gc,rowsB_length,yBa,yBb,gt00,u,k1,ho,Tryz.ntmps68,Tryz.results68] <;> first | rfl | decide) ?_; simp only [go_sem,zA,zB,zC,zD,zE,zF,zG,zH,zI,zJ,zK,zL,zM,zN,zO,zP,↓reduceIte,reduceCtorEq,Srv.pv,Srv.cells,gc,rowsB_length,yBa,yBb,gt00,u,k1,ho,Tryz.ntmps68,Tryz.results68])
end Go.Proofs.YtcdmhigmgpflbaaGreat.Pe
