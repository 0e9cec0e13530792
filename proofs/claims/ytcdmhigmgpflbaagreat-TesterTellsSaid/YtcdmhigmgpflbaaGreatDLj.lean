import Derived.Test.YtcdmhigmgpflbaaGreatDLi
set_option maxRecDepth 20000
set_option maxHeartbeats 4000000
set_option linter.unusedSimpArgs false
set_option linter.unusedVariables false
open Nat renaming reduceAdd → zA,reduceSub → zB,reduceMul → zC,reduceLT → zD,reduceLeDiff → zE,reduceEqDiff → zF,reduceBEq → zG
open Int renaming reduceToNat → zH,reduceLT → zI,reduceLE → zJ,reduceEq → zK,reduceNe → zL,reduceAdd → zM,reduceSub → zN,reduceMul → zO,reduceNeg → zP,toNat_natCast → yCa
open List renaming length_cons → yBa,length_nil → yBb,map_cons → yBi,map_nil → yBj,length_map → yBm
namespace Go.Proofs.YtcdmhigmgpflbaaGreat.Pe
open Go.Pe Go.RowKit
theorem askR_nil (s : Srv) : PureCalls Tryz.prog 46 [s.pv,bytesPV []] (.tup [s.pv,bytesPV [],PB false]) := by
  refine PureCalls.of tabOK mixed Tryz.func46 rfl rfl (by decide +kernel) (by simp [Tryz.ntmps46]) ?_
  have z : decide (((0 : Nat) : Int) = 0) = true := rfl
  simp only [go_sem,zA,zB,zC,zD,zE,zF,zG,zH,zI,zJ,zK,zL,zM,zN,zO,zP,↓reduceIte,reduceCtorEq,Tryz.ntmps46,Tryz.results46,Srv.pv,Srv.cells,rowsB,yBj,Int.natCast_zero,z]
theorem clearR_calls (l : List Trb) : PureCalls Tryz.prog 72 [trbsPV l] (trbsPV []) := by
  refine PureCalls.of tabOK mixed Tryz.func72 rfl rfl (by decide +kernel) (by simp [Tryz.ntmps72]) ?_
  simp only [go_sem,zA,zB,zC,zD,zE,zF,zG,zH,zI,zJ,zK,zL,zM,zN,zO,zP,↓reduceIte,reduceCtorEq,Tryz.ntmps72,Tryz.results72]
section
variable {s t : Srv}
theorem askR_no {c : UInt8} {r : List UInt8} {why : Int} (ht : { s with quiet := 0 } = t) (hr : PureCalls Tryz.prog 68 [t.pv,bytesPV (c :: r)] (PI why)) (h0 : decide (why = 0) = false) (h35 : decide (why = 53) = false) : PureCalls Tryz.prog 46 [s.pv,bytesPV (c :: r)] (denyA t c why).pv := by
  subst ht
  have gc : (rowsB (c :: r)).getD 0 [] = [.lit (.int .u8 c.toNat)] := rfl
  have lc0 : decide (((r.length + 1 : Nat) : Int) = 0) = false := decide_eq_false (by omega)
  have w1 := wrU c
  have cd := denyR_calls c.toNat why
  refine PureCalls.of tabOK mixed Tryz.func46 rfl rfl (by decide +kernel) (by simp [Tryz.ntmps46]) ?_
  simp only [go_sem,zA,zB,zC,zD,zE,zF,zG,zH,zI,zJ,zK,zL,zM,zN,zO,zP,↓reduceIte,reduceCtorEq,Tryz.ntmps46,Tryz.results46,Srv.pv,Srv.cells,gc,rowsB_length,yBa,gt00,lc0]
  (refine CallA.pure (hr) (by simp only [go_sem,zA,zB,zC,zD,zE,zF,zG,zH,zI,zJ,zK,zL,zM,zN,zO,zP,↓reduceIte,reduceCtorEq,Srv.pv,Srv.cells,h0,h35,gc,rowsB_length,yBa,gt00,w1] <;> first | rfl | decide) ?_; simp only [go_sem,zA,zB,zC,zD,zE,zF,zG,zH,zI,zJ,zK,zL,zM,zN,zO,zP,↓reduceIte,reduceCtorEq,Srv.pv,Srv.cells,h0,h35,gc,rowsB_length,yBa,gt00,w1])
  (refine callD_pure (cd) (by simp only [go_sem,zA,zB,zC,zD,zE,zF,zG,zH,zI,zJ,zK,zL,zM,zN,zO,zP,↓reduceIte,reduceCtorEq,Srv.pv,Srv.cells] <;> first | rfl | decide) ?_; simp only [go_sem,zA,zB,zC,zD,zE,zF,zG,zH,zI,zJ,zK,zL,zM,zN,zO,zP,↓reduceIte,reduceCtorEq,Srv.pv,Srv.cells])
  refine endD_intro (by decide +kernel) ?_
  simp only [go_sem,zA,zB,zC,zD,zE,zF,zG,zH,zI,zJ,zK,zL,zM,zN,zO,zP,↓reduceIte,reduceCtorEq,Tryz.ntmps46,Tryz.results46,denyA,AskR.pv,Srv.pv,Srv.cells]
theorem askR_wrong {c : UInt8} {r : List UInt8} (ht : { s with quiet := 0 } = t) (hr : PureCalls Tryz.prog 68 [t.pv,bytesPV (c :: r)] (PI 0x35)) (hw : 0 ≤ s.wrong) (hw2 : s.wrong ≤ 2) : PureCalls Tryz.prog 46 [s.pv,bytesPV (c :: r)] (denyA (wrongA t) c 0x35).pv := by
  subst ht
  have gc : (rowsB (c :: r)).getD 0 [] = [.lit (.int .u8 c.toNat)] := rfl
  have lc0 : decide (((r.length + 1 : Nat) : Int) = 0) = false := decide_eq_false (by omega)
  have w1 := wrU c
  have w2 : IntKind.wrap .i64 (s.wrong + 1) = s.wrong + 1 := by rw [wrapI64_eq]; omega
  have cd := denyR_calls c.toNat 0x35
  refine PureCalls.of tabOK mixed Tryz.func46 rfl rfl (by decide +kernel) (by simp [Tryz.ntmps46]) ?_
  by_cases h2 : s.wrong = 2
  · have g : decide (s.wrong + 1 = 3) = true := decide_eq_true (by omega)
    have e : wrongA { s with quiet := 0 } = { s with quiet := 0,seed := -1,wrong := 12 } := by simp [wrongA,h2]
    rw [e]
    simp only [go_sem,zA,zB,zC,zD,zE,zF,zG,zH,zI,zJ,zK,zL,zM,zN,zO,zP,↓reduceIte,reduceCtorEq,Tryz.ntmps46,Tryz.results46,Srv.pv,Srv.cells,gc,rowsB_length,yBa,gt00,lc0]
    (refine CallA.pure (hr) (by simp only [go_sem,zA,zB,zC,zD,zE,zF,zG,zH,zI,zJ,zK,zL,zM,zN,zO,zP,↓reduceIte,reduceCtorEq,Srv.pv,Srv.cells,gc,rowsB_length,yBa,gt00,w1,w2,g] <;> first | rfl | decide) ?_; simp only [go_sem,zA,zB,zC,zD,zE,zF,zG,zH,zI,zJ,zK,zL,zM,zN,zO,zP,↓reduceIte,reduceCtorEq,Srv.pv,Srv.cells,gc,rowsB_length,yBa,gt00,w1,w2,g])
    (refine callD_pure (cd) (by simp only [go_sem,zA,zB,zC,zD,zE,zF,zG,zH,zI,zJ,zK,zL,zM,zN,zO,zP,↓reduceIte,reduceCtorEq,Srv.pv,Srv.cells] <;> first | rfl | decide) ?_; simp only [go_sem,zA,zB,zC,zD,zE,zF,zG,zH,zI,zJ,zK,zL,zM,zN,zO,zP,↓reduceIte,reduceCtorEq,Srv.pv,Srv.cells])
    refine endD_intro (by decide +kernel) ?_
    simp only [go_sem,zA,zB,zC,zD,zE,zF,zG,zH,zI,zJ,zK,zL,zM,zN,zO,zP,↓reduceIte,reduceCtorEq,Tryz.ntmps46,Tryz.results46,denyA,AskR.pv,Srv.pv,Srv.cells]
  · have g : decide (s.wrong + 1 = 3) = false := decide_eq_false (by omega)
    have e : wrongA { s with quiet := 0 } = { s with quiet := 0,seed := -1,wrong := s.wrong + 1 } := by simp [wrongA,h2]
    rw [e]
    simp only [go_sem,zA,zB,zC,zD,zE,zF,zG,zH,zI,zJ,zK,zL,zM,zN,zO,zP,↓reduceIte,reduceCtorEq,Tryz.ntmps46,Tryz.results46,Srv.pv,Srv.cells,gc,rowsB_length,yBa,gt00,lc0]
    (refine CallA.pure (hr) (by simp only [go_sem,zA,zB,zC,zD,zE,zF,zG,zH,zI,zJ,zK,zL,zM,zN,zO,zP,↓reduceIte,reduceCtorEq,Srv.pv,Srv.cells,gc,rowsB_length,yBa,gt00,w1,w2,g] <;> first | rfl | decide) ?_; simp only [go_sem,zA,zB,zC,zD,zE,zF,zG,zH,zI,zJ,zK,zL,zM,zN,zO,zP,↓reduceIte,reduceCtorEq,Srv.pv,Srv.cells,gc,rowsB_length,yBa,gt00,w1,w2,g])
    (refine callD_pure (cd) (by simp only [go_sem,zA,zB,zC,zD,zE,zF,zG,zH,zI,zJ,zK,zL,zM,zN,zO,zP,↓reduceIte,reduceCtorEq,Srv.pv,Srv.cells] <;> first | rfl | decide) ?_; simp only [go_sem,zA,zB,zC,zD,zE,zF,zG,zH,zI,zJ,zK,zL,zM,zN,zO,zP,↓reduceIte,reduceCtorEq,Srv.pv,Srv.cells])
    refine endD_intro (by decide +kernel) ?_
    simp only [go_sem,zA,zB,zC,zD,zE,zF,zG,zH,zI,zJ,zK,zL,zM,zN,zO,zP,↓reduceIte,reduceCtorEq,Tryz.ntmps46,Tryz.results46,denyA,AskR.pv,Srv.pv,Srv.cells]
theorem askR_10 {n : UInt8} (ht : { s with quiet := 0 } = t) (hr : PureCalls Tryz.prog 68 [t.pv,bytesPV [0x10,n]] (PI 0)) : PureCalls Tryz.prog 46 [s.pv,bytesPV [0x10,n]] (AskR.pv (yesA { t with ses := n.toNat,op := false,seed := -1 } 0x10 [n])) := by
  subst ht
  have gc : (rowsB [0x10,n]).getD 0 [] = [.lit (.int .u8 (UInt8.toNat 0x10))] := rfl
  have g1 : (rowsB [0x10,n]).getD 1 [] = [.lit (.int .u8 n.toNat)] := rfl
  have u : ((UInt8.toNat 16 : Nat) : Int) = 16 := rfl
  have w8 : IntKind.wrap .u8 80 = 80 := by decide
  have wn := wrU n
  refine PureCalls.of tabOK mixed Tryz.func46 rfl rfl (by decide +kernel) (by simp [Tryz.ntmps46]) ?_
  simp only [go_sem,zA,zB,zC,zD,zE,zF,zG,zH,zI,zJ,zK,zL,zM,zN,zO,zP,↓reduceIte,reduceCtorEq,Tryz.ntmps46,Tryz.results46,Srv.pv,Srv.cells,gc,rowsB_length,yBa,yBb,gt00,gt10,gt20,g1,u,w8,wn]
  (refine CallA.pure (hr) (by simp only [go_sem,zA,zB,zC,zD,zE,zF,zG,zH,zI,zJ,zK,zL,zM,zN,zO,zP,↓reduceIte,reduceCtorEq,Srv.pv,Srv.cells,gc,rowsB_length,yBa,yBb,gt00,gt10,gt20,g1,u,w8,wn] <;> first | rfl | decide) ?_; simp only [go_sem,zA,zB,zC,zD,zE,zF,zG,zH,zI,zJ,zK,zL,zM,zN,zO,zP,↓reduceIte,reduceCtorEq,Srv.pv,Srv.cells,gc,rowsB_length,yBa,yBb,gt00,gt10,gt20,g1,u,w8,wn])
  simp only [go_sem,zA,zB,zC,zD,zE,zF,zG,zH,zI,zJ,zK,zL,zM,zN,zO,zP,↓reduceIte,reduceCtorEq,Tryz.ntmps46,Tryz.results46,yesA,AskR.pv,Srv.pv,Srv.cells,rowsB,yBi,yBj,rowB]
  repeat' (first | rfl | decide +kernel | (refine ⟨?_,?_⟩))
theorem askR_seed1 (ht : { s with quiet := 0 } = t) (ho : s.op = true) (hr : PureCalls Tryz.prog 68 [t.pv,bytesPV [0x27,1]] (PI 0)) : PureCalls Tryz.prog 46 [s.pv,bytesPV [0x27,1]] (AskR.pv (yesA t 0x27 [1,0,0,0,0])) := by
  subst ht
  have gc : (rowsB [0x27,1]).getD 0 [] = [.lit (.int .u8 (UInt8.toNat 0x27))] := rfl
  have g1 : (rowsB [0x27,1]).getD 1 [] = [.lit (.int .u8 (UInt8.toNat 1))] := rfl
  have u : ((UInt8.toNat 39 : Nat) : Int) = 39 := rfl
  have u1 : ((UInt8.toNat 1 : Nat) : Int) = 1 := rfl
  have w8 : IntKind.wrap .u8 103 = 103 := by decide
  refine PureCalls.of tabOK mixed Tryz.func46 rfl rfl (by decide +kernel) (by simp [Tryz.ntmps46]) ?_
  simp only [go_sem,zA,zB,zC,zD,zE,zF,zG,zH,zI,zJ,zK,zL,zM,zN,zO,zP,↓reduceIte,reduceCtorEq,Tryz.ntmps46,Tryz.results46,Srv.pv,Srv.cells,gc,rowsB_length,yBa,yBb,gt00,gt10,gt20,g1,u,u1,w8,ho]
  (refine CallA.pure (hr) (by simp only [go_sem,zA,zB,zC,zD,zE,zF,zG,zH,zI,zJ,zK,zL,zM,zN,zO,zP,↓reduceIte,reduceCtorEq,Srv.pv,Srv.cells,gc,rowsB_length,yBa,yBb,gt00,gt10,gt20,g1,u,u1,w8,ho] <;> first | rfl | decide) ?_; simp only [go_sem,zA,zB,zC,zD,zE,zF,zG,zH,zI,zJ,zK,zL,zM,zN,zO,zP,↓reduceIte,reduceCtorEq,Srv.pv,Srv.cells,gc,rowsB_length,yBa,yBb,gt00,gt10,gt20,g1,u,u1,w8,ho])
  simp only [go_sem,zA,zB,zC,zD,zE,zF,zG,zH,zI,zJ,zK,zL,zM,zN,zO,zP,↓reduceIte,reduceCtorEq,Tryz.ntmps46,Tryz.results46,yesA,AskR.pv,Srv.pv,Srv.cells,rowsB,yBi,yBj,rowB]
  repeat' (first | rfl | decide +kernel | (refine ⟨?_,?_⟩))
theorem askR_seed2 (ht : { s with quiet := 0 } = t) (ho : s.op = false) (hd : 0 ≤ s.draw ∧ s.draw ≤ 4294967295) (hr : PureCalls Tryz.prog 68 [t.pv,bytesPV [0x27,1]] (PI 0)) : PureCalls Tryz.prog 46 [s.pv,bytesPV [0x27,1]] (AskR.pv (yesA { t with seed := t.draw,draw := nextDraw t.draw } 0x27 (1 :: fourV t.draw))) := by
  subst ht
  have gc : (rowsB [0x27,1]).getD 0 [] = [.lit (.int .u8 (UInt8.toNat 0x27))] := rfl
  have g1 : (rowsB [0x27,1]).getD 1 [] = [.lit (.int .u8 (UInt8.toNat 1))] := rfl
  have u : ((UInt8.toNat 39 : Nat) : Int) = 39 := rfl
  have u1 : ((UInt8.toNat 1 : Nat) : Int) = 1 := rfl
  have w8 : IntKind.wrap .u8 103 = 103 := by decide
  have cF := fourR_calls s.draw hd
  have cL := low_calls (IntKind.wrap .i64 (IntKind.wrap .i64 (s.draw * 1664525) + 1013904223))
  refine PureCalls.of tabOK mixed Tryz.func46 rfl rfl (by decide +kernel) (by simp [Tryz.ntmps46]) ?_
  simp only [go_sem,zA,zB,zC,zD,zE,zF,zG,zH,zI,zJ,zK,zL,zM,zN,zO,zP,↓reduceIte,reduceCtorEq,Tryz.ntmps46,Tryz.results46,Srv.pv,Srv.cells,gc,rowsB_length,yBa,yBb,gt00,gt10,gt20,g1,u,u1,w8,ho]
  (refine CallA.pure (hr) (by simp only [go_sem,zA,zB,zC,zD,zE,zF,zG,zH,zI,zJ,zK,zL,zM,zN,zO,zP,↓reduceIte,reduceCtorEq,Srv.pv,Srv.cells,gc,rowsB_length,yBa,yBb,gt00,gt10,gt20,g1,u,u1,w8,ho] <;> first | rfl | decide) ?_; simp only [go_sem,zA,zB,zC,zD,zE,zF,zG,zH,zI,zJ,zK,zL,zM,zN,zO,zP,↓reduceIte,reduceCtorEq,Srv.pv,Srv.cells,gc,rowsB_length,yBa,yBb,gt00,gt10,gt20,g1,u,u1,w8,ho])
  (refine CallA.pure (cL) (by simp only [go_sem,zA,zB,zC,zD,zE,zF,zG,zH,zI,zJ,zK,zL,zM,zN,zO,zP,↓reduceIte,reduceCtorEq] <;> first | rfl | decide) ?_; simp only [go_sem,zA,zB,zC,zD,zE,zF,zG,zH,zI,zJ,zK,zL,zM,zN,zO,zP,↓reduceIte,reduceCtorEq])
  (refine CallA.pure (cF) (by simp only [go_sem,zA,zB,zC,zD,zE,zF,zG,zH,zI,zJ,zK,zL,zM,zN,zO,zP,↓reduceIte,reduceCtorEq] <;> first | rfl | decide) ?_; simp only [go_sem,zA,zB,zC,zD,zE,zF,zG,zH,zI,zJ,zK,zL,zM,zN,zO,zP,↓reduceIte,reduceCtorEq])
  refine ⟨by simp only [fourV_len]; omega,?_⟩
  simp only [go_sem,zA,zB,zC,zD,zE,zF,zG,zH,zI,zJ,zK,zL,zM,zN,zO,zP,↓reduceIte,reduceCtorEq,Tryz.ntmps46,Tryz.results46,yesA,AskR.pv,Srv.pv,Srv.cells,rowsB,yBi,yBj,rowB]
  repeat' (first | rfl | decide +kernel | (refine ⟨?_,?_⟩))
theorem askR_key {k : List UInt8} (h4 : k.length = 4) (ht : { s with quiet := 0 } = t) (hr : PureCalls Tryz.prog 68 [t.pv,bytesPV (0x27 :: 2 :: k)] (PI 0)) : PureCalls Tryz.prog 46 [s.pv,bytesPV (0x27 :: 2 :: k)] (AskR.pv (yesA { t with op := true,seed := -1,wrong := 0 } 0x27 [2])) := by
  subst ht
  have gc : (rowsB (0x27 :: 2 :: k)).getD 0 [] = [.lit (.int .u8 (UInt8.toNat 0x27))] := rfl
  have g1 : (rowsB (0x27 :: 2 :: k)).getD 1 [] = [.lit (.int .u8 (UInt8.toNat 2))] := rfl
  have u : ((UInt8.toNat 39 : Nat) : Int) = 39 := rfl
  have u2 : ((UInt8.toNat 2 : Nat) : Int) = 2 := rfl
  have w8 : IntKind.wrap .u8 103 = 103 := by decide
  have lz : decide ((6 : Int) = 0) = false := rfl
  refine PureCalls.of tabOK mixed Tryz.func46 rfl rfl (by decide +kernel) (by simp [Tryz.ntmps46]) ?_
  simp only [go_sem,zA,zB,zC,zD,zE,zF,zG,zH,zI,zJ,zK,zL,zM,zN,zO,zP,↓reduceIte,reduceCtorEq,Tryz.ntmps46,Tryz.results46,Srv.pv,Srv.cells,gc,rowsB_length,yBa,yBb,gt00,gt10,gt20,h4,g1,u,u2,w8]
  (refine CallA.pure (hr) (by simp only [go_sem,zA,zB,zC,zD,zE,zF,zG,zH,zI,zJ,zK,zL,zM,zN,zO,zP,↓reduceIte,reduceCtorEq,Srv.pv,Srv.cells,gc,rowsB_length,yBa,yBb,gt00,gt10,gt20,h4,g1,u,u2,w8] <;> first | rfl | decide) ?_; simp only [go_sem,zA,zB,zC,zD,zE,zF,zG,zH,zI,zJ,zK,zL,zM,zN,zO,zP,↓reduceIte,reduceCtorEq,Srv.pv,Srv.cells,gc,rowsB_length,yBa,yBb,gt00,gt10,gt20,h4,g1,u,u2,w8])
  simp only [go_sem,zA,zB,zC,zD,zE,zF,zG,zH,zI,zJ,zK,zL,zM,zN,zO,zP,↓reduceIte,reduceCtorEq,Tryz.ntmps46,Tryz.results46,yesA,AskR.pv,Srv.pv,Srv.cells,rowsB,yBi,yBj,rowB]
  repeat' (first | rfl | decide +kernel | (refine ⟨?_,?_⟩))
theorem askR_22 {a b : UInt8} {i : Nat} (hi : s.items.length < 1000000) (hd : ∀ x ∈ s.items,x.data.length < 1000000) (hf : findV s.items (idV a b) false = some i) (ht : { s with quiet := 0 } = t) (hr : PureCalls Tryz.prog 68 [t.pv,bytesPV [0x22,a,b]] (PI 0)) : PureCalls Tryz.prog 46 [s.pv,bytesPV [0x22,a,b]] (AskR.pv (yesA t 0x22 (a :: b :: (t.items.getD i itmZ).data))) := by
  subst ht
  have gc : (rowsB [0x22,a,b]).getD 0 [] = [.lit (.int .u8 (UInt8.toNat 0x22))] := rfl
  have g1 : (rowsB [0x22,a,b]).getD 1 [] = [.lit (.int .u8 a.toNat)] := rfl
  have g2 : (rowsB [0x22,a,b]).getD 2 [] = [.lit (.int .u8 b.toNat)] := rfl
  have u : ((UInt8.toNat 34 : Nat) : Int) = 34 := rfl
  have w8 : IntKind.wrap .u8 98 = 98 := by decide
  have w1 := wrU a
  have w2 := wrU b
  have w3 := wrM a
  have w4 := wrI a b
  have hlt := find_lt hf
  have hrow := itmRows_at hlt
  have hdl : s.items[i].data.length < 1000000 := hd _ (List.getElem_mem _)
  have hg := itm_getD hlt
  obtain ⟨k3,k4⟩ : (0 : Int) ≤ (i : Int) ∧ (i : Int) < (s.items.length : Int) := by omega
  have cp := place_calls { s with quiet := 0 } (idV a b) hi
  rw [findI_some hf] at cp
  show PureCalls _ _ _ (AskR.pv (yesA _ 0x22 (a :: b :: (s.items.getD i itmZ).data)))
  rw [hg]
  generalize s.items[i] = x at hrow hdl
  have lx : (rowsB x.data).length = x.data.length := rowsB_length _
  refine PureCalls.of tabOK mixed Tryz.func46 rfl rfl (by decide +kernel) (by simp [Tryz.ntmps46]) ?_
  simp only [go_sem,zA,zB,zC,zD,zE,zF,zG,zH,zI,zJ,zK,zL,zM,zN,zO,zP,↓reduceIte,reduceCtorEq,Tryz.ntmps46,Tryz.results46,Srv.pv,Srv.cells,gc,rowsB_length,yBa,yBb,gt00,gt10,gt20,g1,g2,u,w8]
  (refine CallA.pure (hr) (by simp only [go_sem,zA,zB,zC,zD,zE,zF,zG,zH,zI,zJ,zK,zL,zM,zN,zO,zP,↓reduceIte,reduceCtorEq,Srv.pv,Srv.cells,gc,rowsB_length,yBa,yBb,gt00,gt10,gt20,g1,g2,u,w8] <;> first | rfl | decide) ?_; simp only [go_sem,zA,zB,zC,zD,zE,zF,zG,zH,zI,zJ,zK,zL,zM,zN,zO,zP,↓reduceIte,reduceCtorEq,Srv.pv,Srv.cells,gc,rowsB_length,yBa,yBb,gt00,gt10,gt20,g1,g2,u,w8])
  refine endD_intro (by decide +kernel) ?_
  simp only [go_sem,zA,zB,zC,zD,zE,zF,zG,zH,zI,zJ,zK,zL,zM,zN,zO,zP,↓reduceIte,reduceCtorEq,gc,g1,g2,rowsB_length,yBa,yBb,w1,w2,w3,w4]
  (refine callD_pure (cp) (by simp only [go_sem,zA,zB,zC,zD,zE,zF,zG,zH,zI,zJ,zK,zL,zM,zN,zO,zP,↓reduceIte,reduceCtorEq,Srv.pv,Srv.cells,k3,k4,hrow,yCa,yBm] <;> first | rfl | decide) ?_; simp only [go_sem,zA,zB,zC,zD,zE,zF,zG,zH,zI,zJ,zK,zL,zM,zN,zO,zP,↓reduceIte,reduceCtorEq,Srv.pv,Srv.cells,k3,k4,hrow,yCa,yBm])
  refine ⟨by omega,endD_intro (by decide +kernel) ?_⟩
  simp only [go_sem,zA,zB,zC,zD,zE,zF,zG,zH,zI,zJ,zK,zL,zM,zN,zO,zP,↓reduceIte,reduceCtorEq,Tryz.ntmps46,Tryz.results46,yesA,AskR.pv,Srv.pv,Srv.cells,rowsB,yBi,yBj,rowB]
  repeat' (first | rfl | decide +kernel | (refine ⟨?_,?_⟩))
theorem askR_14 (ht : { s with quiet := 0 } = t) (hr : PureCalls Tryz.prog 68 [t.pv,bytesPV [0x14]] (PI 0)) : PureCalls Tryz.prog 46 [s.pv,bytesPV [0x14]] (AskR.pv (yesA { t with dtc := [] } 0x14 [])) := by
  subst ht
  have gc : (rowsB [0x14]).getD 0 [] = [.lit (.int .u8 (UInt8.toNat 0x14))] := rfl
  have u : ((UInt8.toNat 20 : Nat) : Int) = 20 := rfl
  have w8 : IntKind.wrap .u8 84 = 84 := by decide
  have cc := clearR_calls s.dtc
  refine PureCalls.of tabOK mixed Tryz.func46 rfl rfl (by decide +kernel) (by simp [Tryz.ntmps46]) ?_
  simp only [go_sem,zA,zB,zC,zD,zE,zF,zG,zH,zI,zJ,zK,zL,zM,zN,zO,zP,↓reduceIte,reduceCtorEq,Tryz.ntmps46,Tryz.results46,Srv.pv,Srv.cells,gc,rowsB_length,yBa,yBb,gt00,gt10,gt20,u,w8]
  (refine CallA.pure (hr) (by simp only [go_sem,zA,zB,zC,zD,zE,zF,zG,zH,zI,zJ,zK,zL,zM,zN,zO,zP,↓reduceIte,reduceCtorEq,Srv.pv,Srv.cells,gc,rowsB_length,yBa,yBb,gt00,gt10,gt20,u,w8] <;> first | rfl | decide) ?_; simp only [go_sem,zA,zB,zC,zD,zE,zF,zG,zH,zI,zJ,zK,zL,zM,zN,zO,zP,↓reduceIte,reduceCtorEq,Srv.pv,Srv.cells,gc,rowsB_length,yBa,yBb,gt00,gt10,gt20,u,w8])
  (refine CallA.pure (cc) (by simp only [go_sem,zA,zB,zC,zD,zE,zF,zG,zH,zI,zJ,zK,zL,zM,zN,zO,zP,↓reduceIte,reduceCtorEq] <;> first | rfl | decide) ?_; simp only [go_sem,zA,zB,zC,zD,zE,zF,zG,zH,zI,zJ,zK,zL,zM,zN,zO,zP,↓reduceIte,reduceCtorEq])
  simp only [go_sem,zA,zB,zC,zD,zE,zF,zG,zH,zI,zJ,zK,zL,zM,zN,zO,zP,↓reduceIte,reduceCtorEq,Tryz.ntmps46,Tryz.results46,yesA,AskR.pv,Srv.pv,Srv.cells,rowsB,yBi,yBj,rowB]
  repeat' (first | rfl | decide +kernel | (refine ⟨?_,?_⟩))
theorem askR_3e (ht : { s with quiet := 0 } = t) (hr : PureCalls Tryz.prog 68 [t.pv,bytesPV [0x3E]] (PI 0)) : PureCalls Tryz.prog 46 [s.pv,bytesPV [0x3E]] (AskR.pv (yesA t 0x3E [])) := by
  subst ht
  have gc : (rowsB [0x3E]).getD 0 [] = [.lit (.int .u8 (UInt8.toNat 0x3E))] := rfl
  have u : ((UInt8.toNat 62 : Nat) : Int) = 62 := rfl
  have w8 : IntKind.wrap .u8 126 = 126 := by decide
  refine PureCalls.of tabOK mixed Tryz.func46 rfl rfl (by decide +kernel) (by simp [Tryz.ntmps46]) ?_
  simp only [go_sem,zA,zB,zC,zD,zE,zF,zG,zH,zI,zJ,zK,zL,zM,zN,zO,zP,↓reduceIte,reduceCtorEq,Tryz.ntmps46,Tryz.results46,Srv.pv,Srv.cells,gc,rowsB_length,yBa,yBb,gt00,gt10,gt20,u,w8]
  (refine CallA.pure (hr) (by simp only [go_sem,zA,zB,zC,zD,zE,zF,zG,zH,zI,zJ,zK,zL,zM,zN,zO,zP,↓reduceIte,reduceCtorEq,Srv.pv,Srv.cells,gc,rowsB_length,yBa,yBb,gt00,gt10,gt20,u,w8] <;> first | rfl | decide) ?_; simp only [go_sem,zA,zB,zC,zD,zE,zF,zG,zH,zI,zJ,zK,zL,zM,zN,zO,zP,↓reduceIte,reduceCtorEq,Srv.pv,Srv.cells,gc,rowsB_length,yBa,yBb,gt00,gt10,gt20,u,w8])
  simp only [go_sem,zA,zB,zC,zD,zE,zF,zG,zH,zI,zJ,zK,zL,zM,zN,zO,zP,↓reduceIte,reduceCtorEq,Tryz.ntmps46,Tryz.results46,yesA,AskR.pv,Srv.pv,Srv.cells,rowsB,yBi,yBj,rowB]
  repeat' (first | rfl | decide +kernel | (refine ⟨?_,?_⟩))
theorem askR_19 {m : UInt8} (hd : s.dtc.length < 1000000) (ht : { s with quiet := 0 } = t) (hr : PureCalls Tryz.prog 68 [t.pv,bytesPV [0x19,m]] (PI 0)) : PureCalls Tryz.prog 46 [s.pv,bytesPV [0x19,m]] (AskR.pv (yesA t 0x19 (m :: packV m.toNat t.dtc))) := by
  subst ht
  have gc : (rowsB [0x19,m]).getD 0 [] = [.lit (.int .u8 (UInt8.toNat 0x19))] := rfl
  have g1 : (rowsB [0x19,m]).getD 1 [] = [.lit (.int .u8 m.toNat)] := rfl
  have u : ((UInt8.toNat 25 : Nat) : Int) = 25 := rfl
  have w8 : IntKind.wrap .u8 89 = 89 := by decide
  have wn := wrU m
  have cp := packR_calls s.dtc m.toNat hd
  have lp := pack_lt m.toNat hd
  show PureCalls _ _ _ (AskR.pv (yesA _ 0x19 (m :: packV m.toNat s.dtc)))
  generalize packV m.toNat s.dtc = o at cp lp
  refine PureCalls.of tabOK mixed Tryz.func46 rfl rfl (by decide +kernel) (by simp [Tryz.ntmps46]) ?_
  simp only [go_sem,zA,zB,zC,zD,zE,zF,zG,zH,zI,zJ,zK,zL,zM,zN,zO,zP,↓reduceIte,reduceCtorEq,Tryz.ntmps46,Tryz.results46,Srv.pv,Srv.cells,gc,rowsB_length,yBa,yBb,gt00,gt10,gt20,g1,u,w8,wn]
  (refine CallA.pure (hr) (by simp only [go_sem,zA,zB,zC,zD,zE,zF,zG,zH,zI,zJ,zK,zL,zM,zN,zO,zP,↓reduceIte,reduceCtorEq,Srv.pv,Srv.cells,gc,rowsB_length,yBa,yBb,gt00,gt10,gt20,g1,u,w8,wn] <;> first | rfl | decide) ?_; simp only [go_sem,zA,zB,zC,zD,zE,zF,zG,zH,zI,zJ,zK,zL,zM,zN,zO,zP,↓reduceIte,reduceCtorEq,Srv.pv,Srv.cells,gc,rowsB_length,yBa,yBb,gt00,gt10,gt20,g1,u,w8,wn])
  (refine callD_pure (cp) (by simp only [go_sem,zA,zB,zC,zD,zE,zF,zG,zH,zI,zJ,zK,zL,zM,zN,zO,zP,↓reduceIte,reduceCtorEq] <;> first | rfl | decide) ?_; simp only [go_sem,zA,zB,zC,zD,zE,zF,zG,zH,zI,zJ,zK,zL,zM,zN,zO,zP,↓reduceIte,reduceCtorEq])
  refine ⟨by omega,endD_intro (by decide +kernel) ?_⟩
  simp only [go_sem,zA,zB,zC,zD,zE,zF,zG,zH,zI,zJ,zK,zL,zM,zN,zO,zP,↓reduceIte,reduceCtorEq,Tryz.ntmps46,Tryz.results46,yesA,AskR.pv,Srv.pv,Srv.cells,rowsB,yBi,yBj,rowB]
  repeat' (first | rfl | decide +kernel | (refine ⟨?_,?_⟩))
theorem askR_hand {c : UInt8} {r : List UInt8} (hc : c = 0x34 ∨ c = 0x36 ∨ c = 0x37) (ht : { s with quiet := 0 } = t) (hr : PureCalls Tryz.prog 68 [t.pv,bytesPV (c :: r)] (PI 0)) : PureCalls Tryz.prog 46 [s.pv,bytesPV (c :: r)] (AskR.pv (t,[],true)) := by
  subst ht
  rcases hc with rfl | rfl | rfl
  · have gc : (rowsB (52 :: r)).getD 0 [] = [.lit (.int .u8 (UInt8.toNat 52))] := rfl
    have u : ((UInt8.toNat 52 : Nat) : Int) = 52 := rfl
    have lc0 : decide (((r.length + 1 : Nat) : Int) = 0) = false := decide_eq_false (by omega)
    refine PureCalls.of tabOK mixed Tryz.func46 rfl rfl (by decide +kernel) (by simp [Tryz.ntmps46]) ?_
    simp only [go_sem,zA,zB,zC,zD,zE,zF,zG,zH,zI,zJ,zK,zL,zM,zN,zO,zP,↓reduceIte,reduceCtorEq,Tryz.ntmps46,Tryz.results46,Srv.pv,Srv.cells,gc,rowsB_length,yBa,yBb,gt00,gt10,gt20,u,lc0,Tryz.ntmps46,Tryz.results46]
    (refine CallA.pure (hr) (by simp only [go_sem,zA,zB,zC,zD,zE,zF,zG,zH,zI,zJ,zK,zL,zM,zN,zO,zP,↓reduceIte,reduceCtorEq,Srv.pv,Srv.cells,gc,rowsB_length,yBa,yBb,gt00,gt10,gt20,u,lc0,Tryz.ntmps46,Tryz.results46] <;> first | rfl | decide) ?_; simp only [go_sem,zA,zB,zC,zD,zE,zF,zG,zH,zI,zJ,zK,zL,zM,zN,zO,zP,↓reduceIte,reduceCtorEq,Srv.pv,Srv.cells,gc,rowsB_length,yBa,yBb,gt00,gt10,gt20,u,lc0,Tryz.ntmps46,Tryz.results46])
  · have gc : (rowsB (54 :: r)).getD 0 [] = [.lit (.int .u8 (UInt8.toNat 54))] := rfl
    have u : ((UInt8.toNat 54 : Nat) : Int) = 54 := rfl
    have lc0 : decide (((r.length + 1 : Nat) : Int) = 0) = false := decide_eq_false (by omega)
    refine PureCalls.of tabOK mixed Tryz.func46 rfl rfl (by decide +kernel) (by simp [Tryz.ntmps46]) ?_
    simp only [go_sem,zA,zB,zC,zD,zE,zF,zG,zH,zI,zJ,zK,zL,zM,zN,zO,zP,↓reduceIte,reduceCtorEq,Tryz.ntmps46,Tryz.results46,Srv.pv,Srv.cells,gc,rowsB_length,yBa,yBb,gt00,gt10,gt20,u,lc0,Tryz.ntmps46,Tryz.results46]
    (refine CallA.pure (hr) (by simp only [go_sem,zA,zB,zC,zD,zE,zF,zG,zH,zI,zJ,zK,zL,zM,zN,zO,zP,↓reduceIte,reduceCtorEq,Srv.pv,Srv.cells,gc,rowsB_length,yBa,yBb,gt00,gt10,gt20,u,lc0,Tryz.ntmps46,Tryz.results46] <;> first | rfl | decide) ?_; simp only [go_sem,zA,zB,zC,zD,zE,zF,zG,zH,zI,zJ,zK,zL,zM,zN,zO,zP,↓reduceIte,reduceCtorEq,Srv.pv,Srv.cells,gc,rowsB_length,yBa,yBb,gt00,gt10,gt20,u,lc0,Tryz.ntmps46,Tryz.results46])
  · have gc : (rowsB (55 :: r)).getD 0 [] = [.lit (.int .u8 (UInt8.toNat 55))] := rfl
    have u : ((UInt8.toNat 55 : Nat) : Int) = 55 := rfl
    have lc0 : decide (((r.length + 1 : Nat) : Int) = 0) = false := decide_eq_false (by omega)
    refine PureCalls.of tabOK mixed Tryz.func46 rfl rfl (by decide +kernel) (by simp [Tryz.ntmps46]) ?_
    simp only [go_sem,zA,zB,zC,zD,zE,zF,zG,zH,zI,zJ,zK,zL,zM,zN,zO,zP,↓reduceIte,reduceCtorEq,Tryz.ntmps46,Tryz.results46,Srv.pv,Srv.cells,gc,rowsB_length,yBa,yBb,gt00,gt10,gt20,u,lc0,Tryz.ntmps46,Tryz.results46]
    (refine CallA.pure (hr) (by simp only [go_sem,zA,zB,zC,zD,zE,zF,zG,zH,zI,zJ,zK,zL,zM,zN,zO,zP,↓reduceIte,reduceCtorEq,Srv.pv,Srv.cells,gc,rowsB_length,yBa,yBb,gt00,gt10,gt20,u,lc0,Tryz.ntmps46,Tryz.results46] <;> first | rfl | decide) ?_; simp only [go_sem,zA,zB,zC,zD,zE,zF,zG,zH,zI,zJ,zK,zL,zM,zN,zO,zP,↓reduceIte,reduceCtorEq,Srv.pv,Srv.cells,gc,rowsB_length,yBa,yBb,gt00,gt10,gt20,u,lc0,Tryz.ntmps46,Tryz.results46])
theorem itmRows_set {l : List Itm} {i : Nat} {x : Itm} {d : List UInt8} (h : l[i]? = some x) : (itmRows l).set i [PI x.id,PB x.wr,bytesPV d] = itmRows (l.set i { x with data := d }) := by
  simp [itmRows,Itm.cells,List.map_set]
theorem askR_2e {a b : UInt8} {d : List UInt8} {i : Nat} (hi : s.items.length < 1000000) (hd : d.length < 1000000) (hf : findV s.items (idV a b) false = some i) (ht : { s with quiet := 0 } = t) (hr : PureCalls Tryz.prog 68 [t.pv,bytesPV (0x2E :: a :: b :: d)] (PI 0)) : PureCalls Tryz.prog 46 [s.pv,bytesPV (0x2E :: a :: b :: d)] (AskR.pv (yesA { t with items := t.items.set i { t.items.getD i itmZ with data := d } } 0x2E [a,b])) := by
  subst ht
  have gc : (rowsB (0x2E :: a :: b :: d)).getD 0 [] = [.lit (.int .u8 (UInt8.toNat 0x2E))] := rfl
  have g1 : (rowsB (0x2E :: a :: b :: d)).getD 1 [] = [.lit (.int .u8 a.toNat)] := rfl
  have g2 : (rowsB (0x2E :: a :: b :: d)).getD 2 [] = [.lit (.int .u8 b.toNat)] := rfl
  have g3 : (rowsB (0x2E :: a :: b :: d)).drop 3 = rowsB d := rfl
  have u : ((UInt8.toNat 46 : Nat) : Int) = 46 := rfl
  have w8 : IntKind.wrap .u8 110 = 110 := by decide
  have w1 := wrU a
  have w2 := wrU b
  have w3 := wrM a
  have w4 := wrI a b
  have hlt := find_lt hf
  have hrow := itmRows_at hlt
  have hg := itm_getD hlt
  have hst := itmRows_set (d := d) (List.getElem?_eq_getElem hlt)
  obtain ⟨k3,k4⟩ : (0 : Int) ≤ (i : Int) ∧ (i : Int) < (s.items.length : Int) := by omega
  have cp := place_calls { s with quiet := 0 } (idV a b) hi
  rw [findI_some hf] at cp
  show PureCalls _ _ _ (AskR.pv (yesA { ses := s.ses,op := s.op,seed := s.seed,wrong := s.wrong,quiet := 0,draw := s.draw,sec := s.sec,items := s.items.set i { s.items.getD i itmZ with data := d },dtc := s.dtc } 0x2E [a,b]))
  rw [hg]
  generalize s.items[i] = x at hrow hst
  have lz : decide (((d.length + 1 + 1 + 1 : Nat) : Int) = 0) = false := decide_eq_false (by omega)
  refine PureCalls.of tabOK mixed Tryz.func46 rfl rfl (by decide +kernel) (by simp [Tryz.ntmps46]) ?_
  simp only [go_sem,zA,zB,zC,zD,zE,zF,zG,zH,zI,zJ,zK,zL,zM,zN,zO,zP,↓reduceIte,reduceCtorEq,Tryz.ntmps46,Tryz.results46,Srv.pv,Srv.cells,gc,rowsB_length,yBa,yBb,gt00,gt10,gt20,g1,g2,u,w8,lz,w1,w2,w3,w4]
  (refine CallA.pure (hr) (by simp only [go_sem,zA,zB,zC,zD,zE,zF,zG,zH,zI,zJ,zK,zL,zM,zN,zO,zP,↓reduceIte,reduceCtorEq,Srv.pv,Srv.cells,gc,rowsB_length,yBa,yBb,gt00,gt10,gt20,g1,g2,u,w8,lz,w1,w2,w3,w4] <;> first | rfl | decide) ?_; simp only [go_sem,zA,zB,zC,zD,zE,zF,zG,zH,zI,zJ,zK,zL,zM,zN,zO,zP,↓reduceIte,reduceCtorEq,Srv.pv,Srv.cells,gc,rowsB_length,yBa,yBb,gt00,gt10,gt20,g1,g2,u,w8,lz,w1,w2,w3,w4])
  (refine callD_pure (cp) (by simp only [go_sem,zA,zB,zC,zD,zE,zF,zG,zH,zI,zJ,zK,zL,zM,zN,zO,zP,↓reduceIte,reduceCtorEq,Srv.pv,Srv.cells] <;> first | rfl | decide) ?_; simp only [go_sem,zA,zB,zC,zD,zE,zF,zG,zH,zI,zJ,zK,zL,zM,zN,zO,zP,↓reduceIte,reduceCtorEq,Srv.pv,Srv.cells])
  refine endD_intro (by decide +kernel) ?_
  simp only [go_sem,zA,zB,zC,zD,zE,zF,zG,zH,zI,zJ,zK,zL,zM,zN,zO,zP,↓reduceIte,reduceCtorEq,gc,g1,g2,g3,List.take_length,rowsB_length,yBa,yBb,yBm,w1,w2,w3,w4,k3,k4,hrow,yCa,hst]
  refine ⟨by omega,by omega,by omega,hlt,hlt,by omega,by omega,endD_intro (by decide +kernel) ?_⟩
  simp only [go_sem,zA,zB,zC,zD,zE,zF,zG,zH,zI,zJ,zK,zL,zM,zN,zO,zP,↓reduceIte,reduceCtorEq,Tryz.ntmps46,Tryz.results46,yesA,AskR.pv,Srv.pv,Srv.cells,rowsB,yBi,yBj,rowB]
  repeat' (first | rfl | decide +kernel | (refine ⟨?_,?_⟩))
end
theorem len_false {c : UInt8} {r : List UInt8} (hc : c = 0x10 ∨ c = 0x22 ∨ c = 0x2E ∨ c = 0x14 ∨ c = 0x19 ∨ c = 0x3E) (h : longV c r = false) (s : Srv) : PureCalls Tryz.prog 46 [s.pv,bytesPV (c :: r)] (denyA { s with quiet := 0 } c 0x13).pv :=
  askR_no rfl (ref_len _ c r hc h) rfl rfl
theorem askR_calls (s : Srv) (q : List UInt8) (h : RightS s) (hq : q.length < 1000000) : PureCalls Tryz.prog 46 [s.pv,bytesPV q] (askV s q).pv := by
  match q with
  | [] => exact askR_nil s
  | c :: r =>
    have hf := h.fits
    have g : ∀ t,{ s with quiet := 0 } = t → PureCalls Tryz.prog 46 [s.pv,bytesPV (c :: r)] (AskR.pv (if c = 0x10 then sesA t r else if c = 0x27 then unlA t r else if c = 0x22 then readA t r else if c = 0x2E then writeA t r else if c = 0x14 then forgetA t r
        else if c = 0x19 then maskA t r else if c = 0x3E then hereA t r else if c = 0x34 ∨ c = 0x36 ∨ c = 0x37 then handA t c else denyA t c 0x11)) := by
      intro t ht
      split
      · rename_i e; subst e
        unfold sesA
        split
        · rename_i n
          have hr := ref_10 t n
          split
          · rename_i e; rw [e,if_pos rfl] at hr; exact askR_10 ht hr
          · rename_i e; rw [if_neg e] at hr; exact askR_no ht hr rfl rfl
        · rename_i hne
          subst ht
          refine len_false (.inl rfl) ?_ s
          match r,hne with
          | [],_ => rfl
          | [n],hne => exact absurd rfl (hne n)
          | _ :: _ :: _,_ => simp [longV]
      split
      · rename_i e; subst e
        unfold unlA
        split
        · exact askR_no ht (ref_27_0 t) rfl rfl
        · rename_i k r
          split
          · rename_i hk; subst hk
            split
            · rename_i hrn; subst hrn
              have hr := ref_seed t
              unfold refS at hr
              unfold seedA
              split
              · rename_i hw; rw [if_pos hw] at hr; exact askR_no ht hr rfl rfl
              rename_i hw; rw [if_neg hw] at hr
              split
              · rename_i hs; rw [if_pos hs] at hr; exact askR_no ht hr rfl rfl
              rename_i hs; rw [if_neg hs] at hr
              split
              · rename_i ho; exact askR_seed1 ht (by rw [← ht] at ho; exact ho) hr
              · rename_i ho; exact askR_seed2 ht (by rw [← ht] at ho; simpa using ho) h.draw hr
            · rename_i hrn
              have hl : longV 0x27 (1 :: r) = false := by
                match r,hrn with
                | [],h => exact absurd rfl h
                | [_],_ => rfl
                | [_,_],_ => rfl
                | [_,_,_],_ => rfl
                | [_,_,_,_],_ => rfl
                | _ :: _ :: _ :: _ :: _ :: _,_ => rfl
              exact askR_no ht (ref_27_l t 1 r (.inl rfl) hl) rfl rfl
          · rename_i hk1
            split
            · rename_i hk; subst hk
              split
              · rename_i h4
                have hr := ref_key t (by rw [← ht]; exact h.seed.1) r h4
                unfold refK at hr
                unfold keyA
                split
                · rename_i hw; rw [if_pos hw] at hr; exact askR_no ht hr rfl rfl
                rename_i hw; rw [if_neg hw] at hr
                split
                · rename_i hs; rw [if_pos hs] at hr; exact askR_no ht hr rfl rfl
                rename_i hs; rw [if_neg hs] at hr
                split
                · rename_i hs; rw [if_pos hs] at hr; exact askR_no ht hr rfl rfl
                rename_i hsd; rw [if_neg hsd] at hr
                split
                · rename_i he; rw [if_pos he] at hr; exact askR_key h4 ht hr
                · rename_i he; rw [if_neg he] at hr
                  have hw' := Classical.not_not.1 hw
                  exact askR_wrong ht hr h.wrong.1 (by rw [← ht] at hw'; exact hw')
              · rename_i h4
                have hl : longV 0x27 (2 :: r) = false := by
                  match r,h4 with
                  | [],_ => rfl
                  | [_],_ => rfl
                  | [_,_],_ => rfl
                  | [_,_,_],_ => rfl
                  | [_,_,_,_],h => exact absurd rfl h
                  | _ :: _ :: _ :: _ :: _ :: _,_ => rfl
                exact askR_no ht (ref_27_l t 2 r (.inr rfl) hl) rfl rfl
            · rename_i hk2
              exact askR_no ht (ref_27_x t k r hk1 hk2) rfl rfl
      split
      · rename_i e; subst e
        unfold readA
        split
        · rename_i a b
          have hr := ref_22 t (by rw [← ht]; exact hf.items) a b
          split
          · rename_i i hfd
            rw [hfd] at hr
            subst ht
            exact askR_22 hf.items hf.data hfd rfl hr
          · rename_i hfd
            rw [hfd] at hr
            exact askR_no ht hr rfl rfl
        · rename_i hne
          subst ht
          refine len_false (.inr (.inl rfl)) ?_ s
          match r,hne with
          | [],_ => rfl
          | [_],_ => rfl
          | [a,b],hne => exact absurd rfl (hne a b)
          | _ :: _ :: _ :: _,_ => simp [longV]
      split
      · rename_i e; subst e
        unfold writeA
        split
        · rename_i a b d
          split
          · rename_i hdn; subst hdn; subst ht
            exact len_false (.inr (.inr (.inl rfl))) rfl s
          · rename_i hdn
            have hdl : d.length < 1000000 := by simp at hq; omega
            have hr := ref_2e t (by rw [← ht]; exact h.its) (by rw [← ht]; exact hf.items) a b d hdn hdl
            unfold refW at hr
            split
            · rename_i hs; rw [if_pos hs] at hr; exact askR_no ht hr rfl rfl
            rename_i hs; rw [if_neg hs] at hr
            split
            · rename_i hs; rw [if_pos hs] at hr; exact askR_no ht hr rfl rfl
            rename_i ho; rw [if_neg ho] at hr
            split
            · rename_i i hfd
              rw [hfd] at hr
              replace hr : PureCalls Tryz.prog 68 [t.pv,bytesPV (0x2E :: a :: b :: d)] (PI (if d.length = (t.items.getD i itmZ).data.length then 0 else 0x13)) := hr
              split
              · rename_i hlen
                rw [if_pos hlen] at hr
                have hff : findV t.items (idV a b) false = some i := by
                  rcases find_wr (by rw [← ht]; exact h.its : okIts none t.items = true) (idV a b) with ⟨e1,e2⟩ | ⟨j,hj,e1,e2⟩
                  · rw [hfd] at e2; cases e2
                  · rw [hfd] at e2
                    split at e2
                    · cases e2; exact e1
                    · cases e2
                subst ht
                exact askR_2e hf.items hdl hff rfl hr
              · rename_i hlen
                rw [if_neg hlen] at hr
                exact askR_no ht hr rfl rfl
            · rename_i hfd
              rw [hfd] at hr
              exact askR_no ht hr rfl rfl
        · rename_i hne
          subst ht
          refine len_false (.inr (.inr (.inl rfl))) ?_ s
          match r,hne with
          | [],_ => rfl
          | [_],_ => rfl
          | a :: b :: d,hne => exact absurd rfl (hne a b d)
      split
      · rename_i e; subst e
        unfold forgetA
        split
        · have hr := ref_14 t
          split
          · rename_i hs; rw [if_pos hs] at hr; exact askR_14 ht hr
          · rename_i hs; rw [if_neg hs] at hr; exact askR_no ht hr rfl rfl
        · rename_i hne
          subst ht
          refine len_false (.inr (.inr (.inr (.inl rfl)))) ?_ s
          match r,hne with
          | [],hne => exact absurd rfl hne
          | _ :: _,_ => simp [longV]
      split
      · rename_i e; subst e
        unfold maskA
        split
        · rename_i m; exact askR_19 hf.dtc ht (ref_19 t m)
        · rename_i hne
          subst ht
          refine len_false (.inr (.inr (.inr (.inr (.inl rfl))))) ?_ s
          match r,hne with
          | [],_ => rfl
          | [m],hne => exact absurd rfl (hne m)
          | _ :: _ :: _,_ => simp [longV]
      split
      · rename_i e; subst e
        unfold hereA
        split
        · exact askR_3e ht (ref_3e t)
        · rename_i hne
          subst ht
          refine len_false (.inr (.inr (.inr (.inr (.inr rfl))))) ?_ s
          match r,hne with
          | [],hne => exact absurd rfl hne
          | _ :: _,_ => simp [longV]
      split
      · rename_i hc
        have hr := ref_hand t c r hc
        unfold handA
        split
        · rename_i hs; rw [if_pos hs] at hr; exact askR_no ht hr rfl rfl
        rename_i hs; rw [if_neg hs] at hr
        split
        · rename_i ho; rw [if_pos ho] at hr; exact askR_no ht hr rfl rfl
        · rename_i ho; rw [if_neg ho] at hr; exact askR_hand hc ht hr
      · rename_i h1 h2 h3 h4 h5 h6 h7 h8
        exact askR_no ht (ref_none t c r h1 h2 h3 h4 h5 h6 h7 h8) rfl rfl
    exact g _ rfl
end Go.Proofs.YtcdmhigmgpflbaaGreat.Pe
