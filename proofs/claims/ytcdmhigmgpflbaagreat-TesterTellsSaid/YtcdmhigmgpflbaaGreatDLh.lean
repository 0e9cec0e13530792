import Derived.Test.YtcdmhigmgpflbaaGreatDLg
set_option maxRecDepth 20000
set_option maxHeartbeats 4000000
set_option linter.unusedSimpArgs false
set_option linter.unusedVariables false
open Nat renaming reduceAdd → zA,reduceSub → zB,reduceMul → zC,reduceLT → zD,reduceLeDiff → zE,reduceEqDiff → zF,reduceBEq → zG
open Int renaming reduceToNat → zH,reduceLT → zI,reduceLE → zJ,reduceEq → zK,reduceNe → zL,reduceAdd → zM,reduceSub → zN,reduceMul → zO,reduceNeg → zP
open List renaming length_cons → yBa,length_nil → yBb
namespace Go.Proofs.YtcdmhigmgpflbaaGreat.Pe
open Go.Pe Go.RowKit
theorem u8n {c k : UInt8} {n : Int} (hn : ((k.toNat : Nat) : Int) = n) (h : c ≠ k) : decide ((c.toNat : Int) = n) = false := decide_eq_false fun e => h (UInt8.toNat_inj.1 (by omega))
theorem gt10 {n : Nat} : (1 : Int) < ((n + 1 + 1 : Nat) : Int) := by omega
theorem gt00 {n : Nat} : (0 : Int) < ((n + 1 : Nat) : Int) := by omega
theorem gt20 {n : Nat} : (2 : Int) < ((n + 1 + 1 + 1 : Nat) : Int) := by omega
theorem ref_len (s : Srv) (c : UInt8) (r : List UInt8) (hc : c = 0x10 ∨ c = 0x22 ∨ c = 0x2E ∨ c = 0x14 ∨ c = 0x19 ∨ c = 0x3E) (hl : longV c r = false) : PureCalls Tryz.prog 68 [s.pv,bytesPV (c :: r)] (PI 0x13) := by
  have gc : (rowsB (c :: r)).getD 0 [] = [.lit (.int .u8 c.toNat)] := rfl
  have u1 : ((UInt8.toNat 16 : Nat) : Int) = 16 := rfl
  have u2 : ((UInt8.toNat 34 : Nat) : Int) = 34 := rfl
  have u3 : ((UInt8.toNat 46 : Nat) : Int) = 46 := rfl
  have u4 : ((UInt8.toNat 20 : Nat) : Int) = 20 := rfl
  have u5 : ((UInt8.toNat 25 : Nat) : Int) = 25 := rfl
  have u6 : ((UInt8.toNat 62 : Nat) : Int) = 62 := rfl
  rcases hc with rfl | rfl | rfl | rfl | rfl | rfl
  · refine PureCalls.of tabOK mixed Tryz.func68 rfl rfl (by decide +kernel) (by simp [Tryz.ntmps68]) ?_
    simp only [go_sem,zA,zB,zC,zD,zE,zF,zG,zH,zI,zJ,zK,zL,zM,zN,zO,zP,↓reduceIte,reduceCtorEq,Tryz.ntmps68,Tryz.results68,Srv.pv,Srv.cells,gc,rowsB_length,yBa,yBb,gt00,u1]
    (refine CallA.pure (long_at _ _ _ hl) (by simp only [go_sem,zA,zB,zC,zD,zE,zF,zG,zH,zI,zJ,zK,zL,zM,zN,zO,zP,↓reduceIte,reduceCtorEq,Srv.pv,Srv.cells,gc,rowsB_length,yBa,yBb,gt00,u1,Tryz.ntmps68,Tryz.results68] <;> first | rfl | decide) ?_; simp only [go_sem,zA,zB,zC,zD,zE,zF,zG,zH,zI,zJ,zK,zL,zM,zN,zO,zP,↓reduceIte,reduceCtorEq,Srv.pv,Srv.cells,gc,rowsB_length,yBa,yBb,gt00,u1,Tryz.ntmps68,Tryz.results68])
  · refine PureCalls.of tabOK mixed Tryz.func68 rfl rfl (by decide +kernel) (by simp [Tryz.ntmps68]) ?_
    simp only [go_sem,zA,zB,zC,zD,zE,zF,zG,zH,zI,zJ,zK,zL,zM,zN,zO,zP,↓reduceIte,reduceCtorEq,Tryz.ntmps68,Tryz.results68,Srv.pv,Srv.cells,gc,rowsB_length,yBa,yBb,gt00,u2]
    (refine CallA.pure (long_at _ _ _ hl) (by simp only [go_sem,zA,zB,zC,zD,zE,zF,zG,zH,zI,zJ,zK,zL,zM,zN,zO,zP,↓reduceIte,reduceCtorEq,Srv.pv,Srv.cells,gc,rowsB_length,yBa,yBb,gt00,u2,Tryz.ntmps68,Tryz.results68] <;> first | rfl | decide) ?_; simp only [go_sem,zA,zB,zC,zD,zE,zF,zG,zH,zI,zJ,zK,zL,zM,zN,zO,zP,↓reduceIte,reduceCtorEq,Srv.pv,Srv.cells,gc,rowsB_length,yBa,yBb,gt00,u2,Tryz.ntmps68,Tryz.results68])
  · refine PureCalls.of tabOK mixed Tryz.func68 rfl rfl (by decide +kernel) (by simp [Tryz.ntmps68]) ?_
    simp only [go_sem,zA,zB,zC,zD,zE,zF,zG,zH,zI,zJ,zK,zL,zM,zN,zO,zP,↓reduceIte,reduceCtorEq,Tryz.ntmps68,Tryz.results68,Srv.pv,Srv.cells,gc,rowsB_length,yBa,yBb,gt00,u3]
    (refine CallA.pure (long_at _ _ _ hl) (by simp only [go_sem,zA,zB,zC,zD,zE,zF,zG,zH,zI,zJ,zK,zL,zM,zN,zO,zP,↓reduceIte,reduceCtorEq,Srv.pv,Srv.cells,gc,rowsB_length,yBa,yBb,gt00,u3,Tryz.ntmps68,Tryz.results68] <;> first | rfl | decide) ?_; simp only [go_sem,zA,zB,zC,zD,zE,zF,zG,zH,zI,zJ,zK,zL,zM,zN,zO,zP,↓reduceIte,reduceCtorEq,Srv.pv,Srv.cells,gc,rowsB_length,yBa,yBb,gt00,u3,Tryz.ntmps68,Tryz.results68])
  · refine PureCalls.of tabOK mixed Tryz.func68 rfl rfl (by decide +kernel) (by simp [Tryz.ntmps68]) ?_
    simp only [go_sem,zA,zB,zC,zD,zE,zF,zG,zH,zI,zJ,zK,zL,zM,zN,zO,zP,↓reduceIte,reduceCtorEq,Tryz.ntmps68,Tryz.results68,Srv.pv,Srv.cells,gc,rowsB_length,yBa,yBb,gt00,u4]
    (refine CallA.pure (long_at _ _ _ hl) (by simp only [go_sem,zA,zB,zC,zD,zE,zF,zG,zH,zI,zJ,zK,zL,zM,zN,zO,zP,↓reduceIte,reduceCtorEq,Srv.pv,Srv.cells,gc,rowsB_length,yBa,yBb,gt00,u4,Tryz.ntmps68,Tryz.results68] <;> first | rfl | decide) ?_; simp only [go_sem,zA,zB,zC,zD,zE,zF,zG,zH,zI,zJ,zK,zL,zM,zN,zO,zP,↓reduceIte,reduceCtorEq,Srv.pv,Srv.cells,gc,rowsB_length,yBa,yBb,gt00,u4,Tryz.ntmps68,Tryz.results68])
  · refine PureCalls.of tabOK mixed Tryz.func68 rfl rfl (by decide +kernel) (by simp [Tryz.ntmps68]) ?_
    simp only [go_sem,zA,zB,zC,zD,zE,zF,zG,zH,zI,zJ,zK,zL,zM,zN,zO,zP,↓reduceIte,reduceCtorEq,Tryz.ntmps68,Tryz.results68,Srv.pv,Srv.cells,gc,rowsB_length,yBa,yBb,gt00,u5]
    (refine CallA.pure (long_at _ _ _ hl) (by simp only [go_sem,zA,zB,zC,zD,zE,zF,zG,zH,zI,zJ,zK,zL,zM,zN,zO,zP,↓reduceIte,reduceCtorEq,Srv.pv,Srv.cells,gc,rowsB_length,yBa,yBb,gt00,u5,Tryz.ntmps68,Tryz.results68] <;> first | rfl | decide) ?_; simp only [go_sem,zA,zB,zC,zD,zE,zF,zG,zH,zI,zJ,zK,zL,zM,zN,zO,zP,↓reduceIte,reduceCtorEq,Srv.pv,Srv.cells,gc,rowsB_length,yBa,yBb,gt00,u5,Tryz.ntmps68,Tryz.results68])
  · refine PureCalls.of tabOK mixed Tryz.func68 rfl rfl (by decide +kernel) (by simp [Tryz.ntmps68]) ?_
    simp only [go_sem,zA,zB,zC,zD,zE,zF,zG,zH,zI,zJ,zK,zL,zM,zN,zO,zP,↓reduceIte,reduceCtorEq,Tryz.ntmps68,Tryz.results68,Srv.pv,Srv.cells,gc,rowsB_length,yBa,yBb,gt00,u6]
    (refine CallA.pure (long_at _ _ _ hl) (by simp only [go_sem,zA,zB,zC,zD,zE,zF,zG,zH,zI,zJ,zK,zL,zM,zN,zO,zP,↓reduceIte,reduceCtorEq,Srv.pv,Srv.cells,gc,rowsB_length,yBa,yBb,gt00,u6,Tryz.ntmps68,Tryz.results68] <;> first | rfl | decide) ?_; simp only [go_sem,zA,zB,zC,zD,zE,zF,zG,zH,zI,zJ,zK,zL,zM,zN,zO,zP,↓reduceIte,reduceCtorEq,Srv.pv,Srv.cells,gc,rowsB_length,yBa,yBb,gt00,u6,Tryz.ntmps68,Tryz.results68])
theorem ref_none (s : Srv) (c : UInt8) (r : List UInt8) (h1 : c ≠ 0x10) (h2 : c ≠ 0x27) (h3 : c ≠ 0x22) (h4 : c ≠ 0x2E) (h5 : c ≠ 0x14) (h6 : c ≠ 0x19) (h7 : c ≠ 0x3E) (h8 : ¬ (c = 0x34 ∨ c = 0x36 ∨ c = 0x37)) : PureCalls Tryz.prog 68 [s.pv,bytesPV (c :: r)] (PI 0x11) := by
  have gc : (rowsB (c :: r)).getD 0 [] = [.lit (.int .u8 c.toNat)] := rfl
  simp only [not_or] at h8
  have n1 := u8n (c := c) (k := 0x10) (n := 16) rfl h1
  have n2 := u8n (c := c) (k := 0x27) (n := 39) rfl h2
  have n3 := u8n (c := c) (k := 0x22) (n := 34) rfl h3
  have n4 := u8n (c := c) (k := 0x2E) (n := 46) rfl h4
  have n5 := u8n (c := c) (k := 0x14) (n := 20) rfl h5
  have n6 := u8n (c := c) (k := 0x19) (n := 25) rfl h6
  have n7 := u8n (c := c) (k := 0x3E) (n := 62) rfl h7
  have n8 := u8n (c := c) (k := 0x34) (n := 52) rfl h8.1
  have n9 := u8n (c := c) (k := 0x36) (n := 54) rfl h8.2.1
  have n10 := u8n (c := c) (k := 0x37) (n := 55) rfl h8.2.2
  refine PureCalls.of tabOK mixed Tryz.func68 rfl rfl (by decide +kernel) (by simp [Tryz.ntmps68]) ?_
  simp only [go_sem,zA,zB,zC,zD,zE,zF,zG,zH,zI,zJ,zK,zL,zM,zN,zO,zP,↓reduceIte,reduceCtorEq,Tryz.ntmps68,Tryz.results68,Srv.pv,Srv.cells,gc,rowsB_length,yBa,gt00,n1,n2,n3,n4,n5,n6,n7,n8,n9,n10]
theorem ref_10 (s : Srv) (n : UInt8) : PureCalls Tryz.prog 68 [s.pv,bytesPV [0x10,n]] (PI (if sesOK n = true then 0 else 0x31)) := by
  have gc : (rowsB [0x10,n]).getD 0 [] = [.lit (.int .u8 (UInt8.toNat 0x10))] := rfl
  have gk : (rowsB [0x10,n]).getD 1 [] = [.lit (.int .u8 n.toNat)] := rfl
  have u : ((UInt8.toNat 16 : Nat) : Int) = 16 := rfl
  have hl : longV 0x10 [n] = true := rfl
  cases g1 : decide ((n.toNat : Int) < 1) with
  | true =>
    have e : sesOK n = false := by simp [sesOK]; simp at g1; omega
    rw [e,if_neg (by decide)]
    refine PureCalls.of tabOK mixed Tryz.func68 rfl rfl (by decide +kernel) (by simp [Tryz.ntmps68]) ?_
    simp only [go_sem,zA,zB,zC,zD,zE,zF,zG,zH,zI,zJ,zK,zL,zM,zN,zO,zP,↓reduceIte,reduceCtorEq,Tryz.ntmps68,Tryz.results68,Srv.pv,Srv.cells,gc,rowsB_length,yBa,yBb,gt00,gt10,gt20,gk,u,g1]
    (refine CallA.pure (long_at _ _ _ hl) (by simp only [go_sem,zA,zB,zC,zD,zE,zF,zG,zH,zI,zJ,zK,zL,zM,zN,zO,zP,↓reduceIte,reduceCtorEq,Srv.pv,Srv.cells,gc,rowsB_length,yBa,yBb,gt00,gt10,gt20,gk,u,g1,Tryz.ntmps68,Tryz.results68] <;> first | rfl | decide) ?_; simp only [go_sem,zA,zB,zC,zD,zE,zF,zG,zH,zI,zJ,zK,zL,zM,zN,zO,zP,↓reduceIte,reduceCtorEq,Srv.pv,Srv.cells,gc,rowsB_length,yBa,yBb,gt00,gt10,gt20,gk,u,g1,Tryz.ntmps68,Tryz.results68])
  | false =>
    cases g2 : decide ((n.toNat : Int) > 3) with
    | true =>
      have e : sesOK n = false := by simp [sesOK]; simp at g1 g2; omega
      rw [e,if_neg (by decide)]
      refine PureCalls.of tabOK mixed Tryz.func68 rfl rfl (by decide +kernel) (by simp [Tryz.ntmps68]) ?_
      simp only [go_sem,zA,zB,zC,zD,zE,zF,zG,zH,zI,zJ,zK,zL,zM,zN,zO,zP,↓reduceIte,reduceCtorEq,Tryz.ntmps68,Tryz.results68,Srv.pv,Srv.cells,gc,rowsB_length,yBa,yBb,gt00,gt10,gt20,gk,u,g1,g2]
      (refine CallA.pure (long_at _ _ _ hl) (by simp only [go_sem,zA,zB,zC,zD,zE,zF,zG,zH,zI,zJ,zK,zL,zM,zN,zO,zP,↓reduceIte,reduceCtorEq,Srv.pv,Srv.cells,gc,rowsB_length,yBa,yBb,gt00,gt10,gt20,gk,u,g1,g2,Tryz.ntmps68,Tryz.results68] <;> first | rfl | decide) ?_; simp only [go_sem,zA,zB,zC,zD,zE,zF,zG,zH,zI,zJ,zK,zL,zM,zN,zO,zP,↓reduceIte,reduceCtorEq,Srv.pv,Srv.cells,gc,rowsB_length,yBa,yBb,gt00,gt10,gt20,gk,u,g1,g2,Tryz.ntmps68,Tryz.results68])
    | false =>
      have e : sesOK n = true := by simp [sesOK]; simp at g1 g2; omega
      rw [e,if_pos rfl]
      refine PureCalls.of tabOK mixed Tryz.func68 rfl rfl (by decide +kernel) (by simp [Tryz.ntmps68]) ?_
      simp only [go_sem,zA,zB,zC,zD,zE,zF,zG,zH,zI,zJ,zK,zL,zM,zN,zO,zP,↓reduceIte,reduceCtorEq,Tryz.ntmps68,Tryz.results68,Srv.pv,Srv.cells,gc,rowsB_length,yBa,yBb,gt00,gt10,gt20,gk,u,g1,g2]
      (refine CallA.pure (long_at _ _ _ hl) (by simp only [go_sem,zA,zB,zC,zD,zE,zF,zG,zH,zI,zJ,zK,zL,zM,zN,zO,zP,↓reduceIte,reduceCtorEq,Srv.pv,Srv.cells,gc,rowsB_length,yBa,yBb,gt00,gt10,gt20,gk,u,g1,g2,Tryz.ntmps68,Tryz.results68] <;> first | rfl | decide) ?_; simp only [go_sem,zA,zB,zC,zD,zE,zF,zG,zH,zI,zJ,zK,zL,zM,zN,zO,zP,↓reduceIte,reduceCtorEq,Srv.pv,Srv.cells,gc,rowsB_length,yBa,yBb,gt00,gt10,gt20,gk,u,g1,g2,Tryz.ntmps68,Tryz.results68])
theorem ref_27_0 (s : Srv) : PureCalls Tryz.prog 68 [s.pv,bytesPV [0x27]] (PI 0x13) := by
  have gc : (rowsB [0x27]).getD 0 [] = [.lit (.int .u8 (UInt8.toNat 0x27))] := rfl
  have u : ((UInt8.toNat 39 : Nat) : Int) = 39 := rfl
  have z : decide ((1 : Int) > 1) = false := rfl
  have hl : longV 0x27 [] = false := rfl
  refine PureCalls.of tabOK mixed Tryz.func68 rfl rfl (by decide +kernel) (by simp [Tryz.ntmps68]) ?_
  simp only [go_sem,zA,zB,zC,zD,zE,zF,zG,zH,zI,zJ,zK,zL,zM,zN,zO,zP,↓reduceIte,reduceCtorEq,Tryz.ntmps68,Tryz.results68,Srv.pv,Srv.cells,gc,rowsB_length,yBa,yBb,gt00,gt10,gt20,u,z]
  (refine CallA.pure (long_at _ _ _ hl) (by simp only [go_sem,zA,zB,zC,zD,zE,zF,zG,zH,zI,zJ,zK,zL,zM,zN,zO,zP,↓reduceIte,reduceCtorEq,Srv.pv,Srv.cells,gc,rowsB_length,yBa,yBb,gt00,gt10,gt20,u,z,Tryz.ntmps68,Tryz.results68] <;> first | rfl | decide) ?_; simp only [go_sem,zA,zB,zC,zD,zE,zF,zG,zH,zI,zJ,zK,zL,zM,zN,zO,zP,↓reduceIte,reduceCtorEq,Srv.pv,Srv.cells,gc,rowsB_length,yBa,yBb,gt00,gt10,gt20,u,z,Tryz.ntmps68,Tryz.results68])
theorem ref_27_x (s : Srv) (k : UInt8) (r : List UInt8) (h1 : k ≠ 1) (h2 : k ≠ 2) : PureCalls Tryz.prog 68 [s.pv,bytesPV (0x27 :: k :: r)] (PI 0x31) := by
  have gc : (rowsB (0x27 :: k :: r)).getD 0 [] = [.lit (.int .u8 (UInt8.toNat 0x27))] := rfl
  have gk : (rowsB (0x27 :: k :: r)).getD 1 [] = [.lit (.int .u8 k.toNat)] := rfl
  have u : ((UInt8.toNat 39 : Nat) : Int) = 39 := rfl
  have z : decide (((r.length + 1 + 1 : Nat) : Int) > 1) = true := decide_eq_true (by omega)
  have n1 := u8n (c := k) (k := 1) (n := 1) rfl h1
  have n2 := u8n (c := k) (k := 2) (n := 2) rfl h2
  refine PureCalls.of tabOK mixed Tryz.func68 rfl rfl (by decide +kernel) (by simp [Tryz.ntmps68]) ?_
  simp only [go_sem,zA,zB,zC,zD,zE,zF,zG,zH,zI,zJ,zK,zL,zM,zN,zO,zP,↓reduceIte,reduceCtorEq,Tryz.ntmps68,Tryz.results68,Srv.pv,Srv.cells,gc,rowsB_length,yBa,yBb,gt00,gt10,gk,u,z,n1,n2]
theorem ref_27_l (s : Srv) (k : UInt8) (r : List UInt8) (hk : k = 1 ∨ k = 2) (hl : longV 0x27 (k :: r) = false) : PureCalls Tryz.prog 68 [s.pv,bytesPV (0x27 :: k :: r)] (PI 0x13) := by
  have gc : (rowsB (0x27 :: k :: r)).getD 0 [] = [.lit (.int .u8 (UInt8.toNat 0x27))] := rfl
  have gk : (rowsB (0x27 :: k :: r)).getD 1 [] = [.lit (.int .u8 k.toNat)] := rfl
  have u : ((UInt8.toNat 39 : Nat) : Int) = 39 := rfl
  have v1 : ((UInt8.toNat 1 : Nat) : Int) = 1 := rfl
  have v2 : ((UInt8.toNat 2 : Nat) : Int) = 2 := rfl
  have z : decide (((r.length + 1 + 1 : Nat) : Int) > 1) = true := decide_eq_true (by omega)
  rcases hk with rfl | rfl
  · refine PureCalls.of tabOK mixed Tryz.func68 rfl rfl (by decide +kernel) (by simp [Tryz.ntmps68]) ?_
    simp only [go_sem,zA,zB,zC,zD,zE,zF,zG,zH,zI,zJ,zK,zL,zM,zN,zO,zP,↓reduceIte,reduceCtorEq,Tryz.ntmps68,Tryz.results68,Srv.pv,Srv.cells,gc,rowsB_length,yBa,yBb,gt00,gt10,gt20,gk,u,z,v1]
    (refine CallA.pure (long_at _ _ _ hl) (by simp only [go_sem,zA,zB,zC,zD,zE,zF,zG,zH,zI,zJ,zK,zL,zM,zN,zO,zP,↓reduceIte,reduceCtorEq,Srv.pv,Srv.cells,gc,rowsB_length,yBa,yBb,gt00,gt10,gt20,gk,u,z,v1,Tryz.ntmps68,Tryz.results68] <;> first | rfl | decide) ?_; simp only [go_sem,zA,zB,zC,zD,zE,zF,zG,zH,zI,zJ,zK,zL,zM,zN,zO,zP,↓reduceIte,reduceCtorEq,Srv.pv,Srv.cells,gc,rowsB_length,yBa,yBb,gt00,gt10,gt20,gk,u,z,v1,Tryz.ntmps68,Tryz.results68])
  · refine PureCalls.of tabOK mixed Tryz.func68 rfl rfl (by decide +kernel) (by simp [Tryz.ntmps68]) ?_
    simp only [go_sem,zA,zB,zC,zD,zE,zF,zG,zH,zI,zJ,zK,zL,zM,zN,zO,zP,↓reduceIte,reduceCtorEq,Tryz.ntmps68,Tryz.results68,Srv.pv,Srv.cells,gc,rowsB_length,yBa,yBb,gt00,gt10,gt20,gk,u,z,v2]
    (refine CallA.pure (long_at _ _ _ hl) (by simp only [go_sem,zA,zB,zC,zD,zE,zF,zG,zH,zI,zJ,zK,zL,zM,zN,zO,zP,↓reduceIte,reduceCtorEq,Srv.pv,Srv.cells,gc,rowsB_length,yBa,yBb,gt00,gt10,gt20,gk,u,z,v2,Tryz.ntmps68,Tryz.results68] <;> first | rfl | decide) ?_; simp only [go_sem,zA,zB,zC,zD,zE,zF,zG,zH,zI,zJ,zK,zL,zM,zN,zO,zP,↓reduceIte,reduceCtorEq,Srv.pv,Srv.cells,gc,rowsB_length,yBa,yBb,gt00,gt10,gt20,gk,u,z,v2,Tryz.ntmps68,Tryz.results68])
def refS (s : Srv) : Int := if ¬ s.wrong ≤ 2 then 0x36 else if s.ses = 1 then 0x22 else 0
theorem ref_seed (s : Srv) : PureCalls Tryz.prog 68 [s.pv,bytesPV [0x27,1]] (PI (refS s)) := by
  have gc : (rowsB [0x27,1]).getD 0 [] = [.lit (.int .u8 (UInt8.toNat 0x27))] := rfl
  have gk : (rowsB [0x27,1]).getD 1 [] = [.lit (.int .u8 (UInt8.toNat 1))] := rfl
  have u : ((UInt8.toNat 39 : Nat) : Int) = 39 := rfl
  have v1 : ((UInt8.toNat 1 : Nat) : Int) = 1 := rfl
  have z : decide ((2 : Int) > 1) = true := rfl
  have hl : longV 0x27 [1] = true := rfl
  unfold refS
  by_cases hw : s.wrong ≤ 2
  rotate_left 1
  · have g : decide (s.wrong > 2) = true := decide_eq_true (by omega)
    rw [if_pos hw]
    refine PureCalls.of tabOK mixed Tryz.func68 rfl rfl (by decide +kernel) (by simp [Tryz.ntmps68]) ?_
    simp only [go_sem,zA,zB,zC,zD,zE,zF,zG,zH,zI,zJ,zK,zL,zM,zN,zO,zP,↓reduceIte,reduceCtorEq,Tryz.ntmps68,Tryz.results68,Srv.pv,Srv.cells,gc,rowsB_length,yBa,yBb,gt00,gt10,gt20,gk,u,z,v1,g]
    (refine CallA.pure (long_at _ _ _ hl) (by simp only [go_sem,zA,zB,zC,zD,zE,zF,zG,zH,zI,zJ,zK,zL,zM,zN,zO,zP,↓reduceIte,reduceCtorEq,Srv.pv,Srv.cells,gc,rowsB_length,yBa,yBb,gt00,gt10,gt20,gk,u,z,v1,g,Tryz.ntmps68,Tryz.results68] <;> first | rfl | decide) ?_; simp only [go_sem,zA,zB,zC,zD,zE,zF,zG,zH,zI,zJ,zK,zL,zM,zN,zO,zP,↓reduceIte,reduceCtorEq,Srv.pv,Srv.cells,gc,rowsB_length,yBa,yBb,gt00,gt10,gt20,gk,u,z,v1,g,Tryz.ntmps68,Tryz.results68])
  have g : decide (s.wrong > 2) = false := decide_eq_false (by omega)
  rw [if_neg (fun h => h hw)]
  by_cases hs : s.ses = 1
  · have g2 : decide (s.ses = 1) = true := decide_eq_true hs
    rw [if_pos hs]
    refine PureCalls.of tabOK mixed Tryz.func68 rfl rfl (by decide +kernel) (by simp [Tryz.ntmps68]) ?_
    simp only [go_sem,zA,zB,zC,zD,zE,zF,zG,zH,zI,zJ,zK,zL,zM,zN,zO,zP,↓reduceIte,reduceCtorEq,Tryz.ntmps68,Tryz.results68,Srv.pv,Srv.cells,gc,rowsB_length,yBa,yBb,gt00,gt10,gt20,gk,u,z,v1,g,g2]
    (refine CallA.pure (long_at _ _ _ hl) (by simp only [go_sem,zA,zB,zC,zD,zE,zF,zG,zH,zI,zJ,zK,zL,zM,zN,zO,zP,↓reduceIte,reduceCtorEq,Srv.pv,Srv.cells,gc,rowsB_length,yBa,yBb,gt00,gt10,gt20,gk,u,z,v1,g,g2,Tryz.ntmps68,Tryz.results68] <;> first | rfl | decide) ?_; simp only [go_sem,zA,zB,zC,zD,zE,zF,zG,zH,zI,zJ,zK,zL,zM,zN,zO,zP,↓reduceIte,reduceCtorEq,Srv.pv,Srv.cells,gc,rowsB_length,yBa,yBb,gt00,gt10,gt20,gk,u,z,v1,g,g2,Tryz.ntmps68,Tryz.results68])
  · have g2 : decide (s.ses = 1) = false := decide_eq_false hs
    rw [if_neg hs]
    refine PureCalls.of tabOK mixed Tryz.func68 rfl rfl (by decide +kernel) (by simp [Tryz.ntmps68]) ?_
    simp only [go_sem,zA,zB,zC,zD,zE,zF,zG,zH,zI,zJ,zK,zL,zM,zN,zO,zP,↓reduceIte,reduceCtorEq,Tryz.ntmps68,Tryz.results68,Srv.pv,Srv.cells,gc,rowsB_length,yBa,yBb,gt00,gt10,gk,u,z,v1,g,g2]
    (refine CallA.pure (long_at _ _ _ hl) (by simp only [go_sem,zA,zB,zC,zD,zE,zF,zG,zH,zI,zJ,zK,zL,zM,zN,zO,zP,↓reduceIte,reduceCtorEq,Srv.pv,Srv.cells,gc,rowsB_length,yBa,yBb,gt00,gt10,gk,u,z,v1,g,g2] <;> first | rfl | decide) ?_; simp only [go_sem,zA,zB,zC,zD,zE,zF,zG,zH,zI,zJ,zK,zL,zM,zN,zO,zP,↓reduceIte,reduceCtorEq,Srv.pv,Srv.cells,gc,rowsB_length,yBa,yBb,gt00,gt10,gk,u,z,v1,g,g2])
    refine endD_intro (by decide +kernel) ?_
    simp only [go_sem,zA,zB,zC,zD,zE,zF,zG,zH,zI,zJ,zK,zL,zM,zN,zO,zP,↓reduceIte,reduceCtorEq,Tryz.ntmps68,Tryz.results68]
def refK (s : Srv) (k : List UInt8) : Int := if ¬ s.wrong ≤ 2 then 0x36 else if s.ses = 1 then 0x22 else if ¬ s.seed ≥ 0 then 0x22 else if k = fourV (keyV s.seed s.sec) then 0 else 0x35
theorem ref_key (s : Srv) (hs1 : -1 ≤ s.seed) (k : List UInt8) (h4 : k.length = 4) : PureCalls Tryz.prog 68 [s.pv,bytesPV (0x27 :: 2 :: k)] (PI (refK s k)) := by
  have gc : (rowsB (0x27 :: 2 :: k)).getD 0 [] = [.lit (.int .u8 (UInt8.toNat 0x27))] := rfl
  have gk : (rowsB (0x27 :: 2 :: k)).getD 1 [] = [.lit (.int .u8 (UInt8.toNat 2))] := rfl
  have gd : (rowsB (0x27 :: 2 :: k)).drop 2 = rowsB k := rfl
  have gt : k.take 4 = k := by rw [← h4]; exact List.take_length
  have u : ((UInt8.toNat 39 : Nat) : Int) = 39 := rfl
  have v2 : ((UInt8.toNat 2 : Nat) : Int) = 2 := rfl
  have z : decide ((6 : Int) > 1) = true := rfl
  have hl : longV 0x27 (2 :: k) = true := by
    match k,h4 with
    | [_,_,_,_],_ => rfl
  unfold refK
  by_cases hw : s.wrong ≤ 2
  rotate_left 1
  · have g : decide (s.wrong > 2) = true := decide_eq_true (by omega)
    rw [if_pos hw]
    refine PureCalls.of tabOK mixed Tryz.func68 rfl rfl (by decide +kernel) (by simp [Tryz.ntmps68]) ?_
    simp only [go_sem,zA,zB,zC,zD,zE,zF,zG,zH,zI,zJ,zK,zL,zM,zN,zO,zP,↓reduceIte,reduceCtorEq,Tryz.ntmps68,Tryz.results68,Srv.pv,Srv.cells,gc,rowsB_length,yBa,yBb,gt00,gt10,gt20,h4,gk,u,z,v2,g]
    (refine CallA.pure (long_at _ _ _ hl) (by simp only [go_sem,zA,zB,zC,zD,zE,zF,zG,zH,zI,zJ,zK,zL,zM,zN,zO,zP,↓reduceIte,reduceCtorEq,Srv.pv,Srv.cells,gc,rowsB_length,yBa,yBb,gt00,gt10,gt20,h4,gk,u,z,v2,g,Tryz.ntmps68,Tryz.results68] <;> first | rfl | decide) ?_; simp only [go_sem,zA,zB,zC,zD,zE,zF,zG,zH,zI,zJ,zK,zL,zM,zN,zO,zP,↓reduceIte,reduceCtorEq,Srv.pv,Srv.cells,gc,rowsB_length,yBa,yBb,gt00,gt10,gt20,h4,gk,u,z,v2,g,Tryz.ntmps68,Tryz.results68])
  have g : decide (s.wrong > 2) = false := decide_eq_false (by omega)
  rw [if_neg (fun h => h hw)]
  by_cases hs : s.ses = 1
  · have g2 : decide (s.ses = 1) = true := decide_eq_true hs
    rw [if_pos hs]
    refine PureCalls.of tabOK mixed Tryz.func68 rfl rfl (by decide +kernel) (by simp [Tryz.ntmps68]) ?_
    simp only [go_sem,zA,zB,zC,zD,zE,zF,zG,zH,zI,zJ,zK,zL,zM,zN,zO,zP,↓reduceIte,reduceCtorEq,Tryz.ntmps68,Tryz.results68,Srv.pv,Srv.cells,gc,rowsB_length,yBa,yBb,gt00,gt10,gt20,h4,gk,u,z,v2,g,g2]
    (refine CallA.pure (long_at _ _ _ hl) (by simp only [go_sem,zA,zB,zC,zD,zE,zF,zG,zH,zI,zJ,zK,zL,zM,zN,zO,zP,↓reduceIte,reduceCtorEq,Srv.pv,Srv.cells,gc,rowsB_length,yBa,yBb,gt00,gt10,gt20,h4,gk,u,z,v2,g,g2,Tryz.ntmps68,Tryz.results68] <;> first | rfl | decide) ?_; simp only [go_sem,zA,zB,zC,zD,zE,zF,zG,zH,zI,zJ,zK,zL,zM,zN,zO,zP,↓reduceIte,reduceCtorEq,Srv.pv,Srv.cells,gc,rowsB_length,yBa,yBb,gt00,gt10,gt20,h4,gk,u,z,v2,g,g2,Tryz.ntmps68,Tryz.results68])
  have g2 : decide (s.ses = 1) = false := decide_eq_false hs
  rw [if_neg hs]
  by_cases hsd : s.seed ≥ 0
  rotate_left 1
  · have g3 : decide (s.seed = -1) = true := decide_eq_true (by omega)
    rw [if_pos hsd]
    refine PureCalls.of tabOK mixed Tryz.func68 rfl rfl (by decide +kernel) (by simp [Tryz.ntmps68]) ?_
    simp only [go_sem,zA,zB,zC,zD,zE,zF,zG,zH,zI,zJ,zK,zL,zM,zN,zO,zP,↓reduceIte,reduceCtorEq,Tryz.ntmps68,Tryz.results68,Srv.pv,Srv.cells,gc,rowsB_length,yBa,yBb,gt00,gt10,gt20,h4,gk,u,z,v2,g,g2,g3]
    (refine CallA.pure (long_at _ _ _ hl) (by simp only [go_sem,zA,zB,zC,zD,zE,zF,zG,zH,zI,zJ,zK,zL,zM,zN,zO,zP,↓reduceIte,reduceCtorEq,Srv.pv,Srv.cells,gc,rowsB_length,yBa,yBb,gt00,gt10,gt20,h4,gk,u,z,v2,g,g2,g3,Tryz.ntmps68,Tryz.results68] <;> first | rfl | decide) ?_; simp only [go_sem,zA,zB,zC,zD,zE,zF,zG,zH,zI,zJ,zK,zL,zM,zN,zO,zP,↓reduceIte,reduceCtorEq,Srv.pv,Srv.cells,gc,rowsB_length,yBa,yBb,gt00,gt10,gt20,h4,gk,u,z,v2,g,g2,g3,Tryz.ntmps68,Tryz.results68])
  have g3 : decide (s.seed = -1) = false := decide_eq_false (by omega)
  rw [if_neg (fun h => h hsd)]
  have cK := keyR22_calls s.seed s.sec
  have cF := fourR_calls _ (keyV_wide s.seed s.sec)
  by_cases he : k = fourV (keyV s.seed s.sec)
  · have g4 : decide (k = fourV (keyV s.seed s.sec)) = true := decide_eq_true he
    rw [if_pos he]
    refine PureCalls.of tabOK mixed Tryz.func68 rfl rfl (by decide +kernel) (by simp [Tryz.ntmps68]) ?_
    simp only [go_sem,zA,zB,zC,zD,zE,zF,zG,zH,zI,zJ,zK,zL,zM,zN,zO,zP,↓reduceIte,reduceCtorEq,Tryz.ntmps68,Tryz.results68,Srv.pv,Srv.cells,gc,rowsB_length,yBa,yBb,gt00,gt10,h4,gk,u,z,v2,g,g2,g3]
    (refine CallA.pure (long_at _ _ _ hl) (by simp only [go_sem,zA,zB,zC,zD,zE,zF,zG,zH,zI,zJ,zK,zL,zM,zN,zO,zP,↓reduceIte,reduceCtorEq,Srv.pv,Srv.cells,gc,rowsB_length,yBa,yBb,gt00,gt10,h4,gk,gd,gt,u,z,v2,g,g2,g3] <;> first | rfl | decide) ?_; simp only [go_sem,zA,zB,zC,zD,zE,zF,zG,zH,zI,zJ,zK,zL,zM,zN,zO,zP,↓reduceIte,reduceCtorEq,Srv.pv,Srv.cells,gc,rowsB_length,yBa,yBb,gt00,gt10,h4,gk,gd,gt,u,z,v2,g,g2,g3])
    (refine callD_pure (cK) (by simp only [go_sem,zA,zB,zC,zD,zE,zF,zG,zH,zI,zJ,zK,zL,zM,zN,zO,zP,↓reduceIte,reduceCtorEq] <;> first | rfl | decide) ?_; simp only [go_sem,zA,zB,zC,zD,zE,zF,zG,zH,zI,zJ,zK,zL,zM,zN,zO,zP,↓reduceIte,reduceCtorEq])
    (refine callD_pure (cF) (by simp only [go_sem,zA,zB,zC,zD,zE,zF,zG,zH,zI,zJ,zK,zL,zM,zN,zO,zP,↓reduceIte,reduceCtorEq,g4] <;> first | rfl | decide) ?_; simp only [go_sem,zA,zB,zC,zD,zE,zF,zG,zH,zI,zJ,zK,zL,zM,zN,zO,zP,↓reduceIte,reduceCtorEq,g4])
    refine endD_intro (by decide +kernel) ?_
    simp only [go_sem,zA,zB,zC,zD,zE,zF,zG,zH,zI,zJ,zK,zL,zM,zN,zO,zP,↓reduceIte,reduceCtorEq,Tryz.ntmps68,Tryz.results68]
  · have g4 : decide (k = fourV (keyV s.seed s.sec)) = false := decide_eq_false he
    rw [if_neg he]
    refine PureCalls.of tabOK mixed Tryz.func68 rfl rfl (by decide +kernel) (by simp [Tryz.ntmps68]) ?_
    simp only [go_sem,zA,zB,zC,zD,zE,zF,zG,zH,zI,zJ,zK,zL,zM,zN,zO,zP,↓reduceIte,reduceCtorEq,Tryz.ntmps68,Tryz.results68,Srv.pv,Srv.cells,gc,rowsB_length,yBa,yBb,gt00,gt10,h4,gk,u,z,v2,g,g2,g3]
    (refine CallA.pure (long_at _ _ _ hl) (by simp only [go_sem,zA,zB,zC,zD,zE,zF,zG,zH,zI,zJ,zK,zL,zM,zN,zO,zP,↓reduceIte,reduceCtorEq,Srv.pv,Srv.cells,gc,rowsB_length,yBa,yBb,gt00,gt10,h4,gk,gd,gt,u,z,v2,g,g2,g3] <;> first | rfl | decide) ?_; simp only [go_sem,zA,zB,zC,zD,zE,zF,zG,zH,zI,zJ,zK,zL,zM,zN,zO,zP,↓reduceIte,reduceCtorEq,Srv.pv,Srv.cells,gc,rowsB_length,yBa,yBb,gt00,gt10,h4,gk,gd,gt,u,z,v2,g,g2,g3])
    (refine callD_pure (cK) (by simp only [go_sem,zA,zB,zC,zD,zE,zF,zG,zH,zI,zJ,zK,zL,zM,zN,zO,zP,↓reduceIte,reduceCtorEq] <;> first | rfl | decide) ?_; simp only [go_sem,zA,zB,zC,zD,zE,zF,zG,zH,zI,zJ,zK,zL,zM,zN,zO,zP,↓reduceIte,reduceCtorEq])
    (refine callD_pure (cF) (by simp only [go_sem,zA,zB,zC,zD,zE,zF,zG,zH,zI,zJ,zK,zL,zM,zN,zO,zP,↓reduceIte,reduceCtorEq,g4] <;> first | rfl | decide) ?_; simp only [go_sem,zA,zB,zC,zD,zE,zF,zG,zH,zI,zJ,zK,zL,zM,zN,zO,zP,↓reduceIte,reduceCtorEq,g4])
    refine endD_intro (by decide +kernel) ?_
    simp only [go_sem,zA,zB,zC,zD,zE,zF,zG,zH,zI,zJ,zK,zL,zM,zN,zO,zP,↓reduceIte,reduceCtorEq,Tryz.ntmps68,Tryz.results68]
end Go.Proofs.YtcdmhigmgpflbaaGreat.Pe
