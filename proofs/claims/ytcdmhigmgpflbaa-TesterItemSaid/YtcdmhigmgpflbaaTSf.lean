import Derived.Test.YtcdmhigmgpflbaaTSe
namespace Go.Proofs.Ytcdmhigmgpflbaa.Pe
open Go.Pe Go.RowKit
open Nat renaming reduceAdd → zA, reduceSub → zB, reduceMul → zC, reduceLT → zD, reduceLeDiff → zE, reduceEqDiff → zF, reduceBEq → zG
open Int renaming reduceToNat → zH, reduceLT → zI, reduceLE → zJ, reduceEq → zK, reduceNe → zL, reduceAdd → zM, reduceSub → zN, reduceMul → zO, reduceNeg → zP
set_option maxRecDepth 20000
set_option maxHeartbeats 4000000
set_option linter.unusedSimpArgs false
set_option linter.unusedVariables false
theorem testerItem_calls (S D : UInt32) (id : UInt16) (was b : List UInt8) (op : Bool) : PureCalls Try.prog 16 [.lit (.int .u32 S.toNat), .lit (.int .u32 D.toNat), .lit (.int .u16 id.toNat), bytesPV was, bytesPV b, PB op] (PB true) := by
  refine PureCalls.of tabOK mixed Try.func16 rfl rfl (by decide +kernel) (by simp [Try.ntmps16]) ?_
  have wS := wr32 S
  have wD := wr32 D
  have wi := wr16 id
  have hS := u32_wide S
  have hD := u32_wide D
  have hi : 0 ≤ (id.toNat : Int) ∧ (id.toNat : Int) ≤ 65535 := by have := id.toNat_lt; omega
  simp only [go_sem, zA, zB, zC, zD, zE, zF, zG, zH, zI, zJ, zK, zL, zM, zN, zO, zP, ↓reduceIte, reduceCtorEq, Try.ntmps16, Try.results16]
  (refine CallA.pure (h23_calls) (by simp only [go_sem, zA, zB, zC, zD, zE, zF, zG, zH, zI, zJ, zK, zL, zM, zN, zO, zP, ↓reduceIte, reduceCtorEq, rowsB_length] <;> first | rfl | decide) ?_; simp only [go_sem, zA, zB, zC, zD, zE, zF, zG, zH, zI, zJ, zK, zL, zM, zN, zO, zP, ↓reduceIte, reduceCtorEq, rowsB_length])
  cases g1 : decide ((was.length : Int) < 1) with
  | true => simp only [go_sem, zA, zB, zC, zD, zE, zF, zG, zH, zI, zJ, zK, zL, zM, zN, zO, zP, ↓reduceIte, reduceCtorEq, rowsB_length, g1, Try.ntmps16, Try.results16]
  | false =>
  cases g2 : decide ((was.length : Int) > 64) with
  | true => simp only [go_sem, zA, zB, zC, zD, zE, zF, zG, zH, zI, zJ, zK, zL, zM, zN, zO, zP, ↓reduceIte, reduceCtorEq, rowsB_length, g1, g2, Try.ntmps16, Try.results16]
  | false =>
  cases g3 : decide ((b.length : Int) > 100) with
  | true => simp only [go_sem, zA, zB, zC, zD, zE, zF, zG, zH, zI, zJ, zK, zL, zM, zN, zO, zP, ↓reduceIte, reduceCtorEq, rowsB_length, g1, g2, g3, Try.ntmps16, Try.results16]
  | false =>
  have h1 := of_decide_eq_false g1
  have h2 := of_decide_eq_false g2
  have h3 := of_decide_eq_false g3
  have c0 := newD_at (newSrv_u32 S D [⟨id.toNat, true, was⟩])
  have hid := idV_idB hi
  have q4 := write_calls id.toNat b (by omega)
  have q5 := read_calls id.toNat
  obtain ⟨x, y, hx, hy⟩ : ∃ x y : UInt8, u8of ((id.toNat : Int).fdiv (2 ^ min 8 64)) = x ∧ u8of (id.toNat : Int) = y := ⟨_, _, rfl, rfl⟩
  rw [hx, hy] at hid
  have e2 : bytesN (id.toNat : Int) 2 = [x, y] := by rw [bytesN2, hx, hy]
  have eW : writeQ (id.toNat : Int) b = 0x2E :: x :: y :: b := by unfold writeQ; rw [e2]; rfl
  have eR : readQ (id.toNat : Int) = [0x22, x, y] := by unfold readQ; rw [e2]
  rw [eW] at q4
  rw [eR] at q5
  generalize (S.toNat : Int) = s at wS hS c0
  generalize (D.toNat : Int) = d at wD hD c0
  generalize (id.toNat : Int) = n at wi hid hi c0 q4 q5
  have r0 : RightS (freshS s d [⟨n, true, was⟩]) := fresh_right hS hD (by
    show (okIt ⟨n, true, was⟩ && (true && true)) = true
    rw [Bool.and_true, Bool.and_true, okIt_iff]; exact ⟨hi, by simp only; omega⟩) (by simp)
  have q1 := session_calls 2
  rw [show sesQ 2 = [0x10, 2] from ses_one 2] at q1
  have e1 := talk_ses r0 (n := 2) (by decide)
  have t1 := talk_at e1 r0
  have r1 := right_to e1 r0
  simp only [go_sem, zA, zB, zC, zD, zE, zF, zG, zH, zI, zJ, zK, zL, zM, zN, zO, zP, ↓reduceIte, reduceCtorEq, g1, g2, g3, wS, wD, wi]
  (refine CallA.pure (c0) (by simp only [go_sem, zA, zB, zC, zD, zE, zF, zG, zH, zI, zJ, zK, zL, zM, zN, zO, zP, ↓reduceIte, reduceCtorEq, Srv.pv, Srv.cells, freshS, List.map_nil, List.map_cons, Itm.cells] <;> first | rfl | decide) ?_; simp only [go_sem, zA, zB, zC, zD, zE, zF, zG, zH, zI, zJ, zK, zL, zM, zN, zO, zP, ↓reduceIte, reduceCtorEq, Srv.pv, Srv.cells, freshS, List.map_nil, List.map_cons, Itm.cells])
  (refine callD_pure (q1) (by simp only [go_sem, zA, zB, zC, zD, zE, zF, zG, zH, zI, zJ, zK, zL, zM, zN, zO, zP, ↓reduceIte, reduceCtorEq] <;> first | rfl | decide) ?_; simp only [go_sem, zA, zB, zC, zD, zE, zF, zG, zH, zI, zJ, zK, zL, zM, zN, zO, zP, ↓reduceIte, reduceCtorEq])
  (refine callD_pure (t1) (by simp only [go_sem, zA, zB, zC, zD, zE, zF, zG, zH, zI, zJ, zK, zL, zM, zN, zO, zP, ↓reduceIte, reduceCtorEq, Srv.pv, Srv.cells, freshS, List.map_nil] <;> first | rfl | decide) ?_; simp only [go_sem, zA, zB, zC, zD, zE, zF, zG, zH, zI, zJ, zK, zL, zM, zN, zO, zP, ↓reduceIte, reduceCtorEq, Srv.pv, Srv.cells, freshS, List.map_nil])
  refine endD_intro (by decide +kernel) ?_
  have n2 : (((2 : UInt8).toNat : Nat) : Int) ≠ 1 := by decide
  have h2' : ((UInt8.toNat 2 : Nat) : Int) = 2 := rfl
  cases op with
  | false =>
    have ho : OneS { freshS s d [⟨n, true, was⟩] with quiet := 0, ses := ((2 : UInt8).toNat : Int), op := false, seed := -1 } n was := ⟨r1, n2, rfl, rfl⟩
    have hvo : ({ freshS s d [⟨n, true, was⟩] with quiet := 0, ses := ((2 : UInt8).toNat : Int), op := false, seed := -1 } : Srv).op = false := rfl
    simp only [go_sem, zA, zB, zC, zD, zE, zF, zG, zH, zI, zJ, zK, zL, zM, zN, zO, zP, ↓reduceIte, reduceCtorEq, wi]
    obtain ⟨w, e, p1, p2, p3, p4⟩ := one_write ho hid b
    have e4 := talk_thru ho.r (q := 0x2E :: x :: y :: b) (by simp) (by simp; omega)
    rw [p1] at e4
    have t4 := talk_at e4 ho.r
    have e5 := talk_thru p2.r (q := [0x22, x, y]) (by simp) (by simp)
    rw [one_read p2 hid, hvo, if_neg (fun h => Bool.false_ne_true h.1)] at e5
    have t5 := talk_at e5 p2.r
    have pp := pos_at p4
    rw [hvo] at pp
    (refine CallA.pure (q4) (by simp only [go_sem, zA, zB, zC, zD, zE, zF, zG, zH, zI, zJ, zK, zL, zM, zN, zO, zP, ↓reduceIte, reduceCtorEq, wi] <;> first | rfl | decide) ?_; simp only [go_sem, zA, zB, zC, zD, zE, zF, zG, zH, zI, zJ, zK, zL, zM, zN, zO, zP, ↓reduceIte, reduceCtorEq, wi])
    (refine CallA.pure (t4) (by simp only [go_sem, zA, zB, zC, zD, zE, zF, zG, zH, zI, zJ, zK, zL, zM, zN, zO, zP, ↓reduceIte, reduceCtorEq, Srv.pv, Srv.cells, List.map_nil, freshS, wi] <;> first | rfl | decide) ?_; simp only [go_sem, zA, zB, zC, zD, zE, zF, zG, zH, zI, zJ, zK, zL, zM, zN, zO, zP, ↓reduceIte, reduceCtorEq, Srv.pv, Srv.cells, List.map_nil, freshS, wi])
    (refine callD_pure (q5) (by simp only [go_sem, zA, zB, zC, zD, zE, zF, zG, zH, zI, zJ, zK, zL, zM, zN, zO, zP, ↓reduceIte, reduceCtorEq] <;> first | rfl | decide) ?_; simp only [go_sem, zA, zB, zC, zD, zE, zF, zG, zH, zI, zJ, zK, zL, zM, zN, zO, zP, ↓reduceIte, reduceCtorEq])
    (refine callD_pure (t5) (by simp only [go_sem, zA, zB, zC, zD, zE, zF, zG, zH, zI, zJ, zK, zL, zM, zN, zO, zP, ↓reduceIte, reduceCtorEq, Srv.pv, Srv.cells, List.map_nil] <;> first | rfl | decide) ?_; simp only [go_sem, zA, zB, zC, zD, zE, zF, zG, zH, zI, zJ, zK, zL, zM, zN, zO, zP, ↓reduceIte, reduceCtorEq, Srv.pv, Srv.cells, List.map_nil])
    refine endD_intro (by decide +kernel) ?_
    rw [Bool.false_and] at pp
    simp only [go_sem, zA, zB, zC, zD, zE, zF, zG, zH, zI, zJ, zK, zL, zM, zN, zO, zP, ↓reduceIte, reduceCtorEq]
    have hd3 : ∀ l : List UInt8, List.drop 3 (rowsB (0x62 :: x :: y :: l)) = rowsB l := fun _ => rfl
    have ht : List.take (was.length + 1 + 1 + 1) (0x62 :: x :: y :: was) = 0x62 :: x :: y :: was := List.take_of_length_le (by simp)
    have gd0 : ∀ l : List UInt8, (rowsB (0x62 :: x :: y :: l)).getD 0 [] = [.lit (.int .u8 98)] := fun _ => rfl
    have wl : IntKind.wrap .i64 (3 + (was.length : Int)) = ((was.length + 1 + 1 + 1 : Nat) : Int) := by rw [wrapI64_eq]; omega
    have z0 : (0 : Int) < ((was.length + 1 + 1 + 1 : Nat) : Int) := by omega
    have sm := same23_calls was was
    have sm : PureCalls Try.prog 49 [bytesPV was, bytesPV was] (PB true) := by rwa [decide_eq_true rfl] at sm
    (refine CallA.pure (pp) (by simp only [go_sem, zA, zB, zC, zD, zE, zF, zG, zH, zI, zJ, zK, zL, zM, zN, zO, zP, ↓reduceIte, reduceCtorEq, rowsB_length, List.length_cons, wl, z0, hd3, gd0, ht, Int.toNat_natCast, List.drop_succ_cons, List.drop_zero, List.take_length, beq_self_eq_true, decide_true] <;> first | rfl | decide) ?_; simp only [go_sem, zA, zB, zC, zD, zE, zF, zG, zH, zI, zJ, zK, zL, zM, zN, zO, zP, ↓reduceIte, reduceCtorEq, rowsB_length, List.length_cons, wl, z0, hd3, gd0, ht, Int.toNat_natCast, List.drop_succ_cons, List.drop_zero, List.take_length, beq_self_eq_true, decide_true])
    refine ⟨by omega, ?_⟩
    (refine CallA.pure (sm) (by simp only [go_sem, zA, zB, zC, zD, zE, zF, zG, zH, zI, zJ, zK, zL, zM, zN, zO, zP, ↓reduceIte, reduceCtorEq, rowsB_length, List.length_cons, z0, gd0, ht, Int.toNat_natCast, List.drop_succ_cons, List.drop_zero, Try.ntmps16, Try.results16] <;> first | rfl | decide) ?_; simp only [go_sem, zA, zB, zC, zD, zE, zF, zG, zH, zI, zJ, zK, zL, zM, zN, zO, zP, ↓reduceIte, reduceCtorEq, rowsB_length, List.length_cons, z0, gd0, ht, Int.toNat_natCast, List.drop_succ_cons, List.drop_zero, Try.ntmps16, Try.results16])
  | true =>
    have e3 := talk_seed r1 (by decide : (0 : Int) ≤ 2) n2 rfl
    have t3 := talk_at e3 r1
    have r3 := right_to e3 r1
    have k1 := keyFor_at (keyFor_four hD s)
    have e6 := talk_good r3 (by decide : (0 : Int) ≤ 2) n2 hD.1
    have t6 := talk_at e6 r3
    have r6 := right_to e6 r3
    have q2 := seed_calls
    have ho : OneS { freshS s d [⟨n, true, was⟩] with quiet := 0, ses := ((2 : UInt8).toNat : Int), op := true, seed := -1, wrong := 0, draw := nextDraw d } n was := ⟨r6, n2, rfl, rfl⟩
    have hvo : ({ freshS s d [⟨n, true, was⟩] with quiet := 0, ses := ((2 : UInt8).toNat : Int), op := true, seed := -1, wrong := 0, draw := nextDraw d } : Srv).op = true := rfl
    simp only [go_sem, zA, zB, zC, zD, zE, zF, zG, zH, zI, zJ, zK, zL, zM, zN, zO, zP, ↓reduceIte, reduceCtorEq]
    (refine callD_pure (q2) (by simp only [go_sem, zA, zB, zC, zD, zE, zF, zG, zH, zI, zJ, zK, zL, zM, zN, zO, zP, ↓reduceIte, reduceCtorEq] <;> first | rfl | decide) ?_; simp only [go_sem, zA, zB, zC, zD, zE, zF, zG, zH, zI, zJ, zK, zL, zM, zN, zO, zP, ↓reduceIte, reduceCtorEq])
    (refine callD_pure (t3) (by simp only [go_sem, zA, zB, zC, zD, zE, zF, zG, zH, zI, zJ, zK, zL, zM, zN, zO, zP, ↓reduceIte, reduceCtorEq, Srv.pv, Srv.cells, freshS, List.map_nil] <;> first | rfl | decide) ?_; simp only [go_sem, zA, zB, zC, zD, zE, zF, zG, zH, zI, zJ, zK, zL, zM, zN, zO, zP, ↓reduceIte, reduceCtorEq, Srv.pv, Srv.cells, freshS, List.map_nil])
    refine endD_intro (by decide +kernel) ?_
    simp only [go_sem, zA, zB, zC, zD, zE, zF, zG, zH, zI, zJ, zK, zL, zM, zN, zO, zP, ↓reduceIte, reduceCtorEq, wS]
    (refine CallA.pure (k1) (by simp only [go_sem, zA, zB, zC, zD, zE, zF, zG, zH, zI, zJ, zK, zL, zM, zN, zO, zP, ↓reduceIte, reduceCtorEq, Srv.pv, Srv.cells, freshS, List.map_nil] <;> first | rfl | decide) ?_; simp only [go_sem, zA, zB, zC, zD, zE, zF, zG, zH, zI, zJ, zK, zL, zM, zN, zO, zP, ↓reduceIte, reduceCtorEq, Srv.pv, Srv.cells, freshS, List.map_nil])
    (refine CallA.pure (t6) (by simp only [go_sem, zA, zB, zC, zD, zE, zF, zG, zH, zI, zJ, zK, zL, zM, zN, zO, zP, ↓reduceIte, reduceCtorEq, Srv.pv, Srv.cells, freshS, List.map_nil, wi] <;> first | rfl | decide) ?_; simp only [go_sem, zA, zB, zC, zD, zE, zF, zG, zH, zI, zJ, zK, zL, zM, zN, zO, zP, ↓reduceIte, reduceCtorEq, Srv.pv, Srv.cells, freshS, List.map_nil, wi])
    by_cases hl : b.length = was.length
    · have gl : decide ((b.length : Int) = (was.length : Int)) = true := decide_eq_true (by omega)
      obtain ⟨w, e, p1, p2, p3, p4⟩ := one_write ho hid b
      have e4 := talk_thru ho.r (q := 0x2E :: x :: y :: b) (by simp) (by simp; omega)
      rw [p1] at e4
      have t4 := talk_at e4 ho.r
      have e5 := talk_thru p2.r (q := [0x22, x, y]) (by simp) (by simp)
      rw [one_read p2 hid, hvo, if_pos ⟨rfl, hl⟩] at e5
      have t5 := talk_at e5 p2.r
      have pp := pos_at p4
      rw [hvo] at pp
      (refine CallA.pure (q4) (by simp only [go_sem, zA, zB, zC, zD, zE, zF, zG, zH, zI, zJ, zK, zL, zM, zN, zO, zP, ↓reduceIte, reduceCtorEq, wi] <;> first | rfl | decide) ?_; simp only [go_sem, zA, zB, zC, zD, zE, zF, zG, zH, zI, zJ, zK, zL, zM, zN, zO, zP, ↓reduceIte, reduceCtorEq, wi])
      (refine CallA.pure (t4) (by simp only [go_sem, zA, zB, zC, zD, zE, zF, zG, zH, zI, zJ, zK, zL, zM, zN, zO, zP, ↓reduceIte, reduceCtorEq, Srv.pv, Srv.cells, List.map_nil, freshS, wi] <;> first | rfl | decide) ?_; simp only [go_sem, zA, zB, zC, zD, zE, zF, zG, zH, zI, zJ, zK, zL, zM, zN, zO, zP, ↓reduceIte, reduceCtorEq, Srv.pv, Srv.cells, List.map_nil, freshS, wi])
      (refine callD_pure (q5) (by simp only [go_sem, zA, zB, zC, zD, zE, zF, zG, zH, zI, zJ, zK, zL, zM, zN, zO, zP, ↓reduceIte, reduceCtorEq] <;> first | rfl | decide) ?_; simp only [go_sem, zA, zB, zC, zD, zE, zF, zG, zH, zI, zJ, zK, zL, zM, zN, zO, zP, ↓reduceIte, reduceCtorEq])
      (refine callD_pure (t5) (by simp only [go_sem, zA, zB, zC, zD, zE, zF, zG, zH, zI, zJ, zK, zL, zM, zN, zO, zP, ↓reduceIte, reduceCtorEq, Srv.pv, Srv.cells, List.map_nil] <;> first | rfl | decide) ?_; simp only [go_sem, zA, zB, zC, zD, zE, zF, zG, zH, zI, zJ, zK, zL, zM, zN, zO, zP, ↓reduceIte, reduceCtorEq, Srv.pv, Srv.cells, List.map_nil])
      refine endD_intro (by decide +kernel) ?_
      rw [gl, Bool.and_self] at pp
      simp only [go_sem, zA, zB, zC, zD, zE, zF, zG, zH, zI, zJ, zK, zL, zM, zN, zO, zP, ↓reduceIte, reduceCtorEq, rowsB_length, gl]
      have hd3 : ∀ l : List UInt8, List.drop 3 (rowsB (0x62 :: x :: y :: l)) = rowsB l := fun _ => rfl
      have ht : List.take (b.length + 1 + 1 + 1) (0x62 :: x :: y :: b) = 0x62 :: x :: y :: b := List.take_of_length_le (by simp)
      have gd0 : ∀ l : List UInt8, (rowsB (0x62 :: x :: y :: l)).getD 0 [] = [.lit (.int .u8 98)] := fun _ => rfl
      have wl : IntKind.wrap .i64 (3 + (b.length : Int)) = ((b.length + 1 + 1 + 1 : Nat) : Int) := by rw [wrapI64_eq]; omega
      have z0 : (0 : Int) < ((b.length + 1 + 1 + 1 : Nat) : Int) := by omega
      have sm := same23_calls b b
      have sm : PureCalls Try.prog 49 [bytesPV b, bytesPV b] (PB true) := by rwa [decide_eq_true rfl] at sm
      (refine CallA.pure (pp) (by simp only [go_sem, zA, zB, zC, zD, zE, zF, zG, zH, zI, zJ, zK, zL, zM, zN, zO, zP, ↓reduceIte, reduceCtorEq, rowsB_length, List.length_cons, wl, z0, hd3, gd0, ht, Int.toNat_natCast, List.drop_succ_cons, List.drop_zero, List.take_length, beq_self_eq_true, decide_true] <;> first | rfl | decide) ?_; simp only [go_sem, zA, zB, zC, zD, zE, zF, zG, zH, zI, zJ, zK, zL, zM, zN, zO, zP, ↓reduceIte, reduceCtorEq, rowsB_length, List.length_cons, wl, z0, hd3, gd0, ht, Int.toNat_natCast, List.drop_succ_cons, List.drop_zero, List.take_length, beq_self_eq_true, decide_true])
      refine ⟨by omega, ?_⟩
      (refine CallA.pure (sm) (by simp only [go_sem, zA, zB, zC, zD, zE, zF, zG, zH, zI, zJ, zK, zL, zM, zN, zO, zP, ↓reduceIte, reduceCtorEq, rowsB_length, List.length_cons, z0, gd0, ht, Int.toNat_natCast, List.drop_succ_cons, List.drop_zero, Try.ntmps16, Try.results16] <;> first | rfl | decide) ?_; simp only [go_sem, zA, zB, zC, zD, zE, zF, zG, zH, zI, zJ, zK, zL, zM, zN, zO, zP, ↓reduceIte, reduceCtorEq, rowsB_length, List.length_cons, z0, gd0, ht, Int.toNat_natCast, List.drop_succ_cons, List.drop_zero, Try.ntmps16, Try.results16])
    · have gl : decide ((b.length : Int) = (was.length : Int)) = false := decide_eq_false (by omega)
      obtain ⟨w, e, p1, p2, p3, p4⟩ := one_write ho hid b
      have e4 := talk_thru ho.r (q := 0x2E :: x :: y :: b) (by simp) (by simp; omega)
      rw [p1] at e4
      have t4 := talk_at e4 ho.r
      have e5 := talk_thru p2.r (q := [0x22, x, y]) (by simp) (by simp)
      rw [one_read p2 hid, hvo, if_neg (fun h => hl h.2)] at e5
      have t5 := talk_at e5 p2.r
      have pp := pos_at p4
      rw [hvo] at pp
      (refine CallA.pure (q4) (by simp only [go_sem, zA, zB, zC, zD, zE, zF, zG, zH, zI, zJ, zK, zL, zM, zN, zO, zP, ↓reduceIte, reduceCtorEq, wi] <;> first | rfl | decide) ?_; simp only [go_sem, zA, zB, zC, zD, zE, zF, zG, zH, zI, zJ, zK, zL, zM, zN, zO, zP, ↓reduceIte, reduceCtorEq, wi])
      (refine CallA.pure (t4) (by simp only [go_sem, zA, zB, zC, zD, zE, zF, zG, zH, zI, zJ, zK, zL, zM, zN, zO, zP, ↓reduceIte, reduceCtorEq, Srv.pv, Srv.cells, List.map_nil, freshS, wi] <;> first | rfl | decide) ?_; simp only [go_sem, zA, zB, zC, zD, zE, zF, zG, zH, zI, zJ, zK, zL, zM, zN, zO, zP, ↓reduceIte, reduceCtorEq, Srv.pv, Srv.cells, List.map_nil, freshS, wi])
      (refine callD_pure (q5) (by simp only [go_sem, zA, zB, zC, zD, zE, zF, zG, zH, zI, zJ, zK, zL, zM, zN, zO, zP, ↓reduceIte, reduceCtorEq] <;> first | rfl | decide) ?_; simp only [go_sem, zA, zB, zC, zD, zE, zF, zG, zH, zI, zJ, zK, zL, zM, zN, zO, zP, ↓reduceIte, reduceCtorEq])
      (refine callD_pure (t5) (by simp only [go_sem, zA, zB, zC, zD, zE, zF, zG, zH, zI, zJ, zK, zL, zM, zN, zO, zP, ↓reduceIte, reduceCtorEq, Srv.pv, Srv.cells, List.map_nil] <;> first | rfl | decide) ?_; simp only [go_sem, zA, zB, zC, zD, zE, zF, zG, zH, zI, zJ, zK, zL, zM, zN, zO, zP, ↓reduceIte, reduceCtorEq, Srv.pv, Srv.cells, List.map_nil])
      refine endD_intro (by decide +kernel) ?_
      rw [gl, Bool.and_false] at pp
      simp only [go_sem, zA, zB, zC, zD, zE, zF, zG, zH, zI, zJ, zK, zL, zM, zN, zO, zP, ↓reduceIte, reduceCtorEq, rowsB_length, gl]
      have hd3 : ∀ l : List UInt8, List.drop 3 (rowsB (0x62 :: x :: y :: l)) = rowsB l := fun _ => rfl
      have ht : List.take (was.length + 1 + 1 + 1) (0x62 :: x :: y :: was) = 0x62 :: x :: y :: was := List.take_of_length_le (by simp)
      have gd0 : ∀ l : List UInt8, (rowsB (0x62 :: x :: y :: l)).getD 0 [] = [.lit (.int .u8 98)] := fun _ => rfl
      have wl : IntKind.wrap .i64 (3 + (was.length : Int)) = ((was.length + 1 + 1 + 1 : Nat) : Int) := by rw [wrapI64_eq]; omega
      have z0 : (0 : Int) < ((was.length + 1 + 1 + 1 : Nat) : Int) := by omega
      have sm := same23_calls was was
      have sm : PureCalls Try.prog 49 [bytesPV was, bytesPV was] (PB true) := by rwa [decide_eq_true rfl] at sm
      (refine CallA.pure (pp) (by simp only [go_sem, zA, zB, zC, zD, zE, zF, zG, zH, zI, zJ, zK, zL, zM, zN, zO, zP, ↓reduceIte, reduceCtorEq, rowsB_length, List.length_cons, wl, z0, hd3, gd0, ht, Int.toNat_natCast, List.drop_succ_cons, List.drop_zero, List.take_length, beq_self_eq_true, decide_true] <;> first | rfl | decide) ?_; simp only [go_sem, zA, zB, zC, zD, zE, zF, zG, zH, zI, zJ, zK, zL, zM, zN, zO, zP, ↓reduceIte, reduceCtorEq, rowsB_length, List.length_cons, wl, z0, hd3, gd0, ht, Int.toNat_natCast, List.drop_succ_cons, List.drop_zero, List.take_length, beq_self_eq_true, decide_true])
      refine ⟨by omega, ?_⟩
      (refine CallA.pure (sm) (by simp only [go_sem, zA, zB, zC, zD, zE, zF, zG, zH, zI, zJ, zK, zL, zM, zN, zO, zP, ↓reduceIte, reduceCtorEq, rowsB_length, List.length_cons, z0, gd0, ht, Int.toNat_natCast, List.drop_succ_cons, List.drop_zero, Try.ntmps16, Try.results16] <;> first | rfl | decide) ?_; simp only [go_sem, zA, zB, zC, zD, zE, zF, zG, zH, zI, zJ, zK, zL, zM, zN, zO, zP, ↓reduceIte, reduceCtorEq, rowsB_length, List.length_cons, z0, gd0, ht, Int.toNat_natCast, List.drop_succ_cons, List.drop_zero, Try.ntmps16, Try.results16])
end Go.Proofs.Ytcdmhigmgpflbaa.Pe

