import Derived.Test.YtcdmhigmgpflbaaTS6
import Derived.Test.YtcdmhigmgpflbaaDL7
namespace Go.Proofs.Ytcdmhigmgpflbaa.Pe
open Go.Pe Go.RowKit
open Nat renaming reduceAdd → zA, reduceSub → zB, reduceMul → zC, reduceLT → zD, reduceLeDiff → zE, reduceEqDiff → zF, reduceBEq → zG
open Int renaming reduceToNat → zH, reduceLT → zI, reduceLE → zJ, reduceEq → zK, reduceNe → zL, reduceAdd → zM, reduceSub → zN, reduceMul → zO, reduceNeg → zP
set_option maxRecDepth 20000
set_option maxHeartbeats 4000000
set_option linter.unusedSimpArgs false
set_option linter.unusedVariables false
theorem pos_cons (c : UInt8) (q : List UInt8) (d : UInt8) (a : List UInt8) : posV (c :: q) (d :: a) = decide (d = c + 64) := rfl
theorem pos_none (q : List UInt8) : posV q [] = false := by cases q <;> rfl
theorem pos_two {c d : UInt8} {q p a : List UInt8} (h1 : posV (c :: q) a = true) (h2 : posV (d :: p) a = true) : c = d := by
  cases a with
  | nil => cases h1
  | cons x a =>
    have e1 := of_decide_eq_true h1
    have e2 := of_decide_eq_true h2
    have : c + 64 - 64 = d + 64 - 64 := by rw [← e1, ← e2]
    rwa [UInt8.add_sub_cancel, UInt8.add_sub_cancel] at this
theorem u8_3f (c : UInt8) : decide ((127 : UInt8) = c + 64) = decide ((c.toNat : Int) = 63) := by
  by_cases h : c = 0x3F
  · subst h; rfl
  · rw [decide_eq_false (fun e => h ?_), decide_eq_false (fun e => h ?_)]
    · exact UInt8.toNat_inj.1 (by simp only [UInt8.reduceToNat]; omega)
    · have : (127 : UInt8) - 64 = c + 64 - 64 := by rw [← e]
      rw [UInt8.add_sub_cancel] at this
      exact this.symm
theorem testerYes_calls (q p a : List UInt8) (w : UInt8) : PureCalls Try.prog 14 [bytesPV q, bytesPV p, bytesPV a, .lit (.int .u8 w.toNat)] (PB true) := by
  refine PureCalls.of tabOK mixed Try.func14 rfl rfl (by decide +kernel) (by simp [Try.ntmps14]) ?_
  simp only [go_sem, zA, zB, zC, zD, zE, zF, zG, zH, zI, zJ, zK, zL, zM, zN, zO, zP, ↓reduceIte, reduceCtorEq, Try.ntmps14, Try.results14]
  (refine CallA.pure (h23_calls) (by simp only [go_sem, zA, zB, zC, zD, zE, zF, zG, zH, zI, zJ, zK, zL, zM, zN, zO, zP, ↓reduceIte, reduceCtorEq, rowsB_length] <;> first | rfl | decide) ?_; simp only [go_sem, zA, zB, zC, zD, zE, zF, zG, zH, zI, zJ, zK, zL, zM, zN, zO, zP, ↓reduceIte, reduceCtorEq, rowsB_length])
  cases g1 : decide ((q.length : Int) < 1) with
  | true => simp only [go_sem, zA, zB, zC, zD, zE, zF, zG, zH, zI, zJ, zK, zL, zM, zN, zO, zP, ↓reduceIte, reduceCtorEq, g1, Try.ntmps14, Try.results14]
  | false =>
  cases g2 : decide ((p.length : Int) < 1) with
  | true => simp only [go_sem, zA, zB, zC, zD, zE, zF, zG, zH, zI, zJ, zK, zL, zM, zN, zO, zP, ↓reduceIte, reduceCtorEq, g1, g2, Try.ntmps14, Try.results14]
  | false =>
  cases g3 : decide ((q.length : Int) > 50) with
  | true => simp only [go_sem, zA, zB, zC, zD, zE, zF, zG, zH, zI, zJ, zK, zL, zM, zN, zO, zP, ↓reduceIte, reduceCtorEq, g1, g2, g3, Try.ntmps14, Try.results14]
  | false =>
  cases g4 : decide ((p.length : Int) > 50) with
  | true => simp only [go_sem, zA, zB, zC, zD, zE, zF, zG, zH, zI, zJ, zK, zL, zM, zN, zO, zP, ↓reduceIte, reduceCtorEq, g1, g2, g3, g4, Try.ntmps14, Try.results14]
  | false =>
  cases g5 : decide ((a.length : Int) > 50) with
  | true => simp only [go_sem, zA, zB, zC, zD, zE, zF, zG, zH, zI, zJ, zK, zL, zM, zN, zO, zP, ↓reduceIte, reduceCtorEq, g1, g2, g3, g4, g5, Try.ntmps14, Try.results14]
  | false =>
  obtain ⟨c, q', rfl⟩ : ∃ c q', q = c :: q' := by
    cases q with
    | nil => cases g1
    | cons c q => exact ⟨c, q, rfl⟩
  obtain ⟨d, p', rfl⟩ : ∃ d p', p = d :: p' := by
    cases p with
    | nil => cases g2
    | cons c q => exact ⟨c, q, rfl⟩
  rw [List.length_cons] at g1 g2 g3 g4
  have c1 := pos_calls (c :: q') a
  have c2 := pos_calls (d :: p') a
  have c3 := deny_calls c.toNat w.toNat
  have hd : denyV c.toNat w.toNat = [127, c, w] := by
    have e : ∀ x : UInt8, u8of (x.toNat : Int) = x := fun x => by rw [← UInt8.toNat_inj]; have := u8of_val (x.toNat : Int); have := x.toNat_lt; omega
    rw [denyV, e, e]
  rw [hd] at c3
  have c4 := pos_calls (c :: q') [127, c, w]
  rw [pos_cons, u8_3f] at c4
  have c5 := pos_at (pos_none (c :: q'))
  have c6 := pos_at (q := []) (a := a) (b := false) rfl
  have c7 := pos_at (q := c :: q') (a := [c + 64]) (b := true) (by simp [posV])
  have gc : (rowsB (c :: q')).getD 0 [] = [.lit (.int .u8 c.toNat)] := rfl
  have gd : (rowsB (d :: p')).getD 0 [] = [.lit (.int .u8 d.toNat)] := rfl
  have w8 : IntKind.wrap .u8 ((c.toNat : Int) + 64) = ((c + 64).toNat : Int) := by
    rw [IntKind.wrap_u8, UInt8.toNat_add]
    simp only [UInt8.reduceToNat]
    omega
  have wc := wrU' c
  have ww := wrU' w
  have i1 : (0 : Int) < ((q'.length + 1 : Nat) : Int) := by omega
  have i2 : (0 : Int) < ((p'.length + 1 : Nat) : Int) := by omega
  have hEq : posV (c :: q') a = true → posV (d :: p') a = true → decide ((c.toNat : Int) = (d.toNat : Int)) = true := fun h1 h2 => by rw [pos_two h1 h2]; simp
  simp only [go_sem, zA, zB, zC, zD, zE, zF, zG, zH, zI, zJ, zK, zL, zM, zN, zO, zP, ↓reduceIte, reduceCtorEq, g1, g2, g3, g4, g5]
  generalize posV (c :: q') a = x1 at c1 hEq
  generalize posV (d :: p') a = x2 at c2 hEq
  (refine callD_pure (c1) (by simp only [go_sem, zA, zB, zC, zD, zE, zF, zG, zH, zI, zJ, zK, zL, zM, zN, zO, zP, ↓reduceIte, reduceCtorEq] <;> first | rfl | decide) ?_; simp only [go_sem, zA, zB, zC, zD, zE, zF, zG, zH, zI, zJ, zK, zL, zM, zN, zO, zP, ↓reduceIte, reduceCtorEq])
  cases x1 with
  | false =>
    simp only [go_sem, zA, zB, zC, zD, zE, zF, zG, zH, zI, zJ, zK, zL, zM, zN, zO, zP, ↓reduceIte, reduceCtorEq]
    refine endD_intro (by decide +kernel) ?_
    simp only [go_sem, zA, zB, zC, zD, zE, zF, zG, zH, zI, zJ, zK, zL, zM, zN, zO, zP, ↓reduceIte, reduceCtorEq, gc, i1, rowsB_length, List.length_cons, wc, ww]
    (refine CallA.pure (c3) (by simp only [go_sem, zA, zB, zC, zD, zE, zF, zG, zH, zI, zJ, zK, zL, zM, zN, zO, zP, ↓reduceIte, reduceCtorEq] <;> first | rfl | decide) ?_; simp only [go_sem, zA, zB, zC, zD, zE, zF, zG, zH, zI, zJ, zK, zL, zM, zN, zO, zP, ↓reduceIte, reduceCtorEq])
    (refine callD_pure (c4) (by simp only [go_sem, zA, zB, zC, zD, zE, zF, zG, zH, zI, zJ, zK, zL, zM, zN, zO, zP, ↓reduceIte, reduceCtorEq, gc, i1, rowsB_length, List.length_cons, beq_self_eq_true] <;> first | rfl | decide) ?_; simp only [go_sem, zA, zB, zC, zD, zE, zF, zG, zH, zI, zJ, zK, zL, zM, zN, zO, zP, ↓reduceIte, reduceCtorEq, gc, i1, rowsB_length, List.length_cons, beq_self_eq_true])
    (refine callD_pure (c5) (by simp only [go_sem, zA, zB, zC, zD, zE, zF, zG, zH, zI, zJ, zK, zL, zM, zN, zO, zP, ↓reduceIte, reduceCtorEq] <;> first | rfl | decide) ?_; simp only [go_sem, zA, zB, zC, zD, zE, zF, zG, zH, zI, zJ, zK, zL, zM, zN, zO, zP, ↓reduceIte, reduceCtorEq])
    (refine callD_pure (c6) (by simp only [go_sem, zA, zB, zC, zD, zE, zF, zG, zH, zI, zJ, zK, zL, zM, zN, zO, zP, ↓reduceIte, reduceCtorEq, gc, i1, rowsB_length, List.length_cons, w8] <;> first | rfl | decide) ?_; simp only [go_sem, zA, zB, zC, zD, zE, zF, zG, zH, zI, zJ, zK, zL, zM, zN, zO, zP, ↓reduceIte, reduceCtorEq, gc, i1, rowsB_length, List.length_cons, w8])
    (refine callD_pure (c7) (by simp only [go_sem, zA, zB, zC, zD, zE, zF, zG, zH, zI, zJ, zK, zL, zM, zN, zO, zP, ↓reduceIte, reduceCtorEq, rowsB, List.map_cons, List.map_nil, rowB] <;> first | rfl | decide) ?_; simp only [go_sem, zA, zB, zC, zD, zE, zF, zG, zH, zI, zJ, zK, zL, zM, zN, zO, zP, ↓reduceIte, reduceCtorEq, rowsB_length])
    refine endD_intro (by decide +kernel) ?_
    simp only [go_sem, zA, zB, zC, zD, zE, zF, zG, zH, zI, zJ, zK, zL, zM, zN, zO, zP, ↓reduceIte, reduceCtorEq, Try.ntmps14, Try.results14]
  | true =>
    simp only [go_sem, zA, zB, zC, zD, zE, zF, zG, zH, zI, zJ, zK, zL, zM, zN, zO, zP, ↓reduceIte, reduceCtorEq]
    (refine callD_pure (c2) (by simp only [go_sem, zA, zB, zC, zD, zE, zF, zG, zH, zI, zJ, zK, zL, zM, zN, zO, zP, ↓reduceIte, reduceCtorEq] <;> first | rfl | decide) ?_; simp only [go_sem, zA, zB, zC, zD, zE, zF, zG, zH, zI, zJ, zK, zL, zM, zN, zO, zP, ↓reduceIte, reduceCtorEq])
    cases x2 with
    | false =>
      simp only [go_sem, zA, zB, zC, zD, zE, zF, zG, zH, zI, zJ, zK, zL, zM, zN, zO, zP, ↓reduceIte, reduceCtorEq]
      refine endD_intro (by decide +kernel) ?_
      simp only [go_sem, zA, zB, zC, zD, zE, zF, zG, zH, zI, zJ, zK, zL, zM, zN, zO, zP, ↓reduceIte, reduceCtorEq, gc, i1, rowsB_length, List.length_cons, wc, ww]
      (refine CallA.pure (c3) (by simp only [go_sem, zA, zB, zC, zD, zE, zF, zG, zH, zI, zJ, zK, zL, zM, zN, zO, zP, ↓reduceIte, reduceCtorEq] <;> first | rfl | decide) ?_; simp only [go_sem, zA, zB, zC, zD, zE, zF, zG, zH, zI, zJ, zK, zL, zM, zN, zO, zP, ↓reduceIte, reduceCtorEq])
      (refine callD_pure (c4) (by simp only [go_sem, zA, zB, zC, zD, zE, zF, zG, zH, zI, zJ, zK, zL, zM, zN, zO, zP, ↓reduceIte, reduceCtorEq, gc, i1, rowsB_length, List.length_cons, beq_self_eq_true] <;> first | rfl | decide) ?_; simp only [go_sem, zA, zB, zC, zD, zE, zF, zG, zH, zI, zJ, zK, zL, zM, zN, zO, zP, ↓reduceIte, reduceCtorEq, gc, i1, rowsB_length, List.length_cons, beq_self_eq_true])
      (refine callD_pure (c5) (by simp only [go_sem, zA, zB, zC, zD, zE, zF, zG, zH, zI, zJ, zK, zL, zM, zN, zO, zP, ↓reduceIte, reduceCtorEq] <;> first | rfl | decide) ?_; simp only [go_sem, zA, zB, zC, zD, zE, zF, zG, zH, zI, zJ, zK, zL, zM, zN, zO, zP, ↓reduceIte, reduceCtorEq])
      (refine callD_pure (c6) (by simp only [go_sem, zA, zB, zC, zD, zE, zF, zG, zH, zI, zJ, zK, zL, zM, zN, zO, zP, ↓reduceIte, reduceCtorEq, gc, i1, rowsB_length, List.length_cons, w8] <;> first | rfl | decide) ?_; simp only [go_sem, zA, zB, zC, zD, zE, zF, zG, zH, zI, zJ, zK, zL, zM, zN, zO, zP, ↓reduceIte, reduceCtorEq, gc, i1, rowsB_length, List.length_cons, w8])
      (refine callD_pure (c7) (by simp only [go_sem, zA, zB, zC, zD, zE, zF, zG, zH, zI, zJ, zK, zL, zM, zN, zO, zP, ↓reduceIte, reduceCtorEq, rowsB, List.map_cons, List.map_nil, rowB] <;> first | rfl | decide) ?_; simp only [go_sem, zA, zB, zC, zD, zE, zF, zG, zH, zI, zJ, zK, zL, zM, zN, zO, zP, ↓reduceIte, reduceCtorEq, rowsB_length])
      refine endD_intro (by decide +kernel) ?_
      simp only [go_sem, zA, zB, zC, zD, zE, zF, zG, zH, zI, zJ, zK, zL, zM, zN, zO, zP, ↓reduceIte, reduceCtorEq, Try.ntmps14, Try.results14]
    | true =>
      have he := hEq rfl rfl
      simp only [go_sem, zA, zB, zC, zD, zE, zF, zG, zH, zI, zJ, zK, zL, zM, zN, zO, zP, ↓reduceIte, reduceCtorEq, gc, gd, i1, i2, he, rowsB_length, List.length_cons]
      refine endD_intro (by decide +kernel) ?_
      simp only [go_sem, zA, zB, zC, zD, zE, zF, zG, zH, zI, zJ, zK, zL, zM, zN, zO, zP, ↓reduceIte, reduceCtorEq, gc, i1, rowsB_length, List.length_cons, wc, ww]
      (refine CallA.pure (c3) (by simp only [go_sem, zA, zB, zC, zD, zE, zF, zG, zH, zI, zJ, zK, zL, zM, zN, zO, zP, ↓reduceIte, reduceCtorEq] <;> first | rfl | decide) ?_; simp only [go_sem, zA, zB, zC, zD, zE, zF, zG, zH, zI, zJ, zK, zL, zM, zN, zO, zP, ↓reduceIte, reduceCtorEq])
      (refine callD_pure (c4) (by simp only [go_sem, zA, zB, zC, zD, zE, zF, zG, zH, zI, zJ, zK, zL, zM, zN, zO, zP, ↓reduceIte, reduceCtorEq, gc, i1, rowsB_length, List.length_cons, beq_self_eq_true] <;> first | rfl | decide) ?_; simp only [go_sem, zA, zB, zC, zD, zE, zF, zG, zH, zI, zJ, zK, zL, zM, zN, zO, zP, ↓reduceIte, reduceCtorEq, gc, i1, rowsB_length, List.length_cons, beq_self_eq_true])
      (refine callD_pure (c5) (by simp only [go_sem, zA, zB, zC, zD, zE, zF, zG, zH, zI, zJ, zK, zL, zM, zN, zO, zP, ↓reduceIte, reduceCtorEq] <;> first | rfl | decide) ?_; simp only [go_sem, zA, zB, zC, zD, zE, zF, zG, zH, zI, zJ, zK, zL, zM, zN, zO, zP, ↓reduceIte, reduceCtorEq])
      (refine callD_pure (c6) (by simp only [go_sem, zA, zB, zC, zD, zE, zF, zG, zH, zI, zJ, zK, zL, zM, zN, zO, zP, ↓reduceIte, reduceCtorEq, gc, i1, rowsB_length, List.length_cons, w8] <;> first | rfl | decide) ?_; simp only [go_sem, zA, zB, zC, zD, zE, zF, zG, zH, zI, zJ, zK, zL, zM, zN, zO, zP, ↓reduceIte, reduceCtorEq, gc, i1, rowsB_length, List.length_cons, w8])
      (refine callD_pure (c7) (by simp only [go_sem, zA, zB, zC, zD, zE, zF, zG, zH, zI, zJ, zK, zL, zM, zN, zO, zP, ↓reduceIte, reduceCtorEq, rowsB, List.map_cons, List.map_nil, rowB] <;> first | rfl | decide) ?_; simp only [go_sem, zA, zB, zC, zD, zE, zF, zG, zH, zI, zJ, zK, zL, zM, zN, zO, zP, ↓reduceIte, reduceCtorEq, rowsB_length])
      refine endD_intro (by decide +kernel) ?_
      simp only [go_sem, zA, zB, zC, zD, zE, zF, zG, zH, zI, zJ, zK, zL, zM, zN, zO, zP, ↓reduceIte, reduceCtorEq, Try.ntmps14, Try.results14]
end Go.Proofs.Ytcdmhigmgpflbaa.Pe

