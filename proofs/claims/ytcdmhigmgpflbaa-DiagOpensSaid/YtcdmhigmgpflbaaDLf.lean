import Derived.Test.YtcdmhigmgpflbaaDLe
namespace Go.Proofs.Ytcdmhigmgpflbaa.Pe
open Go.Pe Go.RowKit
set_option maxRecDepth 20000
set_option maxHeartbeats 4000000
set_option linter.unusedSimpArgs false
set_option linter.unusedVariables false
theorem ask_to {s : Srv} {q : List UInt8} {r : AskR} (h : askV s q = r) (hr : RightS s) : PureCalls Try.prog 41 [s.pv, bytesPV q] r.pv := h ▸ ask_calls s q hr.fits
def opSt (m v : Srv) (bs : List UInt8) (i : Nat) : St := ⟨242, [(2, bytesPV bs), (3, .ptr 0 0), (7, PB true), (16, .ptr 43 0), (19, PI i)], [(0, .box 25 m.cells), (43, .box 25 v.cells)], 300, 0⟩
def opI (m v : Srv) (bs : List UInt8) (k : Nat) (st : St) : Prop := ∃ (i : Nat), i ≤ m.items.length ∧ k = m.items.length - i ∧ st = opSt m v bs i
def inSt (m v : Srv) (bs d : List UInt8) (na nb : UInt8) (i k : Nat) : St := ⟨242, [(2, bytesPV bs), (3, .ptr 0 0), (7, PB true), (16, .ptr 43 0), (19, PI i), (20, .own 315 0), (21, .own 317 1), (22, PI k)],
  [(0, .box 25 m.cells), (43, .box 25 v.cells), (315, .arr 5 1 [[.lit (.int .u8 na.toNat)], [.lit (.int .u8 nb.toNat)]] 0 false), (317, .arr 5 1 (rowsB (ovr bs d k)) 1 false)], 400, 0⟩
def inI (m v : Srv) (bs d : List UInt8) (na nb : UInt8) (i : Nat) (mm : Nat) (st : St) : Prop := ∃ k : Nat, k ≤ bs.length ∧ k ≤ d.length ∧ mm = d.length - k ∧ st = inSt m v bs d na nb i k
theorem diagOpens_calls (s : Srv) (ld : Bool) (bs : List UInt8) : PureCalls Try.prog 5 [s.pv, PB ld, bytesPV bs] (PB true) := by
  refine PureCalls.of tabOK mixed Try.func5 rfl rfl (by decide +kernel) (by simp [Try.ntmps5]) ?_
  have cm := made_calls s
  have hr := made_right s
  generalize madeV s = m0 at cm hr
  obtain ⟨w, hw⟩ : ∃ w : Int, m0.wrong.tmod 3 = w := ⟨_, rfl⟩
  have hw2 : 0 ≤ w ∧ w ≤ 2 := by have := hr.wrong; rw [← hw, Int.tmod_eq_emod_of_nonneg (by omega)]; omega
  have hm : RightS { m0 with wrong := w } := ⟨hr.its, hr.ses, hr.seed, ⟨hw2.1, by show w ≤ 12; omega⟩, hr.quiet, hr.draw, hr.sec, hr.many, hr.dtc⟩
  simp only [go_sem, Nat.reduceAdd, Nat.reduceSub, Nat.reduceMul, Nat.reduceLT, Nat.reduceLeDiff, Nat.reduceEqDiff, Nat.reduceBEq, Int.reduceToNat, Int.reduceLT, Int.reduceLE, Int.reduceEq, Int.reduceNe, Int.reduceAdd, Int.reduceSub, Int.reduceMul, Int.reduceNeg, ↓reduceIte, reduceCtorEq, Try.ntmps5, Try.results5, Srv.pv, Srv.cells]
  (refine CallA.pure (h22_calls) (by simp only [go_sem, Nat.reduceAdd, Nat.reduceSub, Nat.reduceMul, Nat.reduceLT, Nat.reduceLeDiff, Nat.reduceEqDiff, Nat.reduceBEq, Int.reduceToNat, Int.reduceLT, Int.reduceLE, Int.reduceEq, Int.reduceNe, Int.reduceAdd, Int.reduceSub, Int.reduceMul, Int.reduceNeg, ↓reduceIte, reduceCtorEq, Srv.pv, Srv.cells] <;> first | rfl | decide) ?_; simp only [go_sem, Nat.reduceAdd, Nat.reduceSub, Nat.reduceMul, Nat.reduceLT, Nat.reduceLeDiff, Nat.reduceEqDiff, Nat.reduceBEq, Int.reduceToNat, Int.reduceLT, Int.reduceLE, Int.reduceEq, Int.reduceNe, Int.reduceAdd, Int.reduceSub, Int.reduceMul, Int.reduceNeg, ↓reduceIte, reduceCtorEq, Srv.pv, Srv.cells])
  (refine CallA.pure (cm) (by simp only [go_sem, Nat.reduceAdd, Nat.reduceSub, Nat.reduceMul, Nat.reduceLT, Nat.reduceLeDiff, Nat.reduceEqDiff, Nat.reduceBEq, Int.reduceToNat, Int.reduceLT, Int.reduceLE, Int.reduceEq, Int.reduceNe, Int.reduceAdd, Int.reduceSub, Int.reduceMul, Int.reduceNeg, ↓reduceIte, reduceCtorEq, Srv.pv, Srv.cells, hw] <;> first | rfl | decide) ?_; simp only [go_sem, Nat.reduceAdd, Nat.reduceSub, Nat.reduceMul, Nat.reduceLT, Nat.reduceLeDiff, Nat.reduceEqDiff, Nat.reduceBEq, Int.reduceToNat, Int.reduceLT, Int.reduceLE, Int.reduceEq, Int.reduceNe, Int.reduceAdd, Int.reduceSub, Int.reduceMul, Int.reduceNeg, ↓reduceIte, reduceCtorEq, Srv.pv, Srv.cells, hw])
  clear cm hw hr
  obtain ⟨m, hmw⟩ : ∃ m : Srv, m = { m0 with wrong := w } := ⟨_, rfl⟩
  have q0 : PI m0.ses = PI m.ses ∧ PB m0.op = PB m.op ∧ m0.seed = m.seed ∧ m0.quiet = m.quiet ∧ m0.draw = m.draw ∧ m0.sec = m.sec ∧ m0.items = m.items ∧ m0.dtc = m.dtc ∧ w = m.wrong := by rw [hmw]; exact ⟨rfl, rfl, rfl, rfl, rfl, rfl, rfl, rfl, rfl⟩
  rw [← hmw] at hm
  obtain ⟨q1, q2, q3, q4, q5, q6, q7, q8, q9⟩ := q0
  rw [q9] at hw2
  have hw2 := hw2.2
  cases ld with
  | false =>
    simp only [go_sem, Nat.reduceAdd, Nat.reduceSub, Nat.reduceMul, Nat.reduceLT, Nat.reduceLeDiff, Nat.reduceEqDiff, Nat.reduceBEq, Int.reduceToNat, Int.reduceLT, Int.reduceLE, Int.reduceEq, Int.reduceNe, Int.reduceAdd, Int.reduceSub, Int.reduceMul, Int.reduceNeg, ↓reduceIte, reduceCtorEq, q1, q2, q3, q4, q5, q6, q7, q8, q9]
    have e1 := ask_ses2 (s := m) (n := 2) (.inl rfl)
    have sN : (((2 : UInt8).toNat : Nat) : Int) ≠ 1 := by decide +kernel
    have c1 := ask_to e1 hm
    have h1 := ask_right hm [0x10, 2]
    rw [e1] at h1
    have e2 := ask_seed (s := { m with quiet := 0, ses := ((2 : UInt8).toNat : Int), op := false, seed := -1 }) hw2 sN rfl
    have c2 := ask_to e2 h1
    have h2 := ask_right h1 [0x27, 1]
    rw [e2] at h2
    have e3 := ask_key_good (s := { m with quiet := 0, ses := ((2 : UInt8).toNat : Int), op := false, seed := m.draw, draw := nextDraw m.draw }) hw2 sN hm.draw.1
    have c3 := ask_to e3 h2
    have h3 := ask_right h2 (0x27 :: 2 :: fourV (keyV m.draw m.sec))
    rw [e3] at h3
    have cF := fourR_calls m.draw hm.draw
    have cK := keyR22_calls m.draw m.sec
    have cG := fourR_calls _ (keyV_wide m.draw m.sec)
    have uN : ((UInt8.toNat 2 : Nat) : Int) = 2 := rfl
    (refine CallA.pure (c1) (by simp only [go_sem, Nat.reduceAdd, Nat.reduceSub, Nat.reduceMul, Nat.reduceLT, Nat.reduceLeDiff, Nat.reduceEqDiff, Nat.reduceBEq, Int.reduceToNat, Int.reduceLT, Int.reduceLE, Int.reduceEq, Int.reduceNe, Int.reduceAdd, Int.reduceSub, Int.reduceMul, Int.reduceNeg, ↓reduceIte, reduceCtorEq, Srv.pv, Srv.cells, rowsB, List.map_cons, List.map_nil, rowB] <;> first | rfl | decide) ?_; simp only [go_sem, Nat.reduceAdd, Nat.reduceSub, Nat.reduceMul, Nat.reduceLT, Nat.reduceLeDiff, Nat.reduceEqDiff, Nat.reduceBEq, Int.reduceToNat, Int.reduceLT, Int.reduceLE, Int.reduceEq, Int.reduceNe, Int.reduceAdd, Int.reduceSub, Int.reduceMul, Int.reduceNeg, ↓reduceIte, reduceCtorEq, Srv.pv, Srv.cells, uN])
    have fR : [[PV.lit (.int .u8 80)], [PV.lit (.int .u8 2)]] = rowsB [80, 2] := rfl
    have l6 : decide ((((fourV m.draw).length + 1 + 1 : Nat) : Int) = 6) = true := rfl
    have l6n : (fourV m.draw).length + 1 + 1 = 6 := rfl
    have lk6 : 2 + (fourV (keyV m.draw m.sec)).length = 6 := rfl
    have gt4 : List.take 4 (fourV m.draw) = fourV m.draw := rfl
    have gd2 : (rowsB (103 :: 1 :: fourV m.draw)).drop 2 = rowsB (fourV m.draw) := rfl
    (refine CallA.pure (c2) (by simp only [go_sem, Nat.reduceAdd, Nat.reduceSub, Nat.reduceMul, Nat.reduceLT, Nat.reduceLeDiff, Nat.reduceEqDiff, Nat.reduceBEq, Int.reduceToNat, Int.reduceLT, Int.reduceLE, Int.reduceEq, Int.reduceNe, Int.reduceAdd, Int.reduceSub, Int.reduceMul, Int.reduceNeg, ↓reduceIte, reduceCtorEq, Srv.pv, Srv.cells, uN, rowsB, List.map_cons, List.map_nil, rowB] <;> first | rfl | decide) ?_; simp only [go_sem, Nat.reduceAdd, Nat.reduceSub, Nat.reduceMul, Nat.reduceLT, Nat.reduceLeDiff, Nat.reduceEqDiff, Nat.reduceBEq, Int.reduceToNat, Int.reduceLT, Int.reduceLE, Int.reduceEq, Int.reduceNe, Int.reduceAdd, Int.reduceSub, Int.reduceMul, Int.reduceNeg, ↓reduceIte, reduceCtorEq, Srv.pv, Srv.cells, uN, fR, l6, l6n, gd2, gt4])
    (refine callD_pure (cF) (by simp only [go_sem, Nat.reduceAdd, Nat.reduceSub, Nat.reduceMul, Nat.reduceLT, Nat.reduceLeDiff, Nat.reduceEqDiff, Nat.reduceBEq, Int.reduceToNat, Int.reduceLT, Int.reduceLE, Int.reduceEq, Int.reduceNe, Int.reduceAdd, Int.reduceSub, Int.reduceMul, Int.reduceNeg, ↓reduceIte, reduceCtorEq] <;> first | rfl | decide) ?_; simp only [go_sem, Nat.reduceAdd, Nat.reduceSub, Nat.reduceMul, Nat.reduceLT, Nat.reduceLeDiff, Nat.reduceEqDiff, Nat.reduceBEq, Int.reduceToNat, Int.reduceLT, Int.reduceLE, Int.reduceEq, Int.reduceNe, Int.reduceAdd, Int.reduceSub, Int.reduceMul, Int.reduceNeg, ↓reduceIte, reduceCtorEq])
    refine endD_intro (by decide +kernel) ?_
    simp only [go_sem, Nat.reduceAdd, Nat.reduceSub, Nat.reduceMul, Nat.reduceLT, Nat.reduceLeDiff, Nat.reduceEqDiff, Nat.reduceBEq, Int.reduceToNat, Int.reduceLT, Int.reduceLE, Int.reduceEq, Int.reduceNe, Int.reduceAdd, Int.reduceSub, Int.reduceMul, Int.reduceNeg, ↓reduceIte, reduceCtorEq]
    (refine CallA.pure (cK) (by simp only [go_sem, Nat.reduceAdd, Nat.reduceSub, Nat.reduceMul, Nat.reduceLT, Nat.reduceLeDiff, Nat.reduceEqDiff, Nat.reduceBEq, Int.reduceToNat, Int.reduceLT, Int.reduceLE, Int.reduceEq, Int.reduceNe, Int.reduceAdd, Int.reduceSub, Int.reduceMul, Int.reduceNeg, ↓reduceIte, reduceCtorEq] <;> first | rfl | decide) ?_; simp only [go_sem, Nat.reduceAdd, Nat.reduceSub, Nat.reduceMul, Nat.reduceLT, Nat.reduceLeDiff, Nat.reduceEqDiff, Nat.reduceBEq, Int.reduceToNat, Int.reduceLT, Int.reduceLE, Int.reduceEq, Int.reduceNe, Int.reduceAdd, Int.reduceSub, Int.reduceMul, Int.reduceNeg, ↓reduceIte, reduceCtorEq])
    (refine CallA.pure (cG) (by simp only [go_sem, Nat.reduceAdd, Nat.reduceSub, Nat.reduceMul, Nat.reduceLT, Nat.reduceLeDiff, Nat.reduceEqDiff, Nat.reduceBEq, Int.reduceToNat, Int.reduceLT, Int.reduceLE, Int.reduceEq, Int.reduceNe, Int.reduceAdd, Int.reduceSub, Int.reduceMul, Int.reduceNeg, ↓reduceIte, reduceCtorEq, lk6] <;> first | rfl | decide) ?_; simp only [go_sem, Nat.reduceAdd, Nat.reduceSub, Nat.reduceMul, Nat.reduceLT, Nat.reduceLeDiff, Nat.reduceEqDiff, Nat.reduceBEq, Int.reduceToNat, Int.reduceLT, Int.reduceLE, Int.reduceEq, Int.reduceNe, Int.reduceAdd, Int.reduceSub, Int.reduceMul, Int.reduceNeg, ↓reduceIte, reduceCtorEq, lk6])
    (refine CallA.pure (c3) (by simp only [go_sem, Nat.reduceAdd, Nat.reduceSub, Nat.reduceMul, Nat.reduceLT, Nat.reduceLeDiff, Nat.reduceEqDiff, Nat.reduceBEq, Int.reduceToNat, Int.reduceLT, Int.reduceLE, Int.reduceEq, Int.reduceNe, Int.reduceAdd, Int.reduceSub, Int.reduceMul, Int.reduceNeg, ↓reduceIte, reduceCtorEq, Srv.pv, Srv.cells, uN, rowsB, List.map_cons, List.map_nil, rowB] <;> first | rfl | decide) ?_; simp only [go_sem, Nat.reduceAdd, Nat.reduceSub, Nat.reduceMul, Nat.reduceLT, Nat.reduceLeDiff, Nat.reduceEqDiff, Nat.reduceBEq, Int.reduceToNat, Int.reduceLT, Int.reduceLE, Int.reduceEq, Int.reduceNe, Int.reduceAdd, Int.reduceSub, Int.reduceMul, Int.reduceNeg, ↓reduceIte, reduceCtorEq, Srv.pv, Srv.cells, uN])
    refine wpA_loop (opI m { m with ses := ((2 : UInt8).toNat : Int), op := true, seed := -1, wrong := 0, quiet := 0, draw := nextDraw m.draw } bs) ⟨_, _, ?_, 0, by omega, rfl, rfl⟩ ?_
    · simp only [go_sem, Nat.reduceAdd, Nat.reduceSub, Nat.reduceMul, Nat.reduceLT, Nat.reduceLeDiff, Nat.reduceEqDiff, Nat.reduceBEq, Int.reduceToNat, Int.reduceLT, Int.reduceLE, Int.reduceEq, Int.reduceNe, Int.reduceAdd, Int.reduceSub, Int.reduceMul, Int.reduceNeg, ↓reduceIte, reduceCtorEq, opSt, Srv.cells, refsIn, refsInL, Blk.refsIn, Int.natCast_zero, uN]
    have hv1 : (({ m with ses := ((2 : UInt8).toNat : Int), op := true, seed := -1, wrong := 0, quiet := 0, draw := nextDraw m.draw } : Srv)).ses ≠ 1 := sN
    have hv2 : (({ m with ses := ((2 : UInt8).toNat : Int), op := true, seed := -1, wrong := 0, quiet := 0, draw := nextDraw m.draw } : Srv)).op = true := rfl
    have hv3 : (({ m with ses := ((2 : UInt8).toNat : Int), op := true, seed := -1, wrong := 0, quiet := 0, draw := nextDraw m.draw } : Srv)).quiet = 0 := rfl
    have hv4 : (({ m with ses := ((2 : UInt8).toNat : Int), op := true, seed := -1, wrong := 0, quiet := 0, draw := nextDraw m.draw } : Srv)).items = m.items := rfl
    replace h3 : RightS (({ m with ses := ((2 : UInt8).toNat : Int), op := true, seed := -1, wrong := 0, quiet := 0, draw := nextDraw m.draw } : Srv)) := h3
    clear e1 e2 e3 c1 c2 c3 h1 h2 cF cK cG
    revert hv1 hv2 hv3 hv4 h3
    generalize (({ m with ses := ((2 : UInt8).toNat : Int), op := true, seed := -1, wrong := 0, quiet := 0, draw := nextDraw m.draw } : Srv)) = v
    intro hv1 hv2 hv3 hv4 h3
    rintro mm st ⟨i, hi, rfl, rfl⟩
    by_cases hc : i < m.items.length
    rotate_left 1
    · have f1 : decide ((i : Int) < (m.items.length : Int)) = false := decide_eq_false (by omega)
      simp only [go_sem, Nat.reduceAdd, Nat.reduceSub, Nat.reduceMul, Nat.reduceLT, Nat.reduceLeDiff, Nat.reduceEqDiff, Nat.reduceBEq, Int.reduceToNat, Int.reduceLT, Int.reduceLE, Int.reduceEq, Int.reduceNe, Int.reduceAdd, Int.reduceSub, Int.reduceMul, Int.reduceNeg, ↓reduceIte, reduceCtorEq, opSt, f1, Srv.cells, List.length_map, Try.ntmps5, Try.results5]
    have f1 : decide ((i : Int) < (m.items.length : Int)) = true := decide_eq_true (by omega)
    have mi := hm.many
    have hw := wrapIN (i := i) (by omega)
    obtain ⟨f3, f4⟩ : (0 : Int) ≤ (i : Int) ∧ (i : Int) < (m.items.length : Int) := by omega
    have hrow : (itmRows m.items).getD i [] = [PI m.items[i].id, PB m.items[i].wr, bytesPV m.items[i].data] := by simp [itmRows, List.getD_eq_getElem?_getD, hc, Itm.cells]
    have hok := okIt_iff.1 (okIts_mem hm.its m.items[i] (List.getElem_mem _))
    have hci : i < v.items.length := by rw [hv4]; exact hc
    have hop := fun (d : List UInt8) (a b : UInt8) (hd : d.length = m.items[i].data.length) (hab : idV a b = m.items[i].id) => opens_item (d := d) (a := a) (b := b) h3 hv1 hv2 hv3 hci (by simp only [hv4]; exact hd) (by simp only [hv4]; exact hab)
    simp only [hv4] at hop
    generalize m.items[i] = x at hrow hok hop
    obtain ⟨na, nb, hna, hnb, hid⟩ : ∃ na nb : UInt8, u8of (x.id.fdiv (2 ^ min 8 64)) = na ∧ u8of x.id = nb ∧ idV na nb = x.id := ⟨_, _, rfl, rfl, idV_idB hok.1⟩
    obtain ⟨hd1, hd2⟩ := hok.2
    have o0 : ovr bs x.data 0 = x.data := by simp [ovr]
    have f0 : (rowsB x.data).length = x.data.length := rowsB_length _
    simp only [go_sem, Nat.reduceAdd, Nat.reduceSub, Nat.reduceMul, Nat.reduceLT, Nat.reduceLeDiff, Nat.reduceEqDiff, Nat.reduceBEq, Int.reduceToNat, Int.reduceLT, Int.reduceLE, Int.reduceEq, Int.reduceNe, Int.reduceAdd, Int.reduceSub, Int.reduceMul, Int.reduceNeg, ↓reduceIte, reduceCtorEq, opSt, f1, f3, f4, Srv.cells, List.length_map, Int.toNat_natCast, hrow, u8of_eq, hna, hnb]
    refine endD_intro (by decide +kernel) ?_
    simp only [go_sem, Nat.reduceAdd, Nat.reduceSub, Nat.reduceMul, Nat.reduceLT, Nat.reduceLeDiff, Nat.reduceEqDiff, Nat.reduceBEq, Int.reduceToNat, Int.reduceLT, Int.reduceLE, Int.reduceEq, Int.reduceNe, Int.reduceAdd, Int.reduceSub, Int.reduceMul, Int.reduceNeg, ↓reduceIte, reduceCtorEq, f3, f4, Srv.cells, List.length_map, Int.toNat_natCast, hrow, f0]
    refine ⟨by omega, ?_⟩
    refine wpA_loop (inI m v bs x.data na nb i) ⟨_, _, ?_, 0, by omega, by omega, rfl, rfl⟩ ?_
    · simp only [go_sem, Nat.reduceAdd, Nat.reduceSub, Nat.reduceMul, Nat.reduceLT, Nat.reduceLeDiff, Nat.reduceEqDiff, Nat.reduceBEq, Int.reduceToNat, Int.reduceLT, Int.reduceLE, Int.reduceEq, Int.reduceNe, Int.reduceAdd, Int.reduceSub, Int.reduceMul, Int.reduceNeg, ↓reduceIte, reduceCtorEq, inSt, Srv.cells, refsIn, refsInL, Blk.refsIn, Int.natCast_zero, o0]
    rintro mk st ⟨k, hk1, hk2, rfl, rfl⟩
    have lo := ovr_len hk1 hk2
    have lr : (rowsB (ovr bs x.data k)).length = x.data.length := by rw [rowsB_length, lo]
    have hwk := wrapIN (i := k) (by omega)
    have lbs : (rowsB bs).length = bs.length := rowsB_length _
    by_cases hck : k < x.data.length ∧ k < bs.length
    · have g1 : decide ((k : Int) < (x.data.length : Int)) = true := decide_eq_true (by omega)
      have g2 : decide ((k : Int) < (bs.length : Int)) = true := decide_eq_true (by omega)
      obtain ⟨g3, g4, g5⟩ : (0 : Int) ≤ (k : Int) ∧ (k : Int) < (x.data.length : Int) ∧ (k : Int) < (bs.length : Int) := by omega
      have g6 : (rowsB bs).getD k [] = [.lit (.int .u8 bs[k].toNat)] := by simp [rowsB, List.getD_eq_getElem?_getD, hck.2, rowB]
      have g7 : (rowsB (ovr bs x.data k)).set k [.lit (.int .u8 bs[k].toNat)] = rowsB (ovr bs x.data (k + 1)) := by rw [← ovr_set hck.2 hck.1]; simp [rowsB, rowB]
      have g8 : List.drop 1 ((rowsB (ovr bs x.data k)).getD k []) = [] := by rw [rowsB_getD (by rw [lo]; exact hck.1)]; rfl
      have g9 : k < x.data.length := hck.1
      simp only [go_sem, Nat.reduceAdd, Nat.reduceSub, Nat.reduceMul, Nat.reduceLT, Nat.reduceLeDiff, Nat.reduceEqDiff, Nat.reduceBEq, Int.reduceToNat, Int.reduceLT, Int.reduceLE, Int.reduceEq, Int.reduceNe, Int.reduceAdd, Int.reduceSub, Int.reduceMul, Int.reduceNeg, ↓reduceIte, reduceCtorEq, inSt, g1, g2, g3, g4, g5, g6, g7, g8, g9, lo, lr, lbs, hwk, Int.toNat_natCast, Srv.cells]
      refine ⟨x.data.length - (k + 1), _, by omega, ?_, k + 1, by omega, by omega, rfl, rfl⟩
      simp only [go_sem, Nat.reduceAdd, Nat.reduceSub, Nat.reduceMul, Nat.reduceLT, Nat.reduceLeDiff, Nat.reduceEqDiff, Nat.reduceBEq, Int.reduceToNat, Int.reduceLT, Int.reduceLE, Int.reduceEq, Int.reduceNe, Int.reduceAdd, Int.reduceSub, Int.reduceMul, Int.reduceNeg, ↓reduceIte, reduceCtorEq, inSt, hwk, Srv.cells, refsIn, refsInL, Blk.refsIn]
    obtain ⟨d, hd⟩ : ∃ d, ovr bs x.data k = d := ⟨_, rfl⟩
    rw [hd] at lo lr
    obtain ⟨y, e, p1, p2, p3, p4⟩ := hop d na nb lo hid
    have c1 := ask_to p1 h3
    have c2 := ask_to p4 p3
    have cs := same_self p3
    cases g1 : decide ((k : Int) < (x.data.length : Int)) with
    | true =>
      have g2 : decide ((k : Int) < (bs.length : Int)) = false := decide_eq_false (by have := of_decide_eq_true g1; omega)
      simp only [go_sem, Nat.reduceAdd, Nat.reduceSub, Nat.reduceMul, Nat.reduceLT, Nat.reduceLeDiff, Nat.reduceEqDiff, Nat.reduceBEq, Int.reduceToNat, Int.reduceLT, Int.reduceLE, Int.reduceEq, Int.reduceNe, Int.reduceAdd, Int.reduceSub, Int.reduceMul, Int.reduceNeg, ↓reduceIte, reduceCtorEq, inSt, g1, g2, hd, lo, lr, lbs, Int.toNat_natCast, Srv.cells]
      refine ⟨by omega, ?_⟩
      cases hxw : x.wr with
      | true =>
        rw [hxw] at p2 p4 c2
        simp only [if_true] at p2 p4 c2
        subst p2
        have fN : [PV.lit (.int .u8 98)] :: [PV.lit (.int .u8 na.toNat)] :: [PV.lit (.int .u8 nb.toNat)] :: rowsB d = rowsB (98 :: na :: nb :: d) := rfl
        have z3 : decide ((3 : Int) > 0) = true := rfl
        have gr : (rowsB [110, na, nb]).getD 0 [] = [PV.lit (.int .u8 110)] := rfl
        have gl : (rowsB [110, na, nb]).length = 3 := rfl
        (refine CallA.pure (c1) (by simp only [go_sem, Nat.reduceAdd, Nat.reduceSub, Nat.reduceMul, Nat.reduceLT, Nat.reduceLeDiff, Nat.reduceEqDiff, Nat.reduceBEq, Int.reduceToNat, Int.reduceLT, Int.reduceLE, Int.reduceEq, Int.reduceNe, Int.reduceAdd, Int.reduceSub, Int.reduceMul, Int.reduceNeg, ↓reduceIte, reduceCtorEq, Srv.pv, Srv.cells, rowsB, List.map_cons, List.map_nil, rowB] <;> first | rfl | decide) ?_; simp only [go_sem, Nat.reduceAdd, Nat.reduceSub, Nat.reduceMul, Nat.reduceLT, Nat.reduceLeDiff, Nat.reduceEqDiff, Nat.reduceBEq, Int.reduceToNat, Int.reduceLT, Int.reduceLE, Int.reduceEq, Int.reduceNe, Int.reduceAdd, Int.reduceSub, Int.reduceMul, Int.reduceNeg, ↓reduceIte, reduceCtorEq, Srv.pv, Srv.cells])
        (refine callD_pure (c2) (by simp only [go_sem, Nat.reduceAdd, Nat.reduceSub, Nat.reduceMul, Nat.reduceLT, Nat.reduceLeDiff, Nat.reduceEqDiff, Nat.reduceBEq, Int.reduceToNat, Int.reduceLT, Int.reduceLE, Int.reduceEq, Int.reduceNe, Int.reduceAdd, Int.reduceSub, Int.reduceMul, Int.reduceNeg, ↓reduceIte, reduceCtorEq, Srv.pv, Srv.cells, rowsB, List.map_cons, List.map_nil, rowB] <;> first | rfl | decide) ?_; simp only [go_sem, Nat.reduceAdd, Nat.reduceSub, Nat.reduceMul, Nat.reduceLT, Nat.reduceLeDiff, Nat.reduceEqDiff, Nat.reduceBEq, Int.reduceToNat, Int.reduceLT, Int.reduceLE, Int.reduceEq, Int.reduceNe, Int.reduceAdd, Int.reduceSub, Int.reduceMul, Int.reduceNeg, ↓reduceIte, reduceCtorEq, Srv.pv, Srv.cells])
        refine endD_intro (by decide +kernel) ?_
        simp only [go_sem, Nat.reduceAdd, Nat.reduceSub, Nat.reduceMul, Nat.reduceLT, Nat.reduceLeDiff, Nat.reduceEqDiff, Nat.reduceBEq, Int.reduceToNat, Int.reduceLT, Int.reduceLE, Int.reduceEq, Int.reduceNe, Int.reduceAdd, Int.reduceSub, Int.reduceMul, Int.reduceNeg, ↓reduceIte, reduceCtorEq, f3, f4, Srv.cells, List.length_map, Int.toNat_natCast, hrow, hxw, fN, z3, gr, gl]
        refine ⟨by omega, ?_⟩
        (refine callD_pure (cs) (by simp only [go_sem, Nat.reduceAdd, Nat.reduceSub, Nat.reduceMul, Nat.reduceLT, Nat.reduceLeDiff, Nat.reduceEqDiff, Nat.reduceBEq, Int.reduceToNat, Int.reduceLT, Int.reduceLE, Int.reduceEq, Int.reduceNe, Int.reduceAdd, Int.reduceSub, Int.reduceMul, Int.reduceNeg, ↓reduceIte, reduceCtorEq, Srv.pv, Srv.cells] <;> first | rfl | decide) ?_; simp only [go_sem, Nat.reduceAdd, Nat.reduceSub, Nat.reduceMul, Nat.reduceLT, Nat.reduceLeDiff, Nat.reduceEqDiff, Nat.reduceBEq, Int.reduceToNat, Int.reduceLT, Int.reduceLE, Int.reduceEq, Int.reduceNe, Int.reduceAdd, Int.reduceSub, Int.reduceMul, Int.reduceNeg, ↓reduceIte, reduceCtorEq, Srv.pv, Srv.cells])
        refine endD_intro (by decide +kernel) ?_
        simp only [go_sem, Nat.reduceAdd, Nat.reduceSub, Nat.reduceMul, Nat.reduceLT, Nat.reduceLeDiff, Nat.reduceEqDiff, Nat.reduceBEq, Int.reduceToNat, Int.reduceLT, Int.reduceLE, Int.reduceEq, Int.reduceNe, Int.reduceAdd, Int.reduceSub, Int.reduceMul, Int.reduceNeg, ↓reduceIte, reduceCtorEq, hw]
        refine ⟨m.items.length - (i + 1), _, by omega, ?_, i + 1, by omega, rfl, rfl⟩
        simp only [go_sem, Nat.reduceAdd, Nat.reduceSub, Nat.reduceMul, Nat.reduceLT, Nat.reduceLeDiff, Nat.reduceEqDiff, Nat.reduceBEq, Int.reduceToNat, Int.reduceLT, Int.reduceLE, Int.reduceEq, Int.reduceNe, Int.reduceAdd, Int.reduceSub, Int.reduceMul, Int.reduceNeg, ↓reduceIte, reduceCtorEq, opSt, hw, Srv.cells, refsIn, refsInL, Blk.refsIn]
      | false =>
        rw [hxw] at p2 p4 c2
        simp only [Bool.false_eq_true, if_false] at p2 p4 c2
        subst p2
        have fN : [PV.lit (.int .u8 98)] :: [PV.lit (.int .u8 na.toNat)] :: [PV.lit (.int .u8 nb.toNat)] :: rowsB x.data = rowsB (98 :: na :: nb :: x.data) := rfl
        have z3 : decide ((3 : Int) > 0) = true := rfl
        have gr : (rowsB [127, 46, 49]).getD 0 [] = [PV.lit (.int .u8 127)] := rfl
        have gl : (rowsB [127, 46, 49]).length = 3 := rfl
        (refine CallA.pure (c1) (by simp only [go_sem, Nat.reduceAdd, Nat.reduceSub, Nat.reduceMul, Nat.reduceLT, Nat.reduceLeDiff, Nat.reduceEqDiff, Nat.reduceBEq, Int.reduceToNat, Int.reduceLT, Int.reduceLE, Int.reduceEq, Int.reduceNe, Int.reduceAdd, Int.reduceSub, Int.reduceMul, Int.reduceNeg, ↓reduceIte, reduceCtorEq, Srv.pv, Srv.cells, rowsB, List.map_cons, List.map_nil, rowB] <;> first | rfl | decide) ?_; simp only [go_sem, Nat.reduceAdd, Nat.reduceSub, Nat.reduceMul, Nat.reduceLT, Nat.reduceLeDiff, Nat.reduceEqDiff, Nat.reduceBEq, Int.reduceToNat, Int.reduceLT, Int.reduceLE, Int.reduceEq, Int.reduceNe, Int.reduceAdd, Int.reduceSub, Int.reduceMul, Int.reduceNeg, ↓reduceIte, reduceCtorEq, Srv.pv, Srv.cells])
        (refine callD_pure (c2) (by simp only [go_sem, Nat.reduceAdd, Nat.reduceSub, Nat.reduceMul, Nat.reduceLT, Nat.reduceLeDiff, Nat.reduceEqDiff, Nat.reduceBEq, Int.reduceToNat, Int.reduceLT, Int.reduceLE, Int.reduceEq, Int.reduceNe, Int.reduceAdd, Int.reduceSub, Int.reduceMul, Int.reduceNeg, ↓reduceIte, reduceCtorEq, Srv.pv, Srv.cells, rowsB, List.map_cons, List.map_nil, rowB] <;> first | rfl | decide) ?_; simp only [go_sem, Nat.reduceAdd, Nat.reduceSub, Nat.reduceMul, Nat.reduceLT, Nat.reduceLeDiff, Nat.reduceEqDiff, Nat.reduceBEq, Int.reduceToNat, Int.reduceLT, Int.reduceLE, Int.reduceEq, Int.reduceNe, Int.reduceAdd, Int.reduceSub, Int.reduceMul, Int.reduceNeg, ↓reduceIte, reduceCtorEq, Srv.pv, Srv.cells])
        refine endD_intro (by decide +kernel) ?_
        simp only [go_sem, Nat.reduceAdd, Nat.reduceSub, Nat.reduceMul, Nat.reduceLT, Nat.reduceLeDiff, Nat.reduceEqDiff, Nat.reduceBEq, Int.reduceToNat, Int.reduceLT, Int.reduceLE, Int.reduceEq, Int.reduceNe, Int.reduceAdd, Int.reduceSub, Int.reduceMul, Int.reduceNeg, ↓reduceIte, reduceCtorEq, f3, f4, Srv.cells, List.length_map, Int.toNat_natCast, hrow, hxw, fN, z3, gr, gl]
        refine ⟨by omega, ?_⟩
        (refine callD_pure (cs) (by simp only [go_sem, Nat.reduceAdd, Nat.reduceSub, Nat.reduceMul, Nat.reduceLT, Nat.reduceLeDiff, Nat.reduceEqDiff, Nat.reduceBEq, Int.reduceToNat, Int.reduceLT, Int.reduceLE, Int.reduceEq, Int.reduceNe, Int.reduceAdd, Int.reduceSub, Int.reduceMul, Int.reduceNeg, ↓reduceIte, reduceCtorEq, Srv.pv, Srv.cells] <;> first | rfl | decide) ?_; simp only [go_sem, Nat.reduceAdd, Nat.reduceSub, Nat.reduceMul, Nat.reduceLT, Nat.reduceLeDiff, Nat.reduceEqDiff, Nat.reduceBEq, Int.reduceToNat, Int.reduceLT, Int.reduceLE, Int.reduceEq, Int.reduceNe, Int.reduceAdd, Int.reduceSub, Int.reduceMul, Int.reduceNeg, ↓reduceIte, reduceCtorEq, Srv.pv, Srv.cells])
        refine endD_intro (by decide +kernel) ?_
        simp only [go_sem, Nat.reduceAdd, Nat.reduceSub, Nat.reduceMul, Nat.reduceLT, Nat.reduceLeDiff, Nat.reduceEqDiff, Nat.reduceBEq, Int.reduceToNat, Int.reduceLT, Int.reduceLE, Int.reduceEq, Int.reduceNe, Int.reduceAdd, Int.reduceSub, Int.reduceMul, Int.reduceNeg, ↓reduceIte, reduceCtorEq, hw]
        refine ⟨m.items.length - (i + 1), _, by omega, ?_, i + 1, by omega, rfl, rfl⟩
        simp only [go_sem, Nat.reduceAdd, Nat.reduceSub, Nat.reduceMul, Nat.reduceLT, Nat.reduceLeDiff, Nat.reduceEqDiff, Nat.reduceBEq, Int.reduceToNat, Int.reduceLT, Int.reduceLE, Int.reduceEq, Int.reduceNe, Int.reduceAdd, Int.reduceSub, Int.reduceMul, Int.reduceNeg, ↓reduceIte, reduceCtorEq, opSt, hw, Srv.cells, refsIn, refsInL, Blk.refsIn]
    | false =>
      simp only [go_sem, Nat.reduceAdd, Nat.reduceSub, Nat.reduceMul, Nat.reduceLT, Nat.reduceLeDiff, Nat.reduceEqDiff, Nat.reduceBEq, Int.reduceToNat, Int.reduceLT, Int.reduceLE, Int.reduceEq, Int.reduceNe, Int.reduceAdd, Int.reduceSub, Int.reduceMul, Int.reduceNeg, ↓reduceIte, reduceCtorEq, inSt, g1, hd, lo, lr, lbs, Int.toNat_natCast, Srv.cells]
      refine ⟨by omega, ?_⟩
      cases hxw : x.wr with
      | true =>
        rw [hxw] at p2 p4 c2
        simp only [if_true] at p2 p4 c2
        subst p2
        have fN : [PV.lit (.int .u8 98)] :: [PV.lit (.int .u8 na.toNat)] :: [PV.lit (.int .u8 nb.toNat)] :: rowsB d = rowsB (98 :: na :: nb :: d) := rfl
        have z3 : decide ((3 : Int) > 0) = true := rfl
        have gr : (rowsB [110, na, nb]).getD 0 [] = [PV.lit (.int .u8 110)] := rfl
        have gl : (rowsB [110, na, nb]).length = 3 := rfl
        (refine CallA.pure (c1) (by simp only [go_sem, Nat.reduceAdd, Nat.reduceSub, Nat.reduceMul, Nat.reduceLT, Nat.reduceLeDiff, Nat.reduceEqDiff, Nat.reduceBEq, Int.reduceToNat, Int.reduceLT, Int.reduceLE, Int.reduceEq, Int.reduceNe, Int.reduceAdd, Int.reduceSub, Int.reduceMul, Int.reduceNeg, ↓reduceIte, reduceCtorEq, Srv.pv, Srv.cells, rowsB, List.map_cons, List.map_nil, rowB] <;> first | rfl | decide) ?_; simp only [go_sem, Nat.reduceAdd, Nat.reduceSub, Nat.reduceMul, Nat.reduceLT, Nat.reduceLeDiff, Nat.reduceEqDiff, Nat.reduceBEq, Int.reduceToNat, Int.reduceLT, Int.reduceLE, Int.reduceEq, Int.reduceNe, Int.reduceAdd, Int.reduceSub, Int.reduceMul, Int.reduceNeg, ↓reduceIte, reduceCtorEq, Srv.pv, Srv.cells])
        (refine callD_pure (c2) (by simp only [go_sem, Nat.reduceAdd, Nat.reduceSub, Nat.reduceMul, Nat.reduceLT, Nat.reduceLeDiff, Nat.reduceEqDiff, Nat.reduceBEq, Int.reduceToNat, Int.reduceLT, Int.reduceLE, Int.reduceEq, Int.reduceNe, Int.reduceAdd, Int.reduceSub, Int.reduceMul, Int.reduceNeg, ↓reduceIte, reduceCtorEq, Srv.pv, Srv.cells, rowsB, List.map_cons, List.map_nil, rowB] <;> first | rfl | decide) ?_; simp only [go_sem, Nat.reduceAdd, Nat.reduceSub, Nat.reduceMul, Nat.reduceLT, Nat.reduceLeDiff, Nat.reduceEqDiff, Nat.reduceBEq, Int.reduceToNat, Int.reduceLT, Int.reduceLE, Int.reduceEq, Int.reduceNe, Int.reduceAdd, Int.reduceSub, Int.reduceMul, Int.reduceNeg, ↓reduceIte, reduceCtorEq, Srv.pv, Srv.cells])
        refine endD_intro (by decide +kernel) ?_
        simp only [go_sem, Nat.reduceAdd, Nat.reduceSub, Nat.reduceMul, Nat.reduceLT, Nat.reduceLeDiff, Nat.reduceEqDiff, Nat.reduceBEq, Int.reduceToNat, Int.reduceLT, Int.reduceLE, Int.reduceEq, Int.reduceNe, Int.reduceAdd, Int.reduceSub, Int.reduceMul, Int.reduceNeg, ↓reduceIte, reduceCtorEq, f3, f4, Srv.cells, List.length_map, Int.toNat_natCast, hrow, hxw, fN, z3, gr, gl]
        refine ⟨by omega, ?_⟩
        (refine callD_pure (cs) (by simp only [go_sem, Nat.reduceAdd, Nat.reduceSub, Nat.reduceMul, Nat.reduceLT, Nat.reduceLeDiff, Nat.reduceEqDiff, Nat.reduceBEq, Int.reduceToNat, Int.reduceLT, Int.reduceLE, Int.reduceEq, Int.reduceNe, Int.reduceAdd, Int.reduceSub, Int.reduceMul, Int.reduceNeg, ↓reduceIte, reduceCtorEq, Srv.pv, Srv.cells] <;> first | rfl | decide) ?_; simp only [go_sem, Nat.reduceAdd, Nat.reduceSub, Nat.reduceMul, Nat.reduceLT, Nat.reduceLeDiff, Nat.reduceEqDiff, Nat.reduceBEq, Int.reduceToNat, Int.reduceLT, Int.reduceLE, Int.reduceEq, Int.reduceNe, Int.reduceAdd, Int.reduceSub, Int.reduceMul, Int.reduceNeg, ↓reduceIte, reduceCtorEq, Srv.pv, Srv.cells])
        refine endD_intro (by decide +kernel) ?_
        simp only [go_sem, Nat.reduceAdd, Nat.reduceSub, Nat.reduceMul, Nat.reduceLT, Nat.reduceLeDiff, Nat.reduceEqDiff, Nat.reduceBEq, Int.reduceToNat, Int.reduceLT, Int.reduceLE, Int.reduceEq, Int.reduceNe, Int.reduceAdd, Int.reduceSub, Int.reduceMul, Int.reduceNeg, ↓reduceIte, reduceCtorEq, hw]
        refine ⟨m.items.length - (i + 1), _, by omega, ?_, i + 1, by omega, rfl, rfl⟩
        simp only [go_sem, Nat.reduceAdd, Nat.reduceSub, Nat.reduceMul, Nat.reduceLT, Nat.reduceLeDiff, Nat.reduceEqDiff, Nat.reduceBEq, Int.reduceToNat, Int.reduceLT, Int.reduceLE, Int.reduceEq, Int.reduceNe, Int.reduceAdd, Int.reduceSub, Int.reduceMul, Int.reduceNeg, ↓reduceIte, reduceCtorEq, opSt, hw, Srv.cells, refsIn, refsInL, Blk.refsIn]
      | false =>
        rw [hxw] at p2 p4 c2
        simp only [Bool.false_eq_true, if_false] at p2 p4 c2
        subst p2
        have fN : [PV.lit (.int .u8 98)] :: [PV.lit (.int .u8 na.toNat)] :: [PV.lit (.int .u8 nb.toNat)] :: rowsB x.data = rowsB (98 :: na :: nb :: x.data) := rfl
        have z3 : decide ((3 : Int) > 0) = true := rfl
        have gr : (rowsB [127, 46, 49]).getD 0 [] = [PV.lit (.int .u8 127)] := rfl
        have gl : (rowsB [127, 46, 49]).length = 3 := rfl
        (refine CallA.pure (c1) (by simp only [go_sem, Nat.reduceAdd, Nat.reduceSub, Nat.reduceMul, Nat.reduceLT, Nat.reduceLeDiff, Nat.reduceEqDiff, Nat.reduceBEq, Int.reduceToNat, Int.reduceLT, Int.reduceLE, Int.reduceEq, Int.reduceNe, Int.reduceAdd, Int.reduceSub, Int.reduceMul, Int.reduceNeg, ↓reduceIte, reduceCtorEq, Srv.pv, Srv.cells, rowsB, List.map_cons, List.map_nil, rowB] <;> first | rfl | decide) ?_; simp only [go_sem, Nat.reduceAdd, Nat.reduceSub, Nat.reduceMul, Nat.reduceLT, Nat.reduceLeDiff, Nat.reduceEqDiff, Nat.reduceBEq, Int.reduceToNat, Int.reduceLT, Int.reduceLE, Int.reduceEq, Int.reduceNe, Int.reduceAdd, Int.reduceSub, Int.reduceMul, Int.reduceNeg, ↓reduceIte, reduceCtorEq, Srv.pv, Srv.cells])
        (refine callD_pure (c2) (by simp only [go_sem, Nat.reduceAdd, Nat.reduceSub, Nat.reduceMul, Nat.reduceLT, Nat.reduceLeDiff, Nat.reduceEqDiff, Nat.reduceBEq, Int.reduceToNat, Int.reduceLT, Int.reduceLE, Int.reduceEq, Int.reduceNe, Int.reduceAdd, Int.reduceSub, Int.reduceMul, Int.reduceNeg, ↓reduceIte, reduceCtorEq, Srv.pv, Srv.cells, rowsB, List.map_cons, List.map_nil, rowB] <;> first | rfl | decide) ?_; simp only [go_sem, Nat.reduceAdd, Nat.reduceSub, Nat.reduceMul, Nat.reduceLT, Nat.reduceLeDiff, Nat.reduceEqDiff, Nat.reduceBEq, Int.reduceToNat, Int.reduceLT, Int.reduceLE, Int.reduceEq, Int.reduceNe, Int.reduceAdd, Int.reduceSub, Int.reduceMul, Int.reduceNeg, ↓reduceIte, reduceCtorEq, Srv.pv, Srv.cells])
        refine endD_intro (by decide +kernel) ?_
        simp only [go_sem, Nat.reduceAdd, Nat.reduceSub, Nat.reduceMul, Nat.reduceLT, Nat.reduceLeDiff, Nat.reduceEqDiff, Nat.reduceBEq, Int.reduceToNat, Int.reduceLT, Int.reduceLE, Int.reduceEq, Int.reduceNe, Int.reduceAdd, Int.reduceSub, Int.reduceMul, Int.reduceNeg, ↓reduceIte, reduceCtorEq, f3, f4, Srv.cells, List.length_map, Int.toNat_natCast, hrow, hxw, fN, z3, gr, gl]
        refine ⟨by omega, ?_⟩
        (refine callD_pure (cs) (by simp only [go_sem, Nat.reduceAdd, Nat.reduceSub, Nat.reduceMul, Nat.reduceLT, Nat.reduceLeDiff, Nat.reduceEqDiff, Nat.reduceBEq, Int.reduceToNat, Int.reduceLT, Int.reduceLE, Int.reduceEq, Int.reduceNe, Int.reduceAdd, Int.reduceSub, Int.reduceMul, Int.reduceNeg, ↓reduceIte, reduceCtorEq, Srv.pv, Srv.cells] <;> first | rfl | decide) ?_; simp only [go_sem, Nat.reduceAdd, Nat.reduceSub, Nat.reduceMul, Nat.reduceLT, Nat.reduceLeDiff, Nat.reduceEqDiff, Nat.reduceBEq, Int.reduceToNat, Int.reduceLT, Int.reduceLE, Int.reduceEq, Int.reduceNe, Int.reduceAdd, Int.reduceSub, Int.reduceMul, Int.reduceNeg, ↓reduceIte, reduceCtorEq, Srv.pv, Srv.cells])
        refine endD_intro (by decide +kernel) ?_
        simp only [go_sem, Nat.reduceAdd, Nat.reduceSub, Nat.reduceMul, Nat.reduceLT, Nat.reduceLeDiff, Nat.reduceEqDiff, Nat.reduceBEq, Int.reduceToNat, Int.reduceLT, Int.reduceLE, Int.reduceEq, Int.reduceNe, Int.reduceAdd, Int.reduceSub, Int.reduceMul, Int.reduceNeg, ↓reduceIte, reduceCtorEq, hw]
        refine ⟨m.items.length - (i + 1), _, by omega, ?_, i + 1, by omega, rfl, rfl⟩
        simp only [go_sem, Nat.reduceAdd, Nat.reduceSub, Nat.reduceMul, Nat.reduceLT, Nat.reduceLeDiff, Nat.reduceEqDiff, Nat.reduceBEq, Int.reduceToNat, Int.reduceLT, Int.reduceLE, Int.reduceEq, Int.reduceNe, Int.reduceAdd, Int.reduceSub, Int.reduceMul, Int.reduceNeg, ↓reduceIte, reduceCtorEq, opSt, hw, Srv.cells, refsIn, refsInL, Blk.refsIn]
  | true =>
    simp only [go_sem, Nat.reduceAdd, Nat.reduceSub, Nat.reduceMul, Nat.reduceLT, Nat.reduceLeDiff, Nat.reduceEqDiff, Nat.reduceBEq, Int.reduceToNat, Int.reduceLT, Int.reduceLE, Int.reduceEq, Int.reduceNe, Int.reduceAdd, Int.reduceSub, Int.reduceMul, Int.reduceNeg, ↓reduceIte, reduceCtorEq, q1, q2, q3, q4, q5, q6, q7, q8, q9]
    have e1 := ask_ses2 (s := m) (n := 3) (.inr rfl)
    have sN : (((3 : UInt8).toNat : Nat) : Int) ≠ 1 := by decide +kernel
    have c1 := ask_to e1 hm
    have h1 := ask_right hm [0x10, 3]
    rw [e1] at h1
    have e2 := ask_seed (s := { m with quiet := 0, ses := ((3 : UInt8).toNat : Int), op := false, seed := -1 }) hw2 sN rfl
    have c2 := ask_to e2 h1
    have h2 := ask_right h1 [0x27, 1]
    rw [e2] at h2
    have e3 := ask_key_good (s := { m with quiet := 0, ses := ((3 : UInt8).toNat : Int), op := false, seed := m.draw, draw := nextDraw m.draw }) hw2 sN hm.draw.1
    have c3 := ask_to e3 h2
    have h3 := ask_right h2 (0x27 :: 2 :: fourV (keyV m.draw m.sec))
    rw [e3] at h3
    have cF := fourR_calls m.draw hm.draw
    have cK := keyR22_calls m.draw m.sec
    have cG := fourR_calls _ (keyV_wide m.draw m.sec)
    have uN : ((UInt8.toNat 3 : Nat) : Int) = 3 := rfl
    (refine CallA.pure (c1) (by simp only [go_sem, Nat.reduceAdd, Nat.reduceSub, Nat.reduceMul, Nat.reduceLT, Nat.reduceLeDiff, Nat.reduceEqDiff, Nat.reduceBEq, Int.reduceToNat, Int.reduceLT, Int.reduceLE, Int.reduceEq, Int.reduceNe, Int.reduceAdd, Int.reduceSub, Int.reduceMul, Int.reduceNeg, ↓reduceIte, reduceCtorEq, Srv.pv, Srv.cells, rowsB, List.map_cons, List.map_nil, rowB] <;> first | rfl | decide) ?_; simp only [go_sem, Nat.reduceAdd, Nat.reduceSub, Nat.reduceMul, Nat.reduceLT, Nat.reduceLeDiff, Nat.reduceEqDiff, Nat.reduceBEq, Int.reduceToNat, Int.reduceLT, Int.reduceLE, Int.reduceEq, Int.reduceNe, Int.reduceAdd, Int.reduceSub, Int.reduceMul, Int.reduceNeg, ↓reduceIte, reduceCtorEq, Srv.pv, Srv.cells, uN])
    have fR : [[PV.lit (.int .u8 80)], [PV.lit (.int .u8 3)]] = rowsB [80, 3] := rfl
    have l6 : decide ((((fourV m.draw).length + 1 + 1 : Nat) : Int) = 6) = true := rfl
    have l6n : (fourV m.draw).length + 1 + 1 = 6 := rfl
    have lk6 : 2 + (fourV (keyV m.draw m.sec)).length = 6 := rfl
    have gt4 : List.take 4 (fourV m.draw) = fourV m.draw := rfl
    have gd2 : (rowsB (103 :: 1 :: fourV m.draw)).drop 2 = rowsB (fourV m.draw) := rfl
    (refine CallA.pure (c2) (by simp only [go_sem, Nat.reduceAdd, Nat.reduceSub, Nat.reduceMul, Nat.reduceLT, Nat.reduceLeDiff, Nat.reduceEqDiff, Nat.reduceBEq, Int.reduceToNat, Int.reduceLT, Int.reduceLE, Int.reduceEq, Int.reduceNe, Int.reduceAdd, Int.reduceSub, Int.reduceMul, Int.reduceNeg, ↓reduceIte, reduceCtorEq, Srv.pv, Srv.cells, uN, rowsB, List.map_cons, List.map_nil, rowB] <;> first | rfl | decide) ?_; simp only [go_sem, Nat.reduceAdd, Nat.reduceSub, Nat.reduceMul, Nat.reduceLT, Nat.reduceLeDiff, Nat.reduceEqDiff, Nat.reduceBEq, Int.reduceToNat, Int.reduceLT, Int.reduceLE, Int.reduceEq, Int.reduceNe, Int.reduceAdd, Int.reduceSub, Int.reduceMul, Int.reduceNeg, ↓reduceIte, reduceCtorEq, Srv.pv, Srv.cells, uN, fR, l6, l6n, gd2, gt4])
    (refine callD_pure (cF) (by simp only [go_sem, Nat.reduceAdd, Nat.reduceSub, Nat.reduceMul, Nat.reduceLT, Nat.reduceLeDiff, Nat.reduceEqDiff, Nat.reduceBEq, Int.reduceToNat, Int.reduceLT, Int.reduceLE, Int.reduceEq, Int.reduceNe, Int.reduceAdd, Int.reduceSub, Int.reduceMul, Int.reduceNeg, ↓reduceIte, reduceCtorEq] <;> first | rfl | decide) ?_; simp only [go_sem, Nat.reduceAdd, Nat.reduceSub, Nat.reduceMul, Nat.reduceLT, Nat.reduceLeDiff, Nat.reduceEqDiff, Nat.reduceBEq, Int.reduceToNat, Int.reduceLT, Int.reduceLE, Int.reduceEq, Int.reduceNe, Int.reduceAdd, Int.reduceSub, Int.reduceMul, Int.reduceNeg, ↓reduceIte, reduceCtorEq])
    refine endD_intro (by decide +kernel) ?_
    simp only [go_sem, Nat.reduceAdd, Nat.reduceSub, Nat.reduceMul, Nat.reduceLT, Nat.reduceLeDiff, Nat.reduceEqDiff, Nat.reduceBEq, Int.reduceToNat, Int.reduceLT, Int.reduceLE, Int.reduceEq, Int.reduceNe, Int.reduceAdd, Int.reduceSub, Int.reduceMul, Int.reduceNeg, ↓reduceIte, reduceCtorEq]
    (refine CallA.pure (cK) (by simp only [go_sem, Nat.reduceAdd, Nat.reduceSub, Nat.reduceMul, Nat.reduceLT, Nat.reduceLeDiff, Nat.reduceEqDiff, Nat.reduceBEq, Int.reduceToNat, Int.reduceLT, Int.reduceLE, Int.reduceEq, Int.reduceNe, Int.reduceAdd, Int.reduceSub, Int.reduceMul, Int.reduceNeg, ↓reduceIte, reduceCtorEq] <;> first | rfl | decide) ?_; simp only [go_sem, Nat.reduceAdd, Nat.reduceSub, Nat.reduceMul, Nat.reduceLT, Nat.reduceLeDiff, Nat.reduceEqDiff, Nat.reduceBEq, Int.reduceToNat, Int.reduceLT, Int.reduceLE, Int.reduceEq, Int.reduceNe, Int.reduceAdd, Int.reduceSub, Int.reduceMul, Int.reduceNeg, ↓reduceIte, reduceCtorEq])
    (refine CallA.pure (cG) (by simp only [go_sem, Nat.reduceAdd, Nat.reduceSub, Nat.reduceMul, Nat.reduceLT, Nat.reduceLeDiff, Nat.reduceEqDiff, Nat.reduceBEq, Int.reduceToNat, Int.reduceLT, Int.reduceLE, Int.reduceEq, Int.reduceNe, Int.reduceAdd, Int.reduceSub, Int.reduceMul, Int.reduceNeg, ↓reduceIte, reduceCtorEq, lk6] <;> first | rfl | decide) ?_; simp only [go_sem, Nat.reduceAdd, Nat.reduceSub, Nat.reduceMul, Nat.reduceLT, Nat.reduceLeDiff, Nat.reduceEqDiff, Nat.reduceBEq, Int.reduceToNat, Int.reduceLT, Int.reduceLE, Int.reduceEq, Int.reduceNe, Int.reduceAdd, Int.reduceSub, Int.reduceMul, Int.reduceNeg, ↓reduceIte, reduceCtorEq, lk6])
    (refine CallA.pure (c3) (by simp only [go_sem, Nat.reduceAdd, Nat.reduceSub, Nat.reduceMul, Nat.reduceLT, Nat.reduceLeDiff, Nat.reduceEqDiff, Nat.reduceBEq, Int.reduceToNat, Int.reduceLT, Int.reduceLE, Int.reduceEq, Int.reduceNe, Int.reduceAdd, Int.reduceSub, Int.reduceMul, Int.reduceNeg, ↓reduceIte, reduceCtorEq, Srv.pv, Srv.cells, uN, rowsB, List.map_cons, List.map_nil, rowB] <;> first | rfl | decide) ?_; simp only [go_sem, Nat.reduceAdd, Nat.reduceSub, Nat.reduceMul, Nat.reduceLT, Nat.reduceLeDiff, Nat.reduceEqDiff, Nat.reduceBEq, Int.reduceToNat, Int.reduceLT, Int.reduceLE, Int.reduceEq, Int.reduceNe, Int.reduceAdd, Int.reduceSub, Int.reduceMul, Int.reduceNeg, ↓reduceIte, reduceCtorEq, Srv.pv, Srv.cells, uN])
    refine wpA_loop (opI m { m with ses := ((3 : UInt8).toNat : Int), op := true, seed := -1, wrong := 0, quiet := 0, draw := nextDraw m.draw } bs) ⟨_, _, ?_, 0, by omega, rfl, rfl⟩ ?_
    · simp only [go_sem, Nat.reduceAdd, Nat.reduceSub, Nat.reduceMul, Nat.reduceLT, Nat.reduceLeDiff, Nat.reduceEqDiff, Nat.reduceBEq, Int.reduceToNat, Int.reduceLT, Int.reduceLE, Int.reduceEq, Int.reduceNe, Int.reduceAdd, Int.reduceSub, Int.reduceMul, Int.reduceNeg, ↓reduceIte, reduceCtorEq, opSt, Srv.cells, refsIn, refsInL, Blk.refsIn, Int.natCast_zero, uN]
    have hv1 : (({ m with ses := ((3 : UInt8).toNat : Int), op := true, seed := -1, wrong := 0, quiet := 0, draw := nextDraw m.draw } : Srv)).ses ≠ 1 := sN
    have hv2 : (({ m with ses := ((3 : UInt8).toNat : Int), op := true, seed := -1, wrong := 0, quiet := 0, draw := nextDraw m.draw } : Srv)).op = true := rfl
    have hv3 : (({ m with ses := ((3 : UInt8).toNat : Int), op := true, seed := -1, wrong := 0, quiet := 0, draw := nextDraw m.draw } : Srv)).quiet = 0 := rfl
    have hv4 : (({ m with ses := ((3 : UInt8).toNat : Int), op := true, seed := -1, wrong := 0, quiet := 0, draw := nextDraw m.draw } : Srv)).items = m.items := rfl
    replace h3 : RightS (({ m with ses := ((3 : UInt8).toNat : Int), op := true, seed := -1, wrong := 0, quiet := 0, draw := nextDraw m.draw } : Srv)) := h3
    clear e1 e2 e3 c1 c2 c3 h1 h2 cF cK cG
    revert hv1 hv2 hv3 hv4 h3
    generalize (({ m with ses := ((3 : UInt8).toNat : Int), op := true, seed := -1, wrong := 0, quiet := 0, draw := nextDraw m.draw } : Srv)) = v
    intro hv1 hv2 hv3 hv4 h3
    rintro mm st ⟨i, hi, rfl, rfl⟩
    by_cases hc : i < m.items.length
    rotate_left 1
    · have f1 : decide ((i : Int) < (m.items.length : Int)) = false := decide_eq_false (by omega)
      simp only [go_sem, Nat.reduceAdd, Nat.reduceSub, Nat.reduceMul, Nat.reduceLT, Nat.reduceLeDiff, Nat.reduceEqDiff, Nat.reduceBEq, Int.reduceToNat, Int.reduceLT, Int.reduceLE, Int.reduceEq, Int.reduceNe, Int.reduceAdd, Int.reduceSub, Int.reduceMul, Int.reduceNeg, ↓reduceIte, reduceCtorEq, opSt, f1, Srv.cells, List.length_map, Try.ntmps5, Try.results5]
    have f1 : decide ((i : Int) < (m.items.length : Int)) = true := decide_eq_true (by omega)
    have mi := hm.many
    have hw := wrapIN (i := i) (by omega)
    obtain ⟨f3, f4⟩ : (0 : Int) ≤ (i : Int) ∧ (i : Int) < (m.items.length : Int) := by omega
    have hrow : (itmRows m.items).getD i [] = [PI m.items[i].id, PB m.items[i].wr, bytesPV m.items[i].data] := by simp [itmRows, List.getD_eq_getElem?_getD, hc, Itm.cells]
    have hok := okIt_iff.1 (okIts_mem hm.its m.items[i] (List.getElem_mem _))
    have hci : i < v.items.length := by rw [hv4]; exact hc
    have hop := fun (d : List UInt8) (a b : UInt8) (hd : d.length = m.items[i].data.length) (hab : idV a b = m.items[i].id) => opens_item (d := d) (a := a) (b := b) h3 hv1 hv2 hv3 hci (by simp only [hv4]; exact hd) (by simp only [hv4]; exact hab)
    simp only [hv4] at hop
    generalize m.items[i] = x at hrow hok hop
    obtain ⟨na, nb, hna, hnb, hid⟩ : ∃ na nb : UInt8, u8of (x.id.fdiv (2 ^ min 8 64)) = na ∧ u8of x.id = nb ∧ idV na nb = x.id := ⟨_, _, rfl, rfl, idV_idB hok.1⟩
    obtain ⟨hd1, hd2⟩ := hok.2
    have o0 : ovr bs x.data 0 = x.data := by simp [ovr]
    have f0 : (rowsB x.data).length = x.data.length := rowsB_length _
    simp only [go_sem, Nat.reduceAdd, Nat.reduceSub, Nat.reduceMul, Nat.reduceLT, Nat.reduceLeDiff, Nat.reduceEqDiff, Nat.reduceBEq, Int.reduceToNat, Int.reduceLT, Int.reduceLE, Int.reduceEq, Int.reduceNe, Int.reduceAdd, Int.reduceSub, Int.reduceMul, Int.reduceNeg, ↓reduceIte, reduceCtorEq, opSt, f1, f3, f4, Srv.cells, List.length_map, Int.toNat_natCast, hrow, u8of_eq, hna, hnb]
    refine endD_intro (by decide +kernel) ?_
    simp only [go_sem, Nat.reduceAdd, Nat.reduceSub, Nat.reduceMul, Nat.reduceLT, Nat.reduceLeDiff, Nat.reduceEqDiff, Nat.reduceBEq, Int.reduceToNat, Int.reduceLT, Int.reduceLE, Int.reduceEq, Int.reduceNe, Int.reduceAdd, Int.reduceSub, Int.reduceMul, Int.reduceNeg, ↓reduceIte, reduceCtorEq, f3, f4, Srv.cells, List.length_map, Int.toNat_natCast, hrow, f0]
    refine ⟨by omega, ?_⟩
    refine wpA_loop (inI m v bs x.data na nb i) ⟨_, _, ?_, 0, by omega, by omega, rfl, rfl⟩ ?_
    · simp only [go_sem, Nat.reduceAdd, Nat.reduceSub, Nat.reduceMul, Nat.reduceLT, Nat.reduceLeDiff, Nat.reduceEqDiff, Nat.reduceBEq, Int.reduceToNat, Int.reduceLT, Int.reduceLE, Int.reduceEq, Int.reduceNe, Int.reduceAdd, Int.reduceSub, Int.reduceMul, Int.reduceNeg, ↓reduceIte, reduceCtorEq, inSt, Srv.cells, refsIn, refsInL, Blk.refsIn, Int.natCast_zero, o0]
    rintro mk st ⟨k, hk1, hk2, rfl, rfl⟩
    have lo := ovr_len hk1 hk2
    have lr : (rowsB (ovr bs x.data k)).length = x.data.length := by rw [rowsB_length, lo]
    have hwk := wrapIN (i := k) (by omega)
    have lbs : (rowsB bs).length = bs.length := rowsB_length _
    by_cases hck : k < x.data.length ∧ k < bs.length
    · have g1 : decide ((k : Int) < (x.data.length : Int)) = true := decide_eq_true (by omega)
      have g2 : decide ((k : Int) < (bs.length : Int)) = true := decide_eq_true (by omega)
      obtain ⟨g3, g4, g5⟩ : (0 : Int) ≤ (k : Int) ∧ (k : Int) < (x.data.length : Int) ∧ (k : Int) < (bs.length : Int) := by omega
      have g6 : (rowsB bs).getD k [] = [.lit (.int .u8 bs[k].toNat)] := by simp [rowsB, List.getD_eq_getElem?_getD, hck.2, rowB]
      have g7 : (rowsB (ovr bs x.data k)).set k [.lit (.int .u8 bs[k].toNat)] = rowsB (ovr bs x.data (k + 1)) := by rw [← ovr_set hck.2 hck.1]; simp [rowsB, rowB]
      have g8 : List.drop 1 ((rowsB (ovr bs x.data k)).getD k []) = [] := by rw [rowsB_getD (by rw [lo]; exact hck.1)]; rfl
      have g9 : k < x.data.length := hck.1
      simp only [go_sem, Nat.reduceAdd, Nat.reduceSub, Nat.reduceMul, Nat.reduceLT, Nat.reduceLeDiff, Nat.reduceEqDiff, Nat.reduceBEq, Int.reduceToNat, Int.reduceLT, Int.reduceLE, Int.reduceEq, Int.reduceNe, Int.reduceAdd, Int.reduceSub, Int.reduceMul, Int.reduceNeg, ↓reduceIte, reduceCtorEq, inSt, g1, g2, g3, g4, g5, g6, g7, g8, g9, lo, lr, lbs, hwk, Int.toNat_natCast, Srv.cells]
      refine ⟨x.data.length - (k + 1), _, by omega, ?_, k + 1, by omega, by omega, rfl, rfl⟩
      simp only [go_sem, Nat.reduceAdd, Nat.reduceSub, Nat.reduceMul, Nat.reduceLT, Nat.reduceLeDiff, Nat.reduceEqDiff, Nat.reduceBEq, Int.reduceToNat, Int.reduceLT, Int.reduceLE, Int.reduceEq, Int.reduceNe, Int.reduceAdd, Int.reduceSub, Int.reduceMul, Int.reduceNeg, ↓reduceIte, reduceCtorEq, inSt, hwk, Srv.cells, refsIn, refsInL, Blk.refsIn]
    obtain ⟨d, hd⟩ : ∃ d, ovr bs x.data k = d := ⟨_, rfl⟩
    rw [hd] at lo lr
    obtain ⟨y, e, p1, p2, p3, p4⟩ := hop d na nb lo hid
    have c1 := ask_to p1 h3
    have c2 := ask_to p4 p3
    have cs := same_self p3
    cases g1 : decide ((k : Int) < (x.data.length : Int)) with
    | true =>
      have g2 : decide ((k : Int) < (bs.length : Int)) = false := decide_eq_false (by have := of_decide_eq_true g1; omega)
      simp only [go_sem, Nat.reduceAdd, Nat.reduceSub, Nat.reduceMul, Nat.reduceLT, Nat.reduceLeDiff, Nat.reduceEqDiff, Nat.reduceBEq, Int.reduceToNat, Int.reduceLT, Int.reduceLE, Int.reduceEq, Int.reduceNe, Int.reduceAdd, Int.reduceSub, Int.reduceMul, Int.reduceNeg, ↓reduceIte, reduceCtorEq, inSt, g1, g2, hd, lo, lr, lbs, Int.toNat_natCast, Srv.cells]
      refine ⟨by omega, ?_⟩
      cases hxw : x.wr with
      | true =>
        rw [hxw] at p2 p4 c2
        simp only [if_true] at p2 p4 c2
        subst p2
        have fN : [PV.lit (.int .u8 98)] :: [PV.lit (.int .u8 na.toNat)] :: [PV.lit (.int .u8 nb.toNat)] :: rowsB d = rowsB (98 :: na :: nb :: d) := rfl
        have z3 : decide ((3 : Int) > 0) = true := rfl
        have gr : (rowsB [110, na, nb]).getD 0 [] = [PV.lit (.int .u8 110)] := rfl
        have gl : (rowsB [110, na, nb]).length = 3 := rfl
        (refine CallA.pure (c1) (by simp only [go_sem, Nat.reduceAdd, Nat.reduceSub, Nat.reduceMul, Nat.reduceLT, Nat.reduceLeDiff, Nat.reduceEqDiff, Nat.reduceBEq, Int.reduceToNat, Int.reduceLT, Int.reduceLE, Int.reduceEq, Int.reduceNe, Int.reduceAdd, Int.reduceSub, Int.reduceMul, Int.reduceNeg, ↓reduceIte, reduceCtorEq, Srv.pv, Srv.cells, rowsB, List.map_cons, List.map_nil, rowB] <;> first | rfl | decide) ?_; simp only [go_sem, Nat.reduceAdd, Nat.reduceSub, Nat.reduceMul, Nat.reduceLT, Nat.reduceLeDiff, Nat.reduceEqDiff, Nat.reduceBEq, Int.reduceToNat, Int.reduceLT, Int.reduceLE, Int.reduceEq, Int.reduceNe, Int.reduceAdd, Int.reduceSub, Int.reduceMul, Int.reduceNeg, ↓reduceIte, reduceCtorEq, Srv.pv, Srv.cells])
        (refine callD_pure (c2) (by simp only [go_sem, Nat.reduceAdd, Nat.reduceSub, Nat.reduceMul, Nat.reduceLT, Nat.reduceLeDiff, Nat.reduceEqDiff, Nat.reduceBEq, Int.reduceToNat, Int.reduceLT, Int.reduceLE, Int.reduceEq, Int.reduceNe, Int.reduceAdd, Int.reduceSub, Int.reduceMul, Int.reduceNeg, ↓reduceIte, reduceCtorEq, Srv.pv, Srv.cells, rowsB, List.map_cons, List.map_nil, rowB] <;> first | rfl | decide) ?_; simp only [go_sem, Nat.reduceAdd, Nat.reduceSub, Nat.reduceMul, Nat.reduceLT, Nat.reduceLeDiff, Nat.reduceEqDiff, Nat.reduceBEq, Int.reduceToNat, Int.reduceLT, Int.reduceLE, Int.reduceEq, Int.reduceNe, Int.reduceAdd, Int.reduceSub, Int.reduceMul, Int.reduceNeg, ↓reduceIte, reduceCtorEq, Srv.pv, Srv.cells])
        refine endD_intro (by decide +kernel) ?_
        simp only [go_sem, Nat.reduceAdd, Nat.reduceSub, Nat.reduceMul, Nat.reduceLT, Nat.reduceLeDiff, Nat.reduceEqDiff, Nat.reduceBEq, Int.reduceToNat, Int.reduceLT, Int.reduceLE, Int.reduceEq, Int.reduceNe, Int.reduceAdd, Int.reduceSub, Int.reduceMul, Int.reduceNeg, ↓reduceIte, reduceCtorEq, f3, f4, Srv.cells, List.length_map, Int.toNat_natCast, hrow, hxw, fN, z3, gr, gl]
        refine ⟨by omega, ?_⟩
        (refine callD_pure (cs) (by simp only [go_sem, Nat.reduceAdd, Nat.reduceSub, Nat.reduceMul, Nat.reduceLT, Nat.reduceLeDiff, Nat.reduceEqDiff, Nat.reduceBEq, Int.reduceToNat, Int.reduceLT, Int.reduceLE, Int.reduceEq, Int.reduceNe, Int.reduceAdd, Int.reduceSub, Int.reduceMul, Int.reduceNeg, ↓reduceIte, reduceCtorEq, Srv.pv, Srv.cells] <;> first | rfl | decide) ?_; simp only [go_sem, Nat.reduceAdd, Nat.reduceSub, Nat.reduceMul, Nat.reduceLT, Nat.reduceLeDiff, Nat.reduceEqDiff, Nat.reduceBEq, Int.reduceToNat, Int.reduceLT, Int.reduceLE, Int.reduceEq, Int.reduceNe, Int.reduceAdd, Int.reduceSub, Int.reduceMul, Int.reduceNeg, ↓reduceIte, reduceCtorEq, Srv.pv, Srv.cells])
        refine endD_intro (by decide +kernel) ?_
        simp only [go_sem, Nat.reduceAdd, Nat.reduceSub, Nat.reduceMul, Nat.reduceLT, Nat.reduceLeDiff, Nat.reduceEqDiff, Nat.reduceBEq, Int.reduceToNat, Int.reduceLT, Int.reduceLE, Int.reduceEq, Int.reduceNe, Int.reduceAdd, Int.reduceSub, Int.reduceMul, Int.reduceNeg, ↓reduceIte, reduceCtorEq, hw]
        refine ⟨m.items.length - (i + 1), _, by omega, ?_, i + 1, by omega, rfl, rfl⟩
        simp only [go_sem, Nat.reduceAdd, Nat.reduceSub, Nat.reduceMul, Nat.reduceLT, Nat.reduceLeDiff, Nat.reduceEqDiff, Nat.reduceBEq, Int.reduceToNat, Int.reduceLT, Int.reduceLE, Int.reduceEq, Int.reduceNe, Int.reduceAdd, Int.reduceSub, Int.reduceMul, Int.reduceNeg, ↓reduceIte, reduceCtorEq, opSt, hw, Srv.cells, refsIn, refsInL, Blk.refsIn]
      | false =>
        rw [hxw] at p2 p4 c2
        simp only [Bool.false_eq_true, if_false] at p2 p4 c2
        subst p2
        have fN : [PV.lit (.int .u8 98)] :: [PV.lit (.int .u8 na.toNat)] :: [PV.lit (.int .u8 nb.toNat)] :: rowsB x.data = rowsB (98 :: na :: nb :: x.data) := rfl
        have z3 : decide ((3 : Int) > 0) = true := rfl
        have gr : (rowsB [127, 46, 49]).getD 0 [] = [PV.lit (.int .u8 127)] := rfl
        have gl : (rowsB [127, 46, 49]).length = 3 := rfl
        (refine CallA.pure (c1) (by simp only [go_sem, Nat.reduceAdd, Nat.reduceSub, Nat.reduceMul, Nat.reduceLT, Nat.reduceLeDiff, Nat.reduceEqDiff, Nat.reduceBEq, Int.reduceToNat, Int.reduceLT, Int.reduceLE, Int.reduceEq, Int.reduceNe, Int.reduceAdd, Int.reduceSub, Int.reduceMul, Int.reduceNeg, ↓reduceIte, reduceCtorEq, Srv.pv, Srv.cells, rowsB, List.map_cons, List.map_nil, rowB] <;> first | rfl | decide) ?_; simp only [go_sem, Nat.reduceAdd, Nat.reduceSub, Nat.reduceMul, Nat.reduceLT, Nat.reduceLeDiff, Nat.reduceEqDiff, Nat.reduceBEq, Int.reduceToNat, Int.reduceLT, Int.reduceLE, Int.reduceEq, Int.reduceNe, Int.reduceAdd, Int.reduceSub, Int.reduceMul, Int.reduceNeg, ↓reduceIte, reduceCtorEq, Srv.pv, Srv.cells])
        (refine callD_pure (c2) (by simp only [go_sem, Nat.reduceAdd, Nat.reduceSub, Nat.reduceMul, Nat.reduceLT, Nat.reduceLeDiff, Nat.reduceEqDiff, Nat.reduceBEq, Int.reduceToNat, Int.reduceLT, Int.reduceLE, Int.reduceEq, Int.reduceNe, Int.reduceAdd, Int.reduceSub, Int.reduceMul, Int.reduceNeg, ↓reduceIte, reduceCtorEq, Srv.pv, Srv.cells, rowsB, List.map_cons, List.map_nil, rowB] <;> first | rfl | decide) ?_; simp only [go_sem, Nat.reduceAdd, Nat.reduceSub, Nat.reduceMul, Nat.reduceLT, Nat.reduceLeDiff, Nat.reduceEqDiff, Nat.reduceBEq, Int.reduceToNat, Int.reduceLT, Int.reduceLE, Int.reduceEq, Int.reduceNe, Int.reduceAdd, Int.reduceSub, Int.reduceMul, Int.reduceNeg, ↓reduceIte, reduceCtorEq, Srv.pv, Srv.cells])
        refine endD_intro (by decide +kernel) ?_
        simp only [go_sem, Nat.reduceAdd, Nat.reduceSub, Nat.reduceMul, Nat.reduceLT, Nat.reduceLeDiff, Nat.reduceEqDiff, Nat.reduceBEq, Int.reduceToNat, Int.reduceLT, Int.reduceLE, Int.reduceEq, Int.reduceNe, Int.reduceAdd, Int.reduceSub, Int.reduceMul, Int.reduceNeg, ↓reduceIte, reduceCtorEq, f3, f4, Srv.cells, List.length_map, Int.toNat_natCast, hrow, hxw, fN, z3, gr, gl]
        refine ⟨by omega, ?_⟩
        (refine callD_pure (cs) (by simp only [go_sem, Nat.reduceAdd, Nat.reduceSub, Nat.reduceMul, Nat.reduceLT, Nat.reduceLeDiff, Nat.reduceEqDiff, Nat.reduceBEq, Int.reduceToNat, Int.reduceLT, Int.reduceLE, Int.reduceEq, Int.reduceNe, Int.reduceAdd, Int.reduceSub, Int.reduceMul, Int.reduceNeg, ↓reduceIte, reduceCtorEq, Srv.pv, Srv.cells] <;> first | rfl | decide) ?_; simp only [go_sem, Nat.reduceAdd, Nat.reduceSub, Nat.reduceMul, Nat.reduceLT, Nat.reduceLeDiff, Nat.reduceEqDiff, Nat.reduceBEq, Int.reduceToNat, Int.reduceLT, Int.reduceLE, Int.reduceEq, Int.reduceNe, Int.reduceAdd, Int.reduceSub, Int.reduceMul, Int.reduceNeg, ↓reduceIte, reduceCtorEq, Srv.pv, Srv.cells])
        refine endD_intro (by decide +kernel) ?_
        simp only [go_sem, Nat.reduceAdd, Nat.reduceSub, Nat.reduceMul, Nat.reduceLT, Nat.reduceLeDiff, Nat.reduceEqDiff, Nat.reduceBEq, Int.reduceToNat, Int.reduceLT, Int.reduceLE, Int.reduceEq, Int.reduceNe, Int.reduceAdd, Int.reduceSub, Int.reduceMul, Int.reduceNeg, ↓reduceIte, reduceCtorEq, hw]
        refine ⟨m.items.length - (i + 1), _, by omega, ?_, i + 1, by omega, rfl, rfl⟩
        simp only [go_sem, Nat.reduceAdd, Nat.reduceSub, Nat.reduceMul, Nat.reduceLT, Nat.reduceLeDiff, Nat.reduceEqDiff, Nat.reduceBEq, Int.reduceToNat, Int.reduceLT, Int.reduceLE, Int.reduceEq, Int.reduceNe, Int.reduceAdd, Int.reduceSub, Int.reduceMul, Int.reduceNeg, ↓reduceIte, reduceCtorEq, opSt, hw, Srv.cells, refsIn, refsInL, Blk.refsIn]
    | false =>
      simp only [go_sem, Nat.reduceAdd, Nat.reduceSub, Nat.reduceMul, Nat.reduceLT, Nat.reduceLeDiff, Nat.reduceEqDiff, Nat.reduceBEq, Int.reduceToNat, Int.reduceLT, Int.reduceLE, Int.reduceEq, Int.reduceNe, Int.reduceAdd, Int.reduceSub, Int.reduceMul, Int.reduceNeg, ↓reduceIte, reduceCtorEq, inSt, g1, hd, lo, lr, lbs, Int.toNat_natCast, Srv.cells]
      refine ⟨by omega, ?_⟩
      cases hxw : x.wr with
      | true =>
        rw [hxw] at p2 p4 c2
        simp only [if_true] at p2 p4 c2
        subst p2
        have fN : [PV.lit (.int .u8 98)] :: [PV.lit (.int .u8 na.toNat)] :: [PV.lit (.int .u8 nb.toNat)] :: rowsB d = rowsB (98 :: na :: nb :: d) := rfl
        have z3 : decide ((3 : Int) > 0) = true := rfl
        have gr : (rowsB [110, na, nb]).getD 0 [] = [PV.lit (.int .u8 110)] := rfl
        have gl : (rowsB [110, na, nb]).length = 3 := rfl
        (refine CallA.pure (c1) (by simp only [go_sem, Nat.reduceAdd, Nat.reduceSub, Nat.reduceMul, Nat.reduceLT, Nat.reduceLeDiff, Nat.reduceEqDiff, Nat.reduceBEq, Int.reduceToNat, Int.reduceLT, Int.reduceLE, Int.reduceEq, Int.reduceNe, Int.reduceAdd, Int.reduceSub, Int.reduceMul, Int.reduceNeg, ↓reduceIte, reduceCtorEq, Srv.pv, Srv.cells, rowsB, List.map_cons, List.map_nil, rowB] <;> first | rfl | decide) ?_; simp only [go_sem, Nat.reduceAdd, Nat.reduceSub, Nat.reduceMul, Nat.reduceLT, Nat.reduceLeDiff, Nat.reduceEqDiff, Nat.reduceBEq, Int.reduceToNat, Int.reduceLT, Int.reduceLE, Int.reduceEq, Int.reduceNe, Int.reduceAdd, Int.reduceSub, Int.reduceMul, Int.reduceNeg, ↓reduceIte, reduceCtorEq, Srv.pv, Srv.cells])
        (refine callD_pure (c2) (by simp only [go_sem, Nat.reduceAdd, Nat.reduceSub, Nat.reduceMul, Nat.reduceLT, Nat.reduceLeDiff, Nat.reduceEqDiff, Nat.reduceBEq, Int.reduceToNat, Int.reduceLT, Int.reduceLE, Int.reduceEq, Int.reduceNe, Int.reduceAdd, Int.reduceSub, Int.reduceMul, Int.reduceNeg, ↓reduceIte, reduceCtorEq, Srv.pv, Srv.cells, rowsB, List.map_cons, List.map_nil, rowB] <;> first | rfl | decide) ?_; simp only [go_sem, Nat.reduceAdd, Nat.reduceSub, Nat.reduceMul, Nat.reduceLT, Nat.reduceLeDiff, Nat.reduceEqDiff, Nat.reduceBEq, Int.reduceToNat, Int.reduceLT, Int.reduceLE, Int.reduceEq, Int.reduceNe, Int.reduceAdd, Int.reduceSub, Int.reduceMul, Int.reduceNeg, ↓reduceIte, reduceCtorEq, Srv.pv, Srv.cells])
        refine endD_intro (by decide +kernel) ?_
        simp only [go_sem, Nat.reduceAdd, Nat.reduceSub, Nat.reduceMul, Nat.reduceLT, Nat.reduceLeDiff, Nat.reduceEqDiff, Nat.reduceBEq, Int.reduceToNat, Int.reduceLT, Int.reduceLE, Int.reduceEq, Int.reduceNe, Int.reduceAdd, Int.reduceSub, Int.reduceMul, Int.reduceNeg, ↓reduceIte, reduceCtorEq, f3, f4, Srv.cells, List.length_map, Int.toNat_natCast, hrow, hxw, fN, z3, gr, gl]
        refine ⟨by omega, ?_⟩
        (refine callD_pure (cs) (by simp only [go_sem, Nat.reduceAdd, Nat.reduceSub, Nat.reduceMul, Nat.reduceLT, Nat.reduceLeDiff, Nat.reduceEqDiff, Nat.reduceBEq, Int.reduceToNat, Int.reduceLT, Int.reduceLE, Int.reduceEq, Int.reduceNe, Int.reduceAdd, Int.reduceSub, Int.reduceMul, Int.reduceNeg, ↓reduceIte, reduceCtorEq, Srv.pv, Srv.cells] <;> first | rfl | decide) ?_; simp only [go_sem, Nat.reduceAdd, Nat.reduceSub, Nat.reduceMul, Nat.reduceLT, Nat.reduceLeDiff, Nat.reduceEqDiff, Nat.reduceBEq, Int.reduceToNat, Int.reduceLT, Int.reduceLE, Int.reduceEq, Int.reduceNe, Int.reduceAdd, Int.reduceSub, Int.reduceMul, Int.reduceNeg, ↓reduceIte, reduceCtorEq, Srv.pv, Srv.cells])
        refine endD_intro (by decide +kernel) ?_
        simp only [go_sem, Nat.reduceAdd, Nat.reduceSub, Nat.reduceMul, Nat.reduceLT, Nat.reduceLeDiff, Nat.reduceEqDiff, Nat.reduceBEq, Int.reduceToNat, Int.reduceLT, Int.reduceLE, Int.reduceEq, Int.reduceNe, Int.reduceAdd, Int.reduceSub, Int.reduceMul, Int.reduceNeg, ↓reduceIte, reduceCtorEq, hw]
        refine ⟨m.items.length - (i + 1), _, by omega, ?_, i + 1, by omega, rfl, rfl⟩
        simp only [go_sem, Nat.reduceAdd, Nat.reduceSub, Nat.reduceMul, Nat.reduceLT, Nat.reduceLeDiff, Nat.reduceEqDiff, Nat.reduceBEq, Int.reduceToNat, Int.reduceLT, Int.reduceLE, Int.reduceEq, Int.reduceNe, Int.reduceAdd, Int.reduceSub, Int.reduceMul, Int.reduceNeg, ↓reduceIte, reduceCtorEq, opSt, hw, Srv.cells, refsIn, refsInL, Blk.refsIn]
      | false =>
        rw [hxw] at p2 p4 c2
        simp only [Bool.false_eq_true, if_false] at p2 p4 c2
        subst p2
        have fN : [PV.lit (.int .u8 98)] :: [PV.lit (.int .u8 na.toNat)] :: [PV.lit (.int .u8 nb.toNat)] :: rowsB x.data = rowsB (98 :: na :: nb :: x.data) := rfl
        have z3 : decide ((3 : Int) > 0) = true := rfl
        have gr : (rowsB [127, 46, 49]).getD 0 [] = [PV.lit (.int .u8 127)] := rfl
        have gl : (rowsB [127, 46, 49]).length = 3 := rfl
        (refine CallA.pure (c1) (by simp only [go_sem, Nat.reduceAdd, Nat.reduceSub, Nat.reduceMul, Nat.reduceLT, Nat.reduceLeDiff, Nat.reduceEqDiff, Nat.reduceBEq, Int.reduceToNat, Int.reduceLT, Int.reduceLE, Int.reduceEq, Int.reduceNe, Int.reduceAdd, Int.reduceSub, Int.reduceMul, Int.reduceNeg, ↓reduceIte, reduceCtorEq, Srv.pv, Srv.cells, rowsB, List.map_cons, List.map_nil, rowB] <;> first | rfl | decide) ?_; simp only [go_sem, Nat.reduceAdd, Nat.reduceSub, Nat.reduceMul, Nat.reduceLT, Nat.reduceLeDiff, Nat.reduceEqDiff, Nat.reduceBEq, Int.reduceToNat, Int.reduceLT, Int.reduceLE, Int.reduceEq, Int.reduceNe, Int.reduceAdd, Int.reduceSub, Int.reduceMul, Int.reduceNeg, ↓reduceIte, reduceCtorEq, Srv.pv, Srv.cells])
        (refine callD_pure (c2) (by simp only [go_sem, Nat.reduceAdd, Nat.reduceSub, Nat.reduceMul, Nat.reduceLT, Nat.reduceLeDiff, Nat.reduceEqDiff, Nat.reduceBEq, Int.reduceToNat, Int.reduceLT, Int.reduceLE, Int.reduceEq, Int.reduceNe, Int.reduceAdd, Int.reduceSub, Int.reduceMul, Int.reduceNeg, ↓reduceIte, reduceCtorEq, Srv.pv, Srv.cells, rowsB, List.map_cons, List.map_nil, rowB] <;> first | rfl | decide) ?_; simp only [go_sem, Nat.reduceAdd, Nat.reduceSub, Nat.reduceMul, Nat.reduceLT, Nat.reduceLeDiff, Nat.reduceEqDiff, Nat.reduceBEq, Int.reduceToNat, Int.reduceLT, Int.reduceLE, Int.reduceEq, Int.reduceNe, Int.reduceAdd, Int.reduceSub, Int.reduceMul, Int.reduceNeg, ↓reduceIte, reduceCtorEq, Srv.pv, Srv.cells])
        refine endD_intro (by decide +kernel) ?_
        simp only [go_sem, Nat.reduceAdd, Nat.reduceSub, Nat.reduceMul, Nat.reduceLT, Nat.reduceLeDiff, Nat.reduceEqDiff, Nat.reduceBEq, Int.reduceToNat, Int.reduceLT, Int.reduceLE, Int.reduceEq, Int.reduceNe, Int.reduceAdd, Int.reduceSub, Int.reduceMul, Int.reduceNeg, ↓reduceIte, reduceCtorEq, f3, f4, Srv.cells, List.length_map, Int.toNat_natCast, hrow, hxw, fN, z3, gr, gl]
        refine ⟨by omega, ?_⟩
        (refine callD_pure (cs) (by simp only [go_sem, Nat.reduceAdd, Nat.reduceSub, Nat.reduceMul, Nat.reduceLT, Nat.reduceLeDiff, Nat.reduceEqDiff, Nat.reduceBEq, Int.reduceToNat, Int.reduceLT, Int.reduceLE, Int.reduceEq, Int.reduceNe, Int.reduceAdd, Int.reduceSub, Int.reduceMul, Int.reduceNeg, ↓reduceIte, reduceCtorEq, Srv.pv, Srv.cells] <;> first | rfl | decide) ?_; simp only [go_sem, Nat.reduceAdd, Nat.reduceSub, Nat.reduceMul, Nat.reduceLT, Nat.reduceLeDiff, Nat.reduceEqDiff, Nat.reduceBEq, Int.reduceToNat, Int.reduceLT, Int.reduceLE, Int.reduceEq, Int.reduceNe, Int.reduceAdd, Int.reduceSub, Int.reduceMul, Int.reduceNeg, ↓reduceIte, reduceCtorEq, Srv.pv, Srv.cells])
        refine endD_intro (by decide +kernel) ?_
        simp only [go_sem, Nat.reduceAdd, Nat.reduceSub, Nat.reduceMul, Nat.reduceLT, Nat.reduceLeDiff, Nat.reduceEqDiff, Nat.reduceBEq, Int.reduceToNat, Int.reduceLT, Int.reduceLE, Int.reduceEq, Int.reduceNe, Int.reduceAdd, Int.reduceSub, Int.reduceMul, Int.reduceNeg, ↓reduceIte, reduceCtorEq, hw]
        refine ⟨m.items.length - (i + 1), _, by omega, ?_, i + 1, by omega, rfl, rfl⟩
        simp only [go_sem, Nat.reduceAdd, Nat.reduceSub, Nat.reduceMul, Nat.reduceLT, Nat.reduceLeDiff, Nat.reduceEqDiff, Nat.reduceBEq, Int.reduceToNat, Int.reduceLT, Int.reduceLE, Int.reduceEq, Int.reduceNe, Int.reduceAdd, Int.reduceSub, Int.reduceMul, Int.reduceNeg, ↓reduceIte, reduceCtorEq, opSt, hw, Srv.cells, refsIn, refsInL, Blk.refsIn]
end Go.Proofs.Ytcdmhigmgpflbaa.Pe
