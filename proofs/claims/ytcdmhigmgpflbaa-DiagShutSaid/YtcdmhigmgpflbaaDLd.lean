import Derived.Test.YtcdmhigmgpflbaaDLc
import Derived.Test.YtcdmhigmgpflbaaTbT
namespace Go.Proofs.Ytcdmhigmgpflbaa.Pe
open Go.Pe Go.RowKit
set_option maxRecDepth 20000
set_option maxHeartbeats 4000000
set_option linter.unusedSimpArgs false
set_option linter.unusedVariables false
theorem tick_keep {s : Srv} (h : s.tk) (n : Int) : (tickDV n s).items = s.items ∧ (tickDV n s).sec = s.sec ∧ ((tickDV n s).seed = s.seed ∨ (tickDV n s).seed = -1) ∧ (s.op = false → (tickDV n s).op = false) := by
  rw [tickDV_eq h]
  unfold tkN
  split
  · exact ⟨rfl, rfl, .inr rfl, fun _ => rfl⟩
  · exact ⟨rfl, rfl, .inl rfl, fun h => h⟩
theorem shut_tail {s : Srv} {q : List UInt8} (hr : RightS s) (ho : s.op = false) (hk : NoKey s q) (n : Int) : ∃ (u t : Srv) (a : List UInt8), PureCalls Try.prog 38 [s.pv, PI n] u.pv ∧ PureCalls Try.prog 41 [u.pv, bytesPV q] (AskR.pv (t, a, false)) ∧ RightS t ∧ t.op = false ∧ t.items = s.items := by
  obtain ⟨k1, k2, k3, k4⟩ := tick_keep hr.tk n
  have hu : RightS (tickDV n s) := tickDV_right hr n
  have c1 := tick_to hr (rfl : tickDV n s = tickDV n s)
  have hku : NoKey (tickDV n s) q := by
    intro k hq hs
    rw [k2]
    rcases k3 with e | e
    · rw [e] at hs ⊢; exact hk k hq hs
    · rw [e] at hs; exact absurd hs (by decide)
  have sh := ask_shut (k4 ho) hku
  have c2 := ask_calls (tickDV n s) q hu.fits
  have ht := ask_right hu q
  rw [k1] at sh
  generalize askV (tickDV n s) q = x at sh c2 ht
  obtain ⟨t, a, on⟩ := x
  obtain ⟨s1, s2, s3⟩ := sh
  simp only at s2
  subst s2
  exact ⟨_, t, a, c1, c2, ht, s1, s3⟩
abbrev opRows (l : List Op22) : List (List PV) := l.map Op22.row
theorem opRows_getD {l : List Op22} {i : Nat} (h : i < l.length) : (opRows l).getD i [] = [PI l[i].n, bytesPV l[i].q, PB l[i].is] := by
  simp [opRows, List.getD_eq_getElem?_getD, h, Op22.row]
theorem opRows_len (l : List Op22) : (opRows l).length = l.length := by simp [opRows]
def shSt (l : List Op22) (m s : Srv) (i : Nat) : St := ⟨111, [(1, .im 3 (opRows l)), (2, .ptr 0 0), (5, PB true), (6, .ptr 3 0), (7, PI i)], [(0, .box 25 s.cells), (3, .box 25 m.cells)], 200, 0⟩
def shI (l : List Op22) (m : Srv) (k : Nat) (st : St) : Prop := ∃ (i : Nat) (s : Srv), i ≤ 60 ∧ k = 60 - i ∧ RightS s ∧ s.op = false ∧ s.items = m.items ∧ st = shSt l m s i
theorem shut_len {s : Srv} {q : List UInt8} (h : ¬ q.length = 6) : NoKey s q := fun k hq _ hk => h (by rw [hq, hk]; rfl)
theorem list6 {q : List UInt8} (h : q.length = 6) : ∃ a b c d e f, q = [a, b, c, d, e, f] := by
  match q, h with
  | [a, b, c, d, e, f], _ => exact ⟨a, b, c, d, e, f, rfl⟩
theorem xor8 (a b : UInt8) : bitsA .xor .u8 (a.toNat : Int) (b.toNat : Int) = ((a ^^^ b).toNat : Int) := by
  have ha := a.toNat_lt
  have hb := b.toNat_lt
  have h1 : (BitVec.ofInt 8 (a.toNat : Int) ^^^ BitVec.ofInt 8 (b.toNat : Int)).toNat = a.toNat ^^^ b.toNat := by
    rw [BitVec.toNat_xor, BitVec.toNat_ofInt, BitVec.toNat_ofInt]
    congr 1 <;> omega
  show IntKind.wrap .u8 ((BitVec.ofInt 8 (a.toNat : Int) ^^^ BitVec.ofInt 8 (b.toNat : Int)).toNat : Int) = _
  have h2 : a.toNat ^^^ b.toNat < 256 := Nat.xor_lt_two_pow (n := 8) ha hb
  rw [h1, IntKind.wrap_u8, UInt8.toNat_xor]
  omega
theorem diagShut_calls (s : Srv) (l : List Op22) : PureCalls Try.prog 4 [s.pv, .im 3 (opRows l)] (PB true) := by
  refine PureCalls.of tabTOK mixed Try.func4 rfl rfl (by decide +kernel) (by simp [Try.ntmps4]) ?_
  have cm := made_calls s
  have hr := made_right s
  generalize madeV s = m at cm hr
  have h0 : RightS { m with op := false } := ⟨hr.its, hr.ses, hr.seed, hr.wrong, hr.quiet, hr.draw, hr.sec, hr.many, hr.dtc⟩
  simp only [go_sem, Nat.reduceAdd, Nat.reduceSub, Nat.reduceMul, Nat.reduceLT, Nat.reduceLeDiff, Nat.reduceEqDiff, Nat.reduceBEq, Int.reduceToNat, Int.reduceLT, Int.reduceLE, Int.reduceEq, Int.reduceNe, Int.reduceAdd, Int.reduceSub, Int.reduceMul, Int.reduceNeg, ↓reduceIte, reduceCtorEq, tabT_eq, Try.ntmps4, Try.results4, Srv.pv, Srv.cells]
  (refine CallA.pure (h22_calls) (by simp only [go_sem, Nat.reduceAdd, Nat.reduceSub, Nat.reduceMul, Nat.reduceLT, Nat.reduceLeDiff, Nat.reduceEqDiff, Nat.reduceBEq, Int.reduceToNat, Int.reduceLT, Int.reduceLE, Int.reduceEq, Int.reduceNe, Int.reduceAdd, Int.reduceSub, Int.reduceMul, Int.reduceNeg, ↓reduceIte, reduceCtorEq, tabT_eq, Srv.pv, Srv.cells] <;> first | rfl | decide) ?_; simp only [go_sem, Nat.reduceAdd, Nat.reduceSub, Nat.reduceMul, Nat.reduceLT, Nat.reduceLeDiff, Nat.reduceEqDiff, Nat.reduceBEq, Int.reduceToNat, Int.reduceLT, Int.reduceLE, Int.reduceEq, Int.reduceNe, Int.reduceAdd, Int.reduceSub, Int.reduceMul, Int.reduceNeg, ↓reduceIte, reduceCtorEq, tabT_eq, Srv.pv, Srv.cells])
  (refine CallA.pure (cm) (by simp only [go_sem, Nat.reduceAdd, Nat.reduceSub, Nat.reduceMul, Nat.reduceLT, Nat.reduceLeDiff, Nat.reduceEqDiff, Nat.reduceBEq, Int.reduceToNat, Int.reduceLT, Int.reduceLE, Int.reduceEq, Int.reduceNe, Int.reduceAdd, Int.reduceSub, Int.reduceMul, Int.reduceNeg, ↓reduceIte, reduceCtorEq, tabT_eq, Srv.pv, Srv.cells] <;> first | rfl | decide) ?_; simp only [go_sem, Nat.reduceAdd, Nat.reduceSub, Nat.reduceMul, Nat.reduceLT, Nat.reduceLeDiff, Nat.reduceEqDiff, Nat.reduceBEq, Int.reduceToNat, Int.reduceLT, Int.reduceLE, Int.reduceEq, Int.reduceNe, Int.reduceAdd, Int.reduceSub, Int.reduceMul, Int.reduceNeg, ↓reduceIte, reduceCtorEq, tabT_eq, Srv.pv, Srv.cells])
  refine wpA_loop (shI l { m with op := false }) ⟨60, _, ?_, 0, _, by omega, rfl, h0, rfl, rfl, rfl⟩ ?_
  · simp only [go_sem, Nat.reduceAdd, Nat.reduceSub, Nat.reduceMul, Nat.reduceLT, Nat.reduceLeDiff, Nat.reduceEqDiff, Nat.reduceBEq, Int.reduceToNat, Int.reduceLT, Int.reduceLE, Int.reduceEq, Int.reduceNe, Int.reduceAdd, Int.reduceSub, Int.reduceMul, Int.reduceNeg, ↓reduceIte, reduceCtorEq, tabT_eq, shSt, Srv.cells, refsIn, refsInL, Blk.refsIn, Int.natCast_zero]
  generalize ({ m with op := false } : Srv) = m'
  clear h0 cm hr
  rintro mm st ⟨i, s, hi, rfl, hr, ho, hits, rfl⟩
  by_cases hc : i < l.length ∧ i < 60
  · have f1 : decide ((i : Int) < (l.length : Int)) = true := decide_eq_true (by omega)
    have f2 : decide ((i : Int) < 60) = true := decide_eq_true (by omega)
    have hw := wrapIN (i := i) (by omega)
    obtain ⟨f3, f4⟩ : (0 : Int) ≤ (i : Int) ∧ (i : Int) < (l.length : Int) := by omega
    have hrow := opRows_getD hc.1
    generalize l[i] = o at hrow
    have hmin : (if (80 : Int) < (o.q.length : Int) then 80 else (o.q.length : Int)) = ((min o.q.length 80 : Nat) : Int) := by split <;> omega
    have hmin0 : (0 : Int) ≤ ((min o.q.length 80 : Nat) : Int) := by omega
    have hmin1 : ((min o.q.length 80 : Nat) : Int) ≤ (o.q.length : Int) := by omega
    have lq := rowsB_length o.q
    simp only [go_sem, Nat.reduceAdd, Nat.reduceSub, Nat.reduceMul, Nat.reduceLT, Nat.reduceLeDiff, Nat.reduceEqDiff, Nat.reduceBEq, Int.reduceToNat, Int.reduceLT, Int.reduceLE, Int.reduceEq, Int.reduceNe, Int.reduceAdd, Int.reduceSub, Int.reduceMul, Int.reduceNeg, ↓reduceIte, reduceCtorEq, tabT_eq, shSt, opRows_len, List.length_map, f1, f2, Srv.cells, f3, f4, hrow, hmin, hmin0, hmin1, Int.toNat_natCast, lq]
    refine ⟨by simp only [List.length_take]; omega, endD_intro (by decide +kernel) ?_⟩
    obtain ⟨q, hq⟩ : ∃ q, q = List.take (min o.q.length 80) o.q := ⟨_, rfl⟩
    have hql : q.length ≤ 80 := by rw [hq, List.length_take]; omega
    rw [← hq]
    have cf := few_calls o.n
    by_cases h6 : q.length = 6
    rotate_left 1
    · have g1 : decide ((q.length : Int) = 6) = false := decide_eq_false (by omega)
      have hk : NoKey s q := shut_len h6
      simp only [go_sem, Nat.reduceAdd, Nat.reduceSub, Nat.reduceMul, Nat.reduceLT, Nat.reduceLeDiff, Nat.reduceEqDiff, Nat.reduceBEq, Int.reduceToNat, Int.reduceLT, Int.reduceLE, Int.reduceEq, Int.reduceNe, Int.reduceAdd, Int.reduceSub, Int.reduceMul, Int.reduceNeg, ↓reduceIte, reduceCtorEq, tabT_eq, rowsB_length, g1]
      refine endD_intro (by decide +kernel) ?_
      simp only [go_sem, Nat.reduceAdd, Nat.reduceSub, Nat.reduceMul, Nat.reduceLT, Nat.reduceLeDiff, Nat.reduceEqDiff, Nat.reduceBEq, Int.reduceToNat, Int.reduceLT, Int.reduceLE, Int.reduceEq, Int.reduceNe, Int.reduceAdd, Int.reduceSub, Int.reduceMul, Int.reduceNeg, ↓reduceIte, reduceCtorEq, tabT_eq, shSt, opRows_len, List.length_map, f1, f2, Srv.cells, f3, f4, hrow, hmin, hmin0, hmin1, Int.toNat_natCast, lq]
      obtain ⟨u, t, a, c1, c2, ht, hto, hti⟩ := shut_tail hr ho hk (fewV o.n)
      (refine callD_pure (cf) (by simp only [go_sem, Nat.reduceAdd, Nat.reduceSub, Nat.reduceMul, Nat.reduceLT, Nat.reduceLeDiff, Nat.reduceEqDiff, Nat.reduceBEq, Int.reduceToNat, Int.reduceLT, Int.reduceLE, Int.reduceEq, Int.reduceNe, Int.reduceAdd, Int.reduceSub, Int.reduceMul, Int.reduceNeg, ↓reduceIte, reduceCtorEq, tabT_eq, Srv.pv, Srv.cells] <;> first | rfl | decide) ?_; simp only [go_sem, Nat.reduceAdd, Nat.reduceSub, Nat.reduceMul, Nat.reduceLT, Nat.reduceLeDiff, Nat.reduceEqDiff, Nat.reduceBEq, Int.reduceToNat, Int.reduceLT, Int.reduceLE, Int.reduceEq, Int.reduceNe, Int.reduceAdd, Int.reduceSub, Int.reduceMul, Int.reduceNeg, ↓reduceIte, reduceCtorEq, tabT_eq, Srv.pv, Srv.cells])
      (refine callD_pure (c1) (by simp only [go_sem, Nat.reduceAdd, Nat.reduceSub, Nat.reduceMul, Nat.reduceLT, Nat.reduceLeDiff, Nat.reduceEqDiff, Nat.reduceBEq, Int.reduceToNat, Int.reduceLT, Int.reduceLE, Int.reduceEq, Int.reduceNe, Int.reduceAdd, Int.reduceSub, Int.reduceMul, Int.reduceNeg, ↓reduceIte, reduceCtorEq, tabT_eq, Srv.pv, Srv.cells] <;> first | rfl | decide) ?_; simp only [go_sem, Nat.reduceAdd, Nat.reduceSub, Nat.reduceMul, Nat.reduceLT, Nat.reduceLeDiff, Nat.reduceEqDiff, Nat.reduceBEq, Int.reduceToNat, Int.reduceLT, Int.reduceLE, Int.reduceEq, Int.reduceNe, Int.reduceAdd, Int.reduceSub, Int.reduceMul, Int.reduceNeg, ↓reduceIte, reduceCtorEq, tabT_eq, Srv.pv, Srv.cells])
      (refine callD_pure (c2) (by simp only [go_sem, Nat.reduceAdd, Nat.reduceSub, Nat.reduceMul, Nat.reduceLT, Nat.reduceLeDiff, Nat.reduceEqDiff, Nat.reduceBEq, Int.reduceToNat, Int.reduceLT, Int.reduceLE, Int.reduceEq, Int.reduceNe, Int.reduceAdd, Int.reduceSub, Int.reduceMul, Int.reduceNeg, ↓reduceIte, reduceCtorEq, tabT_eq, Srv.pv, Srv.cells] <;> first | rfl | decide) ?_; simp only [go_sem, Nat.reduceAdd, Nat.reduceSub, Nat.reduceMul, Nat.reduceLT, Nat.reduceLeDiff, Nat.reduceEqDiff, Nat.reduceBEq, Int.reduceToNat, Int.reduceLT, Int.reduceLE, Int.reduceEq, Int.reduceNe, Int.reduceAdd, Int.reduceSub, Int.reduceMul, Int.reduceNeg, ↓reduceIte, reduceCtorEq, tabT_eq, Srv.pv, Srv.cells])
      have hti2 : t.items = m'.items := hti.trans hits
      refine endD_intro (by decide +kernel) ?_
      simp only [go_sem, Nat.reduceAdd, Nat.reduceSub, Nat.reduceMul, Nat.reduceLT, Nat.reduceLeDiff, Nat.reduceEqDiff, Nat.reduceBEq, Int.reduceToNat, Int.reduceLT, Int.reduceLE, Int.reduceEq, Int.reduceNe, Int.reduceAdd, Int.reduceSub, Int.reduceMul, Int.reduceNeg, ↓reduceIte, reduceCtorEq, tabT_eq, Srv.pv, Srv.cells, hto, hti2]
      (refine CallA.pure (same_self ht) (by simp only [go_sem, Nat.reduceAdd, Nat.reduceSub, Nat.reduceMul, Nat.reduceLT, Nat.reduceLeDiff, Nat.reduceEqDiff, Nat.reduceBEq, Int.reduceToNat, Int.reduceLT, Int.reduceLE, Int.reduceEq, Int.reduceNe, Int.reduceAdd, Int.reduceSub, Int.reduceMul, Int.reduceNeg, ↓reduceIte, reduceCtorEq, tabT_eq, Srv.pv, Srv.cells, hto, hti2, hw] <;> first | rfl | decide) ?_; simp only [go_sem, Nat.reduceAdd, Nat.reduceSub, Nat.reduceMul, Nat.reduceLT, Nat.reduceLeDiff, Nat.reduceEqDiff, Nat.reduceBEq, Int.reduceToNat, Int.reduceLT, Int.reduceLE, Int.reduceEq, Int.reduceNe, Int.reduceAdd, Int.reduceSub, Int.reduceMul, Int.reduceNeg, ↓reduceIte, reduceCtorEq, tabT_eq, Srv.pv, Srv.cells, hto, hti2, hw])
      refine ⟨60 - (i + 1), _, by omega, ?_, i + 1, t, by omega, rfl, ht, hto, hti2, rfl⟩
      simp only [go_sem, Nat.reduceAdd, Nat.reduceSub, Nat.reduceMul, Nat.reduceLT, Nat.reduceLeDiff, Nat.reduceEqDiff, Nat.reduceBEq, Int.reduceToNat, Int.reduceLT, Int.reduceLE, Int.reduceEq, Int.reduceNe, Int.reduceAdd, Int.reduceSub, Int.reduceMul, Int.reduceNeg, ↓reduceIte, reduceCtorEq, tabT_eq, shSt, hw, Srv.cells, hto, hti2, refsIn, refsInL, Blk.refsIn]
    · obtain ⟨a, b, c, d, e, f, rfl⟩ := list6 h6
      have z6 : decide (((6 : Nat) : Int) = 6) = true := rfl
      have i0 : (0 : Int) < ((6 : Nat) : Int) := by decide
      have i1 : (1 : Int) < ((6 : Nat) : Int) := by decide
      have i5 : (5 : Int) < ((6 : Nat) : Int) := by decide
      have gq0 : (rowsB [a, b, c, d, e, f]).getD 0 [] = [.lit (.int .u8 a.toNat)] := rfl
      have gq1 : (rowsB [a, b, c, d, e, f]).getD 1 [] = [.lit (.int .u8 b.toNat)] := rfl
      have gq5 : (rowsB [a, b, c, d, e, f]).getD 5 [] = [.lit (.int .u8 f.toNat)] := rfl
      have gql : (rowsB [a, b, c, d, e, f]).length = 6 := rfl
      have gqd : (rowsB [a, b, c, d, e, f]).drop 2 = rowsB [c, d, e, f] := rfl
      have gqt : (rowsB [c, d, e, f]).take 4 = rowsB [c, d, e, f] := rfl
      cases ga : decide ((a.toNat : Int) = 39) with
      | false =>
        have hk : NoKey s [a, b, c, d, e, f] := fun k hq => by cases hq; cases ga
        simp only [go_sem, Nat.reduceAdd, Nat.reduceSub, Nat.reduceMul, Nat.reduceLT, Nat.reduceLeDiff, Nat.reduceEqDiff, Nat.reduceBEq, Int.reduceToNat, Int.reduceLT, Int.reduceLE, Int.reduceEq, Int.reduceNe, Int.reduceAdd, Int.reduceSub, Int.reduceMul, Int.reduceNeg, ↓reduceIte, reduceCtorEq, tabT_eq, gq0, gql, z6, i0, i1, i5, ga]
        refine endD_intro (by decide +kernel) ?_
        simp only [go_sem, Nat.reduceAdd, Nat.reduceSub, Nat.reduceMul, Nat.reduceLT, Nat.reduceLeDiff, Nat.reduceEqDiff, Nat.reduceBEq, Int.reduceToNat, Int.reduceLT, Int.reduceLE, Int.reduceEq, Int.reduceNe, Int.reduceAdd, Int.reduceSub, Int.reduceMul, Int.reduceNeg, ↓reduceIte, reduceCtorEq, tabT_eq, shSt, opRows_len, List.length_map, f1, f2, Srv.cells, f3, f4, hrow, hmin, hmin0, hmin1, Int.toNat_natCast, lq]
        obtain ⟨u, t, a, c1, c2, ht, hto, hti⟩ := shut_tail hr ho hk (fewV o.n)
        (refine callD_pure (cf) (by simp only [go_sem, Nat.reduceAdd, Nat.reduceSub, Nat.reduceMul, Nat.reduceLT, Nat.reduceLeDiff, Nat.reduceEqDiff, Nat.reduceBEq, Int.reduceToNat, Int.reduceLT, Int.reduceLE, Int.reduceEq, Int.reduceNe, Int.reduceAdd, Int.reduceSub, Int.reduceMul, Int.reduceNeg, ↓reduceIte, reduceCtorEq, tabT_eq, Srv.pv, Srv.cells] <;> first | rfl | decide) ?_; simp only [go_sem, Nat.reduceAdd, Nat.reduceSub, Nat.reduceMul, Nat.reduceLT, Nat.reduceLeDiff, Nat.reduceEqDiff, Nat.reduceBEq, Int.reduceToNat, Int.reduceLT, Int.reduceLE, Int.reduceEq, Int.reduceNe, Int.reduceAdd, Int.reduceSub, Int.reduceMul, Int.reduceNeg, ↓reduceIte, reduceCtorEq, tabT_eq, Srv.pv, Srv.cells])
        (refine callD_pure (c1) (by simp only [go_sem, Nat.reduceAdd, Nat.reduceSub, Nat.reduceMul, Nat.reduceLT, Nat.reduceLeDiff, Nat.reduceEqDiff, Nat.reduceBEq, Int.reduceToNat, Int.reduceLT, Int.reduceLE, Int.reduceEq, Int.reduceNe, Int.reduceAdd, Int.reduceSub, Int.reduceMul, Int.reduceNeg, ↓reduceIte, reduceCtorEq, tabT_eq, Srv.pv, Srv.cells] <;> first | rfl | decide) ?_; simp only [go_sem, Nat.reduceAdd, Nat.reduceSub, Nat.reduceMul, Nat.reduceLT, Nat.reduceLeDiff, Nat.reduceEqDiff, Nat.reduceBEq, Int.reduceToNat, Int.reduceLT, Int.reduceLE, Int.reduceEq, Int.reduceNe, Int.reduceAdd, Int.reduceSub, Int.reduceMul, Int.reduceNeg, ↓reduceIte, reduceCtorEq, tabT_eq, Srv.pv, Srv.cells])
        (refine callD_pure (c2) (by simp only [go_sem, Nat.reduceAdd, Nat.reduceSub, Nat.reduceMul, Nat.reduceLT, Nat.reduceLeDiff, Nat.reduceEqDiff, Nat.reduceBEq, Int.reduceToNat, Int.reduceLT, Int.reduceLE, Int.reduceEq, Int.reduceNe, Int.reduceAdd, Int.reduceSub, Int.reduceMul, Int.reduceNeg, ↓reduceIte, reduceCtorEq, tabT_eq, Srv.pv, Srv.cells] <;> first | rfl | decide) ?_; simp only [go_sem, Nat.reduceAdd, Nat.reduceSub, Nat.reduceMul, Nat.reduceLT, Nat.reduceLeDiff, Nat.reduceEqDiff, Nat.reduceBEq, Int.reduceToNat, Int.reduceLT, Int.reduceLE, Int.reduceEq, Int.reduceNe, Int.reduceAdd, Int.reduceSub, Int.reduceMul, Int.reduceNeg, ↓reduceIte, reduceCtorEq, tabT_eq, Srv.pv, Srv.cells])
        have hti2 : t.items = m'.items := hti.trans hits
        refine endD_intro (by decide +kernel) ?_
        simp only [go_sem, Nat.reduceAdd, Nat.reduceSub, Nat.reduceMul, Nat.reduceLT, Nat.reduceLeDiff, Nat.reduceEqDiff, Nat.reduceBEq, Int.reduceToNat, Int.reduceLT, Int.reduceLE, Int.reduceEq, Int.reduceNe, Int.reduceAdd, Int.reduceSub, Int.reduceMul, Int.reduceNeg, ↓reduceIte, reduceCtorEq, tabT_eq, Srv.pv, Srv.cells, hto, hti2]
        (refine CallA.pure (same_self ht) (by simp only [go_sem, Nat.reduceAdd, Nat.reduceSub, Nat.reduceMul, Nat.reduceLT, Nat.reduceLeDiff, Nat.reduceEqDiff, Nat.reduceBEq, Int.reduceToNat, Int.reduceLT, Int.reduceLE, Int.reduceEq, Int.reduceNe, Int.reduceAdd, Int.reduceSub, Int.reduceMul, Int.reduceNeg, ↓reduceIte, reduceCtorEq, tabT_eq, Srv.pv, Srv.cells, hto, hti2, hw] <;> first | rfl | decide) ?_; simp only [go_sem, Nat.reduceAdd, Nat.reduceSub, Nat.reduceMul, Nat.reduceLT, Nat.reduceLeDiff, Nat.reduceEqDiff, Nat.reduceBEq, Int.reduceToNat, Int.reduceLT, Int.reduceLE, Int.reduceEq, Int.reduceNe, Int.reduceAdd, Int.reduceSub, Int.reduceMul, Int.reduceNeg, ↓reduceIte, reduceCtorEq, tabT_eq, Srv.pv, Srv.cells, hto, hti2, hw])
        refine ⟨60 - (i + 1), _, by omega, ?_, i + 1, t, by omega, rfl, ht, hto, hti2, rfl⟩
        simp only [go_sem, Nat.reduceAdd, Nat.reduceSub, Nat.reduceMul, Nat.reduceLT, Nat.reduceLeDiff, Nat.reduceEqDiff, Nat.reduceBEq, Int.reduceToNat, Int.reduceLT, Int.reduceLE, Int.reduceEq, Int.reduceNe, Int.reduceAdd, Int.reduceSub, Int.reduceMul, Int.reduceNeg, ↓reduceIte, reduceCtorEq, tabT_eq, shSt, hw, Srv.cells, hto, hti2, refsIn, refsInL, Blk.refsIn]
      | true =>
      cases gb : decide ((b.toNat : Int) = 2) with
      | false =>
        have hk : NoKey s [a, b, c, d, e, f] := fun k hq => by cases hq; cases gb
        simp only [go_sem, Nat.reduceAdd, Nat.reduceSub, Nat.reduceMul, Nat.reduceLT, Nat.reduceLeDiff, Nat.reduceEqDiff, Nat.reduceBEq, Int.reduceToNat, Int.reduceLT, Int.reduceLE, Int.reduceEq, Int.reduceNe, Int.reduceAdd, Int.reduceSub, Int.reduceMul, Int.reduceNeg, ↓reduceIte, reduceCtorEq, tabT_eq, gq0, gq1, gql, z6, i0, i1, i5, ga, gb]
        refine endD_intro (by decide +kernel) ?_
        simp only [go_sem, Nat.reduceAdd, Nat.reduceSub, Nat.reduceMul, Nat.reduceLT, Nat.reduceLeDiff, Nat.reduceEqDiff, Nat.reduceBEq, Int.reduceToNat, Int.reduceLT, Int.reduceLE, Int.reduceEq, Int.reduceNe, Int.reduceAdd, Int.reduceSub, Int.reduceMul, Int.reduceNeg, ↓reduceIte, reduceCtorEq, tabT_eq, shSt, opRows_len, List.length_map, f1, f2, Srv.cells, f3, f4, hrow, hmin, hmin0, hmin1, Int.toNat_natCast, lq]
        obtain ⟨u, t, a, c1, c2, ht, hto, hti⟩ := shut_tail hr ho hk (fewV o.n)
        (refine callD_pure (cf) (by simp only [go_sem, Nat.reduceAdd, Nat.reduceSub, Nat.reduceMul, Nat.reduceLT, Nat.reduceLeDiff, Nat.reduceEqDiff, Nat.reduceBEq, Int.reduceToNat, Int.reduceLT, Int.reduceLE, Int.reduceEq, Int.reduceNe, Int.reduceAdd, Int.reduceSub, Int.reduceMul, Int.reduceNeg, ↓reduceIte, reduceCtorEq, tabT_eq, Srv.pv, Srv.cells] <;> first | rfl | decide) ?_; simp only [go_sem, Nat.reduceAdd, Nat.reduceSub, Nat.reduceMul, Nat.reduceLT, Nat.reduceLeDiff, Nat.reduceEqDiff, Nat.reduceBEq, Int.reduceToNat, Int.reduceLT, Int.reduceLE, Int.reduceEq, Int.reduceNe, Int.reduceAdd, Int.reduceSub, Int.reduceMul, Int.reduceNeg, ↓reduceIte, reduceCtorEq, tabT_eq, Srv.pv, Srv.cells])
        (refine callD_pure (c1) (by simp only [go_sem, Nat.reduceAdd, Nat.reduceSub, Nat.reduceMul, Nat.reduceLT, Nat.reduceLeDiff, Nat.reduceEqDiff, Nat.reduceBEq, Int.reduceToNat, Int.reduceLT, Int.reduceLE, Int.reduceEq, Int.reduceNe, Int.reduceAdd, Int.reduceSub, Int.reduceMul, Int.reduceNeg, ↓reduceIte, reduceCtorEq, tabT_eq, Srv.pv, Srv.cells] <;> first | rfl | decide) ?_; simp only [go_sem, Nat.reduceAdd, Nat.reduceSub, Nat.reduceMul, Nat.reduceLT, Nat.reduceLeDiff, Nat.reduceEqDiff, Nat.reduceBEq, Int.reduceToNat, Int.reduceLT, Int.reduceLE, Int.reduceEq, Int.reduceNe, Int.reduceAdd, Int.reduceSub, Int.reduceMul, Int.reduceNeg, ↓reduceIte, reduceCtorEq, tabT_eq, Srv.pv, Srv.cells])
        (refine callD_pure (c2) (by simp only [go_sem, Nat.reduceAdd, Nat.reduceSub, Nat.reduceMul, Nat.reduceLT, Nat.reduceLeDiff, Nat.reduceEqDiff, Nat.reduceBEq, Int.reduceToNat, Int.reduceLT, Int.reduceLE, Int.reduceEq, Int.reduceNe, Int.reduceAdd, Int.reduceSub, Int.reduceMul, Int.reduceNeg, ↓reduceIte, reduceCtorEq, tabT_eq, Srv.pv, Srv.cells] <;> first | rfl | decide) ?_; simp only [go_sem, Nat.reduceAdd, Nat.reduceSub, Nat.reduceMul, Nat.reduceLT, Nat.reduceLeDiff, Nat.reduceEqDiff, Nat.reduceBEq, Int.reduceToNat, Int.reduceLT, Int.reduceLE, Int.reduceEq, Int.reduceNe, Int.reduceAdd, Int.reduceSub, Int.reduceMul, Int.reduceNeg, ↓reduceIte, reduceCtorEq, tabT_eq, Srv.pv, Srv.cells])
        have hti2 : t.items = m'.items := hti.trans hits
        refine endD_intro (by decide +kernel) ?_
        simp only [go_sem, Nat.reduceAdd, Nat.reduceSub, Nat.reduceMul, Nat.reduceLT, Nat.reduceLeDiff, Nat.reduceEqDiff, Nat.reduceBEq, Int.reduceToNat, Int.reduceLT, Int.reduceLE, Int.reduceEq, Int.reduceNe, Int.reduceAdd, Int.reduceSub, Int.reduceMul, Int.reduceNeg, ↓reduceIte, reduceCtorEq, tabT_eq, Srv.pv, Srv.cells, hto, hti2]
        (refine CallA.pure (same_self ht) (by simp only [go_sem, Nat.reduceAdd, Nat.reduceSub, Nat.reduceMul, Nat.reduceLT, Nat.reduceLeDiff, Nat.reduceEqDiff, Nat.reduceBEq, Int.reduceToNat, Int.reduceLT, Int.reduceLE, Int.reduceEq, Int.reduceNe, Int.reduceAdd, Int.reduceSub, Int.reduceMul, Int.reduceNeg, ↓reduceIte, reduceCtorEq, tabT_eq, Srv.pv, Srv.cells, hto, hti2, hw] <;> first | rfl | decide) ?_; simp only [go_sem, Nat.reduceAdd, Nat.reduceSub, Nat.reduceMul, Nat.reduceLT, Nat.reduceLeDiff, Nat.reduceEqDiff, Nat.reduceBEq, Int.reduceToNat, Int.reduceLT, Int.reduceLE, Int.reduceEq, Int.reduceNe, Int.reduceAdd, Int.reduceSub, Int.reduceMul, Int.reduceNeg, ↓reduceIte, reduceCtorEq, tabT_eq, Srv.pv, Srv.cells, hto, hti2, hw])
        refine ⟨60 - (i + 1), _, by omega, ?_, i + 1, t, by omega, rfl, ht, hto, hti2, rfl⟩
        simp only [go_sem, Nat.reduceAdd, Nat.reduceSub, Nat.reduceMul, Nat.reduceLT, Nat.reduceLeDiff, Nat.reduceEqDiff, Nat.reduceBEq, Int.reduceToNat, Int.reduceLT, Int.reduceLE, Int.reduceEq, Int.reduceNe, Int.reduceAdd, Int.reduceSub, Int.reduceMul, Int.reduceNeg, ↓reduceIte, reduceCtorEq, tabT_eq, shSt, hw, Srv.cells, hto, hti2, refsIn, refsInL, Blk.refsIn]
      | true =>
      cases gs : decide (s.seed ≥ 0) with
      | false =>
        have hk : NoKey s [a, b, c, d, e, f] := fun k hq hs => by rw [decide_eq_true hs] at gs; cases gs
        simp only [go_sem, Nat.reduceAdd, Nat.reduceSub, Nat.reduceMul, Nat.reduceLT, Nat.reduceLeDiff, Nat.reduceEqDiff, Nat.reduceBEq, Int.reduceToNat, Int.reduceLT, Int.reduceLE, Int.reduceEq, Int.reduceNe, Int.reduceAdd, Int.reduceSub, Int.reduceMul, Int.reduceNeg, ↓reduceIte, reduceCtorEq, tabT_eq, gq0, gq1, gql, z6, i0, i1, i5, ga, gb, gs]
        refine endD_intro (by decide +kernel) ?_
        simp only [go_sem, Nat.reduceAdd, Nat.reduceSub, Nat.reduceMul, Nat.reduceLT, Nat.reduceLeDiff, Nat.reduceEqDiff, Nat.reduceBEq, Int.reduceToNat, Int.reduceLT, Int.reduceLE, Int.reduceEq, Int.reduceNe, Int.reduceAdd, Int.reduceSub, Int.reduceMul, Int.reduceNeg, ↓reduceIte, reduceCtorEq, tabT_eq, shSt, opRows_len, List.length_map, f1, f2, Srv.cells, f3, f4, hrow, hmin, hmin0, hmin1, Int.toNat_natCast, lq]
        obtain ⟨u, t, a, c1, c2, ht, hto, hti⟩ := shut_tail hr ho hk (fewV o.n)
        (refine callD_pure (cf) (by simp only [go_sem, Nat.reduceAdd, Nat.reduceSub, Nat.reduceMul, Nat.reduceLT, Nat.reduceLeDiff, Nat.reduceEqDiff, Nat.reduceBEq, Int.reduceToNat, Int.reduceLT, Int.reduceLE, Int.reduceEq, Int.reduceNe, Int.reduceAdd, Int.reduceSub, Int.reduceMul, Int.reduceNeg, ↓reduceIte, reduceCtorEq, tabT_eq, Srv.pv, Srv.cells] <;> first | rfl | decide) ?_; simp only [go_sem, Nat.reduceAdd, Nat.reduceSub, Nat.reduceMul, Nat.reduceLT, Nat.reduceLeDiff, Nat.reduceEqDiff, Nat.reduceBEq, Int.reduceToNat, Int.reduceLT, Int.reduceLE, Int.reduceEq, Int.reduceNe, Int.reduceAdd, Int.reduceSub, Int.reduceMul, Int.reduceNeg, ↓reduceIte, reduceCtorEq, tabT_eq, Srv.pv, Srv.cells])
        (refine callD_pure (c1) (by simp only [go_sem, Nat.reduceAdd, Nat.reduceSub, Nat.reduceMul, Nat.reduceLT, Nat.reduceLeDiff, Nat.reduceEqDiff, Nat.reduceBEq, Int.reduceToNat, Int.reduceLT, Int.reduceLE, Int.reduceEq, Int.reduceNe, Int.reduceAdd, Int.reduceSub, Int.reduceMul, Int.reduceNeg, ↓reduceIte, reduceCtorEq, tabT_eq, Srv.pv, Srv.cells] <;> first | rfl | decide) ?_; simp only [go_sem, Nat.reduceAdd, Nat.reduceSub, Nat.reduceMul, Nat.reduceLT, Nat.reduceLeDiff, Nat.reduceEqDiff, Nat.reduceBEq, Int.reduceToNat, Int.reduceLT, Int.reduceLE, Int.reduceEq, Int.reduceNe, Int.reduceAdd, Int.reduceSub, Int.reduceMul, Int.reduceNeg, ↓reduceIte, reduceCtorEq, tabT_eq, Srv.pv, Srv.cells])
        (refine callD_pure (c2) (by simp only [go_sem, Nat.reduceAdd, Nat.reduceSub, Nat.reduceMul, Nat.reduceLT, Nat.reduceLeDiff, Nat.reduceEqDiff, Nat.reduceBEq, Int.reduceToNat, Int.reduceLT, Int.reduceLE, Int.reduceEq, Int.reduceNe, Int.reduceAdd, Int.reduceSub, Int.reduceMul, Int.reduceNeg, ↓reduceIte, reduceCtorEq, tabT_eq, Srv.pv, Srv.cells] <;> first | rfl | decide) ?_; simp only [go_sem, Nat.reduceAdd, Nat.reduceSub, Nat.reduceMul, Nat.reduceLT, Nat.reduceLeDiff, Nat.reduceEqDiff, Nat.reduceBEq, Int.reduceToNat, Int.reduceLT, Int.reduceLE, Int.reduceEq, Int.reduceNe, Int.reduceAdd, Int.reduceSub, Int.reduceMul, Int.reduceNeg, ↓reduceIte, reduceCtorEq, tabT_eq, Srv.pv, Srv.cells])
        have hti2 : t.items = m'.items := hti.trans hits
        refine endD_intro (by decide +kernel) ?_
        simp only [go_sem, Nat.reduceAdd, Nat.reduceSub, Nat.reduceMul, Nat.reduceLT, Nat.reduceLeDiff, Nat.reduceEqDiff, Nat.reduceBEq, Int.reduceToNat, Int.reduceLT, Int.reduceLE, Int.reduceEq, Int.reduceNe, Int.reduceAdd, Int.reduceSub, Int.reduceMul, Int.reduceNeg, ↓reduceIte, reduceCtorEq, tabT_eq, Srv.pv, Srv.cells, hto, hti2]
        (refine CallA.pure (same_self ht) (by simp only [go_sem, Nat.reduceAdd, Nat.reduceSub, Nat.reduceMul, Nat.reduceLT, Nat.reduceLeDiff, Nat.reduceEqDiff, Nat.reduceBEq, Int.reduceToNat, Int.reduceLT, Int.reduceLE, Int.reduceEq, Int.reduceNe, Int.reduceAdd, Int.reduceSub, Int.reduceMul, Int.reduceNeg, ↓reduceIte, reduceCtorEq, tabT_eq, Srv.pv, Srv.cells, hto, hti2, hw] <;> first | rfl | decide) ?_; simp only [go_sem, Nat.reduceAdd, Nat.reduceSub, Nat.reduceMul, Nat.reduceLT, Nat.reduceLeDiff, Nat.reduceEqDiff, Nat.reduceBEq, Int.reduceToNat, Int.reduceLT, Int.reduceLE, Int.reduceEq, Int.reduceNe, Int.reduceAdd, Int.reduceSub, Int.reduceMul, Int.reduceNeg, ↓reduceIte, reduceCtorEq, tabT_eq, Srv.pv, Srv.cells, hto, hti2, hw])
        refine ⟨60 - (i + 1), _, by omega, ?_, i + 1, t, by omega, rfl, ht, hto, hti2, rfl⟩
        simp only [go_sem, Nat.reduceAdd, Nat.reduceSub, Nat.reduceMul, Nat.reduceLT, Nat.reduceLeDiff, Nat.reduceEqDiff, Nat.reduceBEq, Int.reduceToNat, Int.reduceLT, Int.reduceLE, Int.reduceEq, Int.reduceNe, Int.reduceAdd, Int.reduceSub, Int.reduceMul, Int.reduceNeg, ↓reduceIte, reduceCtorEq, tabT_eq, shSt, hw, Srv.cells, hto, hti2, refsIn, refsInL, Blk.refsIn]
      | true =>
      have cK := keyR22_calls s.seed s.sec
      have cF := fourR_calls _ (keyV_wide s.seed s.sec)
      simp only [go_sem, Nat.reduceAdd, Nat.reduceSub, Nat.reduceMul, Nat.reduceLT, Nat.reduceLeDiff, Nat.reduceEqDiff, Nat.reduceBEq, Int.reduceToNat, Int.reduceLT, Int.reduceLE, Int.reduceEq, Int.reduceNe, Int.reduceAdd, Int.reduceSub, Int.reduceMul, Int.reduceNeg, ↓reduceIte, reduceCtorEq, tabT_eq, gq0, gq1, gql, gqd, gqt, z6, i0, i1, i5, ga, gb, gs, List.length_cons, List.length_nil]
      (refine callD_pure (cK) (by simp only [go_sem, Nat.reduceAdd, Nat.reduceSub, Nat.reduceMul, Nat.reduceLT, Nat.reduceLeDiff, Nat.reduceEqDiff, Nat.reduceBEq, Int.reduceToNat, Int.reduceLT, Int.reduceLE, Int.reduceEq, Int.reduceNe, Int.reduceAdd, Int.reduceSub, Int.reduceMul, Int.reduceNeg, ↓reduceIte, reduceCtorEq, tabT_eq] <;> first | rfl | decide) ?_; simp only [go_sem, Nat.reduceAdd, Nat.reduceSub, Nat.reduceMul, Nat.reduceLT, Nat.reduceLeDiff, Nat.reduceEqDiff, Nat.reduceBEq, Int.reduceToNat, Int.reduceLT, Int.reduceLE, Int.reduceEq, Int.reduceNe, Int.reduceAdd, Int.reduceSub, Int.reduceMul, Int.reduceNeg, ↓reduceIte, reduceCtorEq, tabT_eq])
      (refine callD_pure (cF) (by simp only [go_sem, Nat.reduceAdd, Nat.reduceSub, Nat.reduceMul, Nat.reduceLT, Nat.reduceLeDiff, Nat.reduceEqDiff, Nat.reduceBEq, Int.reduceToNat, Int.reduceLT, Int.reduceLE, Int.reduceEq, Int.reduceNe, Int.reduceAdd, Int.reduceSub, Int.reduceMul, Int.reduceNeg, ↓reduceIte, reduceCtorEq, tabT_eq] <;> first | rfl | decide) ?_; simp only [go_sem, Nat.reduceAdd, Nat.reduceSub, Nat.reduceMul, Nat.reduceLT, Nat.reduceLeDiff, Nat.reduceEqDiff, Nat.reduceBEq, Int.reduceToNat, Int.reduceLT, Int.reduceLE, Int.reduceEq, Int.reduceNe, Int.reduceAdd, Int.reduceSub, Int.reduceMul, Int.reduceNeg, ↓reduceIte, reduceCtorEq, tabT_eq])
      cases ge : decide ([c, d, e, f] = fourV (keyV s.seed s.sec)) with
      | false =>
        have hk : NoKey s [a, b, c, d, e, f] := fun k hq hs he => by cases hq; rw [he] at ge; simp at ge
        refine endD_intro (by decide +kernel) ?_
        simp only [go_sem, Nat.reduceAdd, Nat.reduceSub, Nat.reduceMul, Nat.reduceLT, Nat.reduceLeDiff, Nat.reduceEqDiff, Nat.reduceBEq, Int.reduceToNat, Int.reduceLT, Int.reduceLE, Int.reduceEq, Int.reduceNe, Int.reduceAdd, Int.reduceSub, Int.reduceMul, Int.reduceNeg, ↓reduceIte, reduceCtorEq, tabT_eq, shSt, opRows_len, List.length_map, f1, f2, Srv.cells, f3, f4, hrow, hmin, hmin0, hmin1, Int.toNat_natCast, lq]
        obtain ⟨u, t, a, c1, c2, ht, hto, hti⟩ := shut_tail hr ho hk (fewV o.n)
        (refine callD_pure (cf) (by simp only [go_sem, Nat.reduceAdd, Nat.reduceSub, Nat.reduceMul, Nat.reduceLT, Nat.reduceLeDiff, Nat.reduceEqDiff, Nat.reduceBEq, Int.reduceToNat, Int.reduceLT, Int.reduceLE, Int.reduceEq, Int.reduceNe, Int.reduceAdd, Int.reduceSub, Int.reduceMul, Int.reduceNeg, ↓reduceIte, reduceCtorEq, tabT_eq, Srv.pv, Srv.cells] <;> first | rfl | decide) ?_; simp only [go_sem, Nat.reduceAdd, Nat.reduceSub, Nat.reduceMul, Nat.reduceLT, Nat.reduceLeDiff, Nat.reduceEqDiff, Nat.reduceBEq, Int.reduceToNat, Int.reduceLT, Int.reduceLE, Int.reduceEq, Int.reduceNe, Int.reduceAdd, Int.reduceSub, Int.reduceMul, Int.reduceNeg, ↓reduceIte, reduceCtorEq, tabT_eq, Srv.pv, Srv.cells])
        (refine callD_pure (c1) (by simp only [go_sem, Nat.reduceAdd, Nat.reduceSub, Nat.reduceMul, Nat.reduceLT, Nat.reduceLeDiff, Nat.reduceEqDiff, Nat.reduceBEq, Int.reduceToNat, Int.reduceLT, Int.reduceLE, Int.reduceEq, Int.reduceNe, Int.reduceAdd, Int.reduceSub, Int.reduceMul, Int.reduceNeg, ↓reduceIte, reduceCtorEq, tabT_eq, Srv.pv, Srv.cells] <;> first | rfl | decide) ?_; simp only [go_sem, Nat.reduceAdd, Nat.reduceSub, Nat.reduceMul, Nat.reduceLT, Nat.reduceLeDiff, Nat.reduceEqDiff, Nat.reduceBEq, Int.reduceToNat, Int.reduceLT, Int.reduceLE, Int.reduceEq, Int.reduceNe, Int.reduceAdd, Int.reduceSub, Int.reduceMul, Int.reduceNeg, ↓reduceIte, reduceCtorEq, tabT_eq, Srv.pv, Srv.cells])
        (refine callD_pure (c2) (by simp only [go_sem, Nat.reduceAdd, Nat.reduceSub, Nat.reduceMul, Nat.reduceLT, Nat.reduceLeDiff, Nat.reduceEqDiff, Nat.reduceBEq, Int.reduceToNat, Int.reduceLT, Int.reduceLE, Int.reduceEq, Int.reduceNe, Int.reduceAdd, Int.reduceSub, Int.reduceMul, Int.reduceNeg, ↓reduceIte, reduceCtorEq, tabT_eq, Srv.pv, Srv.cells] <;> first | rfl | decide) ?_; simp only [go_sem, Nat.reduceAdd, Nat.reduceSub, Nat.reduceMul, Nat.reduceLT, Nat.reduceLeDiff, Nat.reduceEqDiff, Nat.reduceBEq, Int.reduceToNat, Int.reduceLT, Int.reduceLE, Int.reduceEq, Int.reduceNe, Int.reduceAdd, Int.reduceSub, Int.reduceMul, Int.reduceNeg, ↓reduceIte, reduceCtorEq, tabT_eq, Srv.pv, Srv.cells])
        have hti2 : t.items = m'.items := hti.trans hits
        refine endD_intro (by decide +kernel) ?_
        simp only [go_sem, Nat.reduceAdd, Nat.reduceSub, Nat.reduceMul, Nat.reduceLT, Nat.reduceLeDiff, Nat.reduceEqDiff, Nat.reduceBEq, Int.reduceToNat, Int.reduceLT, Int.reduceLE, Int.reduceEq, Int.reduceNe, Int.reduceAdd, Int.reduceSub, Int.reduceMul, Int.reduceNeg, ↓reduceIte, reduceCtorEq, tabT_eq, Srv.pv, Srv.cells, hto, hti2]
        (refine CallA.pure (same_self ht) (by simp only [go_sem, Nat.reduceAdd, Nat.reduceSub, Nat.reduceMul, Nat.reduceLT, Nat.reduceLeDiff, Nat.reduceEqDiff, Nat.reduceBEq, Int.reduceToNat, Int.reduceLT, Int.reduceLE, Int.reduceEq, Int.reduceNe, Int.reduceAdd, Int.reduceSub, Int.reduceMul, Int.reduceNeg, ↓reduceIte, reduceCtorEq, tabT_eq, Srv.pv, Srv.cells, hto, hti2, hw] <;> first | rfl | decide) ?_; simp only [go_sem, Nat.reduceAdd, Nat.reduceSub, Nat.reduceMul, Nat.reduceLT, Nat.reduceLeDiff, Nat.reduceEqDiff, Nat.reduceBEq, Int.reduceToNat, Int.reduceLT, Int.reduceLE, Int.reduceEq, Int.reduceNe, Int.reduceAdd, Int.reduceSub, Int.reduceMul, Int.reduceNeg, ↓reduceIte, reduceCtorEq, tabT_eq, Srv.pv, Srv.cells, hto, hti2, hw])
        refine ⟨60 - (i + 1), _, by omega, ?_, i + 1, t, by omega, rfl, ht, hto, hti2, rfl⟩
        simp only [go_sem, Nat.reduceAdd, Nat.reduceSub, Nat.reduceMul, Nat.reduceLT, Nat.reduceLeDiff, Nat.reduceEqDiff, Nat.reduceBEq, Int.reduceToNat, Int.reduceLT, Int.reduceLE, Int.reduceEq, Int.reduceNe, Int.reduceAdd, Int.reduceSub, Int.reduceMul, Int.reduceNeg, ↓reduceIte, reduceCtorEq, tabT_eq, shSt, hw, Srv.cells, hto, hti2, refsIn, refsInL, Blk.refsIn]
      | true =>
        have hx : bitsA .xor .u8 (f.toNat : Int) 1 = ((f ^^^ 1).toNat : Int) := xor8 f 1
        have hs5 : (rowsB [a, b, c, d, e, f]).set 5 [.lit (.int .u8 (f ^^^ 1).toNat)] = rowsB [a, b, c, d, e, f ^^^ 1] := rfl
        have hk : NoKey s [a, b, c, d, e, f ^^^ 1] := fun k hq hs he => by
          cases hq
          have ge := of_decide_eq_true ge
          rw [← he] at ge
          simp only [List.cons.injEq, true_and, and_true] at ge
          have h1 : f ^^^ (f ^^^ 1) = f ^^^ f := by rw [← ge]
          rw [← UInt8.xor_assoc, UInt8.xor_self, UInt8.zero_xor] at h1
          cases h1
        refine endD_intro (by decide +kernel) ?_
        simp only [go_sem, Nat.reduceAdd, Nat.reduceSub, Nat.reduceMul, Nat.reduceLT, Nat.reduceLeDiff, Nat.reduceEqDiff, Nat.reduceBEq, Int.reduceToNat, Int.reduceLT, Int.reduceLE, Int.reduceEq, Int.reduceNe, Int.reduceAdd, Int.reduceSub, Int.reduceMul, Int.reduceNeg, ↓reduceIte, reduceCtorEq, tabT_eq, gq5, gql, z6, i5, hx, hs5, shSt, opRows_len, List.length_map, f1, f2, Srv.cells, f3, f4, hrow, hmin, hmin0, hmin1, Int.toNat_natCast, lq]
        obtain ⟨u, t, a, c1, c2, ht, hto, hti⟩ := shut_tail hr ho hk (fewV o.n)
        (refine callD_pure (cf) (by simp only [go_sem, Nat.reduceAdd, Nat.reduceSub, Nat.reduceMul, Nat.reduceLT, Nat.reduceLeDiff, Nat.reduceEqDiff, Nat.reduceBEq, Int.reduceToNat, Int.reduceLT, Int.reduceLE, Int.reduceEq, Int.reduceNe, Int.reduceAdd, Int.reduceSub, Int.reduceMul, Int.reduceNeg, ↓reduceIte, reduceCtorEq, tabT_eq, Srv.pv, Srv.cells] <;> first | rfl | decide) ?_; simp only [go_sem, Nat.reduceAdd, Nat.reduceSub, Nat.reduceMul, Nat.reduceLT, Nat.reduceLeDiff, Nat.reduceEqDiff, Nat.reduceBEq, Int.reduceToNat, Int.reduceLT, Int.reduceLE, Int.reduceEq, Int.reduceNe, Int.reduceAdd, Int.reduceSub, Int.reduceMul, Int.reduceNeg, ↓reduceIte, reduceCtorEq, tabT_eq, Srv.pv, Srv.cells])
        (refine callD_pure (c1) (by simp only [go_sem, Nat.reduceAdd, Nat.reduceSub, Nat.reduceMul, Nat.reduceLT, Nat.reduceLeDiff, Nat.reduceEqDiff, Nat.reduceBEq, Int.reduceToNat, Int.reduceLT, Int.reduceLE, Int.reduceEq, Int.reduceNe, Int.reduceAdd, Int.reduceSub, Int.reduceMul, Int.reduceNeg, ↓reduceIte, reduceCtorEq, tabT_eq, Srv.pv, Srv.cells] <;> first | rfl | decide) ?_; simp only [go_sem, Nat.reduceAdd, Nat.reduceSub, Nat.reduceMul, Nat.reduceLT, Nat.reduceLeDiff, Nat.reduceEqDiff, Nat.reduceBEq, Int.reduceToNat, Int.reduceLT, Int.reduceLE, Int.reduceEq, Int.reduceNe, Int.reduceAdd, Int.reduceSub, Int.reduceMul, Int.reduceNeg, ↓reduceIte, reduceCtorEq, tabT_eq, Srv.pv, Srv.cells])
        (refine callD_pure (c2) (by simp only [go_sem, Nat.reduceAdd, Nat.reduceSub, Nat.reduceMul, Nat.reduceLT, Nat.reduceLeDiff, Nat.reduceEqDiff, Nat.reduceBEq, Int.reduceToNat, Int.reduceLT, Int.reduceLE, Int.reduceEq, Int.reduceNe, Int.reduceAdd, Int.reduceSub, Int.reduceMul, Int.reduceNeg, ↓reduceIte, reduceCtorEq, tabT_eq, Srv.pv, Srv.cells] <;> first | rfl | decide) ?_; simp only [go_sem, Nat.reduceAdd, Nat.reduceSub, Nat.reduceMul, Nat.reduceLT, Nat.reduceLeDiff, Nat.reduceEqDiff, Nat.reduceBEq, Int.reduceToNat, Int.reduceLT, Int.reduceLE, Int.reduceEq, Int.reduceNe, Int.reduceAdd, Int.reduceSub, Int.reduceMul, Int.reduceNeg, ↓reduceIte, reduceCtorEq, tabT_eq, Srv.pv, Srv.cells])
        have hti2 : t.items = m'.items := hti.trans hits
        refine endD_intro (by decide +kernel) ?_
        simp only [go_sem, Nat.reduceAdd, Nat.reduceSub, Nat.reduceMul, Nat.reduceLT, Nat.reduceLeDiff, Nat.reduceEqDiff, Nat.reduceBEq, Int.reduceToNat, Int.reduceLT, Int.reduceLE, Int.reduceEq, Int.reduceNe, Int.reduceAdd, Int.reduceSub, Int.reduceMul, Int.reduceNeg, ↓reduceIte, reduceCtorEq, tabT_eq, Srv.pv, Srv.cells, hto, hti2]
        (refine CallA.pure (same_self ht) (by simp only [go_sem, Nat.reduceAdd, Nat.reduceSub, Nat.reduceMul, Nat.reduceLT, Nat.reduceLeDiff, Nat.reduceEqDiff, Nat.reduceBEq, Int.reduceToNat, Int.reduceLT, Int.reduceLE, Int.reduceEq, Int.reduceNe, Int.reduceAdd, Int.reduceSub, Int.reduceMul, Int.reduceNeg, ↓reduceIte, reduceCtorEq, tabT_eq, Srv.pv, Srv.cells, hto, hti2, hw] <;> first | rfl | decide) ?_; simp only [go_sem, Nat.reduceAdd, Nat.reduceSub, Nat.reduceMul, Nat.reduceLT, Nat.reduceLeDiff, Nat.reduceEqDiff, Nat.reduceBEq, Int.reduceToNat, Int.reduceLT, Int.reduceLE, Int.reduceEq, Int.reduceNe, Int.reduceAdd, Int.reduceSub, Int.reduceMul, Int.reduceNeg, ↓reduceIte, reduceCtorEq, tabT_eq, Srv.pv, Srv.cells, hto, hti2, hw])
        refine ⟨60 - (i + 1), _, by omega, ?_, i + 1, t, by omega, rfl, ht, hto, hti2, rfl⟩
        simp only [go_sem, Nat.reduceAdd, Nat.reduceSub, Nat.reduceMul, Nat.reduceLT, Nat.reduceLeDiff, Nat.reduceEqDiff, Nat.reduceBEq, Int.reduceToNat, Int.reduceLT, Int.reduceLE, Int.reduceEq, Int.reduceNe, Int.reduceAdd, Int.reduceSub, Int.reduceMul, Int.reduceNeg, ↓reduceIte, reduceCtorEq, tabT_eq, shSt, hw, Srv.cells, hto, hti2, refsIn, refsInL, Blk.refsIn]
  · have hw := wrapIN (i := i) (by omega)
    cases f1 : decide ((i : Int) < (l.length : Int)) with
    | false => simp only [go_sem, Nat.reduceAdd, Nat.reduceSub, Nat.reduceMul, Nat.reduceLT, Nat.reduceLeDiff, Nat.reduceEqDiff, Nat.reduceBEq, Int.reduceToNat, Int.reduceLT, Int.reduceLE, Int.reduceEq, Int.reduceNe, Int.reduceAdd, Int.reduceSub, Int.reduceMul, Int.reduceNeg, ↓reduceIte, reduceCtorEq, tabT_eq, shSt, opRows_len, List.length_map, f1, Srv.cells, Try.ntmps4, Try.results4]
    | true =>
      have f2 : decide ((i : Int) < 60) = false := decide_eq_false (by have := of_decide_eq_true f1; omega)
      simp only [go_sem, Nat.reduceAdd, Nat.reduceSub, Nat.reduceMul, Nat.reduceLT, Nat.reduceLeDiff, Nat.reduceEqDiff, Nat.reduceBEq, Int.reduceToNat, Int.reduceLT, Int.reduceLE, Int.reduceEq, Int.reduceNe, Int.reduceAdd, Int.reduceSub, Int.reduceMul, Int.reduceNeg, ↓reduceIte, reduceCtorEq, tabT_eq, shSt, opRows_len, List.length_map, f1, f2, Srv.cells, Try.ntmps4, Try.results4]
end Go.Proofs.Ytcdmhigmgpflbaa.Pe
