import Derived.Test.YtcdmhigmgpflbaaDI17
namespace Go.Proofs.Ytcdmhigmgpflbaa.Pe
open Go.Pe Go.RowKit
set_option maxRecDepth 20000
set_option maxHeartbeats 4000000
set_option linter.unusedSimpArgs false
set_option linter.unusedVariables false

abbrev and16 (n : Int) : Int := bitsA .and .i64 n 65535
def mdStep (a : List Itm × Int) (x : Itm) : List Itm × Int := if and16 x.id > a.2 ∧ x.data ≠ [] then (a.1 ++ [⟨and16 x.id, x.wr, x.data.take 64⟩], and16 x.id) else a
def mdIts (l : List Itm) (i : Nat) : List Itm × Int := (l.take i).foldl mdStep ([], -1)
theorem mdIts_succ {l : List Itm} {i : Nat} (h : i < l.length) : mdIts l (i + 1) = mdStep (mdIts l i) l[i] := by
  unfold mdIts
  rw [List.take_succ_eq_append_getElem h, List.foldl_append]
  rfl
theorem mdIts_len {l : List Itm} : ∀ {i : Nat}, i ≤ l.length → (mdIts l i).1.length ≤ i
  | 0, _ => by simp [mdIts]
  | i + 1, h => by
    rw [mdIts_succ (by omega)]
    have := mdIts_len (l := l) (i := i) (by omega)
    unfold mdStep
    split
    · simp; omega
    · omega
theorem itmRows_snoc (l : List Itm) (x : Itm) : itmRows (l ++ [x]) = itmRows l ++ [x.cells] := by simp [itmRows]
def mdSeed (s : Srv) : Int := if s.seed ≥ 0 then lowV s.seed else -1
def mdSrv (s : Srv) (its : List Itm) (d : List Trb) : Srv := ⟨IntKind.wrap .i64 (1 + (and16 s.ses).tmod 3), s.op, mdSeed s, (and16 s.wrong).tmod 13, (and16 s.quiet).tmod 52, lowV s.draw, lowV s.sec, its, d⟩
def madeV (s : Srv) : Srv := mdSrv s (mdIts s.items (min s.items.length 16)).1 (if rightL s.dtc then s.dtc else [])
def mdCells (s : Srv) (v : Nat) : List PV := [PI (IntKind.wrap .i64 (1 + (and16 s.ses).tmod 3)), PB s.op, PI (mdSeed s), PI ((and16 s.wrong).tmod 13), PI ((and16 s.quiet).tmod 52), PI (lowV s.draw), PI (lowV s.sec), .own 1000 v, .im 4 []]
def mdSt (s : Srv) (l : List Itm) (v : Nat) (last : Int) (i : Nat) : St := ⟨107, [(1, .ptr 0 0), (2, .ptr 1 0), (3, .ptr 24 0), (4, PI last), (5, PI i)],
  [(0, .box 25 s.cells), (1, .box 25 srvZ), (24, .box 25 (mdCells s v)), (1000, .arr 47 3 (itmRows l) v false)], 2000, 0⟩
def mdI (s : Srv) (m : Nat) (st : St) : Prop := ∃ (i v : Nat), i ≤ min s.items.length 16 ∧ m = min s.items.length 16 - i ∧ st = mdSt s (mdIts s.items i).1 v (mdIts s.items i).2 i
theorem made_calls (s : Srv) : PureCalls Try.prog 33 [s.pv] (madeV s).pv := by
  refine PureCalls.of tabOK mixed Try.func33 rfl rfl (by decide +kernel) (by simp [Try.ntmps33]) ?_
  have la := itmRows_len s.items
  have c1 := low_calls s.draw
  have c2 := low_calls s.sec
  simp only [go_sem, Nat.reduceAdd, Nat.reduceSub, Nat.reduceMul, Nat.reduceLT, Nat.reduceLeDiff, Nat.reduceEqDiff, Nat.reduceBEq, Int.reduceToNat, Int.reduceLT, Int.reduceLE, Int.reduceEq, Int.reduceNe, Int.reduceAdd, Int.reduceSub, Int.reduceMul, Int.reduceNeg, ↓reduceIte, reduceCtorEq, Try.ntmps33, Try.results33, Srv.pv, Srv.cells, la]
  (refine callD_pure (c1) (by simp only [go_sem, Nat.reduceAdd, Nat.reduceSub, Nat.reduceMul, Nat.reduceLT, Nat.reduceLeDiff, Nat.reduceEqDiff, Nat.reduceBEq, Int.reduceToNat, Int.reduceLT, Int.reduceLE, Int.reduceEq, Int.reduceNe, Int.reduceAdd, Int.reduceSub, Int.reduceMul, Int.reduceNeg, ↓reduceIte, reduceCtorEq] <;> first | rfl | decide) ?_; simp only [go_sem, Nat.reduceAdd, Nat.reduceSub, Nat.reduceMul, Nat.reduceLT, Nat.reduceLeDiff, Nat.reduceEqDiff, Nat.reduceBEq, Int.reduceToNat, Int.reduceLT, Int.reduceLE, Int.reduceEq, Int.reduceNe, Int.reduceAdd, Int.reduceSub, Int.reduceMul, Int.reduceNeg, ↓reduceIte, reduceCtorEq])
  (refine callD_pure (c2) (by simp only [go_sem, Nat.reduceAdd, Nat.reduceSub, Nat.reduceMul, Nat.reduceLT, Nat.reduceLeDiff, Nat.reduceEqDiff, Nat.reduceBEq, Int.reduceToNat, Int.reduceLT, Int.reduceLE, Int.reduceEq, Int.reduceNe, Int.reduceAdd, Int.reduceSub, Int.reduceMul, Int.reduceNeg, ↓reduceIte, reduceCtorEq] <;> first | rfl | decide) ?_; simp only [go_sem, Nat.reduceAdd, Nat.reduceSub, Nat.reduceMul, Nat.reduceLT, Nat.reduceLeDiff, Nat.reduceEqDiff, Nat.reduceBEq, Int.reduceToNat, Int.reduceLT, Int.reduceLE, Int.reduceEq, Int.reduceNe, Int.reduceAdd, Int.reduceSub, Int.reduceMul, Int.reduceNeg, ↓reduceIte, reduceCtorEq])
  refine endD_intro (by decide +kernel) ?_
  simp only [go_sem, Nat.reduceAdd, Nat.reduceSub, Nat.reduceMul, Nat.reduceLT, Nat.reduceLeDiff, Nat.reduceEqDiff, Nat.reduceBEq, Int.reduceToNat, Int.reduceLT, Int.reduceLE, Int.reduceEq, Int.reduceNe, Int.reduceAdd, Int.reduceSub, Int.reduceMul, Int.reduceNeg, ↓reduceIte, reduceCtorEq]
  cases g1 : decide (s.seed ≥ 0)
  case' true =>
    have hseed : mdSeed s = lowV s.seed := by simp at g1; simp [mdSeed, g1]
    have c3 := low_calls s.seed
    simp only [go_sem, Nat.reduceAdd, Nat.reduceSub, Nat.reduceMul, Nat.reduceLT, Nat.reduceLeDiff, Nat.reduceEqDiff, Nat.reduceBEq, Int.reduceToNat, Int.reduceLT, Int.reduceLE, Int.reduceEq, Int.reduceNe, Int.reduceAdd, Int.reduceSub, Int.reduceMul, Int.reduceNeg, ↓reduceIte, reduceCtorEq]
    (refine CallA.pure (c3) (by simp only [go_sem, Nat.reduceAdd, Nat.reduceSub, Nat.reduceMul, Nat.reduceLT, Nat.reduceLeDiff, Nat.reduceEqDiff, Nat.reduceBEq, Int.reduceToNat, Int.reduceLT, Int.reduceLE, Int.reduceEq, Int.reduceNe, Int.reduceAdd, Int.reduceSub, Int.reduceMul, Int.reduceNeg, ↓reduceIte, reduceCtorEq] <;> first | rfl | decide) ?_; simp only [go_sem, Nat.reduceAdd, Nat.reduceSub, Nat.reduceMul, Nat.reduceLT, Nat.reduceLeDiff, Nat.reduceEqDiff, Nat.reduceBEq, Int.reduceToNat, Int.reduceLT, Int.reduceLE, Int.reduceEq, Int.reduceNe, Int.reduceAdd, Int.reduceSub, Int.reduceMul, Int.reduceNeg, ↓reduceIte, reduceCtorEq])
  case' false =>
    have hseed : mdSeed s = -1 := by simp at g1; simp [mdSeed]; omega
    simp only [go_sem, Nat.reduceAdd, Nat.reduceSub, Nat.reduceMul, Nat.reduceLT, Nat.reduceLeDiff, Nat.reduceEqDiff, Nat.reduceBEq, Int.reduceToNat, Int.reduceLT, Int.reduceLE, Int.reduceEq, Int.reduceNe, Int.reduceAdd, Int.reduceSub, Int.reduceMul, Int.reduceNeg, ↓reduceIte, reduceCtorEq]
  all_goals
    refine wpA_loopS (mdI s) ⟨_, _, ?_, 0, 0, by omega, rfl, rfl⟩ ?_
    · refine .nil 24 7 1000 47 3 25 _ rfl rfl rfl (.weak ?_)
      simp only [go_sem, Nat.reduceAdd, Nat.reduceSub, Nat.reduceMul, Nat.reduceLT, Nat.reduceLeDiff, Nat.reduceEqDiff, Nat.reduceBEq, Int.reduceToNat, Int.reduceLT, Int.reduceLE, Int.reduceEq, Int.reduceNe, Int.reduceAdd, Int.reduceSub, Int.reduceMul, Int.reduceNeg, ↓reduceIte, reduceCtorEq, mdSt, Int.natCast_zero, srvZ, mdCells, Srv.cells, hseed, List.set_cons_succ, List.set_cons_zero, mdIts, List.foldl_nil, refsIn, refsInL, Blk.refsIn, itmRows]
    clear hseed g1
    rintro m st ⟨i, v, hi, rfl, rfl⟩
    generalize hA : mdIts s.items i = A
    obtain ⟨l, last⟩ := A
    have hw := wrapIN (i := i) (by omega)
    by_cases hc : i < min s.items.length 16
    rotate_left 1
    · have hm : min s.items.length 16 = i := by omega
      have hmade : madeV s = mdSrv s l (if rightL s.dtc then s.dtc else []) := by rw [madeV, hm, hA]
      rw [hmade]
      have f12 : (decide ((i : Int) < (s.items.length : Int)) = false) ∨ (decide ((i : Int) < (s.items.length : Int)) = true ∧ decide ((i : Int) < 16) = false) := by
        by_cases h : i < s.items.length
        · exact .inr ⟨decide_eq_true (by omega), decide_eq_false (by omega)⟩
        · exact .inl (decide_eq_false (by omega))
      have c7 := rightR21_calls s.dtc
      rcases f12 with f1 | ⟨f1, f2⟩
      case' inl => simp only [go_sem, Nat.reduceAdd, Nat.reduceSub, Nat.reduceMul, Nat.reduceLT, Nat.reduceLeDiff, Nat.reduceEqDiff, Nat.reduceBEq, Int.reduceToNat, Int.reduceLT, Int.reduceLE, Int.reduceEq, Int.reduceNe, Int.reduceAdd, Int.reduceSub, Int.reduceMul, Int.reduceNeg, ↓reduceIte, reduceCtorEq, mdSt, mdCells, srvZ, la, f1, Srv.cells]
      case' inr => simp only [go_sem, Nat.reduceAdd, Nat.reduceSub, Nat.reduceMul, Nat.reduceLT, Nat.reduceLeDiff, Nat.reduceEqDiff, Nat.reduceBEq, Int.reduceToNat, Int.reduceLT, Int.reduceLE, Int.reduceEq, Int.reduceNe, Int.reduceAdd, Int.reduceSub, Int.reduceMul, Int.reduceNeg, ↓reduceIte, reduceCtorEq, mdSt, mdCells, srvZ, la, f1, f2, Srv.cells]
      all_goals
        (refine CallA.pure (c7) (by simp only [go_sem, Nat.reduceAdd, Nat.reduceSub, Nat.reduceMul, Nat.reduceLT, Nat.reduceLeDiff, Nat.reduceEqDiff, Nat.reduceBEq, Int.reduceToNat, Int.reduceLT, Int.reduceLE, Int.reduceEq, Int.reduceNe, Int.reduceAdd, Int.reduceSub, Int.reduceMul, Int.reduceNeg, ↓reduceIte, reduceCtorEq, mdCells] <;> first | rfl | decide) ?_; simp only [go_sem, Nat.reduceAdd, Nat.reduceSub, Nat.reduceMul, Nat.reduceLT, Nat.reduceLeDiff, Nat.reduceEqDiff, Nat.reduceBEq, Int.reduceToNat, Int.reduceLT, Int.reduceLE, Int.reduceEq, Int.reduceNe, Int.reduceAdd, Int.reduceSub, Int.reduceMul, Int.reduceNeg, ↓reduceIte, reduceCtorEq, mdCells])
        cases g7 : rightL s.dtc with
        | false => simp only [go_sem, Nat.reduceAdd, Nat.reduceSub, Nat.reduceMul, Nat.reduceLT, Nat.reduceLeDiff, Nat.reduceEqDiff, Nat.reduceBEq, Int.reduceToNat, Int.reduceLT, Int.reduceLE, Int.reduceEq, Int.reduceNe, Int.reduceAdd, Int.reduceSub, Int.reduceMul, Int.reduceNeg, ↓reduceIte, reduceCtorEq, mdCells, g7, srvZ, Srv.cells, Srv.pv, mdSrv, Try.ntmps33, Try.results33]
        | true =>
          have hl : s.dtc.length ≤ 16 := by simp [rightL] at g7; omega
          simp only [go_sem, Nat.reduceAdd, Nat.reduceSub, Nat.reduceMul, Nat.reduceLT, Nat.reduceLeDiff, Nat.reduceEqDiff, Nat.reduceBEq, Int.reduceToNat, Int.reduceLT, Int.reduceLE, Int.reduceEq, Int.reduceNe, Int.reduceAdd, Int.reduceSub, Int.reduceMul, Int.reduceNeg, ↓reduceIte, reduceCtorEq, mdCells, g7, srvZ, Srv.cells, Srv.pv, mdSrv, Try.ntmps33, Try.results33, trbRows_len]
          exact ⟨by omega, by omega⟩
    have f1 : decide ((i : Int) < (s.items.length : Int)) = true := decide_eq_true (by omega)
    have f3 : decide ((i : Int) < 16) = true := decide_eq_true (by omega)
    have f2 : (i : Int) < (s.items.length : Int) := by omega
    have f0 : (0 : Int) ≤ (i : Int) := by omega
    have hci : i < s.items.length := by omega
    have r1 := itmRows_get hci
    have hsucc := mdIts_succ hci
    rw [hA] at hsucc
    generalize s.items[i] = x at r1 hsucc
    simp only [go_sem, Nat.reduceAdd, Nat.reduceSub, Nat.reduceMul, Nat.reduceLT, Nat.reduceLeDiff, Nat.reduceEqDiff, Nat.reduceBEq, Int.reduceToNat, Int.reduceLT, Int.reduceLE, Int.reduceEq, Int.reduceNe, Int.reduceAdd, Int.reduceSub, Int.reduceMul, Int.reduceNeg, ↓reduceIte, reduceCtorEq, mdSt, mdCells, srvZ, la, f1, f2, f3, f0, Int.toNat_natCast, hci, r1, Itm.cells, Srv.cells]
    have next : ∀ l' last' v', mdStep (l, last) x = (l', last') → ∀ st', WeakS st' (mdSt s l' v' last' (i + 1 : Nat)) → ∃ m'' s'', m'' < min s.items.length 16 - i ∧ WeakS st' s'' ∧ mdI s m'' s'' := by
      intro l' last' v' he st' hwk
      refine ⟨min s.items.length 16 - (i + 1), _, by omega, hwk, i + 1, v', by omega, rfl, ?_⟩
      rw [hsucc, he]
    have lx := rowsB_length x.data
    have hmin : (if (64 : Int) < (x.data.length : Int) then 64 else (x.data.length : Int)) = ((min x.data.length 64 : Nat) : Int) := by split <;> omega
    have hmin0 : (0 : Int) ≤ ((min x.data.length 64 : Nat) : Int) := by omega
    have hmin1 : ((min x.data.length 64 : Nat) : Int) ≤ (x.data.length : Int) := by omega
    have htk : x.data.take (min x.data.length 64) = x.data.take 64 := by rw [Nat.min_comm, ← List.take_take]; simp
    cases e1 : decide (and16 x.id > last) with
    | false =>
      have he : mdStep (l, last) x = (l, last) := by simp at e1; simp [mdStep]; omega
      simp only [go_sem, Nat.reduceAdd, Nat.reduceSub, Nat.reduceMul, Nat.reduceLT, Nat.reduceLeDiff, Nat.reduceEqDiff, Nat.reduceBEq, Int.reduceToNat, Int.reduceLT, Int.reduceLE, Int.reduceEq, Int.reduceNe, Int.reduceAdd, Int.reduceSub, Int.reduceMul, Int.reduceNeg, ↓reduceIte, reduceCtorEq, e1, hw]
      refine next l last v he _ (.weak ?_)
      simp only [go_sem, Nat.reduceAdd, Nat.reduceSub, Nat.reduceMul, Nat.reduceLT, Nat.reduceLeDiff, Nat.reduceEqDiff, Nat.reduceBEq, Int.reduceToNat, Int.reduceLT, Int.reduceLE, Int.reduceEq, Int.reduceNe, Int.reduceAdd, Int.reduceSub, Int.reduceMul, Int.reduceNeg, ↓reduceIte, reduceCtorEq, mdSt, mdCells, srvZ, Srv.cells, refsIn, refsInL, Blk.refsIn]
    | true =>
    simp only [go_sem, Nat.reduceAdd, Nat.reduceSub, Nat.reduceMul, Nat.reduceLT, Nat.reduceLeDiff, Nat.reduceEqDiff, Nat.reduceBEq, Int.reduceToNat, Int.reduceLT, Int.reduceLE, Int.reduceEq, Int.reduceNe, Int.reduceAdd, Int.reduceSub, Int.reduceMul, Int.reduceNeg, ↓reduceIte, reduceCtorEq, e1, mdCells, la, f2, f0, Int.toNat_natCast, hci, r1, Itm.cells, lx]
    cases e2 : decide ((x.data.length : Int) > 0) with
    | false =>
      have hn : x.data = [] := by simp at e2; simpa using e2
      have he : mdStep (l, last) x = (l, last) := by simp [mdStep, hn]
      simp only [go_sem, Nat.reduceAdd, Nat.reduceSub, Nat.reduceMul, Nat.reduceLT, Nat.reduceLeDiff, Nat.reduceEqDiff, Nat.reduceBEq, Int.reduceToNat, Int.reduceLT, Int.reduceLE, Int.reduceEq, Int.reduceNe, Int.reduceAdd, Int.reduceSub, Int.reduceMul, Int.reduceNeg, ↓reduceIte, reduceCtorEq, e2, hw]
      refine next l last v he _ (.weak ?_)
      simp only [go_sem, Nat.reduceAdd, Nat.reduceSub, Nat.reduceMul, Nat.reduceLT, Nat.reduceLeDiff, Nat.reduceEqDiff, Nat.reduceBEq, Int.reduceToNat, Int.reduceLT, Int.reduceLE, Int.reduceEq, Int.reduceNe, Int.reduceAdd, Int.reduceSub, Int.reduceMul, Int.reduceNeg, ↓reduceIte, reduceCtorEq, mdSt, mdCells, srvZ, Srv.cells, refsIn, refsInL, Blk.refsIn]
    | true =>
    have he : mdStep (l, last) x = (l ++ [⟨and16 x.id, x.wr, x.data.take 64⟩], and16 x.id) := by
      have h1 : and16 x.id > last := by simpa using e1
      have h2 : x.data ≠ [] := by intro e; rw [e] at e2; simp at e2
      simp only [mdStep, h1, h2, ne_eq, not_false_eq_true, and_self, if_true]
    simp only [go_sem, Nat.reduceAdd, Nat.reduceSub, Nat.reduceMul, Nat.reduceLT, Nat.reduceLeDiff, Nat.reduceEqDiff, Nat.reduceBEq, Int.reduceToNat, Int.reduceLT, Int.reduceLE, Int.reduceEq, Int.reduceNe, Int.reduceAdd, Int.reduceSub, Int.reduceMul, Int.reduceNeg, ↓reduceIte, reduceCtorEq, e2, mdCells, la, f2, f0, Int.toNat_natCast, hci, r1, Itm.cells, lx, hmin, hmin0, hmin1]
    have hll : l.length ≤ 16 := by have := mdIts_len (l := s.items) (i := i) (by omega); rw [hA] at this; simp only at this; omega
    have lt64 : (x.data.take 64).length ≤ 64 := by simp; omega
    rw [htk, itmRows_len]
    refine ⟨⟨by omega, by omega⟩, ⟨by omega, by omega⟩, endD_intro (by decide +kernel) ?_⟩
    simp only [go_sem, Nat.reduceAdd, Nat.reduceSub, Nat.reduceMul, Nat.reduceLT, Nat.reduceLeDiff, Nat.reduceEqDiff, Nat.reduceBEq, Int.reduceToNat, Int.reduceLT, Int.reduceLE, Int.reduceEq, Int.reduceNe, Int.reduceAdd, Int.reduceSub, Int.reduceMul, Int.reduceNeg, ↓reduceIte, reduceCtorEq, hw, mdCells, itmRows_len]
    refine next _ _ (v + 1) he _ (.weak ?_)
    simp only [go_sem, Nat.reduceAdd, Nat.reduceSub, Nat.reduceMul, Nat.reduceLT, Nat.reduceLeDiff, Nat.reduceEqDiff, Nat.reduceBEq, Int.reduceToNat, Int.reduceLT, Int.reduceLE, Int.reduceEq, Int.reduceNe, Int.reduceAdd, Int.reduceSub, Int.reduceMul, Int.reduceNeg, ↓reduceIte, reduceCtorEq, mdSt, mdCells, srvZ, Srv.cells, refsIn, refsInL, Blk.refsIn, itmRows_snoc, Itm.cells]
end Go.Proofs.Ytcdmhigmgpflbaa.Pe

namespace Go.Proofs.Ytcdmhigmgpflbaa.Pe
open Go.Pe Go.RowKit
set_option maxRecDepth 20000
set_option maxHeartbeats 4000000
set_option linter.unusedSimpArgs false
set_option linter.unusedVariables false

/-- What a server that is right is. -/
structure RightS (s : Srv) : Prop where
  its : okIts none s.items = true
  ses : 1 ≤ s.ses ∧ s.ses ≤ 3
  seed : -1 ≤ s.seed ∧ s.seed ≤ 4294967295
  wrong : 0 ≤ s.wrong ∧ s.wrong ≤ 12
  quiet : 0 ≤ s.quiet ∧ s.quiet ≤ 51
  draw : 0 ≤ s.draw ∧ s.draw ≤ 4294967295
  sec : 0 ≤ s.sec ∧ s.sec ≤ 4294967295
  many : s.items.length ≤ 16
  dtc : rightL s.dtc = true
theorem rightS_iff {s : Srv} : rightS s = true ↔ RightS s := by
  constructor
  · intro h
    simp only [rightS, rightH, wit, Bool.and_eq_true, decide_eq_true_eq] at h
    obtain ⟨h1, h2, h3, h4, h5, h6, h7, h8, h9⟩ := h
    exact ⟨h1, h2, h3, h4, h5, h6, h7, by omega, h9⟩
  · rintro ⟨h1, h2, h3, h4, h5, h6, h7, h8, h9⟩
    simp only [rightS, rightH, wit, Bool.and_eq_true, decide_eq_true_eq]
    exact ⟨h1, h2, h3, h4, h5, h6, h7, by omega, h9⟩
theorem okIts_mem : ∀ {l : List Itm} {p : Option Int}, okIts p l = true → ∀ x ∈ l, okIt x = true
  | [], _, _, x, hx => by cases hx
  | y :: l, p, h, x, hx => by
    simp only [okIts, Bool.and_eq_true] at h
    rcases List.mem_cons.1 hx with rfl | hx
    · exact h.1
    · exact okIts_mem h.2.2 x hx
theorem okIt_iff {x : Itm} : okIt x = true ↔ (0 ≤ x.id ∧ x.id ≤ 65535) ∧ (1 ≤ x.data.length ∧ x.data.length ≤ 64) := by
  simp only [okIt, wit, Bool.and_eq_true, decide_eq_true_eq]
  constructor <;> intro h <;> refine ⟨h.1, ?_⟩ <;> omega
theorem rightL_len22 {l : List Trb} (h : rightL l = true) : l.length ≤ 16 := by
  simp [rightL] at h; omega
theorem RightS.fits {s : Srv} (h : RightS s) : s.fits :=
  ⟨by have := h.many; omega, fun x hx => by have := (okIt_iff.1 (okIts_mem h.its x hx)).2; omega, by have := rightL_len22 h.dtc; omega, h.wrong.1⟩
theorem RightS.tk {s : Srv} (h : RightS s) : s.tk := ⟨h.quiet, h.wrong⟩

/-! ### what is made is right -/
def lastI : Option Int → List Itm → Option Int
  | p, [] => p
  | _, x :: l => lastI (some x.id) l
theorem okIts_snoc : ∀ (l : List Itm) (p : Option Int) (x : Itm), okIts p (l ++ [x]) = (okIts p l && (okIt x && ordI (lastI p l) x.id))
  | [], p, x => by simp [okIts, lastI]
  | y :: l, p, x => by
    simp only [List.cons_append, okIts, lastI, okIts_snoc l]
    cases okIt y <;> cases ordI p y.id <;> simp
theorem lastI_snoc : ∀ (l : List Itm) (p : Option Int) (x : Itm), lastI p (l ++ [x]) = some x.id
  | [], p, x => rfl
  | y :: l, p, x => lastI_snoc l (some y.id) x
theorem and16_eq (n : Int) : and16 n = n % 65536 := by
  have h1 : (BitVec.ofInt 64 n &&& BitVec.ofInt 64 65535).toNat = (n % 18446744073709551616).toNat % 65536 := by
    rw [BitVec.toNat_and, BitVec.toNat_ofInt]
    show (n % 18446744073709551616).toNat &&& (2 ^ 16 - 1) = _
    rw [Nat.and_two_pow_sub_one_eq_mod]
  show IntKind.wrap .i64 ((BitVec.ofInt 64 n &&& BitVec.ofInt 64 65535).toNat : Int) = _
  rw [h1, wrapI64 (by omega)]
  omega
theorem mdIts_ok (l : List Itm) : ∀ {i : Nat}, i ≤ l.length → okIts none (mdIts l i).1 = true ∧ (((mdIts l i).2 = -1 ∧ (mdIts l i).1 = []) ∨ lastI none (mdIts l i).1 = some (mdIts l i).2)
  | 0, _ => ⟨rfl, .inl ⟨rfl, rfl⟩⟩
  | i + 1, h => by
    obtain ⟨h1, h2⟩ := mdIts_ok l (i := i) (by omega)
    rw [mdIts_succ (by omega)]
    generalize l[i] = x
    unfold mdStep
    split
    · rename_i hx
      have e := and16_eq x.id
      have hok : okIt ⟨and16 x.id, x.wr, x.data.take 64⟩ = true := by
        rw [okIt_iff]
        have : x.data.length ≠ 0 := fun e => hx.2 (List.eq_nil_of_length_eq_zero e)
        refine ⟨?_, ?_⟩
        · show 0 ≤ and16 x.id ∧ and16 x.id ≤ 65535
          omega
        · simp only [List.length_take]; omega
      refine ⟨?_, .inr (lastI_snoc _ _ _)⟩
      rw [okIts_snoc, h1, hok, Bool.true_and, Bool.true_and]
      rcases h2 with ⟨h2, h3⟩ | h2
      · rw [h3]; rfl
      · rw [h2]
        show (!decide ((mdIts l i).2 ≥ and16 x.id)) = true
        have := hx.1
        simp; omega
    · exact ⟨h1, h2⟩
theorem lowV_wide (n : Int) : 0 ≤ lowV n ∧ lowV n ≤ 4294967295 := by rw [lowV_eq]; omega
theorem made_right (s : Srv) : RightS (madeV s) := by
  have e1 := and16_eq s.ses
  have e2 := and16_eq s.wrong
  have e3 := and16_eq s.quiet
  have t1 : (and16 s.ses).tmod 3 = (s.ses % 65536) % 3 := by rw [e1, Int.tmod_eq_emod_of_nonneg (by omega)]
  have t2 : (and16 s.wrong).tmod 13 = (s.wrong % 65536) % 13 := by rw [e2, Int.tmod_eq_emod_of_nonneg (by omega)]
  have t3 : (and16 s.quiet).tmod 52 = (s.quiet % 65536) % 52 := by rw [e3, Int.tmod_eq_emod_of_nonneg (by omega)]
  refine ⟨(mdIts_ok s.items (by omega)).1, ?_, ?_, ?_, ?_, lowV_wide _, lowV_wide _, ?_, ?_⟩
  · show 1 ≤ IntKind.wrap .i64 (1 + (and16 s.ses).tmod 3) ∧ IntKind.wrap .i64 (1 + (and16 s.ses).tmod 3) ≤ 3
    rw [t1, wrapI64 (by omega)]; omega
  · show -1 ≤ mdSeed s ∧ mdSeed s ≤ 4294967295
    unfold mdSeed
    have := lowV_wide s.seed
    split <;> omega
  · show 0 ≤ (and16 s.wrong).tmod 13 ∧ (and16 s.wrong).tmod 13 ≤ 12
    rw [t2]; omega
  · show 0 ≤ (and16 s.quiet).tmod 52 ∧ (and16 s.quiet).tmod 52 ≤ 51
    rw [t3]; omega
  · show (mdIts s.items (min s.items.length 16)).1.length ≤ 16
    have := mdIts_len (l := s.items) (i := min s.items.length 16) (by omega)
    omega
  · show rightL (if rightL s.dtc = true then s.dtc else []) = true
    split
    · assumption
    · rfl

/-! ### what comes of a right one is right -/
theorem tick1_right {s : Srv} (h : RightS s) : RightS (tick1 s) := by
  have ht := tick1_tk h.tk
  have e : ∀ t : Srv, (tickW t).ses = t.ses ∧ (tickW t).seed = t.seed ∧ (tickW t).draw = t.draw ∧ (tickW t).sec = t.sec ∧ (tickW t).items = t.items ∧ (tickW t).dtc = t.dtc := by
    intro t; unfold tickW; split <;> exact ⟨rfl, rfl, rfl, rfl, rfl, rfl⟩
  obtain ⟨a1, a2, a3, a4, a5, a6⟩ := e (tickQ s (min (s.quiet + 1) 51))
  have q : ∀ k, ((tickQ s k).ses = s.ses ∨ (tickQ s k).ses = 1) ∧ ((tickQ s k).seed = s.seed ∨ (tickQ s k).seed = -1) ∧ (tickQ s k).draw = s.draw ∧ (tickQ s k).sec = s.sec ∧ (tickQ s k).items = s.items ∧ (tickQ s k).dtc = s.dtc := by
    intro k; unfold tickQ; split
    · exact ⟨.inr rfl, .inr rfl, rfl, rfl, rfl, rfl⟩
    · exact ⟨.inl rfl, .inl rfl, rfl, rfl, rfl, rfl⟩
  obtain ⟨b1, b2, b3, b4, b5, b6⟩ := q (min (s.quiet + 1) 51)
  have hs := h.ses
  have hsd := h.seed
  refine ⟨?_, ?_, ?_, ht.w, ht.q, ?_, ?_, ?_, ?_⟩
  · show okIts none (tickW _).items = true
    rw [a5, b5]; exact h.its
  · show 1 ≤ (tickW _).ses ∧ (tickW _).ses ≤ 3
    rw [a1]; rcases b1 with b1 | b1 <;> rw [b1] <;> omega
  · show -1 ≤ (tickW _).seed ∧ (tickW _).seed ≤ _
    rw [a2]; rcases b2 with b2 | b2 <;> rw [b2] <;> omega
  · show 0 ≤ (tickW _).draw ∧ (tickW _).draw ≤ _
    rw [a3, b3]; exact h.draw
  · show 0 ≤ (tickW _).sec ∧ (tickW _).sec ≤ _
    rw [a4, b4]; exact h.sec
  · show (tickW _).items.length ≤ 16
    rw [a5, b5]; exact h.many
  · show rightL (tickW _).dtc = true
    rw [a6, b6]; exact h.dtc
theorem itA_right : ∀ (n : Nat) {s : Srv}, RightS s → RightS (itA tick1 n s)
  | 0, _, h => h
  | n + 1, _, h => itA_right n (tick1_right h)
theorem okIts_set : ∀ {l : List Itm} {p : Option Int} {i : Nat} {x : Itm}, okIts p l = true → i < l.length → x.id = (l.getD i itmZ).id → okIt x = true → okIts p (l.set i x) = true
  | [], _, _, _, _, hi, _, _ => by simp at hi
  | y :: l, p, 0, x, h, hi, hid, hx => by
    simp only [List.set_cons_zero, okIts, Bool.and_eq_true] at h ⊢
    have e : x.id = y.id := hid
    rw [e]
    exact ⟨hx, h.2⟩
  | y :: l, p, i + 1, x, h, hi, hid, hx => by
    simp only [List.set_cons_succ, okIts, Bool.and_eq_true] at h ⊢
    exact ⟨h.1, h.2.1, okIts_set h.2.2 (by simpa using hi) (by simpa using hid) hx⟩
theorem nextDraw_wide (d : Int) : 0 ≤ nextDraw d ∧ nextDraw d ≤ 4294967295 := lowV_wide _
theorem seed1_ok : -1 ≤ (-1 : Int) ∧ (-1 : Int) ≤ 4294967295 := by decide
theorem wrong0_ok : 0 ≤ (0 : Int) ∧ (0 : Int) ≤ 12 := by decide
theorem quiet0_ok : 0 ≤ (0 : Int) ∧ (0 : Int) ≤ 51 := by decide
theorem ask_right {s : Srv} (h : RightS s) (q : List UInt8) : RightS (askV s q).1 := by
  cases q with
  | nil => exact h
  | cons c r =>
    have h0 : RightS { s with quiet := 0 } := ⟨h.its, h.ses, h.seed, h.wrong, quiet0_ok, h.draw, h.sec, h.many, h.dtc⟩
    unfold askV
    revert h0
    generalize ({ s with quiet := 0 } : Srv) = t
    intro h
    simp only
    split
    · unfold sesA; split
      · split
        · rename_i n hn
          simp only [sesOK, Bool.and_eq_true, decide_eq_true_eq] at hn
          exact ⟨h.its, hn, seed1_ok, h.wrong, h.quiet, h.draw, h.sec, h.many, h.dtc⟩
        · exact h
      · exact h
    split
    · unfold unlA; split
      · exact h
      · split
        · split
          · unfold seedA
            split
            · exact h
            split
            · exact h
            split
            · exact h
            · exact ⟨h.its, h.ses, ⟨Int.le_trans (by decide) h.draw.1, h.draw.2⟩, h.wrong, h.quiet, nextDraw_wide _, h.sec, h.many, h.dtc⟩
          · exact h
        · split
          · split
            · unfold keyA
              split
              · exact h
              rename_i hw
              split
              · exact h
              split
              · exact h
              split
              · exact ⟨h.its, h.ses, seed1_ok, wrong0_ok, h.quiet, h.draw, h.sec, h.many, h.dtc⟩
              · have hw2 : t.wrong ≤ 2 := Classical.not_not.1 hw
                have := h.wrong
                refine ⟨h.its, h.ses, seed1_ok, ?_, h.quiet, h.draw, h.sec, h.many, h.dtc⟩
                show 0 ≤ (if t.wrong = 2 then 12 else t.wrong + 1) ∧ (if t.wrong = 2 then 12 else t.wrong + 1) ≤ 12
                split <;> omega
            · exact h
          · exact h
    split
    · unfold readA; split
      · split <;> exact h
      · exact h
    split
    · unfold writeA; split
      · split
        · exact h
        split
        · exact h
        split
        · exact h
        split
        · rename_i i hf
          split
          · rename_i hl
            have hi := find_lt hf
            refine ⟨?_, h.ses, h.seed, h.wrong, h.quiet, h.draw, h.sec, by show (List.set _ _ _).length ≤ 16; rw [List.length_set]; exact h.many, h.dtc⟩
            refine okIts_set h.its hi rfl ?_
            have := okIt_iff.1 (okIts_mem h.its (t.items.getD i itmZ) (by rw [itm_getD hi]; exact List.getElem_mem _))
            rw [okIt_iff]
            exact ⟨this.1, by rw [hl]; exact this.2⟩
          · exact h
        · exact h
      · exact h
    split
    · unfold forgetA; split
      · split
        · exact ⟨h.its, h.ses, h.seed, h.wrong, h.quiet, h.draw, h.sec, h.many, rfl⟩
        · exact h
      · exact h
    split
    · unfold maskA; split <;> exact h
    split
    · unfold hereA; split <;> exact h
    split
    · unfold handA
      split
      · exact h
      split <;> exact h
    · exact h
end Go.Proofs.Ytcdmhigmgpflbaa.Pe

namespace Go.Proofs.Ytcdmhigmgpflbaa.Pe
open Go.Pe Go.RowKit
set_option maxRecDepth 20000
set_option maxHeartbeats 4000000
set_option linter.unusedSimpArgs false
set_option linter.unusedVariables false

theorem ask_at {s : Srv} {q : List UInt8} {r : AskR} (h : askV s q = r) (hr : rightS s = true) : PureCalls Try.prog 41 [s.pv, bytesPV q] r.pv := h ▸ ask_calls s q (rightS_iff.1 hr).fits
theorem newD_at {secret draw : Int} {l : List Itm} {s : Srv} (h : newSrv secret draw l = s) : PureCalls Try.prog 35 [PI secret, PI draw, itmsPV l] s.pv := h ▸ newD_calls secret draw l
theorem tickD_at {s r : Srv} {n : Int} (h : tickDV n s = r) (hr : rightS s = true) : PureCalls Try.prog 38 [s.pv, PI n] r.pv := h ▸ tickD_calls s n (rightS_iff.1 hr).tk
theorem right_at {s : Srv} {b : Bool} (h : rightS s = b) (h1 : s.items.length ≤ 9223372036854775807) (h2 : s.dtc.length ≤ 9223372036854775807) : PureCalls Try.prog 27 [s.pv] (PB b) := h ▸ rightS_calls s h1 h2
theorem same_at {a b : Srv} {r : Bool} (h : decide (a = b) = r) (h1 : a.items.length < 1000000) (h2 : a.dtc.length < 1000000) : PureCalls Try.prog 34 [a.pv, b.pv] (PB r) := h ▸ same22_calls a b h1 h2
theorem key_at {a b : Int} {r : Int} (h : keyV a b = r) : PureCalls Try.prog 29 [PI a, PI b] (PI r) := h ▸ keyD_calls a b
theorem deny_at {a b : Int} {r : List UInt8} (h : denyV a b = r) : PureCalls Try.prog 31 [PI a, PI b] (bytesPV r) := h ▸ deny_calls a b
def hS : Srv := ⟨1, false, -1, 0, 0, 5, 7, [⟨258, true, [1, 2]⟩], []⟩
def hS2 : Srv := ⟨2, false, -1, 0, 0, 5, 7, [⟨258, true, [1, 2]⟩], []⟩
def hS5 : Srv := ⟨2, false, 5, 0, 0, 1022226848, 7, [⟨258, true, [1, 2]⟩], []⟩
def hSq : Srv := ⟨1, false, -1, 0, 3, 5, 7, [⟨258, true, [1, 2]⟩], []⟩
def hZ : Srv := ⟨0, false, 0, 0, 0, 0, 0, [], []⟩
theorem hKey : keyV 0 0 = 0 := by decide +kernel
theorem h22_calls : PureCalls Try.prog 26 [] (PB true) := by
  refine PureCalls.of tabOK mixed Try.func26 rfl rfl (by decide +kernel) (by simp [Try.ntmps26]) ?_
  have c0 := newD_at (secret := 7) (draw := 5) (l := [⟨258, true, [1, 2]⟩]) (s := hS) (by decide +kernel)
  have r0 : rightS hS = true := by decide +kernel
  have c1 := ask_at (s := hS) (q := [0x3E]) (r := (hS, [0x7E], false)) (by decide +kernel) r0
  have c2 := ask_at (s := hS) (q := [0x10, 2]) (r := (hS2, [0x50, 2], false)) (by decide +kernel) r0
  have c3 := ask_at (s := hS) (q := [0x27, 1]) (r := (hS, [0x7f, 0x27, 0x22], false)) (by decide +kernel) r0
  have c4 := ask_at (s := hS) (q := [0x34]) (r := (hS, [0x7f, 0x34, 0x22], false)) (by decide +kernel) r0
  have c5 := ask_at (s := hS) (q := [0x99, 1]) (r := (hS, [0x7f, 0x99, 0x11], false)) (by decide +kernel) r0
  have c6 := ask_at (s := hS) (q := [0x22, 1, 2]) (r := (hS, [0x62, 1, 2, 1, 2], false)) (by decide +kernel) r0
  have c7 := ask_at (s := hS) (q := [0x10]) (r := (hS, [0x7f, 0x10, 0x13], false)) (by decide +kernel) r0
  have c8 := ask_at (s := hS) (q := [0x27, 3, 9]) (r := (hS, [0x7f, 0x27, 0x31], false)) (by decide +kernel) r0
  have c9 := ask_at (s := hS2) (q := [0x27, 1]) (r := (hS5, [0x67, 1, 0, 0, 0, 5], false)) (by decide +kernel) (by decide +kernel)
  have c10 := ask_at (s := hS) (q := []) (r := (hS, [], false)) (by decide +kernel) r0
  have c11 := same_at (a := hS) (b := hS) (r := true) (by decide +kernel) (by decide) (by decide)
  have c12 := right_at (s := hS) (b := true) (by decide +kernel) (by decide) (by decide)
  have c13 := right_at (s := hZ) (b := false) (by decide +kernel) (by decide) (by decide)
  have c14 := deny_at (a := 0x134) (b := 0x22) (r := [0x7f, 0x34, 0x22]) (by decide +kernel)
  have c15 := key_at hKey
  have c16 := tickD_at (s := hS) (n := 3) (r := hSq) (by decide +kernel) r0
  simp only [go_sem, Nat.reduceAdd, Nat.reduceSub, Nat.reduceMul, Nat.reduceLT, Nat.reduceLeDiff, Nat.reduceEqDiff, Nat.reduceBEq, Int.reduceToNat, Int.reduceLT, Int.reduceLE, Int.reduceEq, Int.reduceNe, Int.reduceAdd, Int.reduceSub, Int.reduceMul, Int.reduceNeg, ↓reduceIte, reduceCtorEq, Try.ntmps26, Try.results26]
  (refine CallA.pure (c0) (by simp only [go_sem, Nat.reduceAdd, Nat.reduceSub, Nat.reduceMul, Nat.reduceLT, Nat.reduceLeDiff, Nat.reduceEqDiff, Nat.reduceBEq, Int.reduceToNat, Int.reduceLT, Int.reduceLE, Int.reduceEq, Int.reduceNe, Int.reduceAdd, Int.reduceSub, Int.reduceMul, Int.reduceNeg, ↓reduceIte, reduceCtorEq, hS, hS2, hS5, hSq, hZ, Srv.pv, Srv.cells, Itm.cells, itmRows, List.map_cons, List.map_nil, trbRows] <;> first | rfl | decide) ?_; simp only [go_sem, Nat.reduceAdd, Nat.reduceSub, Nat.reduceMul, Nat.reduceLT, Nat.reduceLeDiff, Nat.reduceEqDiff, Nat.reduceBEq, Int.reduceToNat, Int.reduceLT, Int.reduceLE, Int.reduceEq, Int.reduceNe, Int.reduceAdd, Int.reduceSub, Int.reduceMul, Int.reduceNeg, ↓reduceIte, reduceCtorEq, hS, hS2, hS5, hSq, hZ, Srv.pv, Srv.cells, Itm.cells, itmRows, List.map_cons, List.map_nil, trbRows])
  (refine CallA.pure (c1) (by simp only [go_sem, Nat.reduceAdd, Nat.reduceSub, Nat.reduceMul, Nat.reduceLT, Nat.reduceLeDiff, Nat.reduceEqDiff, Nat.reduceBEq, Int.reduceToNat, Int.reduceLT, Int.reduceLE, Int.reduceEq, Int.reduceNe, Int.reduceAdd, Int.reduceSub, Int.reduceMul, Int.reduceNeg, ↓reduceIte, reduceCtorEq, hS, hS2, hS5, hSq, hZ, Srv.pv, Srv.cells, Itm.cells, itmRows, List.map_cons, List.map_nil, trbRows] <;> first | rfl | decide) ?_; simp only [go_sem, Nat.reduceAdd, Nat.reduceSub, Nat.reduceMul, Nat.reduceLT, Nat.reduceLeDiff, Nat.reduceEqDiff, Nat.reduceBEq, Int.reduceToNat, Int.reduceLT, Int.reduceLE, Int.reduceEq, Int.reduceNe, Int.reduceAdd, Int.reduceSub, Int.reduceMul, Int.reduceNeg, ↓reduceIte, reduceCtorEq, hS, hS2, hS5, hSq, hZ, Srv.pv, Srv.cells, Itm.cells, itmRows, List.map_cons, List.map_nil, trbRows])
  (refine CallA.pure (c2) (by simp only [go_sem, Nat.reduceAdd, Nat.reduceSub, Nat.reduceMul, Nat.reduceLT, Nat.reduceLeDiff, Nat.reduceEqDiff, Nat.reduceBEq, Int.reduceToNat, Int.reduceLT, Int.reduceLE, Int.reduceEq, Int.reduceNe, Int.reduceAdd, Int.reduceSub, Int.reduceMul, Int.reduceNeg, ↓reduceIte, reduceCtorEq, hS, hS2, hS5, hSq, hZ, Srv.pv, Srv.cells, Itm.cells, itmRows, List.map_cons, List.map_nil, trbRows] <;> first | rfl | decide) ?_; simp only [go_sem, Nat.reduceAdd, Nat.reduceSub, Nat.reduceMul, Nat.reduceLT, Nat.reduceLeDiff, Nat.reduceEqDiff, Nat.reduceBEq, Int.reduceToNat, Int.reduceLT, Int.reduceLE, Int.reduceEq, Int.reduceNe, Int.reduceAdd, Int.reduceSub, Int.reduceMul, Int.reduceNeg, ↓reduceIte, reduceCtorEq, hS, hS2, hS5, hSq, hZ, Srv.pv, Srv.cells, Itm.cells, itmRows, List.map_cons, List.map_nil, trbRows])
  (refine CallA.pure (c3) (by simp only [go_sem, Nat.reduceAdd, Nat.reduceSub, Nat.reduceMul, Nat.reduceLT, Nat.reduceLeDiff, Nat.reduceEqDiff, Nat.reduceBEq, Int.reduceToNat, Int.reduceLT, Int.reduceLE, Int.reduceEq, Int.reduceNe, Int.reduceAdd, Int.reduceSub, Int.reduceMul, Int.reduceNeg, ↓reduceIte, reduceCtorEq, hS, hS2, hS5, hSq, hZ, Srv.pv, Srv.cells, Itm.cells, itmRows, List.map_cons, List.map_nil, trbRows] <;> first | rfl | decide) ?_; simp only [go_sem, Nat.reduceAdd, Nat.reduceSub, Nat.reduceMul, Nat.reduceLT, Nat.reduceLeDiff, Nat.reduceEqDiff, Nat.reduceBEq, Int.reduceToNat, Int.reduceLT, Int.reduceLE, Int.reduceEq, Int.reduceNe, Int.reduceAdd, Int.reduceSub, Int.reduceMul, Int.reduceNeg, ↓reduceIte, reduceCtorEq, hS, hS2, hS5, hSq, hZ, Srv.pv, Srv.cells, Itm.cells, itmRows, List.map_cons, List.map_nil, trbRows])
  (refine CallA.pure (c4) (by simp only [go_sem, Nat.reduceAdd, Nat.reduceSub, Nat.reduceMul, Nat.reduceLT, Nat.reduceLeDiff, Nat.reduceEqDiff, Nat.reduceBEq, Int.reduceToNat, Int.reduceLT, Int.reduceLE, Int.reduceEq, Int.reduceNe, Int.reduceAdd, Int.reduceSub, Int.reduceMul, Int.reduceNeg, ↓reduceIte, reduceCtorEq, hS, hS2, hS5, hSq, hZ, Srv.pv, Srv.cells, Itm.cells, itmRows, List.map_cons, List.map_nil, trbRows] <;> first | rfl | decide) ?_; simp only [go_sem, Nat.reduceAdd, Nat.reduceSub, Nat.reduceMul, Nat.reduceLT, Nat.reduceLeDiff, Nat.reduceEqDiff, Nat.reduceBEq, Int.reduceToNat, Int.reduceLT, Int.reduceLE, Int.reduceEq, Int.reduceNe, Int.reduceAdd, Int.reduceSub, Int.reduceMul, Int.reduceNeg, ↓reduceIte, reduceCtorEq, hS, hS2, hS5, hSq, hZ, Srv.pv, Srv.cells, Itm.cells, itmRows, List.map_cons, List.map_nil, trbRows])
  (refine CallA.pure (c5) (by simp only [go_sem, Nat.reduceAdd, Nat.reduceSub, Nat.reduceMul, Nat.reduceLT, Nat.reduceLeDiff, Nat.reduceEqDiff, Nat.reduceBEq, Int.reduceToNat, Int.reduceLT, Int.reduceLE, Int.reduceEq, Int.reduceNe, Int.reduceAdd, Int.reduceSub, Int.reduceMul, Int.reduceNeg, ↓reduceIte, reduceCtorEq, hS, hS2, hS5, hSq, hZ, Srv.pv, Srv.cells, Itm.cells, itmRows, List.map_cons, List.map_nil, trbRows] <;> first | rfl | decide) ?_; simp only [go_sem, Nat.reduceAdd, Nat.reduceSub, Nat.reduceMul, Nat.reduceLT, Nat.reduceLeDiff, Nat.reduceEqDiff, Nat.reduceBEq, Int.reduceToNat, Int.reduceLT, Int.reduceLE, Int.reduceEq, Int.reduceNe, Int.reduceAdd, Int.reduceSub, Int.reduceMul, Int.reduceNeg, ↓reduceIte, reduceCtorEq, hS, hS2, hS5, hSq, hZ, Srv.pv, Srv.cells, Itm.cells, itmRows, List.map_cons, List.map_nil, trbRows])
  (refine CallA.pure (c6) (by simp only [go_sem, Nat.reduceAdd, Nat.reduceSub, Nat.reduceMul, Nat.reduceLT, Nat.reduceLeDiff, Nat.reduceEqDiff, Nat.reduceBEq, Int.reduceToNat, Int.reduceLT, Int.reduceLE, Int.reduceEq, Int.reduceNe, Int.reduceAdd, Int.reduceSub, Int.reduceMul, Int.reduceNeg, ↓reduceIte, reduceCtorEq, hS, hS2, hS5, hSq, hZ, Srv.pv, Srv.cells, Itm.cells, itmRows, List.map_cons, List.map_nil, trbRows] <;> first | rfl | decide) ?_; simp only [go_sem, Nat.reduceAdd, Nat.reduceSub, Nat.reduceMul, Nat.reduceLT, Nat.reduceLeDiff, Nat.reduceEqDiff, Nat.reduceBEq, Int.reduceToNat, Int.reduceLT, Int.reduceLE, Int.reduceEq, Int.reduceNe, Int.reduceAdd, Int.reduceSub, Int.reduceMul, Int.reduceNeg, ↓reduceIte, reduceCtorEq, hS, hS2, hS5, hSq, hZ, Srv.pv, Srv.cells, Itm.cells, itmRows, List.map_cons, List.map_nil, trbRows])
  (refine CallA.pure (c7) (by simp only [go_sem, Nat.reduceAdd, Nat.reduceSub, Nat.reduceMul, Nat.reduceLT, Nat.reduceLeDiff, Nat.reduceEqDiff, Nat.reduceBEq, Int.reduceToNat, Int.reduceLT, Int.reduceLE, Int.reduceEq, Int.reduceNe, Int.reduceAdd, Int.reduceSub, Int.reduceMul, Int.reduceNeg, ↓reduceIte, reduceCtorEq, hS, hS2, hS5, hSq, hZ, Srv.pv, Srv.cells, Itm.cells, itmRows, List.map_cons, List.map_nil, trbRows] <;> first | rfl | decide) ?_; simp only [go_sem, Nat.reduceAdd, Nat.reduceSub, Nat.reduceMul, Nat.reduceLT, Nat.reduceLeDiff, Nat.reduceEqDiff, Nat.reduceBEq, Int.reduceToNat, Int.reduceLT, Int.reduceLE, Int.reduceEq, Int.reduceNe, Int.reduceAdd, Int.reduceSub, Int.reduceMul, Int.reduceNeg, ↓reduceIte, reduceCtorEq, hS, hS2, hS5, hSq, hZ, Srv.pv, Srv.cells, Itm.cells, itmRows, List.map_cons, List.map_nil, trbRows])
  (refine CallA.pure (c8) (by simp only [go_sem, Nat.reduceAdd, Nat.reduceSub, Nat.reduceMul, Nat.reduceLT, Nat.reduceLeDiff, Nat.reduceEqDiff, Nat.reduceBEq, Int.reduceToNat, Int.reduceLT, Int.reduceLE, Int.reduceEq, Int.reduceNe, Int.reduceAdd, Int.reduceSub, Int.reduceMul, Int.reduceNeg, ↓reduceIte, reduceCtorEq, hS, hS2, hS5, hSq, hZ, Srv.pv, Srv.cells, Itm.cells, itmRows, List.map_cons, List.map_nil, trbRows] <;> first | rfl | decide) ?_; simp only [go_sem, Nat.reduceAdd, Nat.reduceSub, Nat.reduceMul, Nat.reduceLT, Nat.reduceLeDiff, Nat.reduceEqDiff, Nat.reduceBEq, Int.reduceToNat, Int.reduceLT, Int.reduceLE, Int.reduceEq, Int.reduceNe, Int.reduceAdd, Int.reduceSub, Int.reduceMul, Int.reduceNeg, ↓reduceIte, reduceCtorEq, hS, hS2, hS5, hSq, hZ, Srv.pv, Srv.cells, Itm.cells, itmRows, List.map_cons, List.map_nil, trbRows])
  (refine CallA.pure (c9) (by simp only [go_sem, Nat.reduceAdd, Nat.reduceSub, Nat.reduceMul, Nat.reduceLT, Nat.reduceLeDiff, Nat.reduceEqDiff, Nat.reduceBEq, Int.reduceToNat, Int.reduceLT, Int.reduceLE, Int.reduceEq, Int.reduceNe, Int.reduceAdd, Int.reduceSub, Int.reduceMul, Int.reduceNeg, ↓reduceIte, reduceCtorEq, hS, hS2, hS5, hSq, hZ, Srv.pv, Srv.cells, Itm.cells, itmRows, List.map_cons, List.map_nil, trbRows] <;> first | rfl | decide) ?_; simp only [go_sem, Nat.reduceAdd, Nat.reduceSub, Nat.reduceMul, Nat.reduceLT, Nat.reduceLeDiff, Nat.reduceEqDiff, Nat.reduceBEq, Int.reduceToNat, Int.reduceLT, Int.reduceLE, Int.reduceEq, Int.reduceNe, Int.reduceAdd, Int.reduceSub, Int.reduceMul, Int.reduceNeg, ↓reduceIte, reduceCtorEq, hS, hS2, hS5, hSq, hZ, Srv.pv, Srv.cells, Itm.cells, itmRows, List.map_cons, List.map_nil, trbRows])
  (refine CallA.pure (c10) (by simp only [go_sem, Nat.reduceAdd, Nat.reduceSub, Nat.reduceMul, Nat.reduceLT, Nat.reduceLeDiff, Nat.reduceEqDiff, Nat.reduceBEq, Int.reduceToNat, Int.reduceLT, Int.reduceLE, Int.reduceEq, Int.reduceNe, Int.reduceAdd, Int.reduceSub, Int.reduceMul, Int.reduceNeg, ↓reduceIte, reduceCtorEq, hS, hS2, hS5, hSq, hZ, Srv.pv, Srv.cells, Itm.cells, itmRows, List.map_cons, List.map_nil, trbRows] <;> first | rfl | decide) ?_; simp only [go_sem, Nat.reduceAdd, Nat.reduceSub, Nat.reduceMul, Nat.reduceLT, Nat.reduceLeDiff, Nat.reduceEqDiff, Nat.reduceBEq, Int.reduceToNat, Int.reduceLT, Int.reduceLE, Int.reduceEq, Int.reduceNe, Int.reduceAdd, Int.reduceSub, Int.reduceMul, Int.reduceNeg, ↓reduceIte, reduceCtorEq, hS, hS2, hS5, hSq, hZ, Srv.pv, Srv.cells, Itm.cells, itmRows, List.map_cons, List.map_nil, trbRows])
  (refine CallA.pure (c11) (by simp only [go_sem, Nat.reduceAdd, Nat.reduceSub, Nat.reduceMul, Nat.reduceLT, Nat.reduceLeDiff, Nat.reduceEqDiff, Nat.reduceBEq, Int.reduceToNat, Int.reduceLT, Int.reduceLE, Int.reduceEq, Int.reduceNe, Int.reduceAdd, Int.reduceSub, Int.reduceMul, Int.reduceNeg, ↓reduceIte, reduceCtorEq, hS, hS2, hS5, hSq, hZ, Srv.pv, Srv.cells, Itm.cells, itmRows, List.map_cons, List.map_nil, trbRows, Try.ntmps26, Try.results26] <;> first | rfl | decide) ?_; simp only [go_sem, Nat.reduceAdd, Nat.reduceSub, Nat.reduceMul, Nat.reduceLT, Nat.reduceLeDiff, Nat.reduceEqDiff, Nat.reduceBEq, Int.reduceToNat, Int.reduceLT, Int.reduceLE, Int.reduceEq, Int.reduceNe, Int.reduceAdd, Int.reduceSub, Int.reduceMul, Int.reduceNeg, ↓reduceIte, reduceCtorEq, hS, hS2, hS5, hSq, hZ, Srv.pv, Srv.cells, Itm.cells, itmRows, List.map_cons, List.map_nil, trbRows, Try.ntmps26, Try.results26])
  (refine CallA.pure (c12) (by simp only [go_sem, Nat.reduceAdd, Nat.reduceSub, Nat.reduceMul, Nat.reduceLT, Nat.reduceLeDiff, Nat.reduceEqDiff, Nat.reduceBEq, Int.reduceToNat, Int.reduceLT, Int.reduceLE, Int.reduceEq, Int.reduceNe, Int.reduceAdd, Int.reduceSub, Int.reduceMul, Int.reduceNeg, ↓reduceIte, reduceCtorEq, hS, hS2, hS5, hSq, hZ, Srv.pv, Srv.cells, Itm.cells, itmRows, List.map_cons, List.map_nil, trbRows, Try.ntmps26, Try.results26] <;> first | rfl | decide) ?_; simp only [go_sem, Nat.reduceAdd, Nat.reduceSub, Nat.reduceMul, Nat.reduceLT, Nat.reduceLeDiff, Nat.reduceEqDiff, Nat.reduceBEq, Int.reduceToNat, Int.reduceLT, Int.reduceLE, Int.reduceEq, Int.reduceNe, Int.reduceAdd, Int.reduceSub, Int.reduceMul, Int.reduceNeg, ↓reduceIte, reduceCtorEq, hS, hS2, hS5, hSq, hZ, Srv.pv, Srv.cells, Itm.cells, itmRows, List.map_cons, List.map_nil, trbRows, Try.ntmps26, Try.results26])
  (refine CallA.pure (c13) (by simp only [go_sem, Nat.reduceAdd, Nat.reduceSub, Nat.reduceMul, Nat.reduceLT, Nat.reduceLeDiff, Nat.reduceEqDiff, Nat.reduceBEq, Int.reduceToNat, Int.reduceLT, Int.reduceLE, Int.reduceEq, Int.reduceNe, Int.reduceAdd, Int.reduceSub, Int.reduceMul, Int.reduceNeg, ↓reduceIte, reduceCtorEq, hS, hS2, hS5, hSq, hZ, Srv.pv, Srv.cells, Itm.cells, itmRows, List.map_cons, List.map_nil, trbRows, Try.ntmps26, Try.results26] <;> first | rfl | decide) ?_; simp only [go_sem, Nat.reduceAdd, Nat.reduceSub, Nat.reduceMul, Nat.reduceLT, Nat.reduceLeDiff, Nat.reduceEqDiff, Nat.reduceBEq, Int.reduceToNat, Int.reduceLT, Int.reduceLE, Int.reduceEq, Int.reduceNe, Int.reduceAdd, Int.reduceSub, Int.reduceMul, Int.reduceNeg, ↓reduceIte, reduceCtorEq, hS, hS2, hS5, hSq, hZ, Srv.pv, Srv.cells, Itm.cells, itmRows, List.map_cons, List.map_nil, trbRows, Try.ntmps26, Try.results26])
  (refine CallA.pure (c14) (by simp only [go_sem, Nat.reduceAdd, Nat.reduceSub, Nat.reduceMul, Nat.reduceLT, Nat.reduceLeDiff, Nat.reduceEqDiff, Nat.reduceBEq, Int.reduceToNat, Int.reduceLT, Int.reduceLE, Int.reduceEq, Int.reduceNe, Int.reduceAdd, Int.reduceSub, Int.reduceMul, Int.reduceNeg, ↓reduceIte, reduceCtorEq, hS, hS2, hS5, hSq, hZ, Srv.pv, Srv.cells, Itm.cells, itmRows, List.map_cons, List.map_nil, trbRows, Try.ntmps26, Try.results26] <;> first | rfl | decide) ?_; simp only [go_sem, Nat.reduceAdd, Nat.reduceSub, Nat.reduceMul, Nat.reduceLT, Nat.reduceLeDiff, Nat.reduceEqDiff, Nat.reduceBEq, Int.reduceToNat, Int.reduceLT, Int.reduceLE, Int.reduceEq, Int.reduceNe, Int.reduceAdd, Int.reduceSub, Int.reduceMul, Int.reduceNeg, ↓reduceIte, reduceCtorEq, hS, hS2, hS5, hSq, hZ, Srv.pv, Srv.cells, Itm.cells, itmRows, List.map_cons, List.map_nil, trbRows, Try.ntmps26, Try.results26])
  (refine CallA.pure (c15) (by simp only [go_sem, Nat.reduceAdd, Nat.reduceSub, Nat.reduceMul, Nat.reduceLT, Nat.reduceLeDiff, Nat.reduceEqDiff, Nat.reduceBEq, Int.reduceToNat, Int.reduceLT, Int.reduceLE, Int.reduceEq, Int.reduceNe, Int.reduceAdd, Int.reduceSub, Int.reduceMul, Int.reduceNeg, ↓reduceIte, reduceCtorEq, hS, hS2, hS5, hSq, hZ, Srv.pv, Srv.cells, Itm.cells, itmRows, List.map_cons, List.map_nil, trbRows, Try.ntmps26, Try.results26] <;> first | rfl | decide) ?_; simp only [go_sem, Nat.reduceAdd, Nat.reduceSub, Nat.reduceMul, Nat.reduceLT, Nat.reduceLeDiff, Nat.reduceEqDiff, Nat.reduceBEq, Int.reduceToNat, Int.reduceLT, Int.reduceLE, Int.reduceEq, Int.reduceNe, Int.reduceAdd, Int.reduceSub, Int.reduceMul, Int.reduceNeg, ↓reduceIte, reduceCtorEq, hS, hS2, hS5, hSq, hZ, Srv.pv, Srv.cells, Itm.cells, itmRows, List.map_cons, List.map_nil, trbRows, Try.ntmps26, Try.results26])
  (refine CallA.pure (c16) (by simp only [go_sem, Nat.reduceAdd, Nat.reduceSub, Nat.reduceMul, Nat.reduceLT, Nat.reduceLeDiff, Nat.reduceEqDiff, Nat.reduceBEq, Int.reduceToNat, Int.reduceLT, Int.reduceLE, Int.reduceEq, Int.reduceNe, Int.reduceAdd, Int.reduceSub, Int.reduceMul, Int.reduceNeg, ↓reduceIte, reduceCtorEq, hS, hS2, hS5, hSq, hZ, Srv.pv, Srv.cells, Itm.cells, itmRows, List.map_cons, List.map_nil, trbRows, Try.ntmps26, Try.results26] <;> first | rfl | decide) ?_; simp only [go_sem, Nat.reduceAdd, Nat.reduceSub, Nat.reduceMul, Nat.reduceLT, Nat.reduceLeDiff, Nat.reduceEqDiff, Nat.reduceBEq, Int.reduceToNat, Int.reduceLT, Int.reduceLE, Int.reduceEq, Int.reduceNe, Int.reduceAdd, Int.reduceSub, Int.reduceMul, Int.reduceNeg, ↓reduceIte, reduceCtorEq, hS, hS2, hS5, hSq, hZ, Srv.pv, Srv.cells, Itm.cells, itmRows, List.map_cons, List.map_nil, trbRows, Try.ntmps26, Try.results26])
end Go.Proofs.Ytcdmhigmgpflbaa.Pe
