import Derived.Test.YtefcpcepgflhdaaC9
namespace Go.Proofs.Ytefcpcepgflhdaa.Pe
open Go.Pe Go.RowKit
set_option maxRecDepth 20000
set_option maxHeartbeats 4000000
set_option linter.unusedSimpArgs false

structure OpS where
  kind : Int
  p : Pdu
  n : UInt8
def OpS.row (o : OpS) : List PV := [PI o.kind, PI o.p.k, PI o.p.l, PI o.p.n, PI o.p.s, PI o.p.b, PI o.p.g, bytesPV o.p.d, .lit (.int .u8 o.n.toNat)]
def opsPV (l : List OpS) : PV := .im 9 (l.map OpS.row)
abbrev U8 (n : UInt8) : PV := .lit (.int .u8 n.toNat)
abbrev Snd.cells (s : Snd) : List PV := [PI s.st, bytesPV s.text, PI s.pos, PI s.num, PI s.left, PI s.gap, PI s.clock, PI s.waits, PI s.err]
theorem hcutE (b : List UInt8) : List.take (if 300 < (b.length : Int) then 300 else (b.length : Int)).toNat b = b.take 300 := by
  split
  · rfl
  · rw [List.take_of_length_le (by omega), List.take_of_length_le (by omega)]
def overR (n : UInt8) : Int := (IntKind.wrap .i64 n.toNat).tmod 40
def overSt (ops : List OpS) (n : UInt8) (s : Snd) (i : Nat) : St := ⟨117, [(1, opsPV ops), (2, U8 n), (7, PB true), (8, .ptr 0 0), (11, PI i)], [(0, .box 28 s.cells)], 9, 0⟩
def overI (ops : List OpS) (n : UInt8) (m : Nat) (st : St) : Prop := ∃ (i : Nat) (s : Snd), i ≤ 40 ∧ m = 40 - i ∧ s.ok ∧ (s.st = 1 ∨ s.st = 3) ∧ st = overSt ops n s i
def over2St (ops : List OpS) (g : Snd) (i : Nat) : St := ⟨117, [(1, opsPV ops), (7, PB true), (8, .ptr 0 0), (15, PI i)], [(0, .box 28 g.cells)], 9, 0⟩
def over2I (ops : List OpS) (g : Snd) (m : Nat) (st : St) : Prop := ∃ i : Nat, i ≤ 80 ∧ m = 80 - i ∧ st = over2St ops g i
theorem over_calls (b : List UInt8) (ops : List OpS) (n : UInt8) : PureCalls Try.prog 8 [bytesPV b, opsPV ops, U8 n] (PB true) := by
  refine PureCalls.of tabOK mixed Try.func8 rfl rfl (by decide +kernel) (by simp [Try.ntmps8]) ?_
  simp only [go_sem, Nat.reduceAdd, Nat.reduceSub, Nat.reduceMul, Nat.reduceLT, Nat.reduceLeDiff, Nat.reduceEqDiff, Nat.reduceBEq, Int.reduceToNat, Int.reduceLT, Int.reduceLE, Int.reduceEq, Int.reduceNe, Int.reduceAdd, Int.reduceSub, Int.reduceMul, Int.reduceNeg, ↓reduceIte, reduceCtorEq, Try.ntmps8, Try.results8]
  refine CallA.same head_calls (by simp only [go_sem, Nat.reduceAdd, Nat.reduceSub, Nat.reduceMul, Nat.reduceLT, Nat.reduceLeDiff, Nat.reduceEqDiff, Nat.reduceBEq, Int.reduceToNat, Int.reduceLT, Int.reduceLE, Int.reduceEq, Int.reduceNe, Int.reduceAdd, Int.reduceSub, Int.reduceMul, Int.reduceNeg, ↓reduceIte, reduceCtorEq]) ?_
  simp only [go_sem, Nat.reduceAdd, Nat.reduceSub, Nat.reduceMul, Nat.reduceLT, Nat.reduceLeDiff, Nat.reduceEqDiff, Nat.reduceBEq, Int.reduceToNat, Int.reduceLT, Int.reduceLE, Int.reduceEq, Int.reduceNe, Int.reduceAdd, Int.reduceSub, Int.reduceMul, Int.reduceNeg, ↓reduceIte, reduceCtorEq]
  refine CallA.same (cut_calls b) (by simp only [go_sem, Nat.reduceAdd, Nat.reduceSub, Nat.reduceMul, Nat.reduceLT, Nat.reduceLeDiff, Nat.reduceEqDiff, Nat.reduceBEq, Int.reduceToNat, Int.reduceLT, Int.reduceLE, Int.reduceEq, Int.reduceNe, Int.reduceAdd, Int.reduceSub, Int.reduceMul, Int.reduceNeg, ↓reduceIte, reduceCtorEq]) ?_
  generalize htt : b.take 300 = tt
  have hlen : tt.length ≤ 300 := by subst htt; simp; omega
  simp only [go_sem, Nat.reduceAdd, Nat.reduceSub, Nat.reduceMul, Nat.reduceLT, Nat.reduceLeDiff, Nat.reduceEqDiff, Nat.reduceBEq, Int.reduceToNat, Int.reduceLT, Int.reduceLE, Int.reduceEq, Int.reduceNe, Int.reduceAdd, Int.reduceSub, Int.reduceMul, Int.reduceNeg, ↓reduceIte, reduceCtorEq]
  refine CallA.same (new_calls tt) (by simp only [go_sem, Nat.reduceAdd, Nat.reduceSub, Nat.reduceMul, Nat.reduceLT, Nat.reduceLeDiff, Nat.reduceEqDiff, Nat.reduceBEq, Int.reduceToNat, Int.reduceLT, Int.reduceLE, Int.reduceEq, Int.reduceNe, Int.reduceAdd, Int.reduceSub, Int.reduceMul, Int.reduceNeg, ↓reduceIte, reduceCtorEq]) ?_
  by_cases h0 : tt.length = 0
  · have hE : newE tt = 1 := by simp [newE, h0]
    simp only [go_sem, Nat.reduceAdd, Nat.reduceSub, Nat.reduceMul, Nat.reduceLT, Nat.reduceLeDiff, Nat.reduceEqDiff, Nat.reduceBEq, Int.reduceToNat, Int.reduceLT, Int.reduceLE, Int.reduceEq, Int.reduceNe, Int.reduceAdd, Int.reduceSub, Int.reduceMul, Int.reduceNeg, ↓reduceIte, reduceCtorEq, hE, h0, Snd.pv, Pdu.pv, Try.ntmps8, Try.results8]
  have hE : newE tt = 0 := by
    unfold newE
    rw [if_neg h0, if_neg (by omega)]
  have hok : (newS tt).ok ∧ ((newS tt).st = 1 ∨ (newS tt).st = 3) := by
    unfold newS Snd.ok
    rw [if_neg (by omega)]
    split <;> simp <;> omega
  obtain ⟨s0, hs0⟩ : ∃ s, s = newS tt := ⟨_, rfl⟩
  rw [← hs0] at hok ⊢
  simp only [go_sem, Nat.reduceAdd, Nat.reduceSub, Nat.reduceMul, Nat.reduceLT, Nat.reduceLeDiff, Nat.reduceEqDiff, Nat.reduceBEq, Int.reduceToNat, Int.reduceLT, Int.reduceLE, Int.reduceEq, Int.reduceNe, Int.reduceAdd, Int.reduceSub, Int.reduceMul, Int.reduceNeg, ↓reduceIte, reduceCtorEq, hE, Snd.pv, Pdu.pv, Try.ntmps8, Try.results8]
  refine wpA_loop (overI ops n) ⟨40, _, ?_, 0, s0, by omega, by omega, hok.1, hok.2, rfl⟩ ?_
  · simp only [go_sem, Nat.reduceAdd, Nat.reduceSub, Nat.reduceMul, Nat.reduceLT, Nat.reduceLeDiff, Nat.reduceEqDiff, Nat.reduceBEq, Int.reduceToNat, Int.reduceLT, Int.reduceLE, Int.reduceEq, Int.reduceNe, Int.reduceAdd, Int.reduceSub, Int.reduceMul, Int.reduceNeg, ↓reduceIte, reduceCtorEq, Int.natCast_zero, opsPV, overSt]
  clear hok hs0 hE h0 hlen htt s0
  rintro m st ⟨i, s, hi, rfl, hok, hst, rfl⟩
  have hr : overR n < 40 := Int.tmod_lt_of_pos _ (by omega)
  generalize hR : overR n = r at hr
  unfold overR at hR
  by_cases hg : (i : Int) < r ∧ ¬ s.st = 3
  · have e1 : decide ((i : Int) < r) = true := by simp; omega
    have e2 : decide (s.st = 3) = false := by simp [hg.2]
    have hs1 : s.st = 1 := by omega
    have cT := take_calls s ⟨4, 0, 0, 0, 1, 0, []⟩
    have hgo : ∃ g, takeS s ⟨4, 0, 0, 0, 1, 0, []⟩ = g ∧ g.ok ∧ g.goes = true ∧ ((nextS g).st = 1 ∨ (nextS g).st = 3) ∧ (nextS g).ok := by
      refine ⟨_, rfl, ?_⟩
      have : takeS s ⟨4, 0, 0, 0, 1, 0, []⟩ = ⟨2, s.text, s.pos, s.num, 1, 0, 0, 0, s.err⟩ := by simp [takeS, Snd.takes, Pdu.right, hs1]
      rw [this]
      obtain ⟨o1, o2, o3⟩ := hok
      refine ⟨⟨o1, o2, o3⟩, by simp [Snd.goes], ?_, ?_⟩
      · simp [nextS, Snd.goes, nextT]
        split
        · rename_i hh
          simp [hh]
        · left; simp [IntKind.wrap, IntKind.bits, IntKind.signed]
      · simp only [nextS, Snd.goes, Snd.ok, nextTo]
        simp
        split <;> omega
    obtain ⟨g, hg1, hg2, hg3, hg4, hg5⟩ := hgo
    rw [hg1] at cT
    have cN := next_calls g hg2
    rw [hg3] at cN
    generalize nextS g = s' at cN hg4 hg5
    generalize nextP g = p' at cN
    have hw : IntKind.wrap .i64 ((i : Int) + 1) = ((i + 1 : Nat) : Int) := by rw [wrapI64 (by omega)]; rfl
    have fin : ∀ st', Weak st' (overSt ops n s' (i + 1)) → ∃ m' s'', m' < 40 - i ∧ Weak st' s'' ∧ overI ops n m' s'' :=
      fun st' h => ⟨40 - (i + 1), _, by omega, h, i + 1, s', by omega, rfl, hg5, hg4, rfl⟩
    simp only [go_sem, Nat.reduceAdd, Nat.reduceSub, Nat.reduceMul, Nat.reduceLT, Nat.reduceLeDiff, Nat.reduceEqDiff, Nat.reduceBEq, Int.reduceToNat, Int.reduceLT, Int.reduceLE, Int.reduceEq, Int.reduceNe, Int.reduceAdd, Int.reduceSub, Int.reduceMul, Int.reduceNeg, ↓reduceIte, reduceCtorEq, overSt, hR, e1, e2]
    refine callD_same (flow_calls _ _ _) (by simp only [go_sem, Nat.reduceAdd, Nat.reduceSub, Nat.reduceMul, Nat.reduceLT, Nat.reduceLeDiff, Nat.reduceEqDiff, Nat.reduceBEq, Int.reduceToNat, Int.reduceLT, Int.reduceLE, Int.reduceEq, Int.reduceNe, Int.reduceAdd, Int.reduceSub, Int.reduceMul, Int.reduceNeg, ↓reduceIte, reduceCtorEq]) ?_
    simp only [go_sem, Nat.reduceAdd, Nat.reduceSub, Nat.reduceMul, Nat.reduceLT, Nat.reduceLeDiff, Nat.reduceEqDiff, Nat.reduceBEq, Int.reduceToNat, Int.reduceLT, Int.reduceLE, Int.reduceEq, Int.reduceNe, Int.reduceAdd, Int.reduceSub, Int.reduceMul, Int.reduceNeg, ↓reduceIte, reduceCtorEq, Snd.pv, Pdu.pv]
    refine callD_same cT (by simp only [go_sem, Nat.reduceAdd, Nat.reduceSub, Nat.reduceMul, Nat.reduceLT, Nat.reduceLeDiff, Nat.reduceEqDiff, Nat.reduceBEq, Int.reduceToNat, Int.reduceLT, Int.reduceLE, Int.reduceEq, Int.reduceNe, Int.reduceAdd, Int.reduceSub, Int.reduceMul, Int.reduceNeg, ↓reduceIte, reduceCtorEq, Snd.pv, Pdu.pv]) ?_
    simp only [go_sem, Nat.reduceAdd, Nat.reduceSub, Nat.reduceMul, Nat.reduceLT, Nat.reduceLeDiff, Nat.reduceEqDiff, Nat.reduceBEq, Int.reduceToNat, Int.reduceLT, Int.reduceLE, Int.reduceEq, Int.reduceNe, Int.reduceAdd, Int.reduceSub, Int.reduceMul, Int.reduceNeg, ↓reduceIte, reduceCtorEq, Snd.pv, Pdu.pv]
    refine endD_intro (by decide +kernel) ?_
    simp only [go_sem, Nat.reduceAdd, Nat.reduceSub, Nat.reduceMul, Nat.reduceLT, Nat.reduceLeDiff, Nat.reduceEqDiff, Nat.reduceBEq, Int.reduceToNat, Int.reduceLT, Int.reduceLE, Int.reduceEq, Int.reduceNe, Int.reduceAdd, Int.reduceSub, Int.reduceMul, Int.reduceNeg, ↓reduceIte, reduceCtorEq, Snd.pv, Pdu.pv]
    refine CallA.same cN (by simp only [go_sem, Nat.reduceAdd, Nat.reduceSub, Nat.reduceMul, Nat.reduceLT, Nat.reduceLeDiff, Nat.reduceEqDiff, Nat.reduceBEq, Int.reduceToNat, Int.reduceLT, Int.reduceLE, Int.reduceEq, Int.reduceNe, Int.reduceAdd, Int.reduceSub, Int.reduceMul, Int.reduceNeg, ↓reduceIte, reduceCtorEq, Snd.pv, Pdu.pv]) ?_
    simp only [go_sem, Nat.reduceAdd, Nat.reduceSub, Nat.reduceMul, Nat.reduceLT, Nat.reduceLeDiff, Nat.reduceEqDiff, Nat.reduceBEq, Int.reduceToNat, Int.reduceLT, Int.reduceLE, Int.reduceEq, Int.reduceNe, Int.reduceAdd, Int.reduceSub, Int.reduceMul, Int.reduceNeg, ↓reduceIte, reduceCtorEq, Snd.pv, Pdu.pv, hw]
    refine fin _ ?_
    simp only [go_sem, Nat.reduceAdd, Nat.reduceSub, Nat.reduceMul, Nat.reduceLT, Nat.reduceLeDiff, Nat.reduceEqDiff, Nat.reduceBEq, Int.reduceToNat, Int.reduceLT, Int.reduceLE, Int.reduceEq, Int.reduceNe, Int.reduceAdd, Int.reduceSub, Int.reduceMul, Int.reduceNeg, ↓reduceIte, reduceCtorEq, overSt, opsPV]
  · have hcase : (decide ((i : Int) < r) = false ∧ True) ∨ (decide ((i : Int) < r) = true ∧ decide (s.st = 3) = true) := by
      by_cases h : (i : Int) < r
      · right
        simp only [decide_eq_true_eq]
        exact ⟨h, by simpa [h] using hg⟩
      · left
        simp; omega
    have cS := take_calls s ⟨4, 0, 0, 2, 0, 0, []⟩
    have hgo : ∃ g, takeS s ⟨4, 0, 0, 2, 0, 0, []⟩ = g ∧ g.ok ∧ (g.st = 3 ∨ (g.st = 4 ∧ g.err = 184)) := by
      refine ⟨_, rfl, ?_⟩
      rcases hst with h | h
      · have : takeS s ⟨4, 0, 0, 2, 0, 0, []⟩ = { s with st := 4, err := 184 } := by simp [takeS, Snd.takes, Pdu.right, h]
        rw [this]
        exact ⟨hok, .inr ⟨rfl, rfl⟩⟩
      · have : takeS s ⟨4, 0, 0, 2, 0, 0, []⟩ = s := by simp [takeS, Snd.takes, h]
        rw [this]
        exact ⟨hok, .inl h⟩
    obtain ⟨g, hg1, hgok, hgst⟩ := hgo
    rw [hg1] at cS
    have hne : ¬ g.st = 1 ∧ ¬ g.st = 2 := by omega
    have hgoes : g.goes = false := by simp [Snd.goes, hne.2]
    have cN := next_calls g hgok
    rw [hgoes, show nextS g = g by simp [nextS, hgoes]] at cN
    generalize nextP g = p' at cN
    have cTk : ∀ p : Pdu, PureCalls Try.prog 22 [g.pv, p.pv] g.pv := by
      intro p
      have := take_calls g p
      rwa [show takeS g p = g by simp [takeS, Snd.takes, hne.1]] at this
    have cTi := tick_calls g
    rw [show tickS g = g by simp [tickS, hne.1, hne.2]] at cTi
    have hq : (decide (g.st = 3) = true ∧ True ∧ True) ∨ (decide (g.st = 3) = false ∧ decide (g.st = 4) = true ∧ decide (g.err = 184) = true) := by
      rcases hgst with h | ⟨h, h'⟩
      · left; simp [h]
      · right; simp [h, h']
    rcases hcase with ⟨e1, e2⟩ | ⟨e1, e2⟩
    all_goals rcases hq with ⟨e3, e4, e5⟩ | ⟨e3, e4, e5⟩
    all_goals (
      simp only [go_sem, Nat.reduceAdd, Nat.reduceSub, Nat.reduceMul, Nat.reduceLT, Nat.reduceLeDiff, Nat.reduceEqDiff, Nat.reduceBEq, Int.reduceToNat, Int.reduceLT, Int.reduceLE, Int.reduceEq, Int.reduceNe, Int.reduceAdd, Int.reduceSub, Int.reduceMul, Int.reduceNeg, ↓reduceIte, reduceCtorEq, overSt, hR, e1, e2]
      refine callD_same (flow_calls _ _ _) (by simp only [go_sem, Nat.reduceAdd, Nat.reduceSub, Nat.reduceMul, Nat.reduceLT, Nat.reduceLeDiff, Nat.reduceEqDiff, Nat.reduceBEq, Int.reduceToNat, Int.reduceLT, Int.reduceLE, Int.reduceEq, Int.reduceNe, Int.reduceAdd, Int.reduceSub, Int.reduceMul, Int.reduceNeg, ↓reduceIte, reduceCtorEq]) ?_
      simp only [go_sem, Nat.reduceAdd, Nat.reduceSub, Nat.reduceMul, Nat.reduceLT, Nat.reduceLeDiff, Nat.reduceEqDiff, Nat.reduceBEq, Int.reduceToNat, Int.reduceLT, Int.reduceLE, Int.reduceEq, Int.reduceNe, Int.reduceAdd, Int.reduceSub, Int.reduceMul, Int.reduceNeg, ↓reduceIte, reduceCtorEq, Snd.pv, Pdu.pv]
      refine callD_same cS (by simp only [go_sem, Nat.reduceAdd, Nat.reduceSub, Nat.reduceMul, Nat.reduceLT, Nat.reduceLeDiff, Nat.reduceEqDiff, Nat.reduceBEq, Int.reduceToNat, Int.reduceLT, Int.reduceLE, Int.reduceEq, Int.reduceNe, Int.reduceAdd, Int.reduceSub, Int.reduceMul, Int.reduceNeg, ↓reduceIte, reduceCtorEq, Snd.pv, Pdu.pv]) ?_
      simp only [go_sem, Nat.reduceAdd, Nat.reduceSub, Nat.reduceMul, Nat.reduceLT, Nat.reduceLeDiff, Nat.reduceEqDiff, Nat.reduceBEq, Int.reduceToNat, Int.reduceLT, Int.reduceLE, Int.reduceEq, Int.reduceNe, Int.reduceAdd, Int.reduceSub, Int.reduceMul, Int.reduceNeg, ↓reduceIte, reduceCtorEq, Snd.pv, Pdu.pv]
      refine endD_intro (by decide +kernel) ?_
      simp only [go_sem, Nat.reduceAdd, Nat.reduceSub, Nat.reduceMul, Nat.reduceLT, Nat.reduceLeDiff, Nat.reduceEqDiff, Nat.reduceBEq, Int.reduceToNat, Int.reduceLT, Int.reduceLE, Int.reduceEq, Int.reduceNe, Int.reduceAdd, Int.reduceSub, Int.reduceMul, Int.reduceNeg, ↓reduceIte, reduceCtorEq, Snd.pv, Pdu.pv, e3, e4, e5]
      refine wpA_loop (over2I ops g) ⟨80, _, ?_, 0, by omega, by omega, rfl⟩ ?_
      · simp only [go_sem, Nat.reduceAdd, Nat.reduceSub, Nat.reduceMul, Nat.reduceLT, Nat.reduceLeDiff, Nat.reduceEqDiff, Nat.reduceBEq, Int.reduceToNat, Int.reduceLT, Int.reduceLE, Int.reduceEq, Int.reduceNe, Int.reduceAdd, Int.reduceSub, Int.reduceMul, Int.reduceNeg, ↓reduceIte, reduceCtorEq, Int.natCast_zero, opsPV, over2St]
      clear e1 e2 e3 e4 e5 hR hr hg hi hst cS hg1 i r
      rintro m st ⟨i, hi, rfl, rfl⟩
      by_cases h1 : i < ops.length
      · have e1 : decide ((i : Int) < (ops.length : Int)) = true := by simp; omega
        by_cases h2 : i < 80
        · have e1' : ((i : Int) < (ops.length : Int)) := by omega
          have e0 : (0 : Int) ≤ (i : Int) := by omega
          have e2 : decide ((i : Int) < 80) = true := by simp; omega
          obtain ⟨o, ho⟩ : ∃ o, o = ops[i] := ⟨_, rfl⟩
          have hrow : (List.map OpS.row ops).getD (i : Int).toNat [] = [PI o.kind, PI o.p.k, PI o.p.l, PI o.p.n, PI o.p.s, PI o.p.b, PI o.p.g, bytesPV o.p.d, .lit (.int .u8 o.n.toNat)] := by
            rw [ho, Int.toNat_natCast]
            simp [List.getD_eq_getElem?_getD, h1, OpS.row]
          have hw : IntKind.wrap .i64 ((i : Int) + 1) = ((i + 1 : Nat) : Int) := by rw [wrapI64 (by omega)]; rfl
          have fin : ∀ st', Weak st' (over2St ops g (i + 1)) → ∃ m' s'', m' < 80 - i ∧ Weak st' s'' ∧ over2I ops g m' s'' :=
            fun st' h => ⟨80 - (i + 1), _, by omega, h, i + 1, by omega, rfl, rfl⟩
          simp only [go_sem, Nat.reduceAdd, Nat.reduceSub, Nat.reduceMul, Nat.reduceLT, Nat.reduceLeDiff, Nat.reduceEqDiff, Nat.reduceBEq, Int.reduceToNat, Int.reduceLT, Int.reduceLE, Int.reduceEq, Int.reduceNe, Int.reduceAdd, Int.reduceSub, Int.reduceMul, Int.reduceNeg, ↓reduceIte, reduceCtorEq, over2St, opsPV, List.length_map, e1, e1', e0, e2, hrow]
          refine CallA.same cN (by simp only [go_sem, Nat.reduceAdd, Nat.reduceSub, Nat.reduceMul, Nat.reduceLT, Nat.reduceLeDiff, Nat.reduceEqDiff, Nat.reduceBEq, Int.reduceToNat, Int.reduceLT, Int.reduceLE, Int.reduceEq, Int.reduceNe, Int.reduceAdd, Int.reduceSub, Int.reduceMul, Int.reduceNeg, ↓reduceIte, reduceCtorEq, Snd.pv, Pdu.pv]) ?_
          simp only [go_sem, Nat.reduceAdd, Nat.reduceSub, Nat.reduceMul, Nat.reduceLT, Nat.reduceLeDiff, Nat.reduceEqDiff, Nat.reduceBEq, Int.reduceToNat, Int.reduceLT, Int.reduceLE, Int.reduceEq, Int.reduceNe, Int.reduceAdd, Int.reduceSub, Int.reduceMul, Int.reduceNeg, ↓reduceIte, reduceCtorEq, Snd.pv, Pdu.pv]
          refine callD_same (cSS g) (by simp only [go_sem, Nat.reduceAdd, Nat.reduceSub, Nat.reduceMul, Nat.reduceLT, Nat.reduceLeDiff, Nat.reduceEqDiff, Nat.reduceBEq, Int.reduceToNat, Int.reduceLT, Int.reduceLE, Int.reduceEq, Int.reduceNe, Int.reduceAdd, Int.reduceSub, Int.reduceMul, Int.reduceNeg, ↓reduceIte, reduceCtorEq, Snd.pv, Pdu.pv]) ?_
          simp only [go_sem, Nat.reduceAdd, Nat.reduceSub, Nat.reduceMul, Nat.reduceLT, Nat.reduceLeDiff, Nat.reduceEqDiff, Nat.reduceBEq, Int.reduceToNat, Int.reduceLT, Int.reduceLE, Int.reduceEq, Int.reduceNe, Int.reduceAdd, Int.reduceSub, Int.reduceMul, Int.reduceNeg, ↓reduceIte, reduceCtorEq, Snd.pv, Pdu.pv, opsPV, List.length_map, e1, e1', e0, e2, hrow]
          refine callD_same (cTk o.p) (by simp only [go_sem, Nat.reduceAdd, Nat.reduceSub, Nat.reduceMul, Nat.reduceLT, Nat.reduceLeDiff, Nat.reduceEqDiff, Nat.reduceBEq, Int.reduceToNat, Int.reduceLT, Int.reduceLE, Int.reduceEq, Int.reduceNe, Int.reduceAdd, Int.reduceSub, Int.reduceMul, Int.reduceNeg, ↓reduceIte, reduceCtorEq, Snd.pv, Pdu.pv]) ?_
          simp only [go_sem, Nat.reduceAdd, Nat.reduceSub, Nat.reduceMul, Nat.reduceLT, Nat.reduceLeDiff, Nat.reduceEqDiff, Nat.reduceBEq, Int.reduceToNat, Int.reduceLT, Int.reduceLE, Int.reduceEq, Int.reduceNe, Int.reduceAdd, Int.reduceSub, Int.reduceMul, Int.reduceNeg, ↓reduceIte, reduceCtorEq, Snd.pv, Pdu.pv]
          refine callD_same (cSS g) (by simp only [go_sem, Nat.reduceAdd, Nat.reduceSub, Nat.reduceMul, Nat.reduceLT, Nat.reduceLeDiff, Nat.reduceEqDiff, Nat.reduceBEq, Int.reduceToNat, Int.reduceLT, Int.reduceLE, Int.reduceEq, Int.reduceNe, Int.reduceAdd, Int.reduceSub, Int.reduceMul, Int.reduceNeg, ↓reduceIte, reduceCtorEq, Snd.pv, Pdu.pv]) ?_
          simp only [go_sem, Nat.reduceAdd, Nat.reduceSub, Nat.reduceMul, Nat.reduceLT, Nat.reduceLeDiff, Nat.reduceEqDiff, Nat.reduceBEq, Int.reduceToNat, Int.reduceLT, Int.reduceLE, Int.reduceEq, Int.reduceNe, Int.reduceAdd, Int.reduceSub, Int.reduceMul, Int.reduceNeg, ↓reduceIte, reduceCtorEq, Snd.pv, Pdu.pv]
          refine callD_same cTi (by simp only [go_sem, Nat.reduceAdd, Nat.reduceSub, Nat.reduceMul, Nat.reduceLT, Nat.reduceLeDiff, Nat.reduceEqDiff, Nat.reduceBEq, Int.reduceToNat, Int.reduceLT, Int.reduceLE, Int.reduceEq, Int.reduceNe, Int.reduceAdd, Int.reduceSub, Int.reduceMul, Int.reduceNeg, ↓reduceIte, reduceCtorEq, Snd.pv, Pdu.pv]) ?_
          simp only [go_sem, Nat.reduceAdd, Nat.reduceSub, Nat.reduceMul, Nat.reduceLT, Nat.reduceLeDiff, Nat.reduceEqDiff, Nat.reduceBEq, Int.reduceToNat, Int.reduceLT, Int.reduceLE, Int.reduceEq, Int.reduceNe, Int.reduceAdd, Int.reduceSub, Int.reduceMul, Int.reduceNeg, ↓reduceIte, reduceCtorEq, Snd.pv, Pdu.pv]
          refine callD_same (cSS g) (by simp only [go_sem, Nat.reduceAdd, Nat.reduceSub, Nat.reduceMul, Nat.reduceLT, Nat.reduceLeDiff, Nat.reduceEqDiff, Nat.reduceBEq, Int.reduceToNat, Int.reduceLT, Int.reduceLE, Int.reduceEq, Int.reduceNe, Int.reduceAdd, Int.reduceSub, Int.reduceMul, Int.reduceNeg, ↓reduceIte, reduceCtorEq, Snd.pv, Pdu.pv]) ?_
          simp only [go_sem, Nat.reduceAdd, Nat.reduceSub, Nat.reduceMul, Nat.reduceLT, Nat.reduceLeDiff, Nat.reduceEqDiff, Nat.reduceBEq, Int.reduceToNat, Int.reduceLT, Int.reduceLE, Int.reduceEq, Int.reduceNe, Int.reduceAdd, Int.reduceSub, Int.reduceMul, Int.reduceNeg, ↓reduceIte, reduceCtorEq, Snd.pv, Pdu.pv]
          refine endD_intro (by decide +kernel) ?_
          simp only [go_sem, Nat.reduceAdd, Nat.reduceSub, Nat.reduceMul, Nat.reduceLT, Nat.reduceLeDiff, Nat.reduceEqDiff, Nat.reduceBEq, Int.reduceToNat, Int.reduceLT, Int.reduceLE, Int.reduceEq, Int.reduceNe, Int.reduceAdd, Int.reduceSub, Int.reduceMul, Int.reduceNeg, ↓reduceIte, reduceCtorEq, Snd.pv, Pdu.pv, hw]
          refine fin _ ?_
          simp only [go_sem, Nat.reduceAdd, Nat.reduceSub, Nat.reduceMul, Nat.reduceLT, Nat.reduceLeDiff, Nat.reduceEqDiff, Nat.reduceBEq, Int.reduceToNat, Int.reduceLT, Int.reduceLE, Int.reduceEq, Int.reduceNe, Int.reduceAdd, Int.reduceSub, Int.reduceMul, Int.reduceNeg, ↓reduceIte, reduceCtorEq, over2St, opsPV]
        · have e2 : decide ((i : Int) < 80) = false := by simp; omega
          simp only [go_sem, Nat.reduceAdd, Nat.reduceSub, Nat.reduceMul, Nat.reduceLT, Nat.reduceLeDiff, Nat.reduceEqDiff, Nat.reduceBEq, Int.reduceToNat, Int.reduceLT, Int.reduceLE, Int.reduceEq, Int.reduceNe, Int.reduceAdd, Int.reduceSub, Int.reduceMul, Int.reduceNeg, ↓reduceIte, reduceCtorEq, opsPV, List.length_map, over2St, e1, e2, Try.ntmps8, Try.results8]
      · have e1 : decide ((i : Int) < (ops.length : Int)) = false := by simp; omega
        simp only [go_sem, Nat.reduceAdd, Nat.reduceSub, Nat.reduceMul, Nat.reduceLT, Nat.reduceLeDiff, Nat.reduceEqDiff, Nat.reduceBEq, Int.reduceToNat, Int.reduceLT, Int.reduceLE, Int.reduceEq, Int.reduceNe, Int.reduceAdd, Int.reduceSub, Int.reduceMul, Int.reduceNeg, ↓reduceIte, reduceCtorEq, opsPV, List.length_map, over2St, e1, Try.ntmps8, Try.results8])
end Go.Proofs.Ytefcpcepgflhdaa.Pe
