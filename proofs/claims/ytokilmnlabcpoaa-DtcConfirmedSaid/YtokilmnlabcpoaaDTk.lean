import Derived.Test.YtokilmnlabcpoaaDTj
namespace Go.Proofs.Ytokilmnlabcpoaa.Pe
open Go.Pe Go.RowKit
set_option maxRecDepth 20000
set_option maxHeartbeats 4000000
set_option linter.unusedSimpArgs false
set_option linter.unusedVariables false

def zeroT : Trb := ⟨0, 0, 0, 0⟩
def oneV : List Trb → Int → Trb
  | [], _ => zeroT
  | t :: r, id => if t.id = id then t else oneV r id
def oneSt (l : List Trb) (id : Int) (i : Nat) : St := ⟨24, [(0, trbsPV l), (1, PI id), (4, .ptr 0 0), (5, PI i)], [(0, .box 67 zeroT.cells)], 20, 0⟩
def oneI (l : List Trb) (id : Int) (m : Nat) (st : St) : Prop := ∃ i : Nat, i ≤ l.length ∧ m = l.length - i ∧ oneV (l.drop i) id = oneV l id ∧ st = oneSt l id i
theorem one_calls (l : List Trb) (id : Int) (hbig : l.length < 1000000) : PureCalls Try.prog 50 [trbsPV l, PI id] (oneV l id).pv := by
  refine PureCalls.of tabOK mixed Try.func50 rfl rfl (by decide +kernel) (by simp [Try.ntmps50]) ?_
  have la := trbRows_len l
  simp only [go_sem, Nat.reduceAdd, Nat.reduceSub, Nat.reduceMul, Nat.reduceLT, Nat.reduceLeDiff, Nat.reduceEqDiff, Nat.reduceBEq, Int.reduceToNat, Int.reduceLT, Int.reduceLE, Int.reduceEq, Int.reduceNe, Int.reduceAdd, Int.reduceSub, Int.reduceMul, Int.reduceNeg, ↓reduceIte, reduceCtorEq, Try.ntmps50, Try.results50]
  refine wpA_loop (oneI l id) ⟨_, _, ?_, 0, Nat.zero_le _, rfl, rfl, rfl⟩ ?_
  · simp only [go_sem, Nat.reduceAdd, Nat.reduceSub, Nat.reduceMul, Nat.reduceLT, Nat.reduceLeDiff, Nat.reduceEqDiff, Nat.reduceBEq, Int.reduceToNat, Int.reduceLT, Int.reduceLE, Int.reduceEq, Int.reduceNe, Int.reduceAdd, Int.reduceSub, Int.reduceMul, Int.reduceNeg, ↓reduceIte, reduceCtorEq, oneSt, zeroT, Trb.cells, Int.natCast_zero]
  rintro m st ⟨i, hi, rfl, hd, rfl⟩
  by_cases hc : i < l.length
  · have f1 : decide ((i : Int) < (l.length : Int)) = true := decide_eq_true (by omega)
    have f2 : (i : Int) < (l.length : Int) := by omega
    have f0 : (0 : Int) ≤ (i : Int) := by omega
    have hw := wrapIN (i := i) (by omega)
    have r1 := trbRows_get hc
    rw [List.drop_eq_getElem_cons hc] at hd
    generalize l[i] = t at r1 hd
    rw [show ∀ r, oneV (t :: r) id = (if t.id = id then t else oneV r id) from fun _ => rfl] at hd
    by_cases h : t.id = id
    · have g : decide (t.id = id) = true := decide_eq_true h
      rw [if_pos h] at hd
      rw [← hd]
      simp only [go_sem, Nat.reduceAdd, Nat.reduceSub, Nat.reduceMul, Nat.reduceLT, Nat.reduceLeDiff, Nat.reduceEqDiff, Nat.reduceBEq, Int.reduceToNat, Int.reduceLT, Int.reduceLE, Int.reduceEq, Int.reduceNe, Int.reduceAdd, Int.reduceSub, Int.reduceMul, Int.reduceNeg, ↓reduceIte, reduceCtorEq, oneSt, zeroT, la, f1, f2, f0, Int.toNat_natCast, r1, Trb.cells, g, Trb.pv, Try.ntmps50, Try.results50]
    · have g : decide (t.id = id) = false := decide_eq_false h
      rw [if_neg h] at hd
      simp only [go_sem, Nat.reduceAdd, Nat.reduceSub, Nat.reduceMul, Nat.reduceLT, Nat.reduceLeDiff, Nat.reduceEqDiff, Nat.reduceBEq, Int.reduceToNat, Int.reduceLT, Int.reduceLE, Int.reduceEq, Int.reduceNe, Int.reduceAdd, Int.reduceSub, Int.reduceMul, Int.reduceNeg, ↓reduceIte, reduceCtorEq, oneSt, zeroT, la, f1, f2, f0, Int.toNat_natCast, r1, Trb.cells, g, hw]
      refine ⟨l.length - (i + 1), _, by omega, ?_, i + 1, by omega, rfl, hd, rfl⟩
      simp only [go_sem, Nat.reduceAdd, Nat.reduceSub, Nat.reduceMul, Nat.reduceLT, Nat.reduceLeDiff, Nat.reduceEqDiff, Nat.reduceBEq, Int.reduceToNat, Int.reduceLT, Int.reduceLE, Int.reduceEq, Int.reduceNe, Int.reduceAdd, Int.reduceSub, Int.reduceMul, Int.reduceNeg, ↓reduceIte, reduceCtorEq, oneSt, zeroT, Trb.cells]
  · have f1 : decide ((i : Int) < (l.length : Int)) = false := decide_eq_false (by omega)
    rw [List.drop_of_length_le (by omega)] at hd
    rw [← hd]
    simp only [go_sem, Nat.reduceAdd, Nat.reduceSub, Nat.reduceMul, Nat.reduceLT, Nat.reduceLeDiff, Nat.reduceEqDiff, Nat.reduceBEq, Int.reduceToNat, Int.reduceLT, Int.reduceLE, Int.reduceEq, Int.reduceNe, Int.reduceAdd, Int.reduceSub, Int.reduceMul, Int.reduceNeg, ↓reduceIte, reduceCtorEq, oneSt, la, f1, oneV, zeroT, Trb.cells, Trb.pv, Try.ntmps50, Try.results50]

/-! ### the one of a number -/
def Holds (l : List Trb) (id : Int) (t : Trb) : Prop := ∃ pre post, l = pre ++ t :: post ∧ (∀ u ∈ pre, u.id < id) ∧ t.id = id
theorem Holds.one {l : List Trb} {id : Int} {t : Trb} (h : Holds l id t) : oneV l id = t := by
  obtain ⟨pre, post, rfl, hp, ht⟩ := h
  induction pre with
  | nil => simp [oneV, ht]
  | cons u pre ih =>
    have hu := hp u List.mem_cons_self
    show (if u.id = id then u else oneV (pre ++ t :: post) id) = t
    rw [if_neg (by omega)]
    exact ih (fun v hv => hp v (List.mem_cons_of_mem _ hv))
theorem Holds.isV {l : List Trb} {id : Int} {t : Trb} (h : Holds l id t) : isV l id = true := by
  obtain ⟨pre, post, rfl, hp, ht⟩ := h
  have ha : atV (pre ++ t :: post) id = pre.length := by
    induction pre with
    | nil => simp [atV, ht]
    | cons u pre ih =>
      have hu := hp u List.mem_cons_self
      show (if u.id < id then atV (pre ++ t :: post) id + 1 else 0) = _
      rw [if_pos hu, ih (fun v hv => hp v (List.mem_cons_of_mem _ hv))]
      rfl
  simp only [Pe.isV, ha]
  simp [ht]
theorem Holds.step {l : List Trb} {id : Int} {t : Trb} (h : Holds l id t) (f : Bool) : Holds (rep l id f) id (testedV t f) := by
  obtain ⟨pre, post, rfl, hp, ht⟩ := h
  refine ⟨pre, post, ?_, hp, by rw [tested_id]; exact ht⟩
  induction pre with
  | nil => simp [Pe.rep, ht]
  | cons u pre ih =>
    have hu := hp u List.mem_cons_self
    show (if u.id < id then u :: Pe.rep (pre ++ t :: post) id f else _) = _
    rw [if_pos hu, ih (fun v hv => hp v (List.mem_cons_of_mem _ hv))]
    rfl
theorem Holds.new {id : Int} (f : Bool) : ∀ {l : List Trb}, (∀ u ∈ l, u.id ≠ id) → Holds (rep l id f) id (testedV (freshT id) f)
  | [], _ => ⟨[], [], rfl, by simp, by rw [tested_id]; rfl⟩
  | u :: r, h => by
    have hu := h u List.mem_cons_self
    rw [show Pe.rep (u :: r) id f = if u.id < id then u :: Pe.rep r id f else if u.id = id then testedV u f :: r else testedV (freshT id) f :: u :: r from rfl]
    split
    · rename_i hlt
      obtain ⟨pre, post, e, hp, ht⟩ := Holds.new f (l := r) (fun v hv => h v (List.mem_cons_of_mem _ hv))
      exact ⟨u :: pre, post, by rw [e]; rfl, fun v hv => by rcases List.mem_cons.1 hv with rfl | hv; exact hlt; exact hp v hv, ht⟩
    · first
        | exact ⟨[], u :: r, rfl, by simp, by rw [tested_id]; rfl⟩
        | (rw [if_neg hu]; exact ⟨[], u :: r, rfl, by simp, by rw [tested_id]; rfl⟩)
theorem Holds.report {l : List Trb} {id : Int} {t : Trb} (h : Holds l id t) (f : Bool) (hid : 0 ≤ id ∧ id ≤ 65535) : Holds (reportV l id f) id (testedV t f) := by
  rw [reportV_rep hid (.inl h.isV)]
  exact h.step f
theorem tested_at (t : Trb) (f : Bool) : testedV t f = { testedV { t with id := 0 } f with id := t.id } := by
  obtain ⟨h1, h2, h3⟩ := tested_of t f
  have h4 := tested_id t f
  generalize testedV t f = x at *
  obtain ⟨a, b, c, d⟩ := x
  simp only at h1 h2 h3 h4
  rw [h1, h2, h3, h4]
def itT : Nat → Trb → Trb
  | 0, t => t
  | n + 1, t => testedV (itT n t) false
theorem itT_at (t : Trb) : ∀ n, itT n t = { itT n { t with id := 0 } with id := t.id } ∧ (itT n { t with id := 0 }).id = 0
  | 0 => ⟨rfl, rfl⟩
  | n + 1 => by
    obtain ⟨h1, h2⟩ := itT_at t n
    refine ⟨?_, by rw [itT, tested_id, h2]⟩
    rw [itT, itT, tested_at, h1]
    have e : { ({ itT n { t with id := 0 } with id := t.id } : Trb) with id := 0 } = itT n { t with id := 0 } := by
      generalize itT n { t with id := 0 } = x at h2
      obtain ⟨a, b, c, d⟩ := x
      simp only at h2
      rw [h2]
    rw [e]
theorem strength_all : (bitsA .and .i64 (testedV (freshT 0) true).st 1 = 0) ∧ (testedV (testedV (freshT 0) true) true).st = 3 ∧ ∀ k : Nat, k < 12 → (decide (bitsA .and .i64 (itT k (testedV (testedV (freshT 0) true) true)).st 1 = 0) = decide (k ≥ 8)) := by decide +kernel

def strSt1 (l : List Trb) (n : Nat) (w : UInt8) (i : Nat) : St := ⟨86, [(0, trbsPV l), (2, .lit (.int .u8 w.toNat)), (7, PB true), (8, PI n), (9, PI i)], [], 20, 0⟩
def strI1 (l : List Trb) (n : Nat) (w : UInt8) (m : Nat) (st : St) : Prop := ∃ i : Nat, i ≤ l.length ∧ m = l.length - i ∧ (∀ t ∈ l.take i, t.id ≠ (n : Int)) ∧ st = strSt1 l n w i
def strSt2 (a b c : List Trb) (n k i : Nat) : St := ⟨86, [(7, PB true), (8, PI n), (10, trbsPV a), (11, trbsPV b), (12, trbsPV c), (13, PI k), (14, PI i)], [], 20, 0⟩
def strI2 (a b : List Trb) (n k : Nat) (t : Trb) (m : Nat) (st : St) : Prop := ∃ (i : Nat) (c : List Trb), i ≤ k ∧ m = k - i ∧ rightL c = true ∧ Holds c n (itT i t) ∧ st = strSt2 a b c n k i
theorem strength21_calls (l : List Trb) (u : UInt16) (w : UInt8) : PureCalls Try.prog 13 [trbsPV l, .lit (.int .u16 u.toNat), .lit (.int .u8 w.toNat)] (PB true) := by
  refine PureCalls.of tabOK mixed Try.func13 rfl rfl (by decide +kernel) (by simp [Try.ntmps13]) ?_
  have la := trbRows_len l
  have bu : u.toNat < 65536 := u.toNat_lt
  have bw : w.toNat < 256 := w.toNat_lt
  have wu : IntKind.wrap .i64 (u.toNat : Int) = u.toNat := wrapI64 (by omega)
  have ww : IntKind.wrap .i64 (w.toNat : Int) = w.toNat := wrapI64 (by omega)
  obtain ⟨n, hn⟩ : ∃ n, u.toNat = n := ⟨_, rfl⟩
  have hid : 0 ≤ (n : Int) ∧ (n : Int) ≤ 65535 := by omega
  simp only [go_sem, Nat.reduceAdd, Nat.reduceSub, Nat.reduceMul, Nat.reduceLT, Nat.reduceLeDiff, Nat.reduceEqDiff, Nat.reduceBEq, Int.reduceToNat, Int.reduceLT, Int.reduceLE, Int.reduceEq, Int.reduceNe, Int.reduceAdd, Int.reduceSub, Int.reduceMul, Int.reduceNeg, ↓reduceIte, reduceCtorEq, Try.ntmps13, Try.results13]
  (refine CallA.pure (head21_calls) (by simp only [go_sem, Nat.reduceAdd, Nat.reduceSub, Nat.reduceMul, Nat.reduceLT, Nat.reduceLeDiff, Nat.reduceEqDiff, Nat.reduceBEq, Int.reduceToNat, Int.reduceLT, Int.reduceLE, Int.reduceEq, Int.reduceNe, Int.reduceAdd, Int.reduceSub, Int.reduceMul, Int.reduceNeg, ↓reduceIte, reduceCtorEq] <;> first | rfl | decide) ?_; simp only [go_sem, Nat.reduceAdd, Nat.reduceSub, Nat.reduceMul, Nat.reduceLT, Nat.reduceLeDiff, Nat.reduceEqDiff, Nat.reduceBEq, Int.reduceToNat, Int.reduceLT, Int.reduceLE, Int.reduceEq, Int.reduceNe, Int.reduceAdd, Int.reduceSub, Int.reduceMul, Int.reduceNeg, ↓reduceIte, reduceCtorEq])
  rw [hn] at wu ⊢
  by_cases h : l.length > 15
  · have g : decide ((l.length : Int) > 15) = true := decide_eq_true (by omega)
    simp only [go_sem, Nat.reduceAdd, Nat.reduceSub, Nat.reduceMul, Nat.reduceLT, Nat.reduceLeDiff, Nat.reduceEqDiff, Nat.reduceBEq, Int.reduceToNat, Int.reduceLT, Int.reduceLE, Int.reduceEq, Int.reduceNe, Int.reduceAdd, Int.reduceSub, Int.reduceMul, Int.reduceNeg, ↓reduceIte, reduceCtorEq, la, g, wu, Try.ntmps13, Try.results13]
  have g : decide ((l.length : Int) > 15) = false := decide_eq_false (by omega)
  have c1 := rightD_calls l (by omega)
  simp only [go_sem, Nat.reduceAdd, Nat.reduceSub, Nat.reduceMul, Nat.reduceLT, Nat.reduceLeDiff, Nat.reduceEqDiff, Nat.reduceBEq, Int.reduceToNat, Int.reduceLT, Int.reduceLE, Int.reduceEq, Int.reduceNe, Int.reduceAdd, Int.reduceSub, Int.reduceMul, Int.reduceNeg, ↓reduceIte, reduceCtorEq, la, g, wu]
  (refine CallA.pure (c1) (by simp only [go_sem, Nat.reduceAdd, Nat.reduceSub, Nat.reduceMul, Nat.reduceLT, Nat.reduceLeDiff, Nat.reduceEqDiff, Nat.reduceBEq, Int.reduceToNat, Int.reduceLT, Int.reduceLE, Int.reduceEq, Int.reduceNe, Int.reduceAdd, Int.reduceSub, Int.reduceMul, Int.reduceNeg, ↓reduceIte, reduceCtorEq] <;> first | rfl | decide) ?_; simp only [go_sem, Nat.reduceAdd, Nat.reduceSub, Nat.reduceMul, Nat.reduceLT, Nat.reduceLeDiff, Nat.reduceEqDiff, Nat.reduceBEq, Int.reduceToNat, Int.reduceLT, Int.reduceLE, Int.reduceEq, Int.reduceNe, Int.reduceAdd, Int.reduceSub, Int.reduceMul, Int.reduceNeg, ↓reduceIte, reduceCtorEq])
  cases hr : rightL l with
  | false => simp only [go_sem, Nat.reduceAdd, Nat.reduceSub, Nat.reduceMul, Nat.reduceLT, Nat.reduceLeDiff, Nat.reduceEqDiff, Nat.reduceBEq, Int.reduceToNat, Int.reduceLT, Int.reduceLE, Int.reduceEq, Int.reduceNe, Int.reduceAdd, Int.reduceSub, Int.reduceMul, Int.reduceNeg, ↓reduceIte, reduceCtorEq, hr, Try.ntmps13, Try.results13]
  | true =>
  simp only [go_sem, Nat.reduceAdd, Nat.reduceSub, Nat.reduceMul, Nat.reduceLT, Nat.reduceLeDiff, Nat.reduceEqDiff, Nat.reduceBEq, Int.reduceToNat, Int.reduceLT, Int.reduceLE, Int.reduceEq, Int.reduceNe, Int.reduceAdd, Int.reduceSub, Int.reduceMul, Int.reduceNeg, ↓reduceIte, reduceCtorEq, hr]
  refine wpA_loop (strI1 l n w) ⟨_, _, ?_, 0, by omega, rfl, by simp, rfl⟩ ?_
  · simp only [go_sem, Nat.reduceAdd, Nat.reduceSub, Nat.reduceMul, Nat.reduceLT, Nat.reduceLeDiff, Nat.reduceEqDiff, Nat.reduceBEq, Int.reduceToNat, Int.reduceLT, Int.reduceLE, Int.reduceEq, Int.reduceNe, Int.reduceAdd, Int.reduceSub, Int.reduceMul, Int.reduceNeg, ↓reduceIte, reduceCtorEq, strSt1, Int.natCast_zero]
  rintro m st ⟨i, hi, rfl, hno, rfl⟩
  by_cases hc : i < l.length
  · have f1 : decide ((i : Int) < (l.length : Int)) = true := decide_eq_true (by omega)
    have f2 : (i : Int) < (l.length : Int) := by omega
    have f0 : (0 : Int) ≤ (i : Int) := by omega
    have hw := wrapIN (i := i) (by omega)
    have r1 := trbRows_get hc
    have hsn : ∀ t ∈ l.take (i + 1), t ∈ l.take i ∨ t = l[i] := by
      intro t ht
      rw [List.take_succ_eq_append_getElem hc] at ht
      rcases List.mem_append.1 ht with h' | h'
      · exact .inl h'
      · exact .inr (List.mem_singleton.1 h')
    generalize l[i] = t at r1 hsn
    by_cases h3 : t.id = (n : Int)
    · have g3 : decide (t.id = (n : Int)) = true := decide_eq_true h3
      simp only [go_sem, Nat.reduceAdd, Nat.reduceSub, Nat.reduceMul, Nat.reduceLT, Nat.reduceLeDiff, Nat.reduceEqDiff, Nat.reduceBEq, Int.reduceToNat, Int.reduceLT, Int.reduceLE, Int.reduceEq, Int.reduceNe, Int.reduceAdd, Int.reduceSub, Int.reduceMul, Int.reduceNeg, ↓reduceIte, reduceCtorEq, strSt1, la, f1, f2, f0, Int.toNat_natCast, r1, Trb.cells, g3, Try.ntmps13, Try.results13]
    · have g3 : decide (t.id = (n : Int)) = false := decide_eq_false h3
      simp only [go_sem, Nat.reduceAdd, Nat.reduceSub, Nat.reduceMul, Nat.reduceLT, Nat.reduceLeDiff, Nat.reduceEqDiff, Nat.reduceBEq, Int.reduceToNat, Int.reduceLT, Int.reduceLE, Int.reduceEq, Int.reduceNe, Int.reduceAdd, Int.reduceSub, Int.reduceMul, Int.reduceNeg, ↓reduceIte, reduceCtorEq, strSt1, la, f1, f2, f0, Int.toNat_natCast, r1, Trb.cells, g3, hw]
      refine ⟨l.length - (i + 1), _, by omega, ?_, i + 1, by omega, rfl, fun t' ht' => ?_, rfl⟩
      · simp only [go_sem, Nat.reduceAdd, Nat.reduceSub, Nat.reduceMul, Nat.reduceLT, Nat.reduceLeDiff, Nat.reduceEqDiff, Nat.reduceBEq, Int.reduceToNat, Int.reduceLT, Int.reduceLE, Int.reduceEq, Int.reduceNe, Int.reduceAdd, Int.reduceSub, Int.reduceMul, Int.reduceNeg, ↓reduceIte, reduceCtorEq, strSt1]
      · rcases hsn t' ht' with h' | rfl
        · exact hno t' h'
        · exact h3
  have f1 : decide ((i : Int) < (l.length : Int)) = false := decide_eq_false (by omega)
  rw [List.take_of_length_le (by omega)] at hno
  obtain ⟨a, ha⟩ : ∃ a, reportV l (n : Int) true = a := ⟨_, rfl⟩
  have hA : Holds a n (testedV (freshT n) true) := by
    rw [← ha, reportV_rep hid (.inr (by omega))]
    exact Holds.new true hno
  have hra : rightL a = true := by rw [← ha]; exact report_right _ _ hr
  obtain ⟨b, hb⟩ : ∃ b, reportV a (n : Int) true = b := ⟨_, rfl⟩
  have hB : Holds b n (testedV (testedV (freshT n) true) true) := by rw [← hb]; exact hA.report true hid
  have hrb : rightL b = true := by rw [← hb]; exact report_right _ _ hra
  have c2 := repD_calls l n true hr
  rw [ha] at c2
  have c3 := repD_calls a n true hra
  rw [hb] at c3
  obtain ⟨k, hk⟩ : ∃ k, w.toNat % 12 = k := ⟨_, rfl⟩
  have w3 : (w.toNat : Int).tmod 12 = (k : Int) := by rw [← hk]; rfl
  simp only [go_sem, Nat.reduceAdd, Nat.reduceSub, Nat.reduceMul, Nat.reduceLT, Nat.reduceLeDiff, Nat.reduceEqDiff, Nat.reduceBEq, Int.reduceToNat, Int.reduceLT, Int.reduceLE, Int.reduceEq, Int.reduceNe, Int.reduceAdd, Int.reduceSub, Int.reduceMul, Int.reduceNeg, ↓reduceIte, reduceCtorEq, strSt1, la, f1]
  (refine CallA.pure (c2) (by simp only [go_sem, Nat.reduceAdd, Nat.reduceSub, Nat.reduceMul, Nat.reduceLT, Nat.reduceLeDiff, Nat.reduceEqDiff, Nat.reduceBEq, Int.reduceToNat, Int.reduceLT, Int.reduceLE, Int.reduceEq, Int.reduceNe, Int.reduceAdd, Int.reduceSub, Int.reduceMul, Int.reduceNeg, ↓reduceIte, reduceCtorEq] <;> first | rfl | decide) ?_; simp only [go_sem, Nat.reduceAdd, Nat.reduceSub, Nat.reduceMul, Nat.reduceLT, Nat.reduceLeDiff, Nat.reduceEqDiff, Nat.reduceBEq, Int.reduceToNat, Int.reduceLT, Int.reduceLE, Int.reduceEq, Int.reduceNe, Int.reduceAdd, Int.reduceSub, Int.reduceMul, Int.reduceNeg, ↓reduceIte, reduceCtorEq])
  (refine CallA.pure (c3) (by simp only [go_sem, Nat.reduceAdd, Nat.reduceSub, Nat.reduceMul, Nat.reduceLT, Nat.reduceLeDiff, Nat.reduceEqDiff, Nat.reduceBEq, Int.reduceToNat, Int.reduceLT, Int.reduceLE, Int.reduceEq, Int.reduceNe, Int.reduceAdd, Int.reduceSub, Int.reduceMul, Int.reduceNeg, ↓reduceIte, reduceCtorEq, ww, w3] <;> first | rfl | decide) ?_; simp only [go_sem, Nat.reduceAdd, Nat.reduceSub, Nat.reduceMul, Nat.reduceLT, Nat.reduceLeDiff, Nat.reduceEqDiff, Nat.reduceBEq, Int.reduceToNat, Int.reduceLT, Int.reduceLE, Int.reduceEq, Int.reduceNe, Int.reduceAdd, Int.reduceSub, Int.reduceMul, Int.reduceNeg, ↓reduceIte, reduceCtorEq, ww, w3])
  obtain ⟨t2, ht2⟩ : ∃ t2, testedV (testedV (freshT n) true) true = t2 := ⟨_, rfl⟩
  rw [ht2] at hB
  refine wpA_loop (strI2 a b n k t2) ⟨_, _, ?_, 0, b, by omega, rfl, hrb, hB, rfl⟩ ?_
  · simp only [go_sem, Nat.reduceAdd, Nat.reduceSub, Nat.reduceMul, Nat.reduceLT, Nat.reduceLeDiff, Nat.reduceEqDiff, Nat.reduceBEq, Int.reduceToNat, Int.reduceLT, Int.reduceLE, Int.reduceEq, Int.reduceNe, Int.reduceAdd, Int.reduceSub, Int.reduceMul, Int.reduceNeg, ↓reduceIte, reduceCtorEq, strSt2, Int.natCast_zero]
  rintro m st ⟨j, c, hj, rfl, hrc, hC, rfl⟩
  by_cases hd : j < k
  · have f3 : decide ((j : Int) < (k : Int)) = true := decide_eq_true (by omega)
    have hw := wrapIN (i := j) (by omega)
    have c4 := repD_calls c n false hrc
    simp only [go_sem, Nat.reduceAdd, Nat.reduceSub, Nat.reduceMul, Nat.reduceLT, Nat.reduceLeDiff, Nat.reduceEqDiff, Nat.reduceBEq, Int.reduceToNat, Int.reduceLT, Int.reduceLE, Int.reduceEq, Int.reduceNe, Int.reduceAdd, Int.reduceSub, Int.reduceMul, Int.reduceNeg, ↓reduceIte, reduceCtorEq, strSt2, f3]
    (refine CallA.pure (c4) (by simp only [go_sem, Nat.reduceAdd, Nat.reduceSub, Nat.reduceMul, Nat.reduceLT, Nat.reduceLeDiff, Nat.reduceEqDiff, Nat.reduceBEq, Int.reduceToNat, Int.reduceLT, Int.reduceLE, Int.reduceEq, Int.reduceNe, Int.reduceAdd, Int.reduceSub, Int.reduceMul, Int.reduceNeg, ↓reduceIte, reduceCtorEq, hw] <;> first | rfl | decide) ?_; simp only [go_sem, Nat.reduceAdd, Nat.reduceSub, Nat.reduceMul, Nat.reduceLT, Nat.reduceLeDiff, Nat.reduceEqDiff, Nat.reduceBEq, Int.reduceToNat, Int.reduceLT, Int.reduceLE, Int.reduceEq, Int.reduceNe, Int.reduceAdd, Int.reduceSub, Int.reduceMul, Int.reduceNeg, ↓reduceIte, reduceCtorEq, hw])
    refine ⟨k - (j + 1), _, by omega, ?_, j + 1, _, by omega, rfl, report_right _ _ hrc, hC.report false hid, rfl⟩
    simp only [go_sem, Nat.reduceAdd, Nat.reduceSub, Nat.reduceMul, Nat.reduceLT, Nat.reduceLeDiff, Nat.reduceEqDiff, Nat.reduceBEq, Int.reduceToNat, Int.reduceLT, Int.reduceLE, Int.reduceEq, Int.reduceNe, Int.reduceAdd, Int.reduceSub, Int.reduceMul, Int.reduceNeg, ↓reduceIte, reduceCtorEq, strSt2]
  have f3 : decide ((j : Int) < (k : Int)) = false := decide_eq_false (by omega)
  have hjk : j = k := by omega
  subst hjk
  have c5 := one_calls a n (by have := rightL_len hra; omega)
  have c6 := one_calls b n (by have := rightL_len hrb; omega)
  have c7 := one_calls c n (by have := rightL_len hrc; omega)
  rw [hA.one] at c5
  rw [hB.one] at c6
  rw [hC.one] at c7
  obtain ⟨s1, s2, s3⟩ := strength_all
  have e0 : ({ freshT (n : Int) with id := 0 } : Trb) = freshT 0 := rfl
  have e1 : (testedV (freshT n) true).st = (testedV (freshT 0) true).st := by rw [tested_at, e0]
  have e2 : ({ testedV (freshT (n : Int)) true with id := 0 } : Trb) = testedV (freshT 0) true := by
    rw [tested_at (freshT n), e0]
    have := tested_id (freshT 0) true
    generalize testedV (freshT 0) true = x at this ⊢
    obtain ⟨p, q, r, s⟩ := x
    simp only at this ⊢
    rw [this]; rfl
  have e3 : t2.st = (testedV (testedV (freshT 0) true) true).st := by rw [← ht2, tested_at, e2]
  have e4 : ({ t2 with id := 0 } : Trb) = testedV (testedV (freshT 0) true) true := by
    rw [← ht2, tested_at (testedV (freshT n) true), e2]
    have := (tested_id (testedV (freshT 0) true) true).trans (tested_id (freshT 0) true)
    generalize testedV (testedV (freshT 0) true) true = x at this ⊢
    obtain ⟨p, q, r, s⟩ := x
    simp only at this ⊢
    rw [this]; rfl
  have e5 : (itT j t2).st = (itT j (testedV (testedV (freshT 0) true) true)).st := by rw [(itT_at t2 j).1, e4]
  have g1 : decide (bitsA .and .i64 (testedV (freshT n) true).st 1 = 0) = true := decide_eq_true (by rw [e1]; exact s1)
  have g2 : decide (t2.st = 3) = true := decide_eq_true (by rw [e3]; exact s2)
  have g3 : decide (bitsA .and .i64 (itT j t2).st 1 = 0) = decide ((j : Int) ≥ 8) := by
    rw [e5, s3 j (by omega), Bool.eq_iff_iff]
    simp
    omega
  simp only [go_sem, Nat.reduceAdd, Nat.reduceSub, Nat.reduceMul, Nat.reduceLT, Nat.reduceLeDiff, Nat.reduceEqDiff, Nat.reduceBEq, Int.reduceToNat, Int.reduceLT, Int.reduceLE, Int.reduceEq, Int.reduceNe, Int.reduceAdd, Int.reduceSub, Int.reduceMul, Int.reduceNeg, ↓reduceIte, reduceCtorEq, strSt2, f3]
  (refine CallA.pure (c5) (by simp only [go_sem, Nat.reduceAdd, Nat.reduceSub, Nat.reduceMul, Nat.reduceLT, Nat.reduceLeDiff, Nat.reduceEqDiff, Nat.reduceBEq, Int.reduceToNat, Int.reduceLT, Int.reduceLE, Int.reduceEq, Int.reduceNe, Int.reduceAdd, Int.reduceSub, Int.reduceMul, Int.reduceNeg, ↓reduceIte, reduceCtorEq, Trb.pv, Trb.cells, g1] <;> first | rfl | decide) ?_; simp only [go_sem, Nat.reduceAdd, Nat.reduceSub, Nat.reduceMul, Nat.reduceLT, Nat.reduceLeDiff, Nat.reduceEqDiff, Nat.reduceBEq, Int.reduceToNat, Int.reduceLT, Int.reduceLE, Int.reduceEq, Int.reduceNe, Int.reduceAdd, Int.reduceSub, Int.reduceMul, Int.reduceNeg, ↓reduceIte, reduceCtorEq, Trb.pv, Trb.cells, g1])
  (refine CallA.pure (c6) (by simp only [go_sem, Nat.reduceAdd, Nat.reduceSub, Nat.reduceMul, Nat.reduceLT, Nat.reduceLeDiff, Nat.reduceEqDiff, Nat.reduceBEq, Int.reduceToNat, Int.reduceLT, Int.reduceLE, Int.reduceEq, Int.reduceNe, Int.reduceAdd, Int.reduceSub, Int.reduceMul, Int.reduceNeg, ↓reduceIte, reduceCtorEq, Trb.pv, Trb.cells, g2] <;> first | rfl | decide) ?_; simp only [go_sem, Nat.reduceAdd, Nat.reduceSub, Nat.reduceMul, Nat.reduceLT, Nat.reduceLeDiff, Nat.reduceEqDiff, Nat.reduceBEq, Int.reduceToNat, Int.reduceLT, Int.reduceLE, Int.reduceEq, Int.reduceNe, Int.reduceAdd, Int.reduceSub, Int.reduceMul, Int.reduceNeg, ↓reduceIte, reduceCtorEq, Trb.pv, Trb.cells, g2])
  (refine CallA.pure (c7) (by simp only [go_sem, Nat.reduceAdd, Nat.reduceSub, Nat.reduceMul, Nat.reduceLT, Nat.reduceLeDiff, Nat.reduceEqDiff, Nat.reduceBEq, Int.reduceToNat, Int.reduceLT, Int.reduceLE, Int.reduceEq, Int.reduceNe, Int.reduceAdd, Int.reduceSub, Int.reduceMul, Int.reduceNeg, ↓reduceIte, reduceCtorEq, Trb.pv, Trb.cells, g3, beq_self_eq_true, Try.ntmps13, Try.results13] <;> first | rfl | decide) ?_; simp only [go_sem, Nat.reduceAdd, Nat.reduceSub, Nat.reduceMul, Nat.reduceLT, Nat.reduceLeDiff, Nat.reduceEqDiff, Nat.reduceBEq, Int.reduceToNat, Int.reduceLT, Int.reduceLE, Int.reduceEq, Int.reduceNe, Int.reduceAdd, Int.reduceSub, Int.reduceMul, Int.reduceNeg, ↓reduceIte, reduceCtorEq, Trb.pv, Trb.cells, g3, beq_self_eq_true, Try.ntmps13, Try.results13])
end Go.Proofs.Ytokilmnlabcpoaa.Pe
