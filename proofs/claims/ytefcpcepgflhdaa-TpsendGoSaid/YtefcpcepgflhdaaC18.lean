import Derived.Test.YtefcpcepgflhdaaC17
namespace Go.Proofs.Ytefcpcepgflhdaa.Pe
open Go.Pe Go.RowKit
set_option maxRecDepth 20000
set_option maxHeartbeats 4000000
set_option linter.unusedSimpArgs false
set_option linter.unusedVariables false
attribute [go_sem] pduRows_length

structure GInv (tt : List UInt8) (g : Int) (i : Nat) (s : Snd) : Prop where
  t : TInv tt ((partsL tt).take i) s
  gap : s.gap = g
  left : s.left = -1
  err : s.err = 0
  st : s.st = 2 ∨ s.st = 3
theorem GInv.clock {tt : List UInt8} {g : Int} {i : Nat} {s : Snd} (h : GInv tt g i s) (k : Int) : GInv tt g i { s with clock := k } := by
  obtain ⟨h1, h2, h3, h4, h5⟩ := h
  refine ⟨h1.of_same ?_ ⟨rfl, rfl, rfl, Iff.rfl⟩, h2, h3, h4, h5⟩
  exact h1.fine
theorem tick_going {s : Snd} (h : s.st = 2) (hc : 0 ≤ s.clock ∧ s.clock ≤ 1000) : tickS s = { s with clock := s.clock + 1 } := by
  have hw : IntKind.wrap .i64 (s.clock + 1) = s.clock + 1 := wrapI64 (by omega)
  unfold tickS
  rw [if_pos (.inr h)]
  simp only [hw]
  rw [if_neg (show ¬ (1099511627776 < s.clock + 1) by omega), if_neg (by omega)]
theorem GInv.next {tt : List UInt8} {g : Int} {i : Nat} {s : Snd} (h : GInv tt g i s) (hi : i < (partsL tt).length) (hs : s.st = 2) (hc : s.clock = g) :
    s.goes = true ∧ nextP s = (partsL tt)[i] ∧ GInv tt g (i + 1) (nextS s) ∧ (nextS s).clock = 0 := by
  obtain ⟨h1, h2, h3, h4, h5⟩ := h
  have hg : s.goes = true := by simp [Snd.goes, hs, hc, h2]
  obtain ⟨t1, _⟩ := h1.next hg
  have hp : nextP s = (partsL tt)[i] := by
    have hall := t1.all
    have e := congrArg (fun l => l[i]?) hall
    simp only [List.append_assoc] at e
    rw [List.getElem?_append_right (by simp; omega)] at e
    simp [Nat.min_eq_left (Nat.le_of_lt hi), hi] at e
    exact e
  refine ⟨hg, hp, ⟨?_, ?_, ?_, ?_, ?_⟩, ?_⟩
  · rw [hp] at t1
    rw [List.take_succ_eq_append_getElem hi]
    exact t1
  · simp [nextS, hg, h2]
  · simp only [nextS, hg, if_true, nextL, h3]
    split <;> rfl
  · simp [nextS, hg, h4]
  · simp only [nextS, hg, if_true, nextT, h3]
    split
    · right; rfl
    · left; simpa using hs
  · simp [nextS, hg]
def goSt (tt : List UInt8) (g : Int) (s : Snd) (i : Nat) : St := ⟨130, [(5, PB true), (9, .ptr 0 0), (12, .im 7 (pduRows (partsL tt))), (14, PI g), (15, PI i)], [(0, .box 28 s.cells)], 20, 0⟩
def goI (tt : List UInt8) (g : Int) (m : Nat) (st : St) : Prop := ∃ (i : Nat) (s : Snd), 1 ≤ i ∧ i ≤ (partsL tt).length ∧ m = (partsL tt).length - i ∧ GInv tt g i s ∧ s.clock = (if i = 1 then g else 0) ∧ st = goSt tt g s i
def goKSt (tt : List UInt8) (g : Int) (s : Snd) (i k : Nat) : St := ⟨130, [(5, PB true), (9, .ptr 0 0), (12, .im 7 (pduRows (partsL tt))), (14, PI g), (15, PI i), (16, PI k)], [(0, .box 28 s.cells)], 20, 0⟩
def goKI (tt : List UInt8) (g : Int) (i : Nat) (m : Nat) (st : St) : Prop := ∃ (k : Nat) (s : Snd), (k : Int) ≤ g ∧ m = g.toNat - k ∧ GInv tt g i s ∧ s.st = 2 ∧ s.clock = (if i = 1 then g else k) ∧ st = goKSt tt g s i k
theorem goLaw_calls (b : List UInt8) (gp : UInt8) : PureCalls Try.prog 6 [bytesPV b, U8 gp] (PB true) := by
  refine PureCalls.of tabOK mixed Try.func6 rfl rfl (by decide +kernel) (by simp [Try.ntmps6]) ?_
  simp only [go_sem, Nat.reduceAdd, Nat.reduceSub, Nat.reduceMul, Nat.reduceLT, Nat.reduceLeDiff, Nat.reduceEqDiff, Nat.reduceBEq, Int.reduceToNat, Int.reduceLT, Int.reduceLE, Int.reduceEq, Int.reduceNe, Int.reduceAdd, Int.reduceSub, Int.reduceMul, Int.reduceNeg, ↓reduceIte, reduceCtorEq, Try.ntmps6, Try.results6]
  refine CallA.same head_calls (by simp only [go_sem, Nat.reduceAdd, Nat.reduceSub, Nat.reduceMul, Nat.reduceLT, Nat.reduceLeDiff, Nat.reduceEqDiff, Nat.reduceBEq, Int.reduceToNat, Int.reduceLT, Int.reduceLE, Int.reduceEq, Int.reduceNe, Int.reduceAdd, Int.reduceSub, Int.reduceMul, Int.reduceNeg, ↓reduceIte, reduceCtorEq]) ?_
  simp only [go_sem, Nat.reduceAdd, Nat.reduceSub, Nat.reduceMul, Nat.reduceLT, Nat.reduceLeDiff, Nat.reduceEqDiff, Nat.reduceBEq, Int.reduceToNat, Int.reduceLT, Int.reduceLE, Int.reduceEq, Int.reduceNe, Int.reduceAdd, Int.reduceSub, Int.reduceMul, Int.reduceNeg, ↓reduceIte, reduceCtorEq]
  refine CallA.same (cut_calls b) (by simp only [go_sem, Nat.reduceAdd, Nat.reduceSub, Nat.reduceMul, Nat.reduceLT, Nat.reduceLeDiff, Nat.reduceEqDiff, Nat.reduceBEq, Int.reduceToNat, Int.reduceLT, Int.reduceLE, Int.reduceEq, Int.reduceNe, Int.reduceAdd, Int.reduceSub, Int.reduceMul, Int.reduceNeg, ↓reduceIte, reduceCtorEq]) ?_
  generalize htt : b.take 300 = tt
  have hlen : tt.length ≤ 300 := by subst htt; simp; omega
  simp only [go_sem, Nat.reduceAdd, Nat.reduceSub, Nat.reduceMul, Nat.reduceLT, Nat.reduceLeDiff, Nat.reduceEqDiff, Nat.reduceBEq, Int.reduceToNat, Int.reduceLT, Int.reduceLE, Int.reduceEq, Int.reduceNe, Int.reduceAdd, Int.reduceSub, Int.reduceMul, Int.reduceNeg, ↓reduceIte, reduceCtorEq]
  by_cases h8 : tt.length < 8
  · have f8 : decide ((tt.length : Int) < 8) = true := by simp; omega
    simp only [go_sem, Nat.reduceAdd, Nat.reduceSub, Nat.reduceMul, Nat.reduceLT, Nat.reduceLeDiff, Nat.reduceEqDiff, Nat.reduceBEq, Int.reduceToNat, Int.reduceLT, Int.reduceLE, Int.reduceEq, Int.reduceNe, Int.reduceAdd, Int.reduceSub, Int.reduceMul, Int.reduceNeg, ↓reduceIte, reduceCtorEq, f8]
    refine CallA.same (new_calls tt) (by simp only [go_sem, Nat.reduceAdd, Nat.reduceSub, Nat.reduceMul, Nat.reduceLT, Nat.reduceLeDiff, Nat.reduceEqDiff, Nat.reduceBEq, Int.reduceToNat, Int.reduceLT, Int.reduceLE, Int.reduceEq, Int.reduceNe, Int.reduceAdd, Int.reduceSub, Int.reduceMul, Int.reduceNeg, ↓reduceIte, reduceCtorEq]) ?_
    by_cases h0 : tt.length = 0
    · have hE : newE tt = 1 := by simp [newE, h0]
      have hS : newS tt = Snd.zero := by simp [newS, h0]
      have f0 : decide ((tt.length : Int) > 0) = false := by simp [h0]
      simp only [go_sem, Nat.reduceAdd, Nat.reduceSub, Nat.reduceMul, Nat.reduceLT, Nat.reduceLeDiff, Nat.reduceEqDiff, Nat.reduceBEq, Int.reduceToNat, Int.reduceLT, Int.reduceLE, Int.reduceEq, Int.reduceNe, Int.reduceAdd, Int.reduceSub, Int.reduceMul, Int.reduceNeg, ↓reduceIte, reduceCtorEq, hE, hS, Snd.zero, f0, Snd.pv, Pdu.pv, Try.ntmps6, Try.results6]
    · have hE : newE tt = 0 := by unfold newE; rw [if_neg h0, if_neg (by omega)]
      have hS : newS tt = ⟨3, tt, tt.length, 0, -1, 0, 0, 0, 0⟩ := by rw [newS, if_neg (by omega), if_pos (by omega)]
      have f0 : decide ((tt.length : Int) > 0) = true := by simp; omega
      simp only [go_sem, Nat.reduceAdd, Nat.reduceSub, Nat.reduceMul, Nat.reduceLT, Nat.reduceLeDiff, Nat.reduceEqDiff, Nat.reduceBEq, Int.reduceToNat, Int.reduceLT, Int.reduceLE, Int.reduceEq, Int.reduceNe, Int.reduceAdd, Int.reduceSub, Int.reduceMul, Int.reduceNeg, ↓reduceIte, reduceCtorEq, hE, hS, f0, Snd.pv, Pdu.pv, Try.ntmps6, Try.results6]
  have f8 : decide ((tt.length : Int) < 8) = false := by simp; omega
  have hE : newE tt = 0 := by unfold newE; rw [if_neg (by omega), if_neg (by omega)]
  have hS : newS tt = ⟨1, tt, 6, 1, -1, 0, 0, 0, 0⟩ := by rw [newS, if_neg (by omega), if_neg (by omega)]
  have hP : newP tt = ⟨2, tt.length, 0, 0, 0, 0, tt.take 6⟩ := by rw [newP, if_neg (by omega), if_neg (by omega)]
  have hL : partsL tt = ⟨2, tt.length, 0, 0, 0, 0, tt.take 6⟩ :: nexts tt.length 1 (tt.drop 6) := by rw [partsL, if_neg (by omega), if_neg (by omega)]
  obtain ⟨hT, _, _⟩ := TInv.new (tt := tt) (by omega) hlen
  have cN := new_calls tt
  rw [hE, hS, hP] at cN
  rw [hS, hP] at hT
  have hwg : IntKind.wrap .i64 (gp.toNat : Int) = gp.toNat := wrapI64 (by have := gp.toNat_lt; omega)
  have hg0 : 0 ≤ (gp.toNat : Int).tmod 128 := Int.tmod_nonneg _ (by omega)
  have hg1 : (gp.toNat : Int).tmod 128 < 128 := Int.tmod_lt_of_pos _ (by omega)
  generalize hgd : (gp.toNat : Int).tmod 128 = g at hg0 hg1
  have hlen2 : 2 ≤ (partsL tt).length ∧ (partsL tt).length ≤ 310 := by
    have h1 : ∀ (f : Nat) (num : Int) (d : List UInt8), (nexts f num d).length ≤ f := by
      intro f
      induction f with
      | zero => intro num d; simp [nexts]
      | succ f ih => intro num d; simp only [nexts]; split; · simp
                     · simp; exact ih _ _
    rw [hL]
    have := h1 tt.length 1 (tt.drop 6)
    rw [nexts_cons (by intro hh; have := congrArg List.length hh; simp at this; omega) (by simp)] at this ⊢
    simp at this ⊢
    omega
  have hG : GInv tt g 1 ⟨2, tt, 6, 1, -1, g, g, 0, 0⟩ := by
    refine ⟨?_, rfl, rfl, rfl, .inl rfl⟩
    have : (partsL tt).take 1 = [⟨2, tt.length, 0, 0, 0, 0, tt.take 6⟩] := by rw [hL]; rfl
    rw [this]
    exact hT.of_same ⟨⟨by simp, by simp; omega, by simp; omega⟩, by simp, fun _ => .inl rfl⟩ ⟨rfl, rfl, rfl, by simp⟩
  have cT := take_calls ⟨1, tt, 6, 1, -1, 0, 0, 0, 0⟩ ⟨4, 0, 0, 0, 0, g, []⟩
  rw [show takeS ⟨1, tt, 6, 1, -1, 0, 0, 0, 0⟩ ⟨4, 0, 0, 0, 0, g, []⟩ = ⟨2, tt, 6, 1, -1, g, g, 0, 0⟩ by
    have : Pdu.right ⟨4, 0, 0, 0, 0, g, []⟩ = true := by simp [Pdu.right]; omega
    simp [takeS, Snd.takes, this]] at cT
  have cP := partsR_calls tt
  have cS := same_calls ⟨2, tt.length, 0, 0, 0, 0, tt.take 6⟩ ⟨2, tt.length, 0, 0, 0, 0, tt.take 6⟩
  rw [decide_eq_true (rfl : (⟨2, tt.length, 0, 0, 0, 0, tt.take 6⟩ : Pdu) = ⟨2, tt.length, 0, 0, 0, 0, tt.take 6⟩)] at cS
  have hr0 : (pduRows (partsL tt)).getD 0 [] = [PI 2, PI tt.length, PI 0, PI 0, PI 0, PI 0, bytesPV (tt.take 6)] := by rw [hL]; rfl
  have hl0 : (0 : Int) < ((partsL tt).length : Int) := by omega
  simp only [go_sem, Nat.reduceAdd, Nat.reduceSub, Nat.reduceMul, Nat.reduceLT, Nat.reduceLeDiff, Nat.reduceEqDiff, Nat.reduceBEq, Int.reduceToNat, Int.reduceLT, Int.reduceLE, Int.reduceEq, Int.reduceNe, Int.reduceAdd, Int.reduceSub, Int.reduceMul, Int.reduceNeg, ↓reduceIte, reduceCtorEq, f8]
  refine CallA.same cN (by simp only [go_sem, Nat.reduceAdd, Nat.reduceSub, Nat.reduceMul, Nat.reduceLT, Nat.reduceLeDiff, Nat.reduceEqDiff, Nat.reduceBEq, Int.reduceToNat, Int.reduceLT, Int.reduceLE, Int.reduceEq, Int.reduceNe, Int.reduceAdd, Int.reduceSub, Int.reduceMul, Int.reduceNeg, ↓reduceIte, reduceCtorEq]) ?_
  simp only [go_sem, Nat.reduceAdd, Nat.reduceSub, Nat.reduceMul, Nat.reduceLT, Nat.reduceLeDiff, Nat.reduceEqDiff, Nat.reduceBEq, Int.reduceToNat, Int.reduceLT, Int.reduceLE, Int.reduceEq, Int.reduceNe, Int.reduceAdd, Int.reduceSub, Int.reduceMul, Int.reduceNeg, ↓reduceIte, reduceCtorEq, Snd.pv, Pdu.pv]
  refine CallA.same cP (by simp only [go_sem, Nat.reduceAdd, Nat.reduceSub, Nat.reduceMul, Nat.reduceLT, Nat.reduceLeDiff, Nat.reduceEqDiff, Nat.reduceBEq, Int.reduceToNat, Int.reduceLT, Int.reduceLE, Int.reduceEq, Int.reduceNe, Int.reduceAdd, Int.reduceSub, Int.reduceMul, Int.reduceNeg, ↓reduceIte, reduceCtorEq]) ?_
  simp only [go_sem, Nat.reduceAdd, Nat.reduceSub, Nat.reduceMul, Nat.reduceLT, Nat.reduceLeDiff, Nat.reduceEqDiff, Nat.reduceBEq, Int.reduceToNat, Int.reduceLT, Int.reduceLE, Int.reduceEq, Int.reduceNe, Int.reduceAdd, Int.reduceSub, Int.reduceMul, Int.reduceNeg, ↓reduceIte, reduceCtorEq, hwg, hgd]
  refine callD_same (flow_calls _ _ _) (by simp only [go_sem, Nat.reduceAdd, Nat.reduceSub, Nat.reduceMul, Nat.reduceLT, Nat.reduceLeDiff, Nat.reduceEqDiff, Nat.reduceBEq, Int.reduceToNat, Int.reduceLT, Int.reduceLE, Int.reduceEq, Int.reduceNe, Int.reduceAdd, Int.reduceSub, Int.reduceMul, Int.reduceNeg, ↓reduceIte, reduceCtorEq]) ?_
  simp only [go_sem, Nat.reduceAdd, Nat.reduceSub, Nat.reduceMul, Nat.reduceLT, Nat.reduceLeDiff, Nat.reduceEqDiff, Nat.reduceBEq, Int.reduceToNat, Int.reduceLT, Int.reduceLE, Int.reduceEq, Int.reduceNe, Int.reduceAdd, Int.reduceSub, Int.reduceMul, Int.reduceNeg, ↓reduceIte, reduceCtorEq, Snd.pv, Pdu.pv]
  refine callD_same cT (by simp only [go_sem, Nat.reduceAdd, Nat.reduceSub, Nat.reduceMul, Nat.reduceLT, Nat.reduceLeDiff, Nat.reduceEqDiff, Nat.reduceBEq, Int.reduceToNat, Int.reduceLT, Int.reduceLE, Int.reduceEq, Int.reduceNe, Int.reduceAdd, Int.reduceSub, Int.reduceMul, Int.reduceNeg, ↓reduceIte, reduceCtorEq, Snd.pv, Pdu.pv]) ?_
  simp only [go_sem, Nat.reduceAdd, Nat.reduceSub, Nat.reduceMul, Nat.reduceLT, Nat.reduceLeDiff, Nat.reduceEqDiff, Nat.reduceBEq, Int.reduceToNat, Int.reduceLT, Int.reduceLE, Int.reduceEq, Int.reduceNe, Int.reduceAdd, Int.reduceSub, Int.reduceMul, Int.reduceNeg, ↓reduceIte, reduceCtorEq, Snd.pv, Pdu.pv]
  refine endD_intro (by decide +kernel) ?_
  simp only [go_sem, Nat.reduceAdd, Nat.reduceSub, Nat.reduceMul, Nat.reduceLT, Nat.reduceLeDiff, Nat.reduceEqDiff, Nat.reduceBEq, Int.reduceToNat, Int.reduceLT, Int.reduceLE, Int.reduceEq, Int.reduceNe, Int.reduceAdd, Int.reduceSub, Int.reduceMul, Int.reduceNeg, ↓reduceIte, reduceCtorEq, hr0, hl0]
  refine callD_same cS (by simp only [go_sem, Nat.reduceAdd, Nat.reduceSub, Nat.reduceMul, Nat.reduceLT, Nat.reduceLeDiff, Nat.reduceEqDiff, Nat.reduceBEq, Int.reduceToNat, Int.reduceLT, Int.reduceLE, Int.reduceEq, Int.reduceNe, Int.reduceAdd, Int.reduceSub, Int.reduceMul, Int.reduceNeg, ↓reduceIte, reduceCtorEq, Snd.pv, Pdu.pv]) ?_
  simp only [go_sem, Nat.reduceAdd, Nat.reduceSub, Nat.reduceMul, Nat.reduceLT, Nat.reduceLeDiff, Nat.reduceEqDiff, Nat.reduceBEq, Int.reduceToNat, Int.reduceLT, Int.reduceLE, Int.reduceEq, Int.reduceNe, Int.reduceAdd, Int.reduceSub, Int.reduceMul, Int.reduceNeg, ↓reduceIte, reduceCtorEq]
  refine endD_intro (by decide +kernel) ?_
  simp only [go_sem, Nat.reduceAdd, Nat.reduceSub, Nat.reduceMul, Nat.reduceLT, Nat.reduceLeDiff, Nat.reduceEqDiff, Nat.reduceBEq, Int.reduceToNat, Int.reduceLT, Int.reduceLE, Int.reduceEq, Int.reduceNe, Int.reduceAdd, Int.reduceSub, Int.reduceMul, Int.reduceNeg, ↓reduceIte, reduceCtorEq]
  clear cN cP cT cS hr0 hT hS hP hE hL
  refine wpA_loop (goI tt g) ⟨_, _, ?_, 1, _, by omega, by omega, rfl, hG, by simp, rfl⟩ ?_
  · simp only [go_sem, Nat.reduceAdd, Nat.reduceSub, Nat.reduceMul, Nat.reduceLT, Nat.reduceLeDiff, Nat.reduceEqDiff, Nat.reduceBEq, Int.reduceToNat, Int.reduceLT, Int.reduceLE, Int.reduceEq, Int.reduceNe, Int.reduceAdd, Int.reduceSub, Int.reduceMul, Int.reduceNeg, ↓reduceIte, reduceCtorEq, goSt, Snd.cells]
  clear hG
  rintro m st ⟨i, s, hi1, hi2, rfl, hG, hck, rfl⟩
  by_cases hc : i < (partsL tt).length
  rotate_left 1
  · have f1 : decide ((i : Int) < ((partsL tt).length : Int)) = false := by simp; omega
    have hend := hG.t.ends.2.2
    have hs3 : decide (s.st = 3) = true := by
      rw [hend]
      simp
      omega
    have he0 : decide (s.err = 0) = true := by simp [hG.err]
    simp only [go_sem, Nat.reduceAdd, Nat.reduceSub, Nat.reduceMul, Nat.reduceLT, Nat.reduceLeDiff, Nat.reduceEqDiff, Nat.reduceBEq, Int.reduceToNat, Int.reduceLT, Int.reduceLE, Int.reduceEq, Int.reduceNe, Int.reduceAdd, Int.reduceSub, Int.reduceMul, Int.reduceNeg, ↓reduceIte, reduceCtorEq, goSt, Snd.cells, f1, hs3, he0, Try.ntmps6, Try.results6]
  have f1 : decide ((i : Int) < ((partsL tt).length : Int)) = true := by simp; omega
  have f1' : ((i : Int) < ((partsL tt).length : Int)) := by omega
  have f0 : (0 : Int) ≤ (i : Int) := by omega
  have hw : IntKind.wrap .i64 ((i : Int) + 1) = ((i + 1 : Nat) : Int) := by rw [wrapI64 (by omega)]; rfl
  have hs2 : s.st = 2 := by
    have hend := hG.t.ends.2.2
    rcases hG.st with h | h
    · exact h
    · rw [h] at hend
      simp at hend
      omega
  simp only [go_sem, Nat.reduceAdd, Nat.reduceSub, Nat.reduceMul, Nat.reduceLT, Nat.reduceLeDiff, Nat.reduceEqDiff, Nat.reduceBEq, Int.reduceToNat, Int.reduceLT, Int.reduceLE, Int.reduceEq, Int.reduceNe, Int.reduceAdd, Int.reduceSub, Int.reduceMul, Int.reduceNeg, ↓reduceIte, reduceCtorEq, goSt, Snd.cells, f1]
  refine wpA_loop (goKI tt g i) ⟨_, _, ?_, 0, s, by omega, rfl, hG, hs2, by rw [hck]; rfl, rfl⟩ ?_
  · simp only [go_sem, Nat.reduceAdd, Nat.reduceSub, Nat.reduceMul, Nat.reduceLT, Nat.reduceLeDiff, Nat.reduceEqDiff, Nat.reduceBEq, Int.reduceToNat, Int.reduceLT, Int.reduceLE, Int.reduceEq, Int.reduceNe, Int.reduceAdd, Int.reduceSub, Int.reduceMul, Int.reduceNeg, ↓reduceIte, reduceCtorEq, goKSt, Snd.cells, Int.natCast_zero]
  clear hG hs2 hck s
  rintro m st ⟨k, s, hk, rfl, hG, hs2, hck, rfl⟩
  by_cases hkk : (k : Int) < g ∧ 1 < i
  · have k1 : decide ((k : Int) < g) = true := by simp; omega
    have k2 : decide ((i : Int) > 1) = true := by simp; omega
    have hwk : IntKind.wrap .i64 ((k : Int) + 1) = ((k + 1 : Nat) : Int) := by rw [wrapI64 (by omega)]; rfl
    have hcl : s.clock = k := by rw [hck, if_neg (by omega)]
    have hgo : s.goes = false := by simp [Snd.goes, hs2, hcl, hG.gap]; omega
    have cN := next_calls s hG.t.fine.1
    have cT := tick_calls s
    rw [hgo, show nextS s = s by simp [nextS, hgo]] at cN
    rw [tick_going hs2 (by omega)] at cT
    have hG' := hG.clock (s.clock + 1)
    have hs2' : ({ s with clock := s.clock + 1 } : Snd).st = 2 := hs2
    have hcl' : ({ s with clock := s.clock + 1 } : Snd).clock = (if i = 1 then g else ((k + 1 : Nat) : Int)) := by rw [if_neg (by omega)]; simp [hcl]
    generalize ({ s with clock := s.clock + 1 } : Snd) = s' at cT hG' hs2' hcl'
    generalize nextP s = p' at cN
    simp only [go_sem, Nat.reduceAdd, Nat.reduceSub, Nat.reduceMul, Nat.reduceLT, Nat.reduceLeDiff, Nat.reduceEqDiff, Nat.reduceBEq, Int.reduceToNat, Int.reduceLT, Int.reduceLE, Int.reduceEq, Int.reduceNe, Int.reduceAdd, Int.reduceSub, Int.reduceMul, Int.reduceNeg, ↓reduceIte, reduceCtorEq, goKSt, Snd.cells, k1, k2]
    refine CallA.same cN (by simp only [go_sem, Nat.reduceAdd, Nat.reduceSub, Nat.reduceMul, Nat.reduceLT, Nat.reduceLeDiff, Nat.reduceEqDiff, Nat.reduceBEq, Int.reduceToNat, Int.reduceLT, Int.reduceLE, Int.reduceEq, Int.reduceNe, Int.reduceAdd, Int.reduceSub, Int.reduceMul, Int.reduceNeg, ↓reduceIte, reduceCtorEq, Snd.pv]) ?_
    simp only [go_sem, Nat.reduceAdd, Nat.reduceSub, Nat.reduceMul, Nat.reduceLT, Nat.reduceLeDiff, Nat.reduceEqDiff, Nat.reduceBEq, Int.reduceToNat, Int.reduceLT, Int.reduceLE, Int.reduceEq, Int.reduceNe, Int.reduceAdd, Int.reduceSub, Int.reduceMul, Int.reduceNeg, ↓reduceIte, reduceCtorEq, Snd.pv, Pdu.pv]
    refine CallA.same cT (by simp only [go_sem, Nat.reduceAdd, Nat.reduceSub, Nat.reduceMul, Nat.reduceLT, Nat.reduceLeDiff, Nat.reduceEqDiff, Nat.reduceBEq, Int.reduceToNat, Int.reduceLT, Int.reduceLE, Int.reduceEq, Int.reduceNe, Int.reduceAdd, Int.reduceSub, Int.reduceMul, Int.reduceNeg, ↓reduceIte, reduceCtorEq, Snd.pv]) ?_
    simp only [go_sem, Nat.reduceAdd, Nat.reduceSub, Nat.reduceMul, Nat.reduceLT, Nat.reduceLeDiff, Nat.reduceEqDiff, Nat.reduceBEq, Int.reduceToNat, Int.reduceLT, Int.reduceLE, Int.reduceEq, Int.reduceNe, Int.reduceAdd, Int.reduceSub, Int.reduceMul, Int.reduceNeg, ↓reduceIte, reduceCtorEq, Snd.pv, hwk]
    refine ⟨g.toNat - (k + 1), _, by omega, ?_, k + 1, s', by omega, rfl, hG', hs2', hcl', rfl⟩
    simp only [go_sem, Nat.reduceAdd, Nat.reduceSub, Nat.reduceMul, Nat.reduceLT, Nat.reduceLeDiff, Nat.reduceEqDiff, Nat.reduceBEq, Int.reduceToNat, Int.reduceLT, Int.reduceLE, Int.reduceEq, Int.reduceNe, Int.reduceAdd, Int.reduceSub, Int.reduceMul, Int.reduceNeg, ↓reduceIte, reduceCtorEq, goKSt, Snd.cells]
  have hcl : s.clock = g := by
    rw [hck]
    split
    · rfl
    · omega
  have cN := next_calls s hG.t.fine.1
  obtain ⟨n1, n2, n3, n4⟩ := hG.next hc hs2 hcl
  rw [n1, n2] at cN
  have hrow : (pduRows (partsL tt)).getD (i : Int).toNat [] = (partsL tt)[i].cells := by
    rw [Int.toNat_natCast]
    exact pduRows_getD hc
  have cS := same_calls (partsL tt)[i] (partsL tt)[i]
  rw [show decide ((partsL tt)[i] = (partsL tt)[i]) = true by simp] at cS
  generalize (partsL tt)[i] = p' at cN cS hrow
  generalize nextS s = s' at cN n3 n4
  have tail : ∀ st', Weak st' (goSt tt g s' (i + 1)) → ∃ m' s'', m' < (partsL tt).length - i ∧ Weak st' s'' ∧ goI tt g m' s'' :=
    fun st' h => ⟨(partsL tt).length - (i + 1), _, by omega, h, i + 1, s', by omega, by omega, rfl, n3, by rw [n4, if_neg (by omega)], rfl⟩
  by_cases hk1 : (k : Int) < g
  · have k1 : decide ((k : Int) < g) = true := by simp; omega
    have k2 : decide ((i : Int) > 1) = false := by simp; omega
    simp only [go_sem, Nat.reduceAdd, Nat.reduceSub, Nat.reduceMul, Nat.reduceLT, Nat.reduceLeDiff, Nat.reduceEqDiff, Nat.reduceBEq, Int.reduceToNat, Int.reduceLT, Int.reduceLE, Int.reduceEq, Int.reduceNe, Int.reduceAdd, Int.reduceSub, Int.reduceMul, Int.reduceNeg, ↓reduceIte, reduceCtorEq, goKSt, Snd.cells, k1, k2]
    refine CallA.same cN (by simp only [go_sem, Nat.reduceAdd, Nat.reduceSub, Nat.reduceMul, Nat.reduceLT, Nat.reduceLeDiff, Nat.reduceEqDiff, Nat.reduceBEq, Int.reduceToNat, Int.reduceLT, Int.reduceLE, Int.reduceEq, Int.reduceNe, Int.reduceAdd, Int.reduceSub, Int.reduceMul, Int.reduceNeg, ↓reduceIte, reduceCtorEq, Snd.pv]) ?_
    simp only [go_sem, Nat.reduceAdd, Nat.reduceSub, Nat.reduceMul, Nat.reduceLT, Nat.reduceLeDiff, Nat.reduceEqDiff, Nat.reduceBEq, Int.reduceToNat, Int.reduceLT, Int.reduceLE, Int.reduceEq, Int.reduceNe, Int.reduceAdd, Int.reduceSub, Int.reduceMul, Int.reduceNeg, ↓reduceIte, reduceCtorEq, Snd.pv, Pdu.pv, f1', f0, hrow, Pdu.cells]
    refine callD_same cS (by simp only [go_sem, Nat.reduceAdd, Nat.reduceSub, Nat.reduceMul, Nat.reduceLT, Nat.reduceLeDiff, Nat.reduceEqDiff, Nat.reduceBEq, Int.reduceToNat, Int.reduceLT, Int.reduceLE, Int.reduceEq, Int.reduceNe, Int.reduceAdd, Int.reduceSub, Int.reduceMul, Int.reduceNeg, ↓reduceIte, reduceCtorEq, Pdu.pv]) ?_
    simp only [go_sem, Nat.reduceAdd, Nat.reduceSub, Nat.reduceMul, Nat.reduceLT, Nat.reduceLeDiff, Nat.reduceEqDiff, Nat.reduceBEq, Int.reduceToNat, Int.reduceLT, Int.reduceLE, Int.reduceEq, Int.reduceNe, Int.reduceAdd, Int.reduceSub, Int.reduceMul, Int.reduceNeg, ↓reduceIte, reduceCtorEq]
    refine endD_intro (by decide +kernel) ?_
    simp only [go_sem, Nat.reduceAdd, Nat.reduceSub, Nat.reduceMul, Nat.reduceLT, Nat.reduceLeDiff, Nat.reduceEqDiff, Nat.reduceBEq, Int.reduceToNat, Int.reduceLT, Int.reduceLE, Int.reduceEq, Int.reduceNe, Int.reduceAdd, Int.reduceSub, Int.reduceMul, Int.reduceNeg, ↓reduceIte, reduceCtorEq, hw]
    refine tail _ ?_
    simp only [go_sem, Nat.reduceAdd, Nat.reduceSub, Nat.reduceMul, Nat.reduceLT, Nat.reduceLeDiff, Nat.reduceEqDiff, Nat.reduceBEq, Int.reduceToNat, Int.reduceLT, Int.reduceLE, Int.reduceEq, Int.reduceNe, Int.reduceAdd, Int.reduceSub, Int.reduceMul, Int.reduceNeg, ↓reduceIte, reduceCtorEq, goSt, Snd.cells]
  · have k1 : decide ((k : Int) < g) = false := by simp; omega
    simp only [go_sem, Nat.reduceAdd, Nat.reduceSub, Nat.reduceMul, Nat.reduceLT, Nat.reduceLeDiff, Nat.reduceEqDiff, Nat.reduceBEq, Int.reduceToNat, Int.reduceLT, Int.reduceLE, Int.reduceEq, Int.reduceNe, Int.reduceAdd, Int.reduceSub, Int.reduceMul, Int.reduceNeg, ↓reduceIte, reduceCtorEq, goKSt, Snd.cells, k1]
    refine CallA.same cN (by simp only [go_sem, Nat.reduceAdd, Nat.reduceSub, Nat.reduceMul, Nat.reduceLT, Nat.reduceLeDiff, Nat.reduceEqDiff, Nat.reduceBEq, Int.reduceToNat, Int.reduceLT, Int.reduceLE, Int.reduceEq, Int.reduceNe, Int.reduceAdd, Int.reduceSub, Int.reduceMul, Int.reduceNeg, ↓reduceIte, reduceCtorEq, Snd.pv]) ?_
    simp only [go_sem, Nat.reduceAdd, Nat.reduceSub, Nat.reduceMul, Nat.reduceLT, Nat.reduceLeDiff, Nat.reduceEqDiff, Nat.reduceBEq, Int.reduceToNat, Int.reduceLT, Int.reduceLE, Int.reduceEq, Int.reduceNe, Int.reduceAdd, Int.reduceSub, Int.reduceMul, Int.reduceNeg, ↓reduceIte, reduceCtorEq, Snd.pv, Pdu.pv, f1', f0, hrow, Pdu.cells]
    refine callD_same cS (by simp only [go_sem, Nat.reduceAdd, Nat.reduceSub, Nat.reduceMul, Nat.reduceLT, Nat.reduceLeDiff, Nat.reduceEqDiff, Nat.reduceBEq, Int.reduceToNat, Int.reduceLT, Int.reduceLE, Int.reduceEq, Int.reduceNe, Int.reduceAdd, Int.reduceSub, Int.reduceMul, Int.reduceNeg, ↓reduceIte, reduceCtorEq, Pdu.pv]) ?_
    simp only [go_sem, Nat.reduceAdd, Nat.reduceSub, Nat.reduceMul, Nat.reduceLT, Nat.reduceLeDiff, Nat.reduceEqDiff, Nat.reduceBEq, Int.reduceToNat, Int.reduceLT, Int.reduceLE, Int.reduceEq, Int.reduceNe, Int.reduceAdd, Int.reduceSub, Int.reduceMul, Int.reduceNeg, ↓reduceIte, reduceCtorEq]
    refine endD_intro (by decide +kernel) ?_
    simp only [go_sem, Nat.reduceAdd, Nat.reduceSub, Nat.reduceMul, Nat.reduceLT, Nat.reduceLeDiff, Nat.reduceEqDiff, Nat.reduceBEq, Int.reduceToNat, Int.reduceLT, Int.reduceLE, Int.reduceEq, Int.reduceNe, Int.reduceAdd, Int.reduceSub, Int.reduceMul, Int.reduceNeg, ↓reduceIte, reduceCtorEq, hw]
    refine tail _ ?_
    simp only [go_sem, Nat.reduceAdd, Nat.reduceSub, Nat.reduceMul, Nat.reduceLT, Nat.reduceLeDiff, Nat.reduceEqDiff, Nat.reduceBEq, Int.reduceToNat, Int.reduceLT, Int.reduceLE, Int.reduceEq, Int.reduceNe, Int.reduceAdd, Int.reduceSub, Int.reduceMul, Int.reduceNeg, ↓reduceIte, reduceCtorEq, goSt, Snd.cells]
end Go.Proofs.Ytefcpcepgflhdaa.Pe
