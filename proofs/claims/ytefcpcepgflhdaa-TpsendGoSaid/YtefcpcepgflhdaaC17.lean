import Derived.Test.YtefcpcepgflhdaaC16
namespace Go.Proofs.Ytefcpcepgflhdaa.Pe
open Go.Pe Go.RowKit
set_option maxRecDepth 20000
set_option maxHeartbeats 4000000
set_option linter.unusedSimpArgs false
set_option linter.unusedVariables false

/-- What a sender still has to send. -/
def Snd.rest (s : Snd) : List Pdu := if s.st = 3 then [] else nexts s.text.length s.num (s.text.drop s.pos.toNat)
structure TInv (tt : List UInt8) (sent : List Pdu) (s : Snd) : Prop where
  text : s.text = tt
  fine : s.fine
  all : sent ++ s.rest = partsL tt
  pos : s.st ≠ 3 → s.pos < tt.length
  num : 0 ≤ s.num ∧ s.num ≤ 15

theorem take_same (s : Snd) (p : Pdu) : (takeS s p).text = s.text ∧ (takeS s p).pos = s.pos ∧ (takeS s p).num = s.num ∧ ((takeS s p).st = 3 ↔ s.st = 3) := by
  unfold takeS
  by_cases ht : s.takes p = true
  · rw [if_pos ht]
    have hs : s.st = 1 := by simp [Snd.takes] at ht; exact ht.1.1
    repeat' split
    all_goals simp [hs]
  · rw [if_neg ht]
    exact ⟨rfl, rfl, rfl, Iff.rfl⟩
theorem tick_same (s : Snd) : (tickS s).text = s.text ∧ (tickS s).pos = s.pos ∧ (tickS s).num = s.num ∧ ((tickS s).st = 3 ↔ s.st = 3) := by
  unfold tickS
  split
  · rename_i h
    generalize (if 1099511627776 < IntKind.wrap .i64 (s.clock + 1) then 1099511627776 else IntKind.wrap .i64 (s.clock + 1)) = c
    simp only
    split
    · refine ⟨rfl, rfl, rfl, ?_⟩
      simp only
      omega
    · exact ⟨rfl, rfl, rfl, Iff.rfl⟩
  · exact ⟨rfl, rfl, rfl, Iff.rfl⟩
theorem TInv.of_same {tt : List UInt8} {sent : List Pdu} {s s' : Snd} (h : TInv tt sent s) (hf : s'.fine) (hs : s'.text = s.text ∧ s'.pos = s.pos ∧ s'.num = s.num ∧ (s'.st = 3 ↔ s.st = 3)) : TInv tt sent s' := by
  obtain ⟨h1, h2, h3, h4⟩ := hs
  refine ⟨h1.trans h.text, hf, ?_, fun hn => ?_, by rw [h3]; exact h.num⟩
  · have : s'.rest = s.rest := by
      unfold Snd.rest
      rw [h1, h2, h3]
      by_cases e : s.st = 3
      · rw [if_pos e, if_pos (h4.2 e)]
      · rw [if_neg e, if_neg (fun e' => e (h4.1 e'))]
    rw [this]
    exact h.all
  · rw [h2]
    exact h.pos (fun e => hn (h4.2 e))
theorem nexts_cons {f : Nat} {num : Int} {d : List UInt8} (hd : d ≠ []) (hf : d.length ≤ f) : nexts f num d = ⟨3, 0, num, 0, 0, 0, d.take 7⟩ :: nexts f ((num + 1).tmod 16) (d.drop 7) := by
  have : 0 < d.length := List.length_pos_iff.2 hd
  obtain ⟨g, rfl⟩ : ∃ g, f = g + 1 := ⟨f - 1, by omega⟩
  show (if d = [] then [] else (⟨3, 0, num, 0, 0, 0, d.take 7⟩ : Pdu) :: nexts g ((num + 1).tmod 16) (d.drop 7)) = _
  rw [if_neg hd, nexts_fuel g (g + 1) _ _ (by simp; omega) (by simp; omega)]
theorem nexts_nil (f : Nat) (num : Int) : nexts f num [] = [] := by cases f <;> simp [nexts]
theorem TInv.next {tt : List UInt8} {sent : List Pdu} {s : Snd} (h : TInv tt sent s) (hg : s.goes = true) : TInv tt (sent ++ [nextP s]) (nextS s) ∧ (nextS s).pos = s.pos + (nextP s).d.length := by
  obtain ⟨htx, hf, hall, hpos, hn0, hn1⟩ := h
  obtain ⟨⟨q1, q2, q3⟩, q5, q4⟩ := hf
  have hst : s.st = 2 := by simp [Snd.goes] at hg; exact hg.1
  have hlt := hpos (by omega)
  have hw : IntKind.wrap .i64 (s.num + 1) = s.num + 1 := wrapI64 (by omega)
  have hf' := next_fine (s := s) ⟨⟨q1, q2, q3⟩, q5, q4⟩
  obtain ⟨p, hp⟩ : ∃ p : Nat, s.pos = p := ⟨s.pos.toNat, by omega⟩
  rw [htx] at q2
  have hP : nextP s = ⟨3, 0, s.num, 0, 0, 0, (tt.drop p).take 7⟩ := by
    simp only [nextP, hg, if_true, nextTo, htx, hp]
    congr 1
    split
    · rename_i hh
      rw [Int.toNat_natCast, Int.toNat_natCast, List.take_length, List.take_of_length_le (by simp; omega)]
    · rw [show ((p : Int) + 7).toNat = p + 7 by omega, Int.toNat_natCast, List.drop_take]
      congr 1
      omega
  have hlen : ((tt.drop p).take 7).length = min 7 (tt.length - p) := by simp
  have hto : nextTo s = s.pos + ((tt.drop p).take 7).length := by
    rw [hlen]
    simp only [nextTo, htx, hp]
    split <;> omega
  have hcons : nexts tt.length s.num (tt.drop p) = nextP s :: nexts tt.length ((s.num + 1).tmod 16) (tt.drop (p + 7)) := by
    rw [nexts_cons (by intro hh; have := congrArg List.length hh; simp at this; omega) (by simp), hP, List.drop_drop]
  have hrest : s.rest = nextP s :: nexts tt.length ((s.num + 1).tmod 16) (tt.drop (p + 7)) := by
    unfold Snd.rest
    rw [if_neg (by omega), htx, hp, Int.toNat_natCast]
    exact hcons
  have hm0 : 0 ≤ (s.num + 1).tmod 16 := Int.tmod_nonneg _ (by omega)
  have hm1 : (s.num + 1).tmod 16 < 16 := Int.tmod_lt_of_pos _ (by omega)
  have hS : nextS s = ⟨nextT s, s.text, nextTo s, nextN s, nextL s, s.gap, 0, s.waits, s.err⟩ := by simp [nextS, hg]
  have hnum : nextN s = (s.num + 1).tmod 16 := by rw [nextN, hw]
  have hst3 : nextT s = 3 ↔ nextTo s = tt.length := by
    unfold nextT
    rw [htx]
    by_cases e : nextTo s = tt.length
    · simp [e]
    · simp only [e, if_false]
      constructor
      · intro hh
        repeat' split at hh
        all_goals omega
      · intro hh; exact hh.elim
  refine ⟨⟨?_, hf', ?_, ?_, ?_⟩, ?_⟩
  · rw [hS]; exact htx
  · rw [← hall, hrest, List.append_assoc]
    congr 1
    show nextP s :: (nextS s).rest = _
    congr 1
    rw [hS]
    unfold Snd.rest
    simp only [hnum, htx]
    by_cases e : nextT s = 3
    · rw [if_pos e]
      have := hst3.1 e
      rw [List.drop_eq_nil_of_le (by rw [hto, hlen, hp] at this; omega), nexts_nil]
    · rw [if_neg e]
      have hne : nextTo s ≠ tt.length := fun hh => e (hst3.2 hh)
      have : (nextTo s).toNat = p + 7 := by
        rw [hto, hlen, hp] at hne ⊢
        omega
      rw [this]
  · intro hne
    rw [hS] at hne ⊢
    have hne' : nextTo s ≠ tt.length := fun hh => hne (hst3.2 hh)
    simp only
    rw [hto, hlen, hp] at hne' ⊢
    omega
  · rw [hS]
    simp only [hnum]
    omega
  · rw [hS, hP]
    exact hto
theorem TInv.new {tt : List UInt8} (h0 : tt.length ≠ 0) (h1 : tt.length ≤ 300) : TInv tt [newP tt] (newS tt) ∧ (newS tt).pos = (newP tt).d.length ∧ newE tt = 0 := by
  have hf := new_fine tt h1
  have hE : newE tt = 0 := by unfold newE; rw [if_neg h0, if_neg (by omega)]
  by_cases h2 : tt.length ≤ 7
  · have hS : newS tt = ⟨3, tt, tt.length, 0, -1, 0, 0, 0, 0⟩ := by rw [newS, if_neg (by omega), if_pos h2]
    have hP : newP tt = ⟨1, tt.length, 0, 0, 0, 0, tt⟩ := by rw [newP, if_neg (by omega), if_pos h2]
    rw [hS] at hf
    rw [hS, hP]
    refine ⟨⟨rfl, hf, ?_, fun h => by simp at h, by simp⟩, rfl, hE⟩
    rw [partsL, if_neg (by omega), if_pos h2]
    rfl
  · have hS : newS tt = ⟨1, tt, 6, 1, -1, 0, 0, 0, 0⟩ := by rw [newS, if_neg (by omega), if_neg h2]
    have hP : newP tt = ⟨2, tt.length, 0, 0, 0, 0, tt.take 6⟩ := by rw [newP, if_neg (by omega), if_neg h2]
    rw [hS] at hf
    rw [hS, hP]
    refine ⟨⟨rfl, hf, ?_, fun h => by simp; omega, by simp⟩, by simp; omega, hE⟩
    rw [partsL, if_neg (by omega), if_neg h2]
    rfl
theorem TInv.ends {tt : List UInt8} {sent : List Pdu} {s : Snd} (h : TInv tt sent s) : sent.length ≤ (partsL tt).length ∧ sent = (partsL tt).take sent.length ∧ (decide (s.st = 3) = decide (sent.length = (partsL tt).length)) := by
  obtain ⟨htx, hf, hall, hpos, hn0, hn1⟩ := h
  obtain ⟨⟨q1, q2, q3⟩, q5, q4⟩ := hf
  rw [← hall]
  refine ⟨by simp, by simp, ?_⟩
  by_cases e : s.st = 3
  · simp [e, Snd.rest]
  · have hlt := hpos e
    have hne : s.rest ≠ [] := by
      unfold Snd.rest
      rw [if_neg e, nexts_cons (by intro hh; have := congrArg List.length hh; rw [htx] at this; simp at this; omega) (by simp)]
      simp
    have : 0 < s.rest.length := List.length_pos_iff.2 hne
    simp [e]
    exact hne

def textSt (ops : List OpS) (tt : List UInt8) (sent : List Pdu) (s : Snd) (ver i : Nat) : St := ⟨129, [(1, opsPV ops), (5, PB true), (6, .ptr 0 0), (8, PI 0), (9, .im 7 (pduRows (partsL tt))), (11, .own 5 ver), (12, PI s.pos), (13, PI i)], [(0, .box 28 s.cells), (5, .arr 30 7 (pduRows sent) ver false)], 20, 0⟩
def textI (ops : List OpS) (tt : List UInt8) (m : Nat) (st : St) : Prop := ∃ (i ver : Nat) (sent : List Pdu) (s : Snd), i ≤ 80 ∧ m = 80 - i ∧ sent.length ≤ i + 1 ∧ TInv tt sent s ∧ st = textSt ops tt sent s ver i
theorem textLaw_calls (b : List UInt8) (ops : List OpS) : PureCalls Try.prog 4 [bytesPV b, opsPV ops] (PB true) := by
  refine PureCalls.of tabOK mixed Try.func4 rfl rfl (by decide +kernel) (by simp [Try.ntmps4]) ?_
  simp only [go_sem, Nat.reduceAdd, Nat.reduceSub, Nat.reduceMul, Nat.reduceLT, Nat.reduceLeDiff, Nat.reduceEqDiff, Nat.reduceBEq, Int.reduceToNat, Int.reduceLT, Int.reduceLE, Int.reduceEq, Int.reduceNe, Int.reduceAdd, Int.reduceSub, Int.reduceMul, Int.reduceNeg, ↓reduceIte, reduceCtorEq, Try.ntmps4, Try.results4]
  refine CallA.same head_calls (by simp only [go_sem, Nat.reduceAdd, Nat.reduceSub, Nat.reduceMul, Nat.reduceLT, Nat.reduceLeDiff, Nat.reduceEqDiff, Nat.reduceBEq, Int.reduceToNat, Int.reduceLT, Int.reduceLE, Int.reduceEq, Int.reduceNe, Int.reduceAdd, Int.reduceSub, Int.reduceMul, Int.reduceNeg, ↓reduceIte, reduceCtorEq]) ?_
  simp only [go_sem, Nat.reduceAdd, Nat.reduceSub, Nat.reduceMul, Nat.reduceLT, Nat.reduceLeDiff, Nat.reduceEqDiff, Nat.reduceBEq, Int.reduceToNat, Int.reduceLT, Int.reduceLE, Int.reduceEq, Int.reduceNe, Int.reduceAdd, Int.reduceSub, Int.reduceMul, Int.reduceNeg, ↓reduceIte, reduceCtorEq]
  refine CallA.same (cut_calls b) (by simp only [go_sem, Nat.reduceAdd, Nat.reduceSub, Nat.reduceMul, Nat.reduceLT, Nat.reduceLeDiff, Nat.reduceEqDiff, Nat.reduceBEq, Int.reduceToNat, Int.reduceLT, Int.reduceLE, Int.reduceEq, Int.reduceNe, Int.reduceAdd, Int.reduceSub, Int.reduceMul, Int.reduceNeg, ↓reduceIte, reduceCtorEq]) ?_
  generalize htt : b.take 300 = tt
  have hlen : tt.length ≤ 300 := by subst htt; simp; omega
  simp only [go_sem, Nat.reduceAdd, Nat.reduceSub, Nat.reduceMul, Nat.reduceLT, Nat.reduceLeDiff, Nat.reduceEqDiff, Nat.reduceBEq, Int.reduceToNat, Int.reduceLT, Int.reduceLE, Int.reduceEq, Int.reduceNe, Int.reduceAdd, Int.reduceSub, Int.reduceMul, Int.reduceNeg, ↓reduceIte, reduceCtorEq]
  refine CallA.same (new_calls tt) (by simp only [go_sem, Nat.reduceAdd, Nat.reduceSub, Nat.reduceMul, Nat.reduceLT, Nat.reduceLeDiff, Nat.reduceEqDiff, Nat.reduceBEq, Int.reduceToNat, Int.reduceLT, Int.reduceLE, Int.reduceEq, Int.reduceNe, Int.reduceAdd, Int.reduceSub, Int.reduceMul, Int.reduceNeg, ↓reduceIte, reduceCtorEq]) ?_
  by_cases h0 : tt.length = 0
  · have hE : newE tt = 1 := by simp [newE, h0]
    have f0 : decide ((tt.length : Int) = 0) = true := by simp [h0]
    simp only [go_sem, Nat.reduceAdd, Nat.reduceSub, Nat.reduceMul, Nat.reduceLT, Nat.reduceLeDiff, Nat.reduceEqDiff, Nat.reduceBEq, Int.reduceToNat, Int.reduceLT, Int.reduceLE, Int.reduceEq, Int.reduceNe, Int.reduceAdd, Int.reduceSub, Int.reduceMul, Int.reduceNeg, ↓reduceIte, reduceCtorEq, hE, f0, Snd.pv, Pdu.pv, Try.ntmps4, Try.results4]
  have f0 : decide ((tt.length : Int) = 0) = false := by simpa using h0
  obtain ⟨hT, hpos, hE⟩ := TInv.new h0 hlen
  have cP := partsR_calls tt
  have hparts : (partsL tt).length ≤ 310 := by
    rw [← hT.all]
    have : ∀ (f : Nat) (num : Int) (d : List UInt8), (nexts f num d).length ≤ f := by
      intro f
      induction f with
      | zero => intro num d; simp [nexts]
      | succ f ih => intro num d; simp only [nexts]; split; · simp
                     · simp; exact ih _ _
    unfold Snd.rest
    have := this (newS tt).text.length (newS tt).num ((newS tt).text.drop (newS tt).pos.toNat)
    rw [hT.text] at this
    split
    · simp
    · simp; rw [hT.text]; omega
  generalize newS tt = s0 at hT hpos
  generalize newP tt = p0 at hT hpos
  simp only [go_sem, Nat.reduceAdd, Nat.reduceSub, Nat.reduceMul, Nat.reduceLT, Nat.reduceLeDiff, Nat.reduceEqDiff, Nat.reduceBEq, Int.reduceToNat, Int.reduceLT, Int.reduceLE, Int.reduceEq, Int.reduceNe, Int.reduceAdd, Int.reduceSub, Int.reduceMul, Int.reduceNeg, ↓reduceIte, reduceCtorEq, hE, f0, Snd.pv, Pdu.pv]
  refine CallA.same cP (by simp only [go_sem, Nat.reduceAdd, Nat.reduceSub, Nat.reduceMul, Nat.reduceLT, Nat.reduceLeDiff, Nat.reduceEqDiff, Nat.reduceBEq, Int.reduceToNat, Int.reduceLT, Int.reduceLE, Int.reduceEq, Int.reduceNe, Int.reduceAdd, Int.reduceSub, Int.reduceMul, Int.reduceNeg, ↓reduceIte, reduceCtorEq]) ?_
  simp only [go_sem, Nat.reduceAdd, Nat.reduceSub, Nat.reduceMul, Nat.reduceLT, Nat.reduceLeDiff, Nat.reduceEqDiff, Nat.reduceBEq, Int.reduceToNat, Int.reduceLT, Int.reduceLE, Int.reduceEq, Int.reduceNe, Int.reduceAdd, Int.reduceSub, Int.reduceMul, Int.reduceNeg, ↓reduceIte, reduceCtorEq, Snd.pv, Pdu.pv]
  refine endD_intro (by decide +kernel) ?_
  simp only [go_sem, Nat.reduceAdd, Nat.reduceSub, Nat.reduceMul, Nat.reduceLT, Nat.reduceLeDiff, Nat.reduceEqDiff, Nat.reduceBEq, Int.reduceToNat, Int.reduceLT, Int.reduceLE, Int.reduceEq, Int.reduceNe, Int.reduceAdd, Int.reduceSub, Int.reduceMul, Int.reduceNeg, ↓reduceIte, reduceCtorEq]
  refine wpA_loop (textI ops tt) ⟨80, _, ?_, 0, 0, [p0], s0, by omega, rfl, by simp, hT, rfl⟩ ?_
  · simp only [go_sem, Nat.reduceAdd, Nat.reduceSub, Nat.reduceMul, Nat.reduceLT, Nat.reduceLeDiff, Nat.reduceEqDiff, Nat.reduceBEq, Int.reduceToNat, Int.reduceLT, Int.reduceLE, Int.reduceEq, Int.reduceNe, Int.reduceAdd, Int.reduceSub, Int.reduceMul, Int.reduceNeg, ↓reduceIte, reduceCtorEq, Int.natCast_zero, textSt, Snd.cells, opsPV, pduRows, Pdu.cells, hpos]
  clear hT hpos
  rintro m st ⟨i, ver, sent, s, hi, rfl, hsl, hT, rfl⟩
  obtain ⟨e1, e2, e3⟩ := hT.ends
  have cS := sameAll_calls sent ((partsL tt).take sent.length) (by omega)
  rw [← e2, show decide (sent = sent) = true by simp] at cS
  have g1 : decide ((sent.length : Int) > ((partsL tt).length : Int)) = false := by simp; omega
  have g2 : (if ((partsL tt).length : Int) < (sent.length : Int) then ((partsL tt).length : Int) else (sent.length : Int)) = (sent.length : Int) := by rw [if_neg (by omega)]
  have g3 : decide ((sent.length : Int) = ((partsL tt).length : Int)) = decide (sent.length = (partsL tt).length) := by
    congr 1
    apply propext
    omega
  have g4 : List.take sent.length (pduRows (partsL tt)) = pduRows sent := by
    conv => rhs; rw [e2]
    simp [pduRows, List.map_take]
  have g6 : (decide (s.st = 3) == decide ((sent.length : Int) = ((partsL tt).length : Int))) = true := by rw [e3, g3]; simp
  have g5 : ((sent.length : Int) ≤ ((partsL tt).length : Int)) := by omega
  by_cases h1 : i < ops.length
  rotate_left 1
  · have f1 : decide ((i : Int) < (ops.length : Int)) = false := by simp; omega
    simp only [go_sem, Nat.reduceAdd, Nat.reduceSub, Nat.reduceMul, Nat.reduceLT, Nat.reduceLeDiff, Nat.reduceEqDiff, Nat.reduceBEq, Int.reduceToNat, Int.reduceLT, Int.reduceLE, Int.reduceEq, Int.reduceNe, Int.reduceAdd, Int.reduceSub, Int.reduceMul, Int.reduceNeg, ↓reduceIte, reduceCtorEq, textSt, Snd.cells, opsPV, List.length_map, f1, pduRows_length, g1, g2, Int.toNat_natCast, g4]
    refine ⟨⟨by omega, g5⟩, ?_⟩
    refine CallA.pure cS (by simp only [go_sem, Nat.reduceAdd, Nat.reduceSub, Nat.reduceMul, Nat.reduceLT, Nat.reduceLeDiff, Nat.reduceEqDiff, Nat.reduceBEq, Int.reduceToNat, Int.reduceLT, Int.reduceLE, Int.reduceEq, Int.reduceNe, Int.reduceAdd, Int.reduceSub, Int.reduceMul, Int.reduceNeg, ↓reduceIte, reduceCtorEq]) ?_
    simp only [go_sem, Nat.reduceAdd, Nat.reduceSub, Nat.reduceMul, Nat.reduceLT, Nat.reduceLeDiff, Nat.reduceEqDiff, Nat.reduceBEq, Int.reduceToNat, Int.reduceLT, Int.reduceLE, Int.reduceEq, Int.reduceNe, Int.reduceAdd, Int.reduceSub, Int.reduceMul, Int.reduceNeg, ↓reduceIte, reduceCtorEq, pduRows_length, g6, Try.ntmps4, Try.results4]
  have f1 : decide ((i : Int) < (ops.length : Int)) = true := by simp; omega
  have f1' : ((i : Int) < (ops.length : Int)) := by omega
  have f1'' : (0 : Int) ≤ (i : Int) := by omega
  by_cases h2 : i < 80
  rotate_left 1
  · have f2 : decide ((i : Int) < 80) = false := by simp; omega
    simp only [go_sem, Nat.reduceAdd, Nat.reduceSub, Nat.reduceMul, Nat.reduceLT, Nat.reduceLeDiff, Nat.reduceEqDiff, Nat.reduceBEq, Int.reduceToNat, Int.reduceLT, Int.reduceLE, Int.reduceEq, Int.reduceNe, Int.reduceAdd, Int.reduceSub, Int.reduceMul, Int.reduceNeg, ↓reduceIte, reduceCtorEq, textSt, Snd.cells, opsPV, List.length_map, f1, f2, pduRows_length, g1, g2, Int.toNat_natCast, g4]
    refine ⟨⟨by omega, g5⟩, ?_⟩
    refine CallA.pure cS (by simp only [go_sem, Nat.reduceAdd, Nat.reduceSub, Nat.reduceMul, Nat.reduceLT, Nat.reduceLeDiff, Nat.reduceEqDiff, Nat.reduceBEq, Int.reduceToNat, Int.reduceLT, Int.reduceLE, Int.reduceEq, Int.reduceNe, Int.reduceAdd, Int.reduceSub, Int.reduceMul, Int.reduceNeg, ↓reduceIte, reduceCtorEq]) ?_
    simp only [go_sem, Nat.reduceAdd, Nat.reduceSub, Nat.reduceMul, Nat.reduceLT, Nat.reduceLeDiff, Nat.reduceEqDiff, Nat.reduceBEq, Int.reduceToNat, Int.reduceLT, Int.reduceLE, Int.reduceEq, Int.reduceNe, Int.reduceAdd, Int.reduceSub, Int.reduceMul, Int.reduceNeg, ↓reduceIte, reduceCtorEq, pduRows_length, g6, Try.ntmps4, Try.results4]
  have f2 : decide ((i : Int) < 80) = true := by simp; omega
  clear cS g1 g2 g3 g4 g5 e1 e2 e3
  obtain ⟨o, ho⟩ : ∃ o, o = ops[i] := ⟨_, rfl⟩
  have hrow : (List.map OpS.row ops).getD (i : Int).toNat [] = o.row := by
    rw [ho, Int.toNat_natCast]
    simp [List.getD_eq_getElem?_getD, h1]
  have hw : IntKind.wrap .i64 ((i : Int) + 1) = ((i + 1 : Nat) : Int) := by rw [wrapI64 (by omega)]; rfl
  have fin : ∀ s' sent' ver', TInv tt sent' s' → sent'.length ≤ sent.length + 1 → ∀ st', Weak st' (textSt ops tt sent' s' ver' (i + 1)) → ∃ m' s'', m' < 80 - i ∧ Weak st' s'' ∧ textI ops tt m' s'' :=
    fun s' sent' ver' hT' hl' st' h => ⟨80 - (i + 1), _, by omega, h, i + 1, ver', sent', s', by omega, rfl, by omega, hT', rfl⟩
  simp only [go_sem, Nat.reduceAdd, Nat.reduceSub, Nat.reduceMul, Nat.reduceLT, Nat.reduceLeDiff, Nat.reduceEqDiff, Nat.reduceBEq, Int.reduceToNat, Int.reduceLT, Int.reduceLE, Int.reduceEq, Int.reduceNe, Int.reduceAdd, Int.reduceSub, Int.reduceMul, Int.reduceNeg, ↓reduceIte, reduceCtorEq, textSt, Snd.cells, opsPV, List.length_map, f1, f1', f1'', f2, hrow, OpS.row]
  generalize bitsA .and .i64 o.kind 3 = x
  by_cases hx0 : x = 0
  · have k0 : decide (x = 0) = true := by simp [hx0]
    have cT := take_calls s o.p
    have hT' := hT.of_same (take_fine hT.fine o.p) (take_same s o.p)
    have hp' := (take_same s o.p).2.1
    generalize takeS s o.p = s' at cT hT' hp'
    simp only [go_sem, Nat.reduceAdd, Nat.reduceSub, Nat.reduceMul, Nat.reduceLT, Nat.reduceLeDiff, Nat.reduceEqDiff, Nat.reduceBEq, Int.reduceToNat, Int.reduceLT, Int.reduceLE, Int.reduceEq, Int.reduceNe, Int.reduceAdd, Int.reduceSub, Int.reduceMul, Int.reduceNeg, ↓reduceIte, reduceCtorEq, textSt, Snd.cells, opsPV, List.length_map, f1, f1', f1'', f2, hrow, OpS.row, k0]
    refine callD_same cT (by simp only [go_sem, Nat.reduceAdd, Nat.reduceSub, Nat.reduceMul, Nat.reduceLT, Nat.reduceLeDiff, Nat.reduceEqDiff, Nat.reduceBEq, Int.reduceToNat, Int.reduceLT, Int.reduceLE, Int.reduceEq, Int.reduceNe, Int.reduceAdd, Int.reduceSub, Int.reduceMul, Int.reduceNeg, ↓reduceIte, reduceCtorEq, Snd.pv, Pdu.pv]) ?_
    simp only [go_sem, Nat.reduceAdd, Nat.reduceSub, Nat.reduceMul, Nat.reduceLT, Nat.reduceLeDiff, Nat.reduceEqDiff, Nat.reduceBEq, Int.reduceToNat, Int.reduceLT, Int.reduceLE, Int.reduceEq, Int.reduceNe, Int.reduceAdd, Int.reduceSub, Int.reduceMul, Int.reduceNeg, ↓reduceIte, reduceCtorEq, Snd.pv]
    refine endD_intro (by decide +kernel) ?_
    simp only [go_sem, Nat.reduceAdd, Nat.reduceSub, Nat.reduceMul, Nat.reduceLT, Nat.reduceLeDiff, Nat.reduceEqDiff, Nat.reduceBEq, Int.reduceToNat, Int.reduceLT, Int.reduceLE, Int.reduceEq, Int.reduceNe, Int.reduceAdd, Int.reduceSub, Int.reduceMul, Int.reduceNeg, ↓reduceIte, reduceCtorEq, hw]
    refine fin _ _ ver hT' (by omega) _ ?_
    simp only [go_sem, Nat.reduceAdd, Nat.reduceSub, Nat.reduceMul, Nat.reduceLT, Nat.reduceLeDiff, Nat.reduceEqDiff, Nat.reduceBEq, Int.reduceToNat, Int.reduceLT, Int.reduceLE, Int.reduceEq, Int.reduceNe, Int.reduceAdd, Int.reduceSub, Int.reduceMul, Int.reduceNeg, ↓reduceIte, reduceCtorEq, textSt, Snd.cells, opsPV, hp']
  have k0 : decide (x = 0) = false := by simp [hx0]
  by_cases hx1 : x = 1
  · have k1 : decide (x = 1) = true := by simp [hx1]
    have cT := tick_calls s
    have hT' := hT.of_same (tick_fine hT.fine) (tick_same s)
    have hp' := (tick_same s).2.1
    generalize tickS s = s' at cT hT' hp'
    simp only [go_sem, Nat.reduceAdd, Nat.reduceSub, Nat.reduceMul, Nat.reduceLT, Nat.reduceLeDiff, Nat.reduceEqDiff, Nat.reduceBEq, Int.reduceToNat, Int.reduceLT, Int.reduceLE, Int.reduceEq, Int.reduceNe, Int.reduceAdd, Int.reduceSub, Int.reduceMul, Int.reduceNeg, ↓reduceIte, reduceCtorEq, textSt, Snd.cells, opsPV, List.length_map, f1, f1', f1'', f2, hrow, OpS.row, k0, k1]
    refine CallA.same cT (by simp only [go_sem, Nat.reduceAdd, Nat.reduceSub, Nat.reduceMul, Nat.reduceLT, Nat.reduceLeDiff, Nat.reduceEqDiff, Nat.reduceBEq, Int.reduceToNat, Int.reduceLT, Int.reduceLE, Int.reduceEq, Int.reduceNe, Int.reduceAdd, Int.reduceSub, Int.reduceMul, Int.reduceNeg, ↓reduceIte, reduceCtorEq, Snd.pv, Pdu.pv]) ?_
    simp only [go_sem, Nat.reduceAdd, Nat.reduceSub, Nat.reduceMul, Nat.reduceLT, Nat.reduceLeDiff, Nat.reduceEqDiff, Nat.reduceBEq, Int.reduceToNat, Int.reduceLT, Int.reduceLE, Int.reduceEq, Int.reduceNe, Int.reduceAdd, Int.reduceSub, Int.reduceMul, Int.reduceNeg, ↓reduceIte, reduceCtorEq, Snd.pv, hw]
    refine fin _ _ ver hT' (by omega) _ ?_
    simp only [go_sem, Nat.reduceAdd, Nat.reduceSub, Nat.reduceMul, Nat.reduceLT, Nat.reduceLeDiff, Nat.reduceEqDiff, Nat.reduceBEq, Int.reduceToNat, Int.reduceLT, Int.reduceLE, Int.reduceEq, Int.reduceNe, Int.reduceAdd, Int.reduceSub, Int.reduceMul, Int.reduceNeg, ↓reduceIte, reduceCtorEq, textSt, Snd.cells, opsPV, hp']
  have k1 : decide (x = 1) = false := by simp [hx1]
  have cN := next_calls s hT.fine.1
  cases hg : s.goes with
  | false =>
    rw [hg, show nextS s = s by simp [nextS, hg]] at cN
    generalize nextP s = p' at cN
    simp only [go_sem, Nat.reduceAdd, Nat.reduceSub, Nat.reduceMul, Nat.reduceLT, Nat.reduceLeDiff, Nat.reduceEqDiff, Nat.reduceBEq, Int.reduceToNat, Int.reduceLT, Int.reduceLE, Int.reduceEq, Int.reduceNe, Int.reduceAdd, Int.reduceSub, Int.reduceMul, Int.reduceNeg, ↓reduceIte, reduceCtorEq, k0, k1]
    refine CallA.same cN (by simp only [go_sem, Nat.reduceAdd, Nat.reduceSub, Nat.reduceMul, Nat.reduceLT, Nat.reduceLeDiff, Nat.reduceEqDiff, Nat.reduceBEq, Int.reduceToNat, Int.reduceLT, Int.reduceLE, Int.reduceEq, Int.reduceNe, Int.reduceAdd, Int.reduceSub, Int.reduceMul, Int.reduceNeg, ↓reduceIte, reduceCtorEq, Snd.pv]) ?_
    simp only [go_sem, Nat.reduceAdd, Nat.reduceSub, Nat.reduceMul, Nat.reduceLT, Nat.reduceLeDiff, Nat.reduceEqDiff, Nat.reduceBEq, Int.reduceToNat, Int.reduceLT, Int.reduceLE, Int.reduceEq, Int.reduceNe, Int.reduceAdd, Int.reduceSub, Int.reduceMul, Int.reduceNeg, ↓reduceIte, reduceCtorEq, Snd.pv, Pdu.pv, hw]
    refine fin _ _ ver hT (by omega) _ ?_
    simp only [go_sem, Nat.reduceAdd, Nat.reduceSub, Nat.reduceMul, Nat.reduceLT, Nat.reduceLeDiff, Nat.reduceEqDiff, Nat.reduceBEq, Int.reduceToNat, Int.reduceLT, Int.reduceLE, Int.reduceEq, Int.reduceNe, Int.reduceAdd, Int.reduceSub, Int.reduceMul, Int.reduceNeg, ↓reduceIte, reduceCtorEq, textSt, Snd.cells, opsPV]
  | true =>
    obtain ⟨hT', hp'⟩ := hT.next hg
    have hpos := hT'.fine.1
    unfold Snd.ok at hpos
    rw [hT'.text] at hpos
    rw [hg] at cN
    generalize nextS s = s' at cN hT' hp' hpos
    generalize nextP s = p' at cN hT' hp'
    obtain ⟨q1, q2, _⟩ := hpos
    have hwb : IntKind.wrap .i64 (s.pos + (p'.d.length : Int)) = s'.pos := by rw [← hp']; exact wrapI64 (by omega)
    simp only [go_sem, Nat.reduceAdd, Nat.reduceSub, Nat.reduceMul, Nat.reduceLT, Nat.reduceLeDiff, Nat.reduceEqDiff, Nat.reduceBEq, Int.reduceToNat, Int.reduceLT, Int.reduceLE, Int.reduceEq, Int.reduceNe, Int.reduceAdd, Int.reduceSub, Int.reduceMul, Int.reduceNeg, ↓reduceIte, reduceCtorEq, k0, k1]
    refine CallA.same cN (by simp only [go_sem, Nat.reduceAdd, Nat.reduceSub, Nat.reduceMul, Nat.reduceLT, Nat.reduceLeDiff, Nat.reduceEqDiff, Nat.reduceBEq, Int.reduceToNat, Int.reduceLT, Int.reduceLE, Int.reduceEq, Int.reduceNe, Int.reduceAdd, Int.reduceSub, Int.reduceMul, Int.reduceNeg, ↓reduceIte, reduceCtorEq, Snd.pv]) ?_
    simp only [go_sem, Nat.reduceAdd, Nat.reduceSub, Nat.reduceMul, Nat.reduceLT, Nat.reduceLeDiff, Nat.reduceEqDiff, Nat.reduceBEq, Int.reduceToNat, Int.reduceLT, Int.reduceLE, Int.reduceEq, Int.reduceNe, Int.reduceAdd, Int.reduceSub, Int.reduceMul, Int.reduceNeg, ↓reduceIte, reduceCtorEq, Snd.pv, Pdu.pv, hw, hwb, pduRows_length]
    refine ⟨⟨by omega, by omega⟩, ?_⟩
    refine fin _ _ (ver + 1) hT' (by simp) _ ?_
    simp only [go_sem, Nat.reduceAdd, Nat.reduceSub, Nat.reduceMul, Nat.reduceLT, Nat.reduceLeDiff, Nat.reduceEqDiff, Nat.reduceBEq, Int.reduceToNat, Int.reduceLT, Int.reduceLE, Int.reduceEq, Int.reduceNe, Int.reduceAdd, Int.reduceSub, Int.reduceMul, Int.reduceNeg, ↓reduceIte, reduceCtorEq, textSt, Snd.cells, opsPV]
    simp [pduRows, Pdu.cells]
end Go.Proofs.Ytefcpcepgflhdaa.Pe
