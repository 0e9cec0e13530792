import Derived.Test.YtpnhnobnjcknjaaD6
namespace Go.Proofs.Ytpnhnobnjcknjaa.Pe
open Go.Pe Go.RowKit
set_option maxRecDepth 20000
set_option maxHeartbeats 4000000
set_option linter.unusedSimpArgs false
set_option linter.unusedVariables false

theorem nexts_cons' {f : Nat} {num : Int} {d : List UInt8} (hd : d ≠ []) (hf : d.length ≤ f) : nexts f num d = ⟨3, 0, num, 0, 0, 0, d.take 7⟩ :: nexts f ((num + 1).tmod 16) (d.drop 7) := by
  have : 0 < d.length := List.length_pos_iff.2 hd
  obtain ⟨g, rfl⟩ : ∃ g, f = g + 1 := ⟨f - 1, by omega⟩
  show (if d = [] then [] else (⟨3, 0, num, 0, 0, 0, d.take 7⟩ : Pdu) :: nexts g ((num + 1).tmod 16) (d.drop 7)) = _
  rw [if_neg hd, nexts_fuel g (g + 1) _ _ (by simp; omega) (by simp; omega)]
theorem nexts_nil' (f : Nat) (num : Int) : nexts f num [] = [] := by cases f <;> simp [nexts]
theorem nexts_all : ∀ (n f : Nat) (num : Nat) (d : List UInt8), d.length ≤ n → d.length ≤ f → (nexts f ((num % 16 : Nat) : Int) d).length = (d.length + 6) / 7 ∧
    ∀ i, i < (nexts f ((num % 16 : Nat) : Int) d).length → (nexts f ((num % 16 : Nat) : Int) d)[i]? = some ⟨3, 0, (((num + i) % 16 : Nat) : Int), 0, 0, 0, (d.drop (7 * i)).take 7⟩
  | 0, f, num, d, hn, hf => by
    have : d = [] := List.eq_nil_of_length_eq_zero (by omega)
    subst this
    rw [nexts_nil']
    simp
  | n + 1, f, num, d, hn, hf => by
    by_cases hd : d = []
    · subst hd
      rw [nexts_nil']
      simp
    · have h0 : 0 < d.length := List.length_pos_iff.2 hd
      have hm : (((num % 16 : Nat) : Int) + 1).tmod 16 = (((num + 1) % 16 : Nat) : Int) := by
        have : num % 16 < 16 := Nat.mod_lt _ (by omega)
        have e : (((num % 16 : Nat) : Int) + 1) = ((num % 16 + 1 : Nat) : Int) := by omega
        rw [e, Int.tmod_eq_emod_of_nonneg (by omega)]
        omega
      rw [nexts_cons' hd hf, hm]
      obtain ⟨q1, q2⟩ := nexts_all n f (num + 1) (d.drop 7) (by simp; omega) (by simp; omega)
      refine ⟨by rw [List.length_cons, q1]; simp; omega, fun i hi => ?_⟩
      cases i with
      | zero => simp
      | succ i =>
        rw [List.getElem?_cons_succ, q2 i (by simpa using hi), List.drop_drop]
        have e1 : num + 1 + i = num + (i + 1) := by omega
        have e2 : 7 + 7 * i = 7 * (i + 1) := by omega
        rw [e1, e2]
/-- How many parts a text has. -/
def partsN (t : List UInt8) : Nat := if t.length ≤ 7 then 1 else 1 + t.length / 7
theorem parts_long {t : List UInt8} (h0 : 7 < t.length) (h1 : t.length ≤ 4095) : (partsL t).length = partsN t ∧ (partsL t)[0]? = some ⟨2, t.length, 0, 0, 0, 0, t.take 6⟩ ∧
    ∀ i, 1 ≤ i → i < partsN t → (partsL t)[i]? = some ⟨3, 0, ((i % 16 : Nat) : Int), 0, 0, 0, (t.drop (7 * i - 1)).take 7⟩ := by
  have hL : partsL t = ⟨2, t.length, 0, 0, 0, 0, t.take 6⟩ :: nexts t.length ((1 % 16 : Nat) : Int) (t.drop 6) := by rw [partsL, if_neg (by omega), if_neg (by omega)]; rfl
  obtain ⟨q1, q2⟩ := nexts_all t.length t.length 1 (t.drop 6) (by simp) (by simp)
  have hn : partsN t = 1 + t.length / 7 := by rw [partsN, if_neg (by omega)]
  have hlen : (nexts t.length ((1 % 16 : Nat) : Int) (t.drop 6)).length = t.length / 7 := by rw [q1]; simp; omega
  rw [hL, hn]
  refine ⟨by rw [List.length_cons, hlen]; omega, rfl, fun i hi1 hi2 => ?_⟩
  obtain ⟨j, rfl⟩ : ∃ j, i = j + 1 := ⟨i - 1, by omega⟩
  rw [List.getElem?_cons_succ, q2 j (by rw [hlen]; omega), List.drop_drop]
  have e1 : 1 + j = j + 1 := by omega
  have e2 : 6 + 7 * j = 7 * (j + 1) - 1 := by omega
  rw [e1, e2]
theorem parts_short {t : List UInt8} (h0 : 1 ≤ t.length) (h1 : t.length ≤ 7) : partsL t = [⟨1, t.length, 0, 0, 0, 0, t⟩] := by rw [partsL, if_neg (by omega), if_pos h1]
theorem parts_len {t : List UInt8} (h0 : 1 ≤ t.length) (h1 : t.length ≤ 4095) : (partsL t).length = partsN t := by
  by_cases h : t.length ≤ 7
  · rw [parts_short h0 h, partsN, if_pos h]; rfl
  · exact (parts_long (by omega) h1).1
theorem parts_right {t : List UInt8} (h0 : 1 ≤ t.length) (h1 : t.length ≤ 4095) : ∀ p ∈ partsL t, p.right = true := by
  by_cases h : t.length ≤ 7
  · rw [parts_short h0 h]
    intro p hp
    simp at hp
    subst hp
    simp [Pdu.right, z4]
    omega
  · obtain ⟨q1, q2, q3⟩ := parts_long (by omega : 7 < t.length) h1
    intro p hp
    obtain ⟨i, hi, rfl⟩ := List.getElem_of_mem hp
    have hi' := hi
    rw [q1] at hi'
    cases i with
    | zero =>
      rw [List.getElem?_eq_getElem hi] at q2
      simp only [Option.some.injEq] at q2
      rw [q2]
      simp [Pdu.right, z4]
      omega
    | succ i =>
      have := q3 (i + 1) (by omega) hi'
      rw [List.getElem?_eq_getElem hi] at this
      simp only [Option.some.injEq] at this
      rw [this]
      have hm : (i + 1) % 16 < 16 := Nat.mod_lt _ (by omega)
      rw [partsN, if_neg h] at hi'
      simp [Pdu.right, z4]
      omega
/-- The receiver behind the first i parts of a text. -/
structure RAt (t : List UInt8) (i : Nat) (r : Rcv) : Prop where
  len : r.len = t.length
  got : r.got = if i = partsN t then t else t.take (7 * i - 1)
  st : r.st = if i = partsN t then 3 else 2
  num : 7 < t.length → r.num = ((i % 16 : Nat) : Int)
  err : r.err = 0
  clock : r.clock = 0
theorem partsN_pos (t : List UInt8) : 1 ≤ partsN t := by unfold partsN; split <;> omega
theorem RAt.first {t : List UInt8} (h0 : 1 ≤ t.length) (h1 : t.length ≤ 4095) {r : Rcv} (hr : (t.length : Int) ≤ r.room) : ∃ r' a, recvV r ((partsL t)[0]?.getD Pdu.none) = (r', a, decide (7 < t.length)) ∧ RAt t 1 r' ∧
    (a = if 7 < t.length then goP r else Pdu.none) ∧ (7 < t.length → r'.left = if r.block = 0 then -1 else r.block) := by
  by_cases h : t.length ≤ 7
  · have hN : partsN t = 1 := by rw [partsN, if_pos h]
    rw [parts_short h0 h]
    refine ⟨⟨3, t.length, t, 0, 0, r.block, r.gap, 0, r.room, 0⟩, Pdu.none, ?_, ⟨rfl, by simp [hN], by simp [hN], fun h' => by omega, rfl, rfl⟩, by rw [if_neg (by omega)], fun h' => by omega⟩
    rw [decide_eq_false (by omega)]
    simp only [List.getElem?_cons_zero, Option.getD_some, recvV, if_true, beginR]
    rw [if_neg (by omega)]
    rfl
  · obtain ⟨q1, q2, q3⟩ := parts_long (by omega : 7 < t.length) h1
    have hN : partsN t = 1 + t.length / 7 := by rw [partsN, if_neg h]
    rw [q2, decide_eq_true (by omega)]
    refine ⟨⟨2, t.length, t.take 6, 1, (if r.block = 0 then -1 else r.block), r.block, r.gap, 0, r.room, 0⟩, goP r, ?_, ⟨rfl, by rw [if_neg (show ¬ (1 = partsN t) by omega)], by rw [if_neg (show ¬ (1 = partsN t) by omega)], fun _ => rfl, rfl, rfl⟩, by rw [if_pos (show 7 < t.length by omega)], fun _ => rfl⟩
    simp only [Option.getD_some, recvV, if_true, beginR]
    rw [if_neg (by decide), if_neg (by omega), if_neg (by omega)]
    rfl
theorem RAt.step {t : List UInt8} (h1 : t.length ≤ 4095) {i : Nat} {r : Rcv} (h : RAt t i r) (hi : 1 ≤ i) (hn : i < partsN t) :
    ∃ r' a b, recvV r ((partsL t)[i]?.getD Pdu.none) = (r', a, b) ∧ RAt t (i + 1) r' ∧ b = (decide (i + 1 ≠ partsN t) && decide (0 ≤ r.left) && decide (r.left ≤ 1)) ∧ (a = if b = true then goP r else Pdu.none) ∧
      r'.left = (if i + 1 = partsN t then r.left else if r.left < 0 then r.left else if 1 < r.left then r.left - 1 else r.block) ∧ sameCfg r r' := by
  have hl : ¬ t.length ≤ 7 := by intro h'; rw [partsN, if_pos h'] at hn; omega
  obtain ⟨q1, q2, q3⟩ := parts_long (by omega : 7 < t.length) h1
  have hN : partsN t = 1 + t.length / 7 := by rw [partsN, if_neg hl]
  have hp := q3 i hi hn
  have hst : r.st = 2 := by rw [h.st, if_neg (by omega)]
  have hnum := h.num (by omega)
  have hgot : r.got = t.take (7 * i - 1) := by rw [h.got, if_neg (by omega)]
  have hgl : r.got.length = 7 * i - 1 := by rw [hgot]; simp; omega
  have hmiss : missR r = t.length - (7 * i - 1 : Nat) := by rw [missR, h.len, hgl]
  have hdl : ((t.drop (7 * i - 1)).take 7).length = min 7 (t.length - (7 * i - 1)) := by simp
  have hlim : (((t.drop (7 * i - 1)).take 7).length : Int) = if missR r < 7 then missR r else 7 := by
    rw [hdl, hmiss]
    split <;> omega
  have hnm : ((i % 16 : Nat) : Int) = r.num := hnum.symm
  have hm : (r.num + 1).tmod 16 = (((i + 1) % 16 : Nat) : Int) := by
    rw [hnum]
    have : i % 16 < 16 := Nat.mod_lt _ (by omega)
    have e : (((i % 16 : Nat) : Int) + 1) = ((i % 16 + 1 : Nat) : Int) := by omega
    rw [e, Int.tmod_eq_emod_of_nonneg (by omega)]
    omega
  have happ : r.got ++ (t.drop (7 * i - 1)).take 7 = t.take (7 * (i + 1) - 1) := by
    rw [hgot, ← List.take_add]
    congr 1
    omega
  have hlast : i + 1 = partsN t → t.take (7 * (i + 1) - 1) = t := fun e => List.take_of_length_le (by omega)
  have hend : (((t.drop (7 * i - 1)).take 7).length : Int) = missR r ↔ i + 1 = partsN t := by
    rw [hdl, hmiss, hN]
    omega
  rw [hp]
  simp only [Option.getD_some]
  rw [recvV, if_neg (show ¬ ((3 : Int) = 1) by decide), if_neg (show ¬ ((3 : Int) = 2) by decide), if_pos ⟨rfl, hst⟩]
  unfold nextV
  rw [if_neg (by rintro (h' | h'); exact h' hnm; exact h' hlim)]
  simp only
  by_cases he : i + 1 = partsN t
  · rw [if_pos (hend.2 he)]
    refine ⟨_, _, _, rfl, ⟨h.len, ?_, ?_, fun _ => hm, h.err, rfl⟩, by simp [he], rfl, by rw [if_pos he]; rfl, ⟨rfl, rfl, rfl⟩⟩
    · rw [if_pos he]; exact happ.trans (hlast he)
    · rw [if_pos he]
  · rw [if_neg (fun h' => he (hend.1 h'))]
    have hgo : ∀ r' : Rcv, r'.len = r.len → r'.got = r.got ++ (t.drop (7 * i - 1)).take 7 → r'.st = r.st → r'.num = (r.num + 1).tmod 16 → r'.err = r.err → r'.clock = 0 → RAt t (i + 1) r' := by
      intro r' e1 e2 e3 e4 e5 e6
      exact ⟨e1.trans h.len, by rw [if_neg he, e2, happ], by rw [if_neg he, e3, hst], fun _ => e4.trans hm, e5.trans h.err, e6⟩
    by_cases hl0 : r.left < 0
    · rw [if_pos hl0]
      refine ⟨_, _, _, rfl, hgo _ rfl rfl rfl rfl rfl rfl, ?_, rfl, by rw [if_neg he, if_pos hl0]; rfl, ⟨rfl, rfl, rfl⟩⟩
      rw [decide_eq_false (by omega : ¬ 0 ≤ r.left)]
      simp
    · rw [if_neg hl0]
      by_cases hl1 : 1 < r.left
      · rw [if_pos hl1]
        refine ⟨_, _, _, rfl, hgo _ rfl rfl rfl rfl rfl rfl, ?_, rfl, by rw [if_neg he, if_neg hl0, if_pos hl1], ⟨rfl, rfl, rfl⟩⟩
        rw [decide_eq_false (by omega : ¬ r.left ≤ 1)]
        simp
      · rw [if_neg hl1]
        refine ⟨_, _, _, rfl, hgo _ rfl rfl rfl rfl rfl rfl, ?_, rfl, by rw [if_neg he, if_neg hl0, if_neg hl1], ⟨rfl, rfl, rfl⟩⟩
        rw [decide_eq_true (by omega : 0 ≤ r.left), decide_eq_true (by omega : r.left ≤ 1), decide_eq_true he]
        rfl
end Go.Proofs.Ytpnhnobnjcknjaa.Pe
