import Derived.Test.YtpnhnobnjcknjaaD9
namespace Go.Proofs.Ytpnhnobnjcknjaa.Pe
open Go.Pe Go.RowKit
set_option maxRecDepth 20000
set_option maxHeartbeats 4000000
set_option linter.unusedSimpArgs false
set_option linter.unusedVariables false

def partAt (g : List UInt8) (j : Nat) : Pdu := ⟨3, 0, ((j % 16 : Nat) : Int), 0, 0, 0, (g.drop (7 * j - 1)).take 7⟩
/-- The first i parts of a text whose beginning is g. -/
def sinceOf (len : Int) (g : List UInt8) (i : Nat) : List Pdu := ⟨2, len, 0, 0, 0, 0, g.take 6⟩ :: (List.range (i - 1)).map fun j => partAt g (j + 1)
theorem sinceOf_all {t : List UInt8} (h0 : 7 < t.length) (h1 : t.length ≤ 4095) : partsL t = sinceOf t.length t (partsN t) := by
  obtain ⟨q1, q2, q3⟩ := parts_long h0 h1
  have hN := partsN_pos t
  apply List.ext_getElem?
  intro i
  cases i with
  | zero => rw [q2]; rfl
  | succ i =>
    by_cases hi : i + 1 < partsN t
    · rw [q3 (i + 1) (by omega) hi, sinceOf, List.getElem?_cons_succ, List.getElem?_map, List.getElem?_range (by omega)]
      rfl
    · rw [List.getElem?_eq_none (by omega), List.getElem?_eq_none (by simp [sinceOf]; omega)]
theorem sinceOf_app (len : Int) (g d : List UInt8) {i : Nat} (hi : 1 ≤ i) (h : 7 * i - 1 ≤ g.length) : sinceOf len (g ++ d) i = sinceOf len g i := by
  unfold sinceOf
  congr 1
  · rw [List.take_append_of_le_length (by omega)]
  · apply List.map_congr_left
    intro j hj
    simp at hj
    unfold partAt
    rw [List.drop_append_of_le_length (by omega), List.take_append_of_le_length (by simp; omega)]
theorem sinceOf_succ (len : Int) (g : List UInt8) {i : Nat} (hi : 1 ≤ i) : sinceOf len g (i + 1) = sinceOf len g i ++ [partAt g i] := by
  obtain ⟨i, rfl⟩ : ∃ j, i = j + 1 := ⟨i - 1, by omega⟩
  simp [sinceOf, List.range_succ]
def EAt (since : List Pdu) (r : Rcv) : Prop :=
  r.room = 4095 ∧ ((r.st = 0 ∧ since = []) ∨ (r.st = 4 ∧ since ≠ []) ∨ (r.st = 3 ∧ 1 ≤ r.got.length ∧ r.got.length ≤ 4095 ∧ since = partsL r.got) ∨
  (r.st = 2 ∧ ∃ i, 1 ≤ i ∧ 8 ≤ r.len ∧ r.len ≤ 4095 ∧ r.got.length = 7 * i - 1 ∧ (r.got.length : Int) < r.len ∧ r.num = ((i % 16 : Nat) : Int) ∧ since = sinceOf r.len r.got i))
theorem EAt.tick {since : List Pdu} {r : Rcv} (h : EAt since r) : EAt since (tickV r) := by
  unfold tickV
  split
  · rename_i h2
    split
    · refine ⟨h.1, .inr (.inl ⟨rfl, ?_⟩)⟩
      rcases h.2 with ⟨h', _⟩ | ⟨h', _⟩ | ⟨h', _⟩ | ⟨_, i, _, _, _, _, _, _, rfl⟩
      · omega
      · omega
      · omega
      · simp [sinceOf]
    · exact h
  · exact h
/-- What came since, behind a part. -/
def sinceR (since : List Pdu) (r : Rcv) (p : Pdu) : List Pdu := if p.k = 1 ∨ p.k = 2 then [p] else if p.k = 3 ∧ r.st = 2 then since ++ [p] else since
theorem EAt.recv {since : List Pdu} {r : Rcv} (h : EAt since r) {p : Pdu} (hp : p.right = true) : EAt (sinceR since r p) (recvV r p).1 := by
  obtain ⟨hroom, h⟩ := h
  obtain ⟨k, l, n, s, b, g, d⟩ := p
  by_cases h1 : k = 1
  · subst h1
    simp only [Pdu.right, if_true, Bool.and_eq_true, decide_eq_true_eq, z4] at hp
    have hnr : ¬ r.room < l := by omega
    refine ⟨by simp only [recvV, if_true, beginR, if_neg hnr]; exact hroom, .inr (.inr (.inl ?_))⟩
    simp only [recvV, if_true, beginR, if_neg hnr, sinceR, freshR]
    refine ⟨trivial, by omega, by omega, ?_⟩
    rw [parts_short (by omega) (by omega)]
    obtain ⟨⟨⟨rfl, _⟩, _⟩, ⟨⟨rfl, rfl⟩, rfl⟩, rfl⟩ := hp
    simp
  by_cases h2 : k = 2
  · subst h2
    simp only [Pdu.right, show ¬ ((2 : Int) = 1) by decide, if_false, if_true, Bool.and_eq_true, decide_eq_true_eq, z4] at hp
    have hnr : ¬ r.room < l := by omega
    refine ⟨by simp only [recvV, show ¬ ((2 : Int) = 1) by decide, if_false, if_true, beginR, if_neg hnr]; exact hroom, .inr (.inr (.inr ?_))⟩
    simp only [recvV, show ¬ ((2 : Int) = 1) by decide, if_false, if_true, beginR, if_neg hnr, sinceR, freshR]
    refine ⟨trivial, 1, by omega, by omega, by omega, by omega, by omega, rfl, ?_⟩
    obtain ⟨⟨⟨_, _⟩, hd⟩, ⟨⟨rfl, rfl⟩, rfl⟩, rfl⟩ := hp
    simp [sinceOf]
    rw [List.take_of_length_le (by omega)]
  by_cases h3 : k = 3 ∧ r.st = 2
  · obtain ⟨rfl, hst⟩ := h3
    simp only [Pdu.right, show ¬ ((3 : Int) = 1) by decide, show ¬ ((3 : Int) = 2) by decide, if_false, if_true, Bool.and_eq_true, decide_eq_true_eq, z4] at hp
    have hs : sinceR since r ⟨3, l, n, s, b, g, d⟩ = since ++ [⟨3, l, n, s, b, g, d⟩] := by simp [sinceR, hst]
    rw [hs, recvV, if_neg (show ¬ ((3 : Int) = 1) by decide), if_neg (show ¬ ((3 : Int) = 2) by decide), if_pos ⟨rfl, hst⟩]
    rcases h with ⟨h', _⟩ | ⟨h', _⟩ | ⟨h', _⟩ | ⟨_, i, e1, e2, e3, e4, e5, e6, rfl⟩
    · omega
    · omega
    · omega
    unfold nextV
    by_cases hc : n ≠ r.num ∨ (d.length : Int) ≠ (if missR r < 7 then missR r else 7)
    · rw [if_pos hc]
      exact ⟨hroom, .inr (.inl ⟨rfl, by simp⟩)⟩
    rw [if_neg hc]
    have hn : n = r.num := Classical.byContradiction fun h => hc (.inl h)
    have hl : (d.length : Int) = if missR r < 7 then missR r else 7 := Classical.byContradiction fun h => hc (.inr h)
    have hmi : missR r = r.len - r.got.length := rfl
    obtain ⟨_, ⟨⟨rfl, rfl⟩, rfl⟩, rfl⟩ := hp
    have hpa : partAt (r.got ++ d) i = ⟨3, 0, n, 0, 0, 0, d⟩ := by
      unfold partAt
      rw [← e4, List.drop_left, hn, e6, List.take_of_length_le (by split at hl <;> omega)]
    have hsn : sinceOf r.len (r.got ++ d) (i + 1) = sinceOf r.len r.got i ++ [⟨3, 0, n, 0, 0, 0, d⟩] := by
      rw [sinceOf_succ _ _ e1, sinceOf_app _ _ _ e1 (by omega), hpa]
    by_cases hend : (d.length : Int) = missR r
    · rw [if_pos hend]
      have hlen : ((r.got ++ d).length : Int) = r.len := by simp; omega
      refine ⟨hroom, .inr (.inr (.inl ⟨rfl, ?_, ?_, ?_⟩))⟩
      · simp only [moreR]; omega
      · simp only [moreR]; omega
      · simp only [moreR]
        rw [sinceOf_all (by omega) (by omega), hlen, ← hsn]
        congr 1
        have hll : (r.got ++ d).length = r.got.length + d.length := by simp
        rw [partsN, if_neg (by omega)]
        split at hl <;> omega
    rw [if_neg hend]
    have hd7 : d.length = 7 := by
      by_cases hm : missR r < 7
      · rw [if_pos hm] at hl; omega
      · rw [if_neg hm] at hl; omega
    have hd8 : (7 : Int) < missR r := by
      by_cases hm : missR r < 7
      · rw [if_pos hm] at hl; omega
      · omega
    have hnum : (r.num + 1).tmod 16 = (((i + 1) % 16 : Nat) : Int) := by
      rw [e6, show ((i % 16 : Nat) : Int) + 1 = ((i % 16 + 1 : Nat) : Int) by omega]
      show (((i % 16 + 1) % 16 : Nat) : Int) = _
      omega
    have key : ∀ r' : Rcv, r'.room = r.room → r'.st = r.st → r'.len = r.len → r'.got = r.got ++ d → r'.num = (r.num + 1).tmod 16 → EAt (sinceOf r.len r.got i ++ [⟨3, 0, n, 0, 0, 0, d⟩]) r' := by
      intro r' f1 f2 f3 f4 f5
      have hg : r'.got.length = r.got.length + d.length := by rw [f4]; simp
      refine ⟨by omega, .inr (.inr (.inr ⟨by omega, i + 1, by omega, by omega, by omega, by omega, by omega, by rw [f5, hnum], ?_⟩))⟩
      rw [f3, f4, hsn]
    split
    · exact key _ rfl rfl rfl rfl rfl
    · split
      · exact key _ rfl rfl rfl rfl rfl
      · exact key _ rfl rfl rfl rfl rfl
  · have hs : sinceR since r ⟨k, l, n, s, b, g, d⟩ = since := by rw [sinceR, if_neg (by simp [h1, h2]), if_neg h3]
    rw [hs, recvV, if_neg h1, if_neg h2, if_neg h3]
    exact ⟨hroom, h⟩
end Go.Proofs.Ytpnhnobnjcknjaa.Pe
