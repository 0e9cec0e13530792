import Derived.Test.YtokilmnlabcpoaaDTc
namespace Go.Proofs.Ytokilmnlabcpoaa.Pe
open Go.Pe Go.RowKit
set_option maxRecDepth 20000
set_option maxHeartbeats 1000000
set_option linter.unusedSimpArgs false
set_option linter.unusedVariables false

theorem splice_in {α : Type} (cur ys mid : List α) (o m : Nat) (hc : o + 4 + m ≤ cur.length) (hy : ys.length = 4) (hm : mid.length = m) : (splice (splice cur (o + 4) mid) o ys).take (o + 4 + m) = cur.take o ++ ys ++ mid := by
  have e1 : (splice cur (o + 4) mid).take o = cur.take o := by
    unfold splice
    rw [List.append_assoc, List.take_append_of_le_length (by rw [List.length_take]; omega), List.take_take, Nat.min_eq_left (by omega)]
  have e2 : (splice cur (o + 4) mid).drop (o + ys.length) = mid ++ cur.drop (o + 4 + mid.length) := by
    unfold splice
    rw [List.append_assoc, List.drop_append_of_le_length (by rw [List.length_take, hy]; omega), List.drop_of_length_le (by rw [List.length_take, hy]; omega), List.nil_append]
  have e3 : splice (splice cur (o + 4) mid) o ys = (splice cur (o + 4) mid).take o ++ ys ++ (splice cur (o + 4) mid).drop (o + ys.length) := rfl
  rw [e3, e1, e2, ← List.append_assoc, List.take_append_of_le_length (by simp [hy, hm]; omega), List.take_of_length_le (by simp [hy, hm]; omega)]
theorem splice_out {α : Type} (row ys mid : List α) (o m : Nat) (hc : o + 4 + m ≤ row.length) (hy : ys.length = 4) (hm : mid.length = m) : (splice (splice row o ys) (o + 4) mid).take (o + 4 + m) = row.take o ++ ys ++ mid := by
  have e1 : (splice row o ys).take (o + 4) = row.take o ++ ys := by
    unfold splice
    rw [List.take_append_of_le_length (by simp [hy]; omega), List.take_of_length_le (by simp [hy]; omega)]
  have e3 : splice (splice row o ys) (o + 4) mid = (splice row o ys).take (o + 4) ++ mid ++ (splice row o ys).drop (o + 4 + mid.length) := rfl
  rw [e3, e1, List.take_append_of_le_length (by simp [hy, hm]; omega), List.take_of_length_le (by simp [hy, hm]; omega)]
/-- An element's cells among the others'. -/
theorem insert_cells {N : Nat → Prop} {w : World} {rows : List (List PV)} {x : List PV} {xs ys : List Value} {i : Nat} (hi : i ≤ rows.length) (hx : xs.length = rows.length * 4) (hy : ys.length = 4) (h3 : ∀ r ∈ rows, r.length = 4) (h3x : x.length = 4)
    (h4 : ∀ i r j pv, rows[i]? = some r → r[j]? = some pv → IRep N w pv (xs.getD (i * 4 + j) undef) ∧ (xs.getD (i * 4 + j) undef).oneCell' = true)
    (h5 : ∀ j pv, x[j]? = some pv → IRep N w pv (ys.getD j undef) ∧ (ys.getD j undef).oneCell' = true) :
    ∀ k r j pv, (rows.take i ++ x :: rows.drop i)[k]? = some r → r[j]? = some pv → IRep N w pv ((xs.take (i * 4) ++ ys ++ xs.drop (i * 4)).getD (k * 4 + j) undef) ∧ ((xs.take (i * 4) ++ ys ++ xs.drop (i * 4)).getD (k * 4 + j) undef).oneCell' = true := by
  intro k r j pv hk hj
  have hti : (rows.take i).length = i := by rw [List.length_take]; omega
  have htx : (xs.take (i * 4)).length = i * 4 := by rw [List.length_take]; omega
  have hjl : j < 4 := by
    have h6 := (List.getElem?_eq_some_iff.1 hj).1
    have : r.length = 4 := by
      rcases List.mem_append.1 (List.mem_of_getElem? hk) with h | h
      · exact h3 r (List.mem_of_mem_take h)
      · rcases List.mem_cons.1 h with rfl | h
        · exact h3x
        · exact h3 r (List.mem_of_mem_drop h)
    omega
  by_cases c1 : k < i
  · rw [List.getElem?_append_left (by omega), List.getElem?_take_of_lt c1] at hk
    have e : (xs.take (i * 4) ++ ys ++ xs.drop (i * 4)).getD (k * 4 + j) undef = xs.getD (k * 4 + j) undef := by
      rw [List.getD_eq_getElem?_getD, List.getD_eq_getElem?_getD, List.append_assoc, List.getElem?_append_left (by omega), List.getElem?_take_of_lt (by omega)]
    rw [e]
    exact h4 k r j pv hk hj
  · rw [List.getElem?_append_right (by omega), hti] at hk
    by_cases c2 : k = i
    · subst c2
      rw [Nat.sub_self] at hk
      cases hk
      have e : (xs.take (k * 4) ++ ys ++ xs.drop (k * 4)).getD (k * 4 + j) undef = ys.getD j undef := by
        rw [List.getD_eq_getElem?_getD, List.getD_eq_getElem?_getD, List.append_assoc, List.getElem?_append_right (by omega), htx, List.getElem?_append_left (by omega), show k * 4 + j - k * 4 = j by omega]
      rw [e]
      exact h5 j pv hj
    · obtain ⟨d, hd⟩ : ∃ d, k - i = d + 1 := ⟨k - i - 1, by omega⟩
      rw [hd, List.getElem?_cons_succ, List.getElem?_drop] at hk
      have e : (xs.take (i * 4) ++ ys ++ xs.drop (i * 4)).getD (k * 4 + j) undef = xs.getD ((i + d) * 4 + j) undef := by
        rw [List.getD_eq_getElem?_getD, List.getD_eq_getElem?_getD, List.getElem?_append_right (by simp [htx, hy]; omega), List.getElem?_drop]
        congr 2
        simp [htx, hy]
        omega
      rw [e]
      exact h4 _ r j pv hk hj
end Go.Proofs.Ytokilmnlabcpoaa.Pe
