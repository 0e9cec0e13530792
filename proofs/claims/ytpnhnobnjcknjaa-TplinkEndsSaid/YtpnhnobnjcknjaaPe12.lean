/- Operations that make or write memory: the theorem. -/
import Derived.Test.YtpnhnobnjcknjaaPe11
set_option linter.unusedVariables false
set_option linter.unusedSimpArgs false
namespace Go.Pe
open Go.RowKit

section
variable {P : Program} {T : Tab} {C : Ctx} {n : Nat} {E : Env} {H : Heap} {β : Ref} {a : Act} {w : World}

theorem Gives.value {o : Oper} {H' : Heap} {r : PV} {u : Value} {w' : World} {β' : Ref} (h1 : (execOp a.eval o).run P w = .ok (.value u) w') (h2 : Sim C n E H' β' a w') (h3 : Rep (NN C H' β') w' β' r u) : Gives P C n E H' a w o r :=
  ⟨_, w', β', h1, h2, .inl ⟨u, rfl, h3⟩⟩

theorem all_isCell {l : List PV} (h : l.all isCell = true) {x : PV} (hx : x ∈ l) : isCell x = true := List.all_eq_true.1 h x hx

theorem store_box (hT : TabOK P T) (hs : Sim C n E H β a w) {t : TypeId} {ti : TI} (hti : T t = some ti) {b off T0 : Nat} {cs vs : List PV} {v ad : Value} (hH : H b = some (.box T0 cs)) (hv : Rep (NN C H β) w β (.ptr b off) ad) {pv : PV}
    (hc : cellsA pv = some vs) (hr : Rep (NN C H β) w β pv v) (h1 : vs.length = ti.size) (h2 : off + vs.length ≤ cs.length) (h3 : vs.all isCell = true) :
    ∃ w', (Instr.storeAt t ad v).run P w = .ok () w' ∧ Sim C n E (upd H b (.box T0 (splice cs off vs))) β a w' := by
  obtain ⟨k, rfl, hβ⟩ := hv.ptr_eq
  obtain ⟨k', cells, q1, q2, q3, q4, q5⟩ := hs.blk b _ hH
  rw [hβ] at q1
  cases q1
  obtain ⟨c1, c2⟩ := hr.cells hc
  have hone : ∀ u ∈ v.cells.toList, u.oneCell' = true := by
    intro u hu
    obtain ⟨j, hj, rfl⟩ := List.getElem_of_mem hu
    simp only [Array.length_toList] at hj
    have hx := c2 j vs[j] (List.getElem?_eq_getElem (by omega))
    have := hx.cell (all_isCell h3 (List.getElem_mem _))
    simpa [Array.getD, hj] using this
  have hrun := store_run (P := P) (w := w) (hT t ti hti) (g := k) (o := off) (v := v) (fr := (0, 0)) q3 (by omega) (by omega) hone
  have hlen : off + v.cells.toList.length ≤ cells.toList.length := by simp; omega
  have hββ : upd β b (0, Value.pointer (some ⟨k, 0, none⟩)) = β := by
    funext c
    by_cases e : c = b
    · subst e; rw [upd_same, hβ]
    · rw [upd_other _ _ e]
  refine ⟨w.setRow k (splice cells.toList off v.cells.toList).toArray, by simp [Instr.storeAt, Instr.sureAddr, hrun], ?_⟩
  have := hs.change (x' := .box T0 (splice cs off vs)) (ver' := 0) (u' := .pointer (some ⟨k, 0, none⟩)) hH rfl hβ (.inl ⟨rfl, rfl⟩) (w' := w.setRow k (splice cells.toList off v.cells.toList).toArray)
    (fun k' _ hk' => setRow_other w k k' _ (fun e => hk' (by simp [refBlock, e]))) rfl rfl rfl (by simp) (fun k' hk' => .inl hk') (fun hk hN hl hbox => by
      refine ⟨k, _, upd_same _ _ _, q2, setRow_heap w k cells _ T0 (0, 0) q3, by rw [List.size_toArray, splice_length hlen, splice_length h2]; simpa using q4, fun j x hj => ?_⟩
      rw [splice_get h2] at hj
      rw [getD_splice hlen]
      by_cases hr' : off ≤ j ∧ j < off + vs.length
      · rw [if_pos hr'] at hj
        rw [if_pos (by simp; omega)]
        have h5 := c2 _ _ hj
        have e : v.cells.toList.getD (j - off) undef = v.cells.getD (j - off) undef := by simp [Array.getD_eq_getD_getElem?, List.getD_eq_getElem?_getD]
        rw [e]
        exact ⟨h5.mono hk hN hl hbox, h5.cell (all_isCell h3 (List.mem_of_getElem? hj))⟩
      · rw [if_neg hr'] at hj
        rw [if_neg (by simp; omega)]
        have h5 := q5 _ _ hj
        have e : cells.toList.getD j undef = cells.getD j undef := by simp [Array.getD_eq_getD_getElem?, List.getD_eq_getElem?_getD]
        rw [e]
        exact ⟨h5.1.mono hk hN hl hbox, h5.2⟩)
  rw [hββ] at this
  exact this

theorem store_arr (hT : TabOK P T) (hs : Sim C n E H β a w) {t : TypeId} {ti : TI} (hti : T t = some ti) {b ver row off size T0 : Nat} {rows : List (List PV)} {vs us : List PV} {v ad : Value} (hH : H b = some (.arr T0 size rows ver false)) (hv : Rep (NN C H β) w β (.aptr b ver row off size) ad) {pv : PV}
    (hc : cellsA pv = some vs) (hu : frzCs H vs = some us) (hr : Rep (NN C H β) w β pv v) (hrow : row < rows.length) (h1 : us.length = ti.size) (h2 : off + us.length ≤ size) (h3 : ∀ x ∈ frzEff H vs, x.1 ≠ b) :
    ∃ w', (Instr.storeAt t ad v).run P w = .ok () w' ∧ Sim C n E (applyEff H (frzEff H vs ++ [(b, .arr T0 size (rows.set row (splice (rows.getD row []) off us)) ver false)])) β a w' := by
  obtain ⟨g, nn, c0, xs, hβ, rfl, hown, _⟩ := arr_ptr hs hH hrow hv
  obtain ⟨c1, c2⟩ := hr.cells hc
  have hf := hs.frz vs
  have hfm : ∀ x ∈ frzEff H vs, applyEff H (frzEff H vs) x.1 = some x.2 := fun x hx => applyEff_mem _ _ _ (frzEff_list vs) hx
  obtain ⟨s1, s2⟩ := frzCs_spec hs hf vs us hu hfm
  have hHb : applyEff H (frzEff H vs) b = some (.arr T0 size rows ver false) := by rw [applyEff_other _ _ _ h3]; exact hH
  obtain ⟨u0, xs0, q1, q2, q3, q4⟩ := hf.sim.blk b _ hHb
  rw [hβ] at q1
  cases q1
  have hxs : xs0 = xs := by
    rcases q2.2 with ⟨h', _⟩ | ⟨g1, c1', cu1, e1, _, hg1, _, _, _, ht1⟩
    · cases h'
    · rcases hown.2 with ⟨h', _⟩ | ⟨g2, c2', cu2, e2, _, hg2, _, _, _, ht2⟩
      · cases h'
      · cases e1
        cases e2
        rw [hg1] at hg2
        cases hg2
        rw [← ht1, ← ht2]
  subst hxs
  rcases q2.2 with ⟨h', _⟩ | ⟨g1, cap, cur, e1, hbg, hg1, hnc, hcm, hcs, ht1⟩
  · cases h'
  obtain ⟨e2, e3, e4⟩ : g = g1 ∧ nn = rows.length ∧ cap = c0 := by cases e1; exact ⟨rfl, rfl, rfl⟩
  subst e2 e3 e4
  have hrl : rows[row]? = some (rows.getD row []) := by simp [List.getD_eq_getElem?_getD, hrow]
  have hrlen : (rows.getD row []).length = size := q3 _ (List.mem_of_getElem? hrl)
  have hfitc : row * size + off + v.cells.size ≤ cur.size := by
    have h5 := Nat.mul_le_mul_right size (show row + 1 ≤ cap by omega)
    rw [Nat.add_mul, Nat.one_mul] at h5
    rw [hcs, c1, ← s1]
    omega
  have hone : ∀ u ∈ v.cells.toList, u.oneCell' = true := by
    intro u hu'
    obtain ⟨j, hj, rfl⟩ := List.getElem_of_mem hu'
    simp only [Array.length_toList] at hj
    obtain ⟨q, hq1, hq2⟩ := s2 j us[j] (v.cells.getD j undef) (List.getElem?_eq_getElem (by omega))
    have := (hq2 (c2 j q hq1)).2
    simpa [Array.getD, hj] using this
  have hrun := store_run (P := P) (w := w) (hT t ti hti) (g := g) (o := row * size + off) (v := v) (fr := (0, 0)) hg1 (by omega) hfitc hone
  have hlen : row * size + off + v.cells.toList.length ≤ cur.toList.length := by simp; omega
  have hββ : upd β b (ver, Value.slice (some ⟨g, 0, none⟩) rows.length cap) = β := by
    funext c
    by_cases e : c = b
    · subst e; rw [upd_same, hβ]
    · rw [upd_other _ _ e]
  refine ⟨w.setRow g (splice cur.toList (row * size + off) v.cells.toList).toArray, by simp [Instr.storeAt, Instr.sureAddr, hrun], ?_⟩
  have heff : applyEff H (frzEff H vs ++ [(b, .arr T0 size (rows.set row (splice (rows.getD row []) off us)) ver false)]) = upd (applyEff H (frzEff H vs)) b (.arr T0 size (rows.set row (splice (rows.getD row []) off us)) ver false) := by
    simp [applyEff]
  rw [heff]
  have := hf.sim.change (x' := .arr T0 size (rows.set row (splice (rows.getD row []) off us)) ver false) (ver' := ver) (u' := .slice (some ⟨g, 0, none⟩) rows.length cap) hHb rfl hβ (.inl ⟨rfl, rfl⟩) (w' := w.setRow g (splice cur.toList (row * size + off) v.cells.toList).toArray)
    (fun k' _ hk' => setRow_other w g k' _ (fun e => hk' (by simp [refBlock, e]))) rfl rfl rfl (by simp) (fun k' hk' => .inl hk') (fun hk hN hl hbox => by
      refine ⟨_, (splice cur.toList (row * size + off) v.cells.toList).take (rows.length * size), upd_same _ _ _, ⟨?_, .inr ⟨g, cap, _, ?_, hbg, setRow_heap w g cur _ T0 (0, 0) hg1, ?_, hcm, ?_, ?_⟩⟩, fun r hr' => ?_, fun i r j x hi hj => ?_⟩
      · have hcl : cur.toList.length = cap * size := by simpa using hcs
        rw [List.length_take, splice_length hlen, List.length_set, hcl]
        exact Nat.min_eq_left (Nat.mul_le_mul_right _ hnc)
      · rw [List.length_set]
      · rw [List.length_set]; exact hnc
      · rw [List.size_toArray, splice_length hlen]; exact hcs
      · rw [List.length_set]
      · rcases List.mem_or_eq_of_mem_set hr' with h5 | rfl
        · exact q3 r h5
        · rw [splice_length (by omega), hrlen]
      · have hil : i < rows.length := by have := (List.getElem?_eq_some_iff.1 hi).1; simpa using this
        have hjl : j < size := by
          have h5 := (List.getElem?_eq_some_iff.1 hj).1
          rcases List.mem_or_eq_of_mem_set (List.mem_of_getElem? hi) with h6 | rfl
          · rw [q3 r h6] at h5; exact h5
          · rw [splice_length (by omega), hrlen] at h5; exact h5
        have hlt : i * size + j < rows.length * size := flat_lt hil hjl
        have e1 : ((splice cur.toList (row * size + off) v.cells.toList).take (rows.length * size)).getD (i * size + j) undef = (splice cur.toList (row * size + off) v.cells.toList).toArray.getD (i * size + j) undef := by
          simp [List.getD_eq_getElem?_getD, Array.getD_eq_getD_getElem?, List.getElem?_take_of_lt hlt]
        rw [e1, getD_splice hlen]
        have old : ∀ x, rows[i]?.bind (·[j]?) = some x → IRep (NN C (upd (applyEff H (frzEff H vs)) b (.arr T0 size (rows.set row (splice (rows.getD row []) off us)) ver false)) (upd β b (ver, .slice (some ⟨g, 0, none⟩) rows.length cap))) (w.setRow g (splice cur.toList (row * size + off) v.cells.toList).toArray) x (cur.toList.getD (i * size + j) undef) ∧ (cur.toList.getD (i * size + j) undef).oneCell' = true := by
          intro x hx
          cases hri : rows[i]? with
          | none => simp [hri] at hx
          | some r0 =>
            rw [hri, Option.bind_some] at hx
            have h6 := q4 i r0 j x hri hx
            have e2 : xs0.getD (i * size + j) undef = cur.toList.getD (i * size + j) undef := by
              rw [← ht1]
              simp [List.getD_eq_getElem?_getD, List.getElem?_take_of_lt hlt]
            rw [e2] at h6
            exact ⟨h6.1.mono hk hN, h6.2⟩
        by_cases hir : i = row
        · subst hir
          rw [List.getElem?_set_self hil] at hi
          cases hi
          rw [splice_get (by omega)] at hj
          by_cases hr' : off ≤ j ∧ j < off + us.length
          · rw [if_pos hr'] at hj
            rw [if_pos (by simp; omega)]
            obtain ⟨q, hq1, hq2⟩ := s2 (j - off) x (v.cells.getD (j - off) undef) hj
            have h7 := hq2 (c2 _ q hq1)
            have e : v.cells.toList.getD (i * size + j - (i * size + off)) undef = v.cells.getD (j - off) undef := by
              have e3 : i * size + j - (i * size + off) = j - off := by omega
              rw [e3]
              simp [Array.getD_eq_getD_getElem?, List.getD_eq_getElem?_getD]
            rw [e]
            exact ⟨h7.1.mono hk hN, h7.2⟩
          · rw [if_neg hr'] at hj
            rw [if_neg (by simp; omega)]
            exact old x (by rw [hrl]; exact hj)
        · rw [List.getElem?_set_ne (Ne.symm hir)] at hi
          rw [if_neg]
          · exact old x (by rw [hi]; exact hj)
          · intro h8
            simp only [Array.length_toList] at h8
            rcases Nat.lt_or_ge i row with h9 | h9
            · have := Nat.mul_le_mul_right size (show i + 1 ≤ row by omega)
              rw [Nat.add_mul, Nat.one_mul] at this
              omega
            · have := Nat.mul_le_mul_right size (show row + 1 ≤ i by omega)
              rw [Nat.add_mul, Nat.one_mul] at this
              omega)
  rw [hββ] at this
  exact this
end

end Go.Pe
