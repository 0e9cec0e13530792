import Derived.Test.YtokilmnlabcpoaaDTd
namespace Go.Proofs.Ytokilmnlabcpoaa.Pe
open Go.Pe Go.RowKit
set_option maxRecDepth 20000
set_option maxHeartbeats 1000000
set_option linter.unusedSimpArgs false
set_option linter.unusedVariables false

theorem insertA {K KP : CK} {hp : List (Nat × Blk)} {nx b b2 ver ver2 i : Nat} {rows : List (List PV)} {x : List PV} (hb : lk b hp = some (.arr 67 4 rows ver false)) (hb2 : lk b2 hp = some (.arr 67 4 [x] ver2 false)) (hne : b ≠ b2) (hi : i < rows.length) (hn : rows.length ≤ 1000)
    (hK : K (.own b (ver + 1)) ((b, .arr 67 4 (rows.take i ++ x :: rows.drop i) (ver + 1) false) :: hp) nx) : CallA Try.prog 65 [.own b ver, PI i, .own b2 ver2] hp nx K KP := by
  refine ⟨⟨_, Try.func65, rfl, rfl⟩, fun C β w vs hgb hs hl hv => ?_⟩
  obtain ⟨u, xs, q1, q2, q3, q4⟩ := hs.blk b _ hb
  obtain ⟨u2, ys, p1, p2, p3, p4⟩ := hs.blk b2 _ hb2
  have v0 := (hv 0 _ rfl).own_eq q1
  have v1 := (hv 1 _ rfl).lit_eq
  have v2 := (hv 2 _ rfl).own_eq p1
  have hvs : vs = #[u, .int .i64 i, u2] := by
    have h3 : vs.size = 3 := hl
    apply Array.ext
    · simpa using h3
    · intro j hj1 hj2
      have g : ∀ k (hk : k < vs.size), vs.getD k undef = vs[k] := fun k hk => by simp [Array.getD, hk]
      match j, hj1 with
      | 0, hj1 => rw [g 0 hj1] at v0; exact v0
      | 1, hj1 => rw [g 1 hj1] at v1; exact v1
      | 2, hj1 => rw [g 2 hj1] at v2; exact v2
      | j + 3, hj1 => omega
  clear v0 v1 v2 hv hl
  subst hvs
  rcases q2.2 with ⟨_, h0⟩ | ⟨g, c, cur, rfl, hbg, hg, hnc, hcm, hcs, htk⟩
  · omega
  rcases p2.2 with ⟨_, h0⟩ | ⟨g2, c2, cur2, rfl, hbg2, hg2, hnc2, hcm2, hcs2, htk2⟩
  · simp at h0
  have hgg : g2 ≠ g := fun e => hs.sep b b2 _ _ hne hb hb2 ver _ ver2 _ g q1 p1 rfl (by rw [e]; rfl)
  obtain ⟨n, hnn⟩ : ∃ n, rows.length = n := ⟨_, rfl⟩
  have hxs : xs = cur.toList.take (n * 4) := by rw [← htk, hnn]
  have hys : ys = cur2.toList.take 4 := by rw [← htk2]; rfl
  have hxl : xs.length = n * 4 := by rw [← hnn]; exact q2.1
  have hyl : ys.length = 4 := p2.1
  have hx4 : x.length = 4 := p3 x (by simp)
  have hc63 : c ≤ 9223372036854775807 := by unfold maxLen at hcm; omega
  have hcl : cur.toList.length = c * 4 := by simpa using hcs
  have hcl2 : 4 ≤ cur2.size := by
    have : 1 ≤ c2 := hnc2
    omega
  have h1c : ∀ v ∈ cur.toList.take (n * 4), v.oneCell' = true := by
    rw [← hxs]
    intro v hv
    obtain ⟨k, hk, rfl⟩ := List.getElem_of_mem hv
    have hkl : k / 4 < rows.length := by omega
    have hr := q3 _ (List.getElem_mem hkl)
    have := (q4 (k / 4) _ (k % 4) _ (List.getElem?_eq_getElem hkl) (List.getElem?_eq_getElem (by rw [hr]; omega))).2
    rw [show k / 4 * 4 + k % 4 = k by omega] at this
    simpa [List.getD_eq_getElem?_getD, hk] using this
  have h5 : ∀ j pv, x[j]? = some pv → IRep (NN C (hpF hp) β) w pv (ys.getD j undef) ∧ (ys.getD j undef).oneCell' = true := fun j pv hj => by
    have := p4 0 x j pv rfl hj
    simpa using this
  have h1v : ∀ v ∈ cur2.toList.take 4, v.oneCell' = true := by
    rw [← hys]
    intro v hv
    obtain ⟨k, hk, rfl⟩ := List.getElem_of_mem hv
    have := (h5 k _ (List.getElem?_eq_getElem (by omega))).2
    simpa [List.getD_eq_getElem?_getD, hk] using this
  rw [hnn] at hi hn hnc
  have hlen : (rows.take i ++ x :: rows.drop i).length = n + 1 := by simp [hnn]; omega
  have hl4 : ∀ r ∈ rows.take i ++ x :: rows.drop i, r.length = 4 := by
    intro r hr
    rcases List.mem_append.1 hr with h | h
    · exact q3 r (List.mem_of_mem_take h)
    · rcases List.mem_cons.1 h with rfl | h
      · exact hx4
      · exact q3 r (List.mem_of_mem_drop h)
  have hzl : (xs.take (i * 4) ++ ys ++ xs.drop (i * 4)).length = (n + 1) * 4 := by simp [hxl, hyl]; omega
  have hup : ∀ v, Value.slice (some ⟨g, 0, none⟩) rows.length c ≠ .pointer v := by intro v hv; cases hv
  have hdl : (xs.drop (i * 4)).length = (n - i) * 4 := by rw [List.length_drop, hxl]; omega
  rw [hnn]
  by_cases hroom : n + 1 ≤ c
  · have hm1 : (n + 1) * 4 ≤ c * 4 := Nat.mul_le_mul_right 4 hroom
    refine (insert_shift i n c g g2 c2 cur cur2 w hi hroom hc63 hg hcs hg2 hcl2 hgg h1c h1v).mono ?_
    rintro e w' ⟨rfl, hw'⟩
    rw [← hxs, ← hys] at hw'
    have hrow : (splice (splice cur.toList ((i + 1) * 4) (xs.drop (i * 4))) (i * 4) ys).take ((n + 1) * 4) = xs.take (i * 4) ++ ys ++ xs.drop (i * 4) := by
      have e1 := splice_in cur.toList ys (xs.drop (i * 4)) (i * 4) ((n - i) * 4) (by rw [hcl]; omega) hyl hdl
      rw [show i * 4 + 4 = (i + 1) * 4 by omega, show (i + 1) * 4 + (n - i) * 4 = (n + 1) * 4 by omega] at e1
      rw [e1, hxs, List.take_take, Nat.min_eq_left (by omega)]
    have hsl1 : (splice cur.toList ((i + 1) * 4) (xs.drop (i * 4))).length = c * 4 := by rw [splice_length (by rw [hdl, hcl]; omega), hcl]
    have hsl : (splice (splice cur.toList ((i + 1) * 4) (xs.drop (i * 4))) (i * 4) ys).length = c * 4 := by rw [splice_length (by rw [hyl, hsl1]; omega), hsl1]
    have hheap : w'.heap[g]? = some (.cells (splice (splice cur.toList ((i + 1) * 4) (xs.drop (i * 4))) (i * 4) ys).toArray 67 (0, 0)) := by
      rw [hw']
      exact setRow_heap _ g _ _ _ _ (setRow_heap w.drew g cur _ _ _ hg)
    have hother : ∀ k, k ≠ g → w'.heap[k]? = w.heap[k]? := fun k hk => by
      rw [hw', setRow_other _ g k _ hk, setRow_other _ g k _ hk]
      rfl
    have hsim := hs.change (x' := .arr 67 4 (rows.take i ++ x :: rows.drop i) (ver + 1) false) (ver' := ver + 1) (u' := .slice (some ⟨g, 0, none⟩) (n + 1) c) (w' := w') hb rfl q1 (.inr ⟨by omega, hup⟩)
      (fun k _ hk => hother k (fun e => hk (by rw [e]; rfl))) (by rw [hw']; rfl) (by rw [hw']; rfl) (by rw [hw']; rfl) (by rw [hw']; simp) (fun k hk => .inl hk) (fun hkp hN hlt hbox =>
        ⟨_, xs.take (i * 4) ++ ys ++ xs.drop (i * 4), upd_same _ _ _, ⟨by rw [hlen]; exact hzl, .inr ⟨g, c, _, by rw [hlen], hbg, hheap, by rw [hlen]; exact hroom, hcm, by rw [List.size_toArray]; exact hsl, by rw [hlen]; exact hrow⟩⟩, hl4,
          insert_cells (by omega) (by rw [hnn]; exact hxl) hyl q3 hx4 (fun i r j pv h1 h2 => ⟨(q4 i r j pv h1 h2).1.mono hkp hN, (q4 i r j pv h1 h2).2⟩) (fun j pv h => ⟨(h5 j pv h).1.mono hkp hN, (h5 j pv h).2⟩)⟩)
    exact ⟨_, _, _, _, _, .inl ⟨rfl, hK⟩, hsim, .own _ _ _ _ _ (upd_same _ _ _) (Nat.le_refl _) rfl (fun _ => rfl)⟩
  · obtain ⟨i0, z, i1, i2, i3, i4, i5, i6, i7⟩ := ok67.i
    have hzs : z.cells.size = 4 := by
      have h := (congrArg List.length i5).trans i6
      rw [Array.length_toList] at h
      exact h
    refine (insert_grow i n c g g2 c2 cur cur2 w z ⟨i0, i1, i4, i2, i3⟩ hzs hi hn hnc (by omega) hg hcs hg2 hcl2 h1c h1v).mono ?_
    rintro e w' ⟨rfl, ROW, hrs, hrt, hw'⟩
    rw [← hxs, ← hys] at hw'
    obtain ⟨G, hG⟩ : ∃ G, grownCap w (n + 1) c 67 = G := ⟨_, rfl⟩
    have hGn : n + 1 ≤ G := by rw [← hG]; exact grownCap_ge w _ _ _
    have hGm : G ≤ maxLen := by rw [← hG]; exact grownCap_le_maxLen w _ _ _ (by unfold maxLen; omega)
    rw [hG] at hrs ⊢
    have hm1 : (n + 1) * 4 ≤ G * 4 := Nat.mul_le_mul_right 4 hGn
    have hrl : ROW.toList.length = G * 4 := by simpa using hrs
    have hrow : (splice (splice ROW.toList (i * 4) ys) ((i + 1) * 4) (xs.drop (i * 4))).take ((n + 1) * 4) = xs.take (i * 4) ++ ys ++ xs.drop (i * 4) := by
      have e1 := splice_out ROW.toList ys (xs.drop (i * 4)) (i * 4) ((n - i) * 4) (by rw [hrl]; omega) hyl hdl
      rw [show i * 4 + 4 = (i + 1) * 4 by omega, show (i + 1) * 4 + (n - i) * 4 = (n + 1) * 4 by omega] at e1
      rw [e1, hrt, hxs, List.take_take, Nat.min_eq_left (by omega)]
    have hsl1 : (splice ROW.toList (i * 4) ys).length = G * 4 := by rw [splice_length (by rw [hyl, hrl]; omega), hrl]
    have hsl : (splice (splice ROW.toList (i * 4) ys) ((i + 1) * 4) (xs.drop (i * 4))).length = G * 4 := by rw [splice_length (by rw [hdl, hsl1]; omega), hsl1]
    have hnew : (w.drew.alloc (.cells ROW 67)).heap[w.heap.size]? = some (.cells ROW 67 (0, 0)) := Go.heap_alloc_new w.drew _
    have hheap : w'.heap[w.heap.size]? = some (.cells (splice (splice ROW.toList (i * 4) ys) ((i + 1) * 4) (xs.drop (i * 4))).toArray 67 (0, 0)) := by
      rw [hw']
      exact setRow_heap _ _ _ _ _ _ (setRow_heap _ _ _ _ _ _ hnew)
    have hother : ∀ k, k < w.heap.size → w'.heap[k]? = w.heap[k]? := fun k hk => by
      rw [hw', setRow_other _ _ k _ (by omega)]
      show ((w.drew.alloc _).setRow _ _).heap[k]? = _
      rw [setRow_other _ _ k _ (by omega)]
      exact (Keeps.alloc (fun _ => False) w.drew _).block k hk (fun h => h)
    have hsize : w'.heap.size = w.heap.size + 1 := by rw [hw']; simp
    have hsim := hs.change (x' := .arr 67 4 (rows.take i ++ x :: rows.drop i) (ver + 1) false) (ver' := ver + 1) (u' := .slice (some ⟨w.heap.size, 0, none⟩) (n + 1) G) (w' := w') hb rfl q1 (.inr ⟨by omega, hup⟩)
      (fun k hk _ => hother k hk) (by rw [hw']; rfl) (by rw [hw']; rfl) (by rw [hw']; rfl) (by rw [hsize]; omega) (fun k hk => .inr (by simp only [refBlock, Option.some.injEq] at hk; omega)) (fun hkp hN hlt hbox =>
        ⟨_, xs.take (i * 4) ++ ys ++ xs.drop (i * 4), upd_same _ _ _, ⟨by rw [hlen]; exact hzl, .inr ⟨w.heap.size, G, _, by rw [hlen], hs.bs, hheap, by rw [hlen]; exact hGn, hGm, by rw [List.size_toArray]; exact hsl, by rw [hlen]; exact hrow⟩⟩, hl4,
          insert_cells (by omega) (by rw [hnn]; exact hxl) hyl q3 hx4 (fun i r j pv h1 h2 => ⟨(q4 i r j pv h1 h2).1.mono hkp hN, (q4 i r j pv h1 h2).2⟩) (fun j pv h => ⟨(h5 j pv h).1.mono hkp hN, (h5 j pv h).2⟩)⟩)
    exact ⟨_, _, _, _, _, .inl ⟨rfl, hK⟩, hsim, .own _ _ _ _ _ (upd_same _ _ _) (Nat.le_refl _) rfl (fun _ => rfl)⟩
end Go.Proofs.Ytokilmnlabcpoaa.Pe
