/- Operations that make or write memory: the theorem. -/
import Derived.Test.YtpnhnobnjcknjaaPe10
set_option linter.unusedVariables false
set_option linter.unusedSimpArgs false
namespace Go.Pe
open Go.RowKit

theorem wrap64_id {m : Int} (h0 : 0 ≤ m) (h1 : m ≤ 9223372036854775807) : IntKind.i64.wrap m = m := by
  unfold IntKind.wrap
  have hm : m % 2 ^ 64 = m := Int.emod_eq_of_lt h0 (by omega)
  have h2 : ¬ (m ≥ 2 ^ (64 - 1)) := by omega
  simp only [IntKind.bits, IntKind.signed, Bool.true_and, hm, decide_eq_true_eq]
  rw [if_neg h2]

section
variable {P : Program} {T : Tab} {C : Ctx} {n : Nat} {E : Env} {H : Heap} {β : Ref} {a : Act} {w : World}

theorem Sim.newBox (h : Sim C n E H β a w) {b t : Nat} (hb : H b = none) {cells : Array Value} {cs : List PV} (hl : cells.size = cs.length)
    (hc : ∀ j x, cs[j]? = some x → Rep (NN C H β) w β x (cells.getD j undef) ∧ (cells.getD j undef).oneCell' = true) :
    ∃ β', Sim C n E (upd H b (.box t cs)) β' a (w.alloc (.cells cells t)) ∧ Rep (NN C (upd H b (.box t cs)) β') (w.alloc (.cells cells t)) β' (.ptr b 0) (.pointer (some ⟨w.heap.size, 0, none⟩)) := by
  refine ⟨upd β b (0, .pointer (some ⟨w.heap.size, 0, none⟩)), h.new hb (Keeps.alloc _ _ _) (fun k hk => heap_alloc_old w _ k hk) (fun k hk => ?_) (fun hk hN hlt hbox => ?_), .ptr _ _ _ (upd_same _ _ _)⟩
  · simp [refBlock] at hk
    subst hk
    exact ⟨Nat.le_refl _, by simp⟩
  · exact ⟨w.heap.size, cells, upd_same _ _ _, h.bs, heap_alloc_new w _, hl, fun j x hj => ⟨(hc j x hj).1.mono hk hN hlt hbox, (hc j x hj).2⟩⟩

theorem Sim.newArr (h : Sim C n E H β a w) {b e size m cap : Nat} (hb : H b = none) {cells : Array Value} {rows : List (List PV)} (hm : rows.length = m) (hmc : m ≤ cap) (hcl : cap ≤ maxLen) (hl : cells.size = cap * size) (hsz : ∀ r ∈ rows, r.length = size)
    (hc : ∀ i r j x, rows[i]? = some r → r[j]? = some x → IRep (NN C H β) w x (cells.getD (i * size + j) undef) ∧ (cells.getD (i * size + j) undef).oneCell' = true) :
    ∃ β', Sim C n E (upd H b (.arr e size rows 0 false)) β' a (w.alloc (.cells cells e)) ∧ Rep (NN C (upd H b (.arr e size rows 0 false)) β') (w.alloc (.cells cells e)) β' (.own b 0) (.slice (some ⟨w.heap.size, 0, none⟩) m cap) := by
  refine ⟨upd β b (0, .slice (some ⟨w.heap.size, 0, none⟩) m cap), h.new hb (Keeps.alloc _ _ _) (fun k hk => heap_alloc_old w _ k hk) (fun k hk => ?_) (fun hk hN hlt hbox => ?_), .own _ _ _ _ _ (upd_same _ _ _) (Nat.le_refl _) rfl (fun _ => rfl)⟩
  · simp [refBlock] at hk
    subst hk
    exact ⟨Nat.le_refl _, by simp⟩
  · have hle : m * size ≤ cells.size := by rw [hl]; exact Nat.mul_le_mul_right _ hmc
    refine ⟨_, cells.toList.take (m * size), upd_same _ _ _, ⟨by rw [List.length_take, hm, Array.length_toList]; exact Nat.min_eq_left hle, .inr ⟨w.heap.size, cap, cells, by rw [hm], h.bs, heap_alloc_new w _, by omega, hcl, hl, by rw [hm]⟩⟩, hsz, fun i r j x hi hj => ?_⟩
    have hil : i < m := by rw [← hm]; exact (List.getElem?_eq_some_iff.1 hi).1
    have hjl : j < size := by have := (List.getElem?_eq_some_iff.1 hj).1; rw [hsz r (List.mem_of_getElem? hi)] at this; exact this
    have hlt' : i * size + j < m * size := flat_lt hil hjl
    have e1 : (cells.toList.take (m * size)).getD (i * size + j) undef = cells.getD (i * size + j) undef := by
      simp [List.getD_eq_getElem?_getD, Array.getD_eq_getD_getElem?, List.getElem?_take_of_lt hlt']
    rw [e1]
    exact ⟨(hc i r j x hi hj).1.mono hk hN, (hc i r j x hi hj).2⟩

/-- A dense slice literal. -/
theorem fill_dense (size : Nat) : ∀ (qs : List (Nat × Value)) (s len : Nat) (cells : Array Value), qs.map (·.1) = (List.range' s qs.length) → (∀ q ∈ qs, q.2.cells.size = size) → s + qs.length ≤ len → cells.size = len * size →
    ∃ r, Instr.fill (fun i => some (i * size, size)) cells qs = some r ∧ r.size = cells.size ∧ ∀ i j, i < len → j < size → r.getD (i * size + j) undef = if s ≤ i ∧ i < s + qs.length then ((qs.getD (i - s) (0, undef)).2).cells.getD j undef else cells.getD (i * size + j) undef
  | [], s, len, cells, _, _, _, _ => ⟨cells, rfl, rfl, fun i j _ _ => by rw [if_neg (by simp)]⟩
  | (k, v) :: qs, s, len, cells, hk, hv, hl, hc => by
    simp only [List.map_cons, List.length_cons, List.range'_succ, List.cons.injEq] at hk
    obtain ⟨rfl, hk⟩ := hk
    have hvs : v.cells.size = size := hv _ List.mem_cons_self
    simp only [List.length_cons] at hl
    have hfit : k * size + v.cells.size ≤ cells.size := by
      rw [hc, hvs]
      have := Nat.mul_le_mul_right size (show k + 1 ≤ len by omega)
      rw [Nat.add_mul, Nat.one_mul] at this
      exact this
    have hgood : ¬ (v.cells.size ≠ size || k * size + v.cells.size > cells.size) = true := by simp; omega
    simp only [Instr.fill]
    rw [if_neg hgood]
    have hfold : (v.cells.zipIdx.foldl (fun cs (x : Value × Nat) => cs.setIfInBounds (k * size + x.2) x.1) cells) = ((v.cells.toList.zipIdx 0).foldl (fun cs (x : Value × Nat) => cs.setIfInBounds (k * size + x.2) x.1) cells) := by
      rw [← Array.foldl_toList, Array.toList_zipIdx]
    have hfs := fold_set_size (k * size) v.cells.toList 0 cells
    have hfg := fold_set (k * size) v.cells.toList 0 cells (by simp; omega)
    obtain ⟨r, r1, r2, r3⟩ := fill_dense size qs (k + 1) len _ hk (fun q hq => hv q (List.mem_cons_of_mem _ hq)) (by omega) (hfs.trans hc)
    refine ⟨r, by rw [← hfold] at r1; exact r1, r2.trans hfs, fun i j hi hj => ?_⟩
    rw [r3 i j hi hj]
    simp only [List.length_cons]
    by_cases h1 : k + 1 ≤ i ∧ i < k + 1 + qs.length
    · rw [if_pos h1, if_pos (by omega)]
      obtain ⟨m, rfl⟩ : ∃ m, i = k + 1 + m := ⟨i - (k + 1), by omega⟩
      have e1 : k + 1 + m - (k + 1) = m := by omega
      have e2 : k + 1 + m - k = m + 1 := by omega
      rw [e1, e2]
      simp
    · rw [if_neg h1, hfg]
      by_cases h2 : i = k
      · subst h2
        rw [if_pos (by simp only [Array.length_toList]; omega), if_pos (by omega)]
        have e1 : i * size + j - (i * size + 0) = j := by omega
        rw [e1, Nat.sub_self]
        simp [Array.getD_eq_getD_getElem?, List.getD_eq_getElem?_getD]
      · rw [if_neg (c := k ≤ i ∧ i < k + (qs.length + 1)) (by omega), if_neg]
        intro h3
        simp only [Array.length_toList] at h3
        rcases Nat.lt_or_ge i k with h4 | h4
        · have := Nat.mul_le_mul_right size (show i + 1 ≤ k by omega)
          rw [Nat.add_mul, Nat.one_mul] at this
          omega
        · have := Nat.mul_le_mul_right size (show k + 1 ≤ i by omega)
          rw [Nat.add_mul, Nat.one_mul] at this
          omega

theorem litRowsA_spec (hs : Sim C n E H β a w) {H' : Heap} (hf : Frz C n E β a w H H') {size : Nat} : ∀ (l : List PV) (rows : List (List PV)), litRowsA H size l = some rows → (∀ x ∈ frzEff H (litCells l), H' x.1 = some x.2) →
    rows.length = l.length ∧ (∀ r ∈ rows, r.length = size) ∧ ∀ (i : Nat) (pv : PV) (v : Value), l[i]? = some pv → Rep (NN C H β) w β pv v → v.cells.size = size ∧ ∀ (r : List PV) (j : Nat) (x : PV), rows[i]? = some r → r[j]? = some x →
      IRep (NN C H' β) w x (v.cells.getD j undef) ∧ (v.cells.getD j undef).oneCell' = true
  | [], rows, h, _ => by
    simp only [litRowsA, Option.some.injEq] at h
    subst h
    exact ⟨rfl, by simp, by simp⟩
  | pv :: l, rows, h, hx => by
    simp only [litRowsA] at h
    split at h
    · cases h
    rename_i vs hvs
    split at h
    · rename_i us m hus hm
      split at h
      · rename_i hul
        cases h
        have hcl : litCells (pv :: l) = vs ++ litCells l := by simp [litCells, hvs]
        have hfe : frzEff H (litCells (pv :: l)) = frzEff H vs ++ frzEff H (litCells l) := by rw [hcl]; simp [frzEff]
        have ih := litRowsA_spec hs hf l m hm (fun z hz => hx z (by rw [hfe]; exact List.mem_append_right _ hz))
        obtain ⟨s1, s2⟩ := frzCs_spec hs hf vs us hus (fun z hz => hx z (by rw [hfe]; exact List.mem_append_left _ hz))
        refine ⟨by simp [ih.1], fun r hr => ?_, fun i qv v hi hr => ?_⟩
        · rcases List.mem_cons.1 hr with rfl | hr
          · exact hul
          · exact ih.2.1 r hr
        · cases i with
          | zero =>
            cases hi
            obtain ⟨c1, c2⟩ := hr.cells hvs
            refine ⟨by rw [c1, ← s1, hul], fun r j x hr' hj => ?_⟩
            cases hr'
            obtain ⟨q, q1, q2⟩ := s2 j x (v.cells.getD j undef) hj
            exact q2 (c2 j q q1)
          | succ i => exact ih.2.2 i qv v (by simpa using hi) hr
      · cases h
    · cases h

theorem store_run {t : TypeId} {ti : TI} (ht : TypeOK P t ti) {g o T0 : Nat} {cur : Array Value} {fr : Nat × Nat} (hg : w.heap[g]? = some (.cells cur T0 (0, 0))) {v : Value} (hsz : v.cells.size = ti.size) (hfit : o + v.cells.size ≤ cur.size)
    (h1 : ∀ u ∈ v.cells.toList, u.oneCell' = true) : (storeVar t ⟨g, o, none⟩ v).run P w = .ok () (w.setRow g (splice cur.toList o v.cells.toList).toArray) := by
  have hst := run_storeCells_at P g o T0 v.cells.toList 0 cur w hg (by simpa using hfit) h1
  simp only [Nat.add_zero] at hst
  simp [storeVar, ht.run_sizeOf, hsz, hst, splice]

theorem getD_splice {cur vs : List Value} {o k : Nat} (h : o + vs.length ≤ cur.length) : (splice cur o vs).toArray.getD k undef = if o ≤ k ∧ k < o + vs.length then vs.getD (k - o) undef else cur.getD k undef := by
  have := splice_get h k
  simp only [Array.getD_eq_getD_getElem?, List.getElem?_toArray, this, List.getD_eq_getElem?_getD]
  split <;> rfl
end

end Go.Pe
