import Derived.Test.YtokilmnlabcpoaaDTb
namespace Go.Proofs.Ytokilmnlabcpoaa.Pe
open Go.Pe Go.RowKit Go.Lib
set_option linter.unusedSimpArgs false
set_option linter.unusedVariables false

set_option maxHeartbeats 4000000 in
set_option maxRecDepth 100000 in
theorem insert_grow (i n c g g2 c2 : Nat) (cur cur2 : Array Value) (w : World) (z : Value) (hz : ∃ i0, Try.prog.info? 67 = some i0 ∧ i0.zero = some z ∧ i0.size = 4 ∧ i0.bytes = 32) (hzs : z.cells.size = 4) (hi : i < n) (hn1000 : n ≤ 1000) (hnc : n ≤ c) (hroom : c < n + 1) (hg : w.heap[g]? = some (.cells cur 67 (0, 0))) (hcs : cur.size = c * 4)
    (hg2 : w.heap[g2]? = some (.cells cur2 67 (0, 0))) (hcs2 : 4 ≤ cur2.size) (h1c : ∀ v ∈ cur.toList.take (n * 4), v.oneCell' = true) (h1v : ∀ v ∈ cur2.toList.take 4, v.oneCell' = true) :
    Calls Try.prog 65 #[.slice (some ⟨g, 0, none⟩) n c, .int .i64 i, .slice (some ⟨g2, 0, none⟩) 1 c2] w fun e w' =>
      e = .returned (.slice (some ⟨w.heap.size, 0, none⟩) (n + 1) (grownCap w (n + 1) c 67)) ∧
      ∃ ROW : Array Value, ROW.size = grownCap w (n + 1) c 67 * 4 ∧ ROW.toList.take (i * 4) = cur.toList.take (i * 4) ∧
        w' = (((w.drew.alloc (.cells ROW 67)).setRow w.heap.size (splice ROW.toList (i * 4) (cur2.toList.take 4)).toArray).drew).setRow w.heap.size (splice (splice ROW.toList (i * 4) (cur2.toList.take 4)) ((i + 1) * 4) ((cur.toList.take (n * 4)).drop (i * 4))).toArray := by
  obtain ⟨i0, hi0, hz0, hs0, hb0⟩ := hz
  have hcl : cur.toList.length = c * 4 := by simpa using hcs
  have hml : ((cur.toList.take (n * 4)).drop (i * 4)).length = (n - i) * 4 := by rw [List.length_drop, List.length_take, hcl]; omega
  have hml2 : (cur2.toList.take 4).length = 4 := by simp; omega
  have hti : (cur.toList.take (i * 4)).length = i * 4 := by rw [List.length_take, hcl]; omega
  have hik : i + (n + 1 - i) = n + 1 := by omega
  have hold : (Builtin.firstCells i0.size i (.slice (some ⟨g, 0, none⟩) i c)).run Try.prog w.drew = .ok (cur.toList.take (i * 4)).toArray w.drew := by
    rw [hs0]
    exact run_firstCells_some w.drew 4 i ⟨g, 0, none⟩ i c (cur.toList.take (i * 4)) hti (fun j v hj => by
      rw [List.getElem?_take] at hj
      split at hj
      · rw [Addr.add_lit]
        simp only [World.cell?, heap_drew, hg]
        simpa using hj
      · cases hj)
  obtain ⟨G, hG⟩ : ∃ G, G = grownCap w (n + 1) c 67 := ⟨_, rfl⟩
  have hGn : n + 1 ≤ G := by rw [hG]; exact grownCap_ge w _ _ _
  obtain ⟨ROW, hROW⟩ : ∃ ROW : Array Value, ROW = (cur.toList.take (i * 4)).toArray ++ Builtin.zeroCells z.cells (n + 1 - i) ++ Builtin.zeroCells z.cells (G - (n + 1)) := ⟨_, rfl⟩
  have hrs : ROW.size = G * 4 := by
    rw [hROW]
    simp only [Array.size_append, List.size_toArray, hti, size_zeroCells, hzs]
    omega
  have hrt : ROW.toList.take (i * 4) = cur.toList.take (i * 4) := by
    rw [hROW]
    simp only [Array.toList_append, List.append_assoc]
    rw [List.take_append_of_le_length (by rw [hti]; exact Nat.le_refl _), List.take_of_length_le (by rw [hti]; exact Nat.le_refl _)]
  have hrz0 := fun ty => Lib.run_append_grow_zeros (P := Try.prog) w 23 3 ty 67 i0 z .i64 .i64 Try.underlying23 Try.underlying3 hi0 hz0 (some ⟨g, 0, none⟩) i c (cur.toList.take (i * 4)) hold (n + 1 - i) (by omega) (by omega) (by omega) (by omega) (by rw [hb0]; omega) (by rw [hb0, hik]; exact growslice_fits hroom (by omega))
  rw [hik, ← hG, ← hROW] at hrz0
  rw [← hG]
  have hkk : (n : Int) + 1 - (i : Int) = ((n + 1 - i : Nat) : Int) := by omega
  rw [← hkk] at hrz0
  have hN : w.heap.size ≠ g := by
    have := (Array.getElem?_eq_some_iff.1 hg).1
    omega
  have hN2 : w.heap.size ≠ g2 := by
    have := (Array.getElem?_eq_some_iff.1 hg2).1
    omega
  obtain ⟨N, hNN⟩ : ∃ N, N = w.heap.size := ⟨_, rfl⟩
  rw [← hNN] at hrz0 hN hN2 ⊢
  obtain ⟨W1, hW1⟩ : ∃ W1, W1 = w.drew.alloc (.cells ROW 67) := ⟨_, rfl⟩
  have hold1 : ∀ k, k ≠ N → k < N → W1.heap[k]? = w.heap[k]? := fun k hk hlt => by rw [hW1, Go.heap_alloc_old w.drew _ (by rw [heap_drew, ← hNN]; exact hlt)]; rfl
  have hgl : g < N := by rw [hNN]; exact (Array.getElem?_eq_some_iff.1 hg).1
  have hgl2 : g2 < N := by rw [hNN]; exact (Array.getElem?_eq_some_iff.1 hg2).1
  have hN1 : W1.heap[N]? = some (.cells ROW 67 (0, 0)) := by rw [hW1, hNN]; exact Go.heap_alloc_new w.drew _
  have ha1 : W1.heap[g]? = some (.cells cur 67 (0, 0)) := by rw [hold1 g (Ne.symm hN) hgl]; exact hg
  have ha2 : W1.heap[g2]? = some (.cells cur2 67 (0, 0)) := by rw [hold1 g2 (Ne.symm hN2) hgl2]; exact hg2
  obtain ⟨W2, hW2⟩ : ∃ W2, W2 = W1.setRow N (splice ROW.toList (i * 4) (cur2.toList.take 4)).toArray := ⟨_, rfl⟩
  have hb1 : W2.heap[g]? = some (.cells cur 67 (0, 0)) := by rw [hW2, setRow_other W1 N g _ (Ne.symm hN)]; exact ha1
  have hbN : W2.heap[N]? = some (.cells (splice ROW.toList (i * 4) (cur2.toList.take 4)).toArray 67 (0, 0)) := by rw [hW2]; exact setRow_heap W1 N ROW _ _ _ hN1
  have hrl : ROW.toList.length = G * 4 := by simpa using hrs
  have hfit1 : i * 4 + (cur2.toList.take 4).length ≤ ROW.toList.length := by rw [hml2, hrl]; omega
  have hsl : (splice ROW.toList (i * 4) (cur2.toList.take 4)).length = G * 4 := by rw [splice_length hfit1, hrl]
  have hcpA : ∀ ty dc, (Builtin.copy_ #[23, 23] ty #[.slice (some ⟨N, i * 4, none⟩) (n + 1 - i) dc, .slice (some ⟨g2, 0, none⟩) 1 c2]).run Try.prog W1 = .ok (goInt (Nat.min 1 (n + 1 - i))) W2 := fun ty dc => by
    have := run_copy_size (P := Try.prog) W1 23 23 ty 67 4 N (i * 4) (n + 1 - i) dc ⟨g2, 0, none⟩ 1 c2 _ 67 (cur2.toList.take 4) Try.underlying23 (by kernel_rfl) hN1 (by rw [hml2]; simp only [Nat.min_def]; split <;> omega)
      (fun j v hj => by
        rw [List.getElem?_take] at hj
        split at hj
        · rw [Addr.add_lit]
          simp only [World.cell?, ha2]
          simpa using hj
        · cases hj) (by rw [hml2, hrs]; omega) h1v
    rw [hW2]
    exact this
  obtain ⟨W3, hW3⟩ : ∃ W3, W3 = W2.drew.setRow N (splice (splice ROW.toList (i * 4) (cur2.toList.take 4)) ((i + 1) * 4) ((cur.toList.take (n * 4)).drop (i * 4))).toArray := ⟨_, rfl⟩
  have hcpB : ∀ ty dc sc, (Builtin.copy_ #[23, 23] ty #[.slice (some ⟨N, (i + 1) * 4, none⟩) (n - i) dc, .slice (some ⟨g, i * 4, none⟩) (n - i) sc]).run Try.prog W2.drew = .ok (goInt (Nat.min (n - i) (n - i))) W3 := fun ty dc sc => by
    have := run_copy_size (P := Try.prog) W2.drew 23 23 ty 67 4 N ((i + 1) * 4) (n - i) dc ⟨g, i * 4, none⟩ (n - i) sc _ 67 ((cur.toList.take (n * 4)).drop (i * 4)) Try.underlying23 (by kernel_rfl) hbN (by rw [hml]; congr 1; simp only [Nat.min_def]; split <;> omega)
      (fun j v hj => by
        rw [List.getElem?_drop, List.getElem?_take] at hj
        split at hj
        · rw [Addr.add_lit]
          simp only [World.cell?, heap_drew, hb1]
          simpa using hj
        · cases hj) (by rw [hml, List.size_toArray, hsl]; omega) (fun v hv => h1c v (List.mem_of_mem_drop hv))
    rw [hW3]
    simpa using this
  rw [← hW1] at hrz0
  refine Calls.mono (R := fun e w' => e = .returned (.slice (some ⟨N, 0, none⟩) (n + 1) G) ∧ w' = W3) ?_ (fun e w' h => ⟨h.1, ROW, hrs, hrt, by rw [h.2, hW3, hW2, hW1]⟩)
  have hin : i ≤ n := by omega
  have hw1 : IntKind.i64.wrap ((i : Int) + (1 : Int)) = (i : Int) + (1 : Int) := by rw [IntKind.wrap_i64]; omega
  have hw2 : IntKind.i64.wrap ((n : Int) + (1 : Int)) = (n : Int) + (1 : Int) := by rw [IntKind.wrap_i64]; omega
  have hw3 : IntKind.i64.wrap ((n : Int) + 1 - (i : Int)) = (n : Int) + 1 - (i : Int) := by rw [IntKind.wrap_i64]; omega
  have hz3 : (c : Int) < (n : Int) + 1 := by omega
  have hz2 : ¬ ((i : Int) = (n : Int)) := by omega
  have hb1' : (0 : Int) ≤ (i : Int) + 1 := by omega
  have htn : ((i : Int) + 1).toNat = i + 1 := by omega
  have hci : ¬ (c = i) := by omega
  have hGi : ¬ (G = i) := by omega
  have hGi1 : ¬ (G = i + 1) := by omega
  have hb3 : (i : Int) ≤ (n : Int) + 1 := by omega
  have hb4 : (i : Int) ≤ (c : Int) := by omega
  have hb7 : (i : Int) + 1 ≤ (n : Int) + 1 := by omega
  have hG63 : G ≤ 9223372036854775807 := by
    have := grownCap_le_maxLen w (n + 1) c 67 (by unfold maxLen; omega)
    rw [← hG] at this
    unfold maxLen at this
    omega
  have hc63 : c ≤ 9223372036854775807 := by omega
  have mixed0 := mixed
  clear hW1 hW2 hW3 hNN hold1 hN1 ha1 ha2 hb1 hbN hrl hfit1 hsl hkk hROW hrt hrs hG hold hik hti hml2 hml hcl hi0 hz0 hs0 hb0 hg hg2 hcs hcs2 h1c h1v hzs
  go_enter Try.func65, Try.ntmps65
  go_wp2_with (first
    | (at_builtin; refine Lib.wpList_append_run _ rfl _ _ _ _ rfl _ _ rfl rfl _ _ (hrz0 _) ?_)
    | (at_builtin; refine wpList_copy_runI _ rfl _ _ 23 23 rfl _ _ rfl rfl (hcpA _ _) ?_))
  go_region_law_o (refine step_copy_runI rfl _ _ 23 23 rfl _ _ (by simp [Act.eval, Act.put]) (by simp [Act.eval, Act.put]) (hcpB _ _ _) ?_)
  go_wp2
  go_ret
  exact ⟨rfl, rfl⟩
end Go.Proofs.Ytokilmnlabcpoaa.Pe
