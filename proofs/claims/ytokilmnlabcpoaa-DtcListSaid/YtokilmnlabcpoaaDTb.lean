import Derived.Test.YtokilmnlabcpoaaDTa
import Derived.Shelf.Spec.SlicesInsert
import Derived.Lib.AppendZerosOnto
import Derived.WalkKit
namespace Go.Proofs.Ytokilmnlabcpoaa.Pe
open Go.Pe Go.RowKit Go.Lib
set_option linter.unusedSimpArgs false
set_option linter.unusedVariables false

/-- copy, at elements of any size, onto a row. -/
theorem run_copy_size {P : Program} (w : World) (dT sT ty elem : TypeId) (size g o dLen dCap : Nat) (a : Addr) (sLen sCap : Nat) (cur : Array Value) (t : TypeId) (cs : List Value)
    (hu : P.underlying dT = some (.slice elem)) (hs : (P.info? elem).map (·.size) = some size)
    (hg : w.heap[g]? = some (.cells cur t (0, 0))) (hn : cs.length = Nat.min sLen dLen * size)
    (hsrc : ∀ j v, cs[j]? = some v → w.cell? (a.add j) = some v) (hfit : o + cs.length ≤ cur.size) (h1 : ∀ v ∈ cs, v.oneCell' = true) :
    (Builtin.copy_ #[dT, sT] ty #[.slice (some ⟨g, o, none⟩) dLen dCap, .slice (some a) sLen sCap]).run P w =
      .ok (goInt (Nat.min sLen dLen)) (w.setRow g (splice cur.toList o cs).toArray) := by
  have hl := run_loadCells_list (P := P) w a cs hsrc
  have hst := run_storeCells_at P g o t cs 0 cur w hg (by simpa using hfit) h1
  cases hq : P.info? elem with
  | none => simp [hq] at hs
  | some i =>
    have hi : i.size = size := by simpa [hq] using hs
    simp [Builtin.copy_, run_underlying hu, Builtin.lenOf, Builtin.firstCells, sizeOf, typeInfo, hq, hi, ← hn, hl, hst, splice]

set_option maxHeartbeats 4000000 in
set_option maxRecDepth 100000 in
theorem insert_shift (i n c g g2 c2 : Nat) (cur cur2 : Array Value) (w : World) (hi : i < n) (hroom : n + 1 ≤ c) (hc63 : c ≤ 9223372036854775807) (hg : w.heap[g]? = some (.cells cur 67 (0, 0))) (hcs : cur.size = c * 4)
    (hg2 : w.heap[g2]? = some (.cells cur2 67 (0, 0))) (hcs2 : 4 ≤ cur2.size) (hne : g2 ≠ g) (h1c : ∀ v ∈ cur.toList.take (n * 4), v.oneCell' = true) (h1v : ∀ v ∈ cur2.toList.take 4, v.oneCell' = true) :
    Calls Try.prog 65 #[.slice (some ⟨g, 0, none⟩) n c, .int .i64 i, .slice (some ⟨g2, 0, none⟩) 1 c2] w fun e w' =>
      e = .returned (.slice (some ⟨g, 0, none⟩) (n + 1) c) ∧ w' = (w.drew.setRow g (splice cur.toList ((i + 1) * 4) ((cur.toList.take (n * 4)).drop (i * 4))).toArray).setRow g (splice (splice cur.toList ((i + 1) * 4) ((cur.toList.take (n * 4)).drop (i * 4))) (i * 4) (cur2.toList.take 4)).toArray := by
  have hz2 : ¬ ((i : Int) = (n : Int)) := by omega
  have hov : ∀ a lb cb, a.block = g → (callFunc 77 #[.slice (some ⟨g2, 0, none⟩) 1 c2, .slice (some a) lb cb]).run Try.prog w = .ok (.value (.bool false)) w := fun a lb cb ha => by
    rw [run_callFunc_extern Try.func77 (by kernel_rfl) (by kernel_rfl) (by kernel_rfl) (e := Extern.SlicesOverlaps.overlaps #[23, 23] #[4]) (by kernel_rfl),
      Lib.run_overlaps_apart w 23 4 67 Try.underlying23 4 (fun w => ok67.run_sizeOf w) ⟨g2, 0, none⟩ a 1 c2 lb cb (by rw [ha]; exact hne) _ _ _ _ (by unfold World.shape?; rw [hg2]) (by rw [ha]; unfold World.shape?; rw [hg]) (by rw [hcs]; omega) (by simp [World.frozen?, hg2]) (by simp [World.frozen?, hg2])]
    rfl
  have hcl : cur.toList.length = c * 4 := by simpa using hcs
  have hm1 : (n + 1) * 4 ≤ c * 4 := Nat.mul_le_mul_right 4 hroom
  have hml : ((cur.toList.take (n * 4)).drop (i * 4)).length = (n - i) * 4 := by rw [List.length_drop, List.length_take, hcl]; omega
  have hcp1 : ∀ ty dc sc, (Builtin.copy_ #[23, 23] ty #[.slice (some ⟨g, (i + 1) * 4, none⟩) (n - i) dc, .slice (some ⟨g, i * 4, none⟩) (n + 1 - i) sc]).run Try.prog w.drew = .ok (goInt (Nat.min (n + 1 - i) (n - i))) (w.drew.setRow g (splice cur.toList ((i + 1) * 4) ((cur.toList.take (n * 4)).drop (i * 4))).toArray) := fun ty dc sc =>
    run_copy_size w.drew _ _ ty 67 4 g ((i + 1) * 4) _ dc ⟨g, i * 4, none⟩ _ sc cur 67 _ Try.underlying23 (by kernel_rfl) hg (by rw [hml]; congr 1; simp only [Nat.min_def]; split <;> omega)
      (fun j v hj => by
        rw [List.getElem?_drop, List.getElem?_take] at hj
        split at hj
        · rw [Addr.add_lit]
          simp only [World.cell?, heap_drew, hg]
          simpa using hj
        · cases hj) (by rw [hml, hcs]; omega) (fun v hv => h1c v (List.mem_of_mem_drop hv))
  have hsl : (splice cur.toList ((i + 1) * 4) ((cur.toList.take (n * 4)).drop (i * 4))).length = c * 4 := by rw [splice_length (by rw [hml, hcl]; omega), hcl]
  have hml2 : (cur2.toList.take 4).length = 4 := by simp; omega
  obtain ⟨W1, hW1⟩ : ∃ W1, W1 = w.drew.setRow g (splice cur.toList ((i + 1) * 4) ((cur.toList.take (n * 4)).drop (i * 4))).toArray := ⟨_, rfl⟩
  have hg3 : W1.heap[g]? = some (.cells (splice cur.toList ((i + 1) * 4) ((cur.toList.take (n * 4)).drop (i * 4))).toArray 67 (0, 0)) := by rw [hW1]; exact setRow_heap w.drew g cur _ _ _ hg
  have hg4 : W1.heap[g2]? = some (.cells cur2 67 (0, 0)) := by rw [hW1, setRow_other w.drew g g2 _ hne]; exact hg2
  have hcp2 : ∀ ty dc, (Builtin.copy_ #[23, 23] ty #[.slice (some ⟨g, i * 4, none⟩) (n + 1 - i) dc, .slice (some ⟨g2, 0, none⟩) 1 c2]).run Try.prog W1 = .ok (goInt (Nat.min 1 (n + 1 - i))) (W1.setRow g (splice (splice cur.toList ((i + 1) * 4) ((cur.toList.take (n * 4)).drop (i * 4))) (i * 4) (cur2.toList.take 4)).toArray) := fun ty dc => by
    have := run_copy_size (P := Try.prog) W1 23 23 ty 67 4 g (i * 4) (n + 1 - i) dc ⟨g2, 0, none⟩ 1 c2 _ 67 (cur2.toList.take 4) Try.underlying23 (by kernel_rfl) hg3 (by rw [hml2]; simp only [Nat.min_def]; split <;> omega)
      (fun j v hj => by
        rw [List.getElem?_take] at hj
        split at hj
        · rw [Addr.add_lit]
          simp only [World.cell?, hg4]
          simpa using hj
        · cases hj) (by rw [hml2, List.size_toArray, hsl]; omega) h1v
    simpa using this
  rw [← hW1] at hcp1 ⊢
  generalize (splice (splice cur.toList ((i + 1) * 4) ((cur.toList.take (n * 4)).drop (i * 4))) (i * 4) (cur2.toList.take 4)).toArray = R2 at hcp2 ⊢
  clear hW1 hg3 hg4 hml2 hsl hml hm1 hcl hg hg2 hcs hcs2 h1c h1v
  have hin : i ≤ n := by omega
  have hw1 : IntKind.i64.wrap ((i : Int) + (1 : Int)) = (i : Int) + (1 : Int) := by rw [IntKind.wrap_i64]; omega
  have hw2 : IntKind.i64.wrap ((n : Int) + (1 : Int)) = (n : Int) + (1 : Int) := by rw [IntKind.wrap_i64]; omega
  have hroom' : ¬ ((c : Int) < (n : Int) + 1) := by omega
  have hb1 : (0 : Int) ≤ (i : Int) + 1 := by omega
  have htn : ((i : Int) + 1).toNat = i + 1 := by omega
  have htn2 : ((n : Int) + 1).toNat = n + 1 := by omega
  have hb2 : ¬ (c = i + 1) := by omega
  have hb3 : (i : Int) ≤ (n : Int) + 1 := by omega
  have hb4 : ¬ (c = i) := by omega
  have hb5 : (n : Int) + 1 ≤ (c : Int) := by omega
  have hb6 : (0 : Int) ≤ (n : Int) + 1 := by omega
  have hb7 : (i : Int) + 1 ≤ (n : Int) + 1 := by omega
  have mixed0 := mixed
  go_enter Try.func65, Try.ntmps65
  go_wp2_with (simp only [hov])
  go_region_law_o (refine step_copy_runI rfl _ _ 23 23 rfl _ _ (by simp [Act.eval, Act.put]) (by simp [Act.eval, Act.put]) (hcp1 _ _ _) ?_)
  go_wp2_with (at_builtin; refine wpList_copy_runI _ rfl _ _ 23 23 rfl _ _ rfl rfl (hcp2 _ _) ?_)
  go_ret
  exact ⟨rfl, rfl⟩
end Go.Proofs.Ytokilmnlabcpoaa.Pe
