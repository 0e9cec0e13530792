/- Operations that make or write memory: the helpers. -/
import Derived.Test.YtpnhnobnjcknjaaPe7
import Derived.Laws.Append
import Derived.Lib.ConvBytes
set_option linter.unusedVariables false
set_option linter.unusedSimpArgs false
namespace Go.Pe
open Go.RowKit

def applyEff (H : Heap) (l : List (Nat × Blk)) : Heap := l.foldl (fun H x => upd H x.1 x.2) H

/-- A cell as it may stand in memory that is not to change: a slice of its own is frozen. -/
def frzC (H : Heap) : PV → Option PV
  | .lit v => if v.oneCell' then some (.lit v) else none
  | .im s rows => some (.im s rows)
  | .own b ver => match H b with
    | some (.arr _ s rows ver' _) => if ver = ver' then some (.im s rows) else none
    | _ => none
  | _ => none
def frzCs (H : Heap) : List PV → Option (List PV)
  | [] => some []
  | x :: l => match frzC H x, frzCs H l with
    | some y, some m => some (y :: m)
    | _, _ => none
def frzOne (H : Heap) : PV → List (Nat × Blk)
  | .own b _ => match H b with
    | some (.arr T s rows ver _) => [(b, .arr T s rows ver true)]
    | _ => []
  | _ => []
def frzEff (H : Heap) (l : List PV) : List (Nat × Blk) := l.flatMap (frzOne H)

section
variable {P : Program} {T : Tab} {C : Ctx} {n : Nat} {E : Env} {H : Heap} {β : Ref} {a : Act} {w : World}

/-- A slice of its own is written no more. -/
theorem Sim.freeze (h : Sim C n E H β a w) {b T0 s ver : Nat} {rows : List (List PV)} {f : Bool} (hb : H b = some (.arr T0 s rows ver f)) : Sim C n E (upd H b (.arr T0 s rows ver true)) β a w ∧
    (∀ k, NN C (upd H b (.arr T0 s rows ver true)) β k → NN C H β k) := by
  have hN : ∀ k, NN C (upd H b (.arr T0 s rows ver true)) β k → NN C H β k := by
    rintro k (h1 | ⟨c, y, v1, u1, h1, h2, h3, h4⟩)
    · exact .inl h1
    · by_cases e : c = b
      · subst e
        rw [upd_same] at h1
        cases h1
        simp [Blk.frozen] at h2
      · rw [upd_other _ _ e] at h1
        exact .inr ⟨c, y, v1, u1, h1, h2, h3, h4⟩
  have hk := Keeps.refl (NN C H β) w
  refine ⟨⟨h.nt, h.df, fun t pv ht => ⟨(h.env t pv ht).1, (h.env t pv ht).2.mono hk (fun k _ => hN k) (Later.refl _) (fun _ _ h => h)⟩, fun c y hc => ?_, ?_, h.lies, ?_, h.below, h.nxb, h.bs, fun pv v hg => (h.gh pv v hg).mono hk (fun k _ => hN k) (Later.refl _) (fun _ _ h => h), h.gr⟩, hN⟩
  · by_cases e : c = b
    · subst e
      rw [upd_same] at hc
      cases hc
      have := (h.blk c _ hb).later (N' := NN C (upd H c (.arr T0 s rows ver true)) β) hk (fun k _ => hN k) (Later.refl _) (fun _ _ h => h) rfl (fun _ _ _ _ _ => rfl)
      exact this
    · rw [upd_other _ _ e] at hc
      exact (h.blk c y hc).later hk (fun k _ => hN k) (Later.refl _) (fun _ _ h => h) rfl (fun _ _ _ _ _ => rfl)
  · intro c c' y y' hne hc hc' v1 u1 v2 u2 k h1 h2
    have : ∀ {d z}, upd H b (.arr T0 s rows ver true) d = some z → ∃ z', H d = some z' := by
      intro d z hd
      by_cases e : d = b
      · subst e; exact ⟨_, hb⟩
      · rw [upd_other _ _ e] at hd; exact ⟨_, hd⟩
    obtain ⟨z, hz⟩ := this hc
    obtain ⟨z', hz'⟩ := this hc'
    exact h.sep c c' z z' hne hz hz' v1 u1 v2 u2 k h1 h2
  · intro c hc
    by_cases e : c = b
    · subst e
      rw [upd_same] at hc
      cases hc
    · rw [upd_other _ _ e] at hc
      exact h.fr c hc

theorem Sim.frozen_nn (h : Sim C n E H β a w) {b T0 s ver : Nat} {rows : List (List PV)} (hb : H b = some (.arr T0 s rows ver true)) {u : Value} {k : Nat} (hu : β b = some (ver, u)) (hk' : refBlock u = some k) : ¬ NN C H β k := by
  rintro (h1 | ⟨c, y, v1, u1, h1, h2, h3, h4⟩)
  · have := h.nxb k h1
    obtain ⟨u', xs, q1, q2, _⟩ := h.blk b _ hb
    rw [hu] at q1
    cases q1
    rcases q2.2 with ⟨rfl, _⟩ | ⟨g, cap, cur, rfl, hbg, _⟩
    · simp [refBlock] at hk'
    · simp [refBlock] at hk'
      omega
  · by_cases e : c = b
    · subst e
      rw [hb] at h1
      cases h1
      simp [Blk.frozen] at h2
    · exact h.sep b c _ _ (Ne.symm e) hb h1 _ _ _ _ k hu h3 hk' h4

/-- What is frozen reads as immutable rows. -/
theorem Sim.frozen_rep (h : Sim C n E H β a w) {b T0 s ver : Nat} {rows : List (List PV)} (hb : H b = some (.arr T0 s rows ver true)) {v : Value}
    (hr : ∀ u, β b = some (ver, u) → v = u) : IRep (NN C H β) w (.im s rows) v := by
  obtain ⟨u, xs, q1, q2, q3, q4⟩ := h.blk b _ hb
  have hv := hr _ q1
  subst hv
  rcases q2.2 with ⟨rfl, hn⟩ | ⟨g, cap, cur, rfl, hbg, hg, hle, hcm, hcs, htk⟩
  · have : rows = [] := List.eq_nil_of_length_eq_zero hn
    subst this
    exact .imN _ _ _ rfl
  · refine .im _ _ _ _ _ (fun i j => xs.getD (i * s + j) undef) rfl q3 hle (fun i r j pv hi hj => ⟨?_, h.frozen_nn hb q1 rfl, (q4 i r j pv hi hj).2⟩) (fun i r j pv hi hj => (q4 i r j pv hi hj).1)
    have hil : i < rows.length := (List.getElem?_eq_some_iff.1 hi).1
    have hjl : j < s := by have := (List.getElem?_eq_some_iff.1 hj).1; rw [q3 r (List.mem_of_getElem? hi)] at this; exact this
    have hlt : i * s + j < xs.length := by rw [q2.1]; exact flat_lt hil hjl
    exact q2.cells (g := g) rfl _ _ (by simp [List.getD_eq_getElem?_getD, hlt])

/-- The heap H' is H, but that some slices are frozen. -/
structure Frz (C : Ctx) (n : Nat) (E : Env) (β : Ref) (a : Act) (w : World) (H H' : Heap) : Prop where
  sim : Sim C n E H' β a w
  nn : ∀ k, NN C H' β k → NN C H β k
  rel : ∀ b x, H b = some x → H' b = some x ∨ ∃ T0 s rows ver f, x = .arr T0 s rows ver f ∧ H' b = some (.arr T0 s rows ver true)
  none : ∀ b, H b = none → H' b = none
def FrzList (H : Heap) (l : List (Nat × Blk)) : Prop := ∀ x ∈ l, ∃ T0 s rows ver f, H x.1 = some (.arr T0 s rows ver f) ∧ x.2 = .arr T0 s rows ver true

theorem Frz.all : ∀ (l : List (Nat × Blk)) (H' : Heap), FrzList H l → Frz C n E β a w H H' → Frz C n E β a w H (applyEff H' l)
  | [], H', _, h => h
  | x :: l, H', hl, h => by
    obtain ⟨T0, s, rows, ver, f, h1, h2⟩ := hl x List.mem_cons_self
    have hx : ∃ f', H' x.1 = some (.arr T0 s rows ver f') := by
      rcases h.rel _ _ h1 with h3 | ⟨T1, s1, r1, v1, f1, e1, h3⟩
      · exact ⟨f, h3⟩
      · cases e1; exact ⟨true, h3⟩
    obtain ⟨f', hf'⟩ := hx
    obtain ⟨q1, q2⟩ := h.sim.freeze hf'
    show Frz C n E β a w H (applyEff (upd H' x.1 x.2) l)
    rw [h2]
    refine Frz.all l _ (fun y hy => hl y (List.mem_cons_of_mem _ hy)) ?_
    refine ⟨q1, fun k hk => h.nn k (q2 k hk), fun c y hc => ?_, fun c hc => ?_⟩
    · by_cases ec : c = x.1
      · subst ec
        rw [h1] at hc
        cases hc
        exact .inr ⟨_, _, _, _, _, rfl, upd_same _ _ _⟩
      · rw [upd_other _ _ ec]
        exact h.rel c y hc
    · by_cases ec : c = x.1
      · subst ec
        rw [h1] at hc
        cases hc
      · rw [upd_other _ _ ec]
        exact h.none c hc

theorem applyEff_other : ∀ (l : List (Nat × Blk)) (H' : Heap) (b : Nat), (∀ x ∈ l, x.1 ≠ b) → applyEff H' l b = H' b
  | [], _, _, _ => rfl
  | x :: l, H', b, h => by
    show applyEff (upd H' x.1 x.2) l b = _
    rw [applyEff_other l _ b (fun y hy => h y (List.mem_cons_of_mem _ hy)), upd_other _ _ (Ne.symm (h x List.mem_cons_self))]
theorem applyEff_mem : ∀ (l : List (Nat × Blk)) (H' : Heap) (x : Nat × Blk), FrzList H l → x ∈ l → applyEff H' l x.1 = some x.2
  | [], _, _, _, h => by simp at h
  | y :: l, H', x, hl, h => by
    show applyEff (upd H' y.1 y.2) l x.1 = _
    by_cases hin : ∃ z ∈ l, z.1 = x.1
    · obtain ⟨z, hz1, hz2⟩ := hin
      have := applyEff_mem l (upd H' y.1 y.2) z (fun q hq => hl q (List.mem_cons_of_mem _ hq)) hz1
      rw [hz2] at this
      rw [this]
      obtain ⟨T0, s, rows, ver, f, h1, h2⟩ := hl z (List.mem_cons_of_mem _ hz1)
      obtain ⟨T1, s1, rows1, ver1, f1, h3, h4⟩ := hl x h
      rw [hz2, h3] at h1
      cases h1
      rw [h2, h4]
    · rw [applyEff_other l _ _ (fun z hz e => hin ⟨z, hz, e⟩)]
      rcases List.mem_cons.1 h with rfl | h
      · exact upd_same _ _ _
      · exact absurd ⟨x, h, rfl⟩ hin

theorem frzEff_list (l : List PV) : FrzList H (frzEff H l) := by
  intro x hx
  simp only [frzEff, List.mem_flatMap] at hx
  obtain ⟨p, _, hp⟩ := hx
  unfold frzOne at hp
  split at hp
  · split at hp
    · rename_i heq
      simp at hp
      subst hp
      exact ⟨_, _, _, _, _, heq, rfl⟩
    · simp at hp
  · simp at hp

theorem Sim.frz (h : Sim C n E H β a w) (l : List PV) : Frz C n E β a w H (applyEff H (frzEff H l)) :=
  Frz.all _ _ (frzEff_list l) ⟨h, fun _ h => h, fun _ _ h => .inl h, fun _ h => h⟩

theorem frzC_cell {pv q : PV} (h : frzC H pv = some q) : isCell pv = true ∧ isCell q = true := by
  unfold frzC at h
  split at h
  · split at h
    · rename_i hv
      cases h
      exact ⟨hv, hv⟩
    · cases h
  · cases h; exact ⟨rfl, rfl⟩
  · split at h
    · split at h
      · cases h; exact ⟨rfl, rfl⟩
      · cases h
    · cases h
  · cases h

/-- A cell that was frozen. -/
theorem Frz.cell {H' : Heap} (h : Frz C n E β a w H H') (hs : Sim C n E H β a w) {pv q : PV} (hq : frzC H pv = some q) (hf : ∀ x ∈ frzOne H pv, H' x.1 = some x.2) {v : Value} (hr : Rep (NN C H β) w β pv v) : IRep (NN C H' β) w q v := by
  have hk := Keeps.refl (NN C H β) w
  unfold frzC at hq
  split at hq
  · split at hq
    · cases hq
      rw [hr.lit_eq]
      exact .lit _
    · cases hq
  · cases hq
    exact hr.im_eq.mono hk (fun k _ => h.nn k)
  · rename_i b ver
    split at hq
    · rename_i T0 s rows ver' f hH
      split at hq
      · rename_i hv
        subst hv
        cases hq
        have hb := hf (b, .arr T0 s rows ver true) (by simp [frzOne, hH])
        exact h.sim.frozen_rep hb (fun u hu => hr.own_eq hu)
      · cases hq
    · cases hq
  · cases hq
end

end Go.Pe
