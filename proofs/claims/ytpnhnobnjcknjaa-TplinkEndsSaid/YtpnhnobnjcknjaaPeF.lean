/- Data that stays: what is frozen at a call by contract; contracts over plain data. -/
import Derived.Test.YtpnhnobnjcknjaaPe14
set_option linter.unusedVariables false
set_option linter.unusedSimpArgs false
namespace Go.Pe
open Go.RowKit

/-! ### data that stays -/
mutual
/-- The value, seen as immutable data. -/
def FrzR (H : Heap) : PV → PV → Prop
  | .lit v, q => q = .lit v ∨ (isNil v = true ∧ ∃ s, q = .im s [])
  | .im s rows, q => q = .im s rows
  | .own b ver, q => ∃ T s rows f, H b = some (.arr T s rows ver f) ∧ q = .im s rows
  | .agg cs, q => ∃ ds, q = .agg ds ∧ FrzRL H cs ds
  | .tup cs, q => ∃ ds, q = .tup ds ∧ FrzRL H cs ds
  | _, _ => False
def FrzRL (H : Heap) : List PV → List PV → Prop
  | [], q => q = []
  | x :: l, q => ∃ y m, q = y :: m ∧ FrzR H x y ∧ FrzRL H l m
end
mutual
def frzD (H : Heap) : PV → List (Nat × Blk)
  | .own b ver => frzOne H (.own b ver)
  | .agg cs => frzDL H cs
  | .tup cs => frzDL H cs
  | _ => []
def frzDL (H : Heap) : List PV → List (Nat × Blk)
  | [] => []
  | x :: l => frzD H x ++ frzDL H l
end
mutual
def noSl : PV → Bool
  | .lit _ => true
  | .agg cs => noSlL cs
  | .tup cs => noSlL cs
  | _ => false
def noSlL : List PV → Bool
  | [] => true
  | x :: l => noSl x && noSlL l
end

theorem noSlL_mem : ∀ {l : List PV} {x : PV}, noSlL l = true → x ∈ l → noSl x = true
  | [], _, _, h => by simp at h
  | y :: l, x, h, hx => by
    simp only [noSlL, Bool.and_eq_true] at h
    rcases List.mem_cons.1 hx with rfl | hx
    · exact h.1
    · exact noSlL_mem h.2 hx
theorem IRep.anywhere {N N' : Nat → Prop} {w w' : World} {pv : PV} {v : Value} (h : IRep N w pv v) (hn : noSl pv = true) : IRep N' w' pv v := by
  induction h with
  | lit v => exact .lit v
  | imN => simp [noSl] at hn
  | im => simp [noSl] at hn
  | agg cs vs hl h ih => exact .agg cs vs hl (fun i pv hi => ih i pv hi (noSlL_mem hn (List.mem_of_getElem? hi)))
  | tup cs vs hl h ih => exact .tup cs vs hl (fun i pv hi => ih i pv hi (noSlL_mem hn (List.mem_of_getElem? hi)))

theorem FrzRL_get {H : Heap} : ∀ {l m : List PV}, FrzRL H l m → m.length = l.length ∧ ∀ (i : Nat) (y : PV), m[i]? = some y → ∃ x, l[i]? = some x ∧ FrzR H x y
  | [], m, h => by
    simp only [FrzRL] at h
    subst h
    exact ⟨rfl, by simp⟩
  | x :: l, m, h => by
    simp only [FrzRL] at h
    obtain ⟨y, m', rfl, h1, h2⟩ := h
    obtain ⟨q1, q2⟩ := FrzRL_get h2
    refine ⟨by simp [q1], fun i z hz => ?_⟩
    cases i with
    | zero => cases hz; exact ⟨x, rfl, h1⟩
    | succ i => exact q2 i z (by simpa using hz)
theorem frzDL_mem {H : Heap} : ∀ {l : List PV} {x : PV} {e : Nat × Blk}, x ∈ l → e ∈ frzD H x → e ∈ frzDL H l
  | [], _, _, h, _ => by simp at h
  | y :: l, x, e, h, he => by
    simp only [frzDL]
    rcases List.mem_cons.1 h with rfl | h
    · exact List.mem_append_left _ he
    · exact List.mem_append_right _ (frzDL_mem h he)

mutual
theorem frzD_list (H : Heap) : ∀ (x : PV), FrzList H (frzD H x)
  | .own b ver => by
    have := frzEff_list (H := H) [.own b ver]
    simpa [frzEff, frzD] using this
  | .agg cs => frzDL_list H cs
  | .tup cs => frzDL_list H cs
  | .any => by simp [frzD, FrzList]
  | .lit _ => by simp [frzD, FrzList]
  | .im _ _ => by simp [frzD, FrzList]
  | .ptr _ _ => by simp [frzD, FrzList]
  | .mapp _ => by simp [frzD, FrzList]
  | .aptr .. => by simp [frzD, FrzList]
  | .iptr _ => by simp [frzD, FrzList]
  | .fn .. => by simp [frzD, FrzList]
  | .iface .. => by simp [frzD, FrzList]
theorem frzDL_list (H : Heap) : ∀ (l : List PV), FrzList H (frzDL H l)
  | [] => by simp [frzDL, FrzList]
  | x :: l => by
    intro e he
    simp only [frzDL] at he
    rcases List.mem_append.1 he with he | he
    · exact frzD_list H x e he
    · exact frzDL_list H l e he
end

section
variable {P : Program} {T : Tab} {C : Ctx} {n : Nat} {E : Env} {H : Heap} {β : Ref} {a : Act} {w : World}

theorem Frz.data {H' : Heap} (hf : Frz C n E β a w H H') {pv : PV} {v : Value} (hr : Rep (NN C H β) w β pv v) : ∀ (q : PV), FrzR H pv q → (∀ e ∈ frzD H pv, H' e.1 = some e.2) → IRep (NN C H' β) w q v := by
  have hk := Keeps.refl (NN C H β) w
  have aux : ∀ {pv : PV} {v : Value}, IRep (NN C H β) w pv v → ∀ (q : PV), FrzR H pv q → IRep (NN C H' β) w q v := by
    intro pv v h
    induction h with
    | lit v =>
      intro q hq
      simp only [FrzR] at hq
      rcases hq with rfl | ⟨hn, s, rfl⟩
      · exact .lit v
      · rw [isNil_eq hn]
        exact .imN _ _ _ rfl
    | imN size n c hn =>
      intro q hq
      simp only [FrzR] at hq
      subst hq
      exact .imN _ _ _ hn
    | im rows ad n' cap size vals hn hs hc h1 h2 ih =>
      intro q hq
      simp only [FrzR] at hq
      subst hq
      exact (IRep.im rows ad n' cap size vals hn hs hc h1 h2).mono hk (fun k _ => hf.nn k)
    | agg cs vs hl h ih =>
      intro q hq
      simp only [FrzR] at hq
      obtain ⟨ds, rfl, hds⟩ := hq
      obtain ⟨q1, q2⟩ := FrzRL_get hds
      exact .agg _ _ (by omega) (fun i y hy => by obtain ⟨x, hx, hxy⟩ := q2 i y hy; exact ih i x hx y hxy)
    | tup cs vs hl h ih =>
      intro q hq
      simp only [FrzR] at hq
      obtain ⟨ds, rfl, hds⟩ := hq
      obtain ⟨q1, q2⟩ := FrzRL_get hds
      exact .tup _ _ (by omega) (fun i y hy => by obtain ⟨x, hx, hxy⟩ := q2 i y hy; exact ih i x hx y hxy)
  induction hr with
  | i h => exact fun q hq _ => aux h q hq
  | any v => intro q hq; simp [FrzR] at hq
  | agg cs vs hl h ih =>
    intro q hq he
    simp only [FrzR] at hq
    obtain ⟨ds, rfl, hds⟩ := hq
    obtain ⟨q1, q2⟩ := FrzRL_get hds
    exact .agg _ _ (by omega) (fun i y hy => by
      obtain ⟨x, hx, hxy⟩ := q2 i y hy
      exact ih i x hx y hxy (fun e hm => he e (by simp only [frzD]; exact frzDL_mem (List.mem_of_getElem? hx) hm)))
  | tup cs vs hl h ih =>
    intro q hq he
    simp only [FrzR] at hq
    obtain ⟨ds, rfl, hds⟩ := hq
    obtain ⟨q1, q2⟩ := FrzRL_get hds
    exact .tup _ _ (by omega) (fun i y hy => by
      obtain ⟨x, hx, hxy⟩ := q2 i y hy
      exact ih i x hx y hxy (fun e hm => he e (by simp only [frzD]; exact frzDL_mem (List.mem_of_getElem? hx) hm)))
  | ptr => intro q hq; simp [FrzR] at hq
  | mapp => intro q hq; simp [FrzR] at hq
  | aptr => intro q hq; simp [FrzR] at hq
  | iptr => intro q hq; simp [FrzR] at hq
  | fn => intro q hq; simp [FrzR] at hq
  | iface => intro q hq; simp [FrzR] at hq
  | own b ver ver' u v h1 h2 h3 h4 =>
    intro q hq he
    simp only [FrzR] at hq
    obtain ⟨T0, s, rows, f, hH, rfl⟩ := hq
    have hb := he (b, .arr T0 s rows ver true) (by simp [frzD, frzOne, hH])
    refine hf.sim.frozen_rep hb (fun u' hu => ?_)
    rw [h1] at hu
    cases hu
    exact h4 rfl
end

/-! ### contracts over plain data -/
def PureCalls (P : Program) (f : FuncId) (args : List PV) (r : PV) : Prop :=
  Callable P f ∧ ∀ (N : Nat → Prop) (w : World) (vs : Array Value), (∀ k, N k → k < w.heap.size) → vs.size = args.length → (∀ i pv, args[i]? = some pv → IRep N w pv (vs.getD i undef)) →
    Calls P f vs w fun e w' => ∃ v, e = .returned v ∧ IRep N w' r v ∧ Below w.heap.size w w'


/-- A call by its contract: what it is handed is frozen, unless it gives back no slice. -/
theorem CallA.pure {P : Program} {f : FuncId} {args args' : List PV} {r : PV} {hp : List (Nat × Blk)} {nx : Nat} {K KP : CK} (h : PureCalls P f args' r) (hf : FrzRL (hpF hp) args args')
    (hK : K r (if noSl r then hp else addL (frzDL (hpF hp) args) hp) nx) : CallA P f args hp nx K KP := by
  refine ⟨h.1, fun C β w vs hgb hs hl hv => ?_⟩
  obtain ⟨q1, q2⟩ := FrzRL_get hf
  have hfz := Frz.all (frzDL (hpF hp) args) (hpF hp) (frzDL_list _ args) ⟨hs, fun _ h => h, fun _ _ h => .inl h, fun _ h => h⟩
  have hN : ∀ k, NN C (applyEff (hpF hp) (frzDL (hpF hp) args)) β k → k < w.heap.size := by
    rintro k (hk | ⟨b, x, ver, u, p1, p2, p3, p4⟩)
    · have := hs.nxb k hk; have := hs.bs; omega
    · exact hs.lies b ver u k p3 p4
  refine (h.2 (NN C (applyEff (hpF hp) (frzDL (hpF hp) args)) β) w vs hN (by omega) (fun i y hy => ?_)).mono ?_
  · obtain ⟨x, hx, hxy⟩ := q2 i y hy
    exact hfz.data (hv i x hx) y hxy (fun e he => applyEff_mem _ _ _ (frzDL_list _ args) (frzDL_mem (List.mem_of_getElem? hx) he))
  · rintro e w' ⟨v, rfl, hr, hb⟩
    have hk : ∀ N, Keeps N w w' := fun N => ⟨hb.os, hb.tape, hb.output, hb.size, fun k hk _ => hb.block k hk⟩
    have move : ∀ {H : Heap}, SimH C H β w → SimH C H β w' := fun {H} hs => hs.world (hk _) (hs.keeps_below (hk _)) (fun b x hx _ => (hs.blk b x hx).later (hk _) (fun _ _ h => h) (Later.refl _) (fun _ _ h => h) rfl
      (fun ver u k h1 h2 => hb.block k (hs.lies b ver u k h1 h2)))
    cases hn : noSl r with
    | true =>
      rw [hn, if_pos rfl] at hK
      exact ⟨v, r, hp, nx, β, .inl ⟨rfl, hK⟩, move hs, .i (hr.anywhere hn)⟩
    | false =>
      rw [hn] at hK
      simp only [Bool.false_eq_true, if_false] at hK
      refine ⟨v, r, _, nx, β, .inl ⟨rfl, hK⟩, ?_, ?_⟩
      · rw [hpF_addL]; exact move hfz.sim
      · rw [hpF_addL]; exact .i hr


end Go.Pe
