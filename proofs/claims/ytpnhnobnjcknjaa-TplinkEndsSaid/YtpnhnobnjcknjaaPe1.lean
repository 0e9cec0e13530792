/- Abstract values for Go calls, and what it means that a value of the model stands for one, in a world. -/
import Derived.Orders
import Derived.Below
import Derived.Laws.AppendOwn
import Derived.DataElems
set_option linter.unusedVariables false
set_option linter.unusedSimpArgs false
namespace Go.Pe
open Go.RowKit

/-- An abstract value: 'lit' a value as it is; 'im' a slice whose memory stays as it is, by its elements' cells; 'ptr' into a local variable; 'mapp' a local map; 'aptr' into an element of a local array; 'iptr' into memory that stays; 'own' a local slice. -/
inductive PV : Type where
  | any
  | lit (v : Value)
  | im (size : Nat) (rows : List (List PV))
  | agg (cs : List PV)
  | tup (vs : List PV)
  | ptr (b off : Nat)
  | mapp (b : Nat)
  | aptr (b ver row off size : Nat)
  | iptr (cs : List PV)
  | own (b ver : Nat)
  | fn (f : Fn) (first cap : List PV)
  | iface (t : TypeId) (v : PV)
  deriving Inhabited

/-- A value of the model that stands for an immutable abstract value: all memory that it leads to lies outside N. -/
inductive IRep (N : Nat → Prop) (w : World) : PV → Value → Prop where
  | lit (v : Value) : IRep N w (.lit v) v
  | imN (size n c : Nat) : n = 0 → IRep N w (.im size []) (.slice none n c)
  | im (rows : List (List PV)) (a : Addr) (n cap size : Nat) (vals : Nat → Nat → Value) (hn : n = rows.length) (hs : ∀ r ∈ rows, r.length = size) (hc : rows.length ≤ cap)
      (h1 : ∀ i r j pv, rows[i]? = some r → r[j]? = some pv → w.cell? (a.add (i * size + j)) = some (vals i j) ∧ ¬ N a.block ∧ (vals i j).oneCell' = true)
      (h2 : ∀ i r j pv, rows[i]? = some r → r[j]? = some pv → IRep N w pv (vals i j)) :
      IRep N w (.im size rows) (.slice (some a) n cap)
  | agg (cs : List PV) (vs : Array Value) (hl : vs.size = cs.length) (h : ∀ i pv, cs[i]? = some pv → IRep N w pv (vs.getD i undef)) : IRep N w (.agg cs) (.agg vs)
  | tup (cs : List PV) (vs : Array Value) (hl : vs.size = cs.length) (h : ∀ i pv, cs[i]? = some pv → IRep N w pv (vs.getD i undef)) : IRep N w (.tup cs) (.tuple vs)

/-- What a later world must keep: all blocks outside N. -/
structure Keeps (N : Nat → Prop) (w w' : World) : Prop where
  os : w'.os = w.os
  tape : w'.tape = w.tape
  output : w'.output = w.output
  size : w.heap.size ≤ w'.heap.size
  block : ∀ k, k < w.heap.size → ¬ N k → w'.heap[k]? = w.heap[k]?

theorem Keeps.refl (N : Nat → Prop) (w : World) : Keeps N w w := ⟨rfl, rfl, rfl, Nat.le_refl _, fun _ _ _ => rfl⟩

theorem Keeps.cell {N : Nat → Prop} {w w' : World} (h : Keeps N w w') {a : Addr} {v : Value} (hN : ¬ N a.block) (hc : w.cell? a = some v) : w'.cell? a = some v := by
  have hlt := World.block_lt_of_cell? w a hc
  rw [World.cell?_of_block (w := w) (h.block _ hlt hN)]
  exact hc

theorem IRep.mono {N N' : Nat → Prop} {w w' : World} (hk : Keeps N w w') (hN : ∀ k, k < w.heap.size → N' k → N k) {pv : PV} {v : Value} (h : IRep N w pv v) : IRep N' w' pv v := by
  induction h with
  | lit v => exact .lit v
  | imN size n c hn => exact .imN size n c hn
  | im rows a n cap size vals hn hs hc h1 h2 ih =>
    refine .im rows a n cap size vals hn hs hc (fun i r j pv hr hj => ?_) ih
    obtain ⟨hcell, hna, h1c⟩ := h1 i r j pv hr hj
    have hlt : a.block < w.heap.size := by
      have := World.block_lt_of_cell? w _ hcell
      simpa [Addr.add] using (by unfold Addr.add at this; split at this <;> exact this)
    have hb : (a.add (i * size + j)).block = a.block := by unfold Addr.add; split <;> rfl
    exact ⟨hk.cell (by rw [hb]; exact hna) hcell, fun h => hna (hN _ hlt h), h1c⟩
  | agg cs vs hl h ih => exact .agg cs vs hl ih
  | tup cs vs hl h ih => exact .tup cs vs hl ih

/-- What the abstract blocks are: a number of changes, and a pointer to the variable, or the slice. -/
abbrev Ref := Nat → Option (Nat × Value)

inductive Rep (N : Nat → Prop) (w : World) (β : Ref) : PV → Value → Prop where
  | i {pv : PV} {v : Value} : IRep N w pv v → Rep N w β pv v
  | any (v : Value) : Rep N w β .any v
  | agg (cs : List PV) (vs : Array Value) (hl : vs.size = cs.length) (h : ∀ i pv, cs[i]? = some pv → Rep N w β pv (vs.getD i undef)) : Rep N w β (.agg cs) (.agg vs)
  | tup (cs : List PV) (vs : Array Value) (hl : vs.size = cs.length) (h : ∀ i pv, cs[i]? = some pv → Rep N w β pv (vs.getD i undef)) : Rep N w β (.tup cs) (.tuple vs)
  | ptr (b off k : Nat) : β b = some (0, .pointer (some ⟨k, 0, none⟩)) → Rep N w β (.ptr b off) (.pointer (some ⟨k, off, none⟩))
  | mapp (b k : Nat) : β b = some (0, .pointer (some ⟨k, 0, none⟩)) → Rep N w β (.mapp b) (.map (some k))
  | aptr (b ver row off size ver' : Nat) (u v : Value) : β b = some (ver', u) → ver ≤ ver' → v.oneCell' = true → (ver' = ver → ∀ g n c, u = .slice (some ⟨g, 0, none⟩) n c → v = .pointer (some ⟨g, row * size + off, none⟩)) →
      Rep N w β (.aptr b ver row off size) v
  | iptr (cs : List PV) (a : Addr) (vals : Nat → Value) (h1 : ∀ j pv, cs[j]? = some pv → w.cell? (a.add j) = some (vals j) ∧ ¬ N a.block ∧ IRep N w pv (vals j) ∧ (vals j).oneCell' = true) : Rep N w β (.iptr cs) (.pointer (some a))
  | own (b ver ver' : Nat) (u v : Value) : β b = some (ver', u) → ver ≤ ver' → v.oneCell' = true → (ver' = ver → v = u) → Rep N w β (.own b ver) v
  | fn (f : Fn) (first cap : List PV) (vs us : Array Value) (hl : vs.size = first.length) (hl' : us.size = cap.length) (h : ∀ i pv, first[i]? = some pv → Rep N w β pv (vs.getD i undef))
      (h' : ∀ i pv, cap[i]? = some pv → Rep N w β pv (us.getD i undef)) : Rep N w β (.fn f first cap) (.func f vs us)
  | iface (t : TypeId) (pv : PV) (v : Value) : Rep N w β pv v → Rep N w β (.iface t pv) (.iface t v)

/-- A later naming of the blocks: each is as it was, or has changed. -/
def Later (β β' : Ref) : Prop := ∀ b ver u, β b = some (ver, u) → ∃ ver' u', β' b = some (ver', u') ∧ ((ver' = ver ∧ u' = u) ∨ ver < ver')

theorem Later.refl (β : Ref) : Later β β := fun _ ver u h => ⟨ver, u, h, .inl ⟨rfl, rfl⟩⟩

theorem Later.trans {β β' β'' : Ref} (h : Later β β') (h' : Later β' β'') : Later β β'' := by
  intro b ver u hb
  obtain ⟨v1, u1, h1, c1⟩ := h b ver u hb
  obtain ⟨v2, u2, h2, c2⟩ := h' b v1 u1 h1
  refine ⟨v2, u2, h2, ?_⟩
  rcases c1 with ⟨rfl, rfl⟩ | c1
  · exact c2
  · rcases c2 with ⟨rfl, rfl⟩ | c2
    · exact .inr c1
    · exact .inr (by omega)

theorem Rep.mono {N N' : Nat → Prop} {w w' : World} {β β' : Ref} (hk : Keeps N w w') (hN : ∀ k, k < w.heap.size → N' k → N k) (hβ : Later β β') (hbox : ∀ b u, β b = some (0, .pointer u) → β' b = some (0, .pointer u))
    {pv : PV} {v : Value} (h : Rep N w β pv v) : Rep N' w' β' pv v := by
  induction h with
  | i h => exact .i (h.mono hk hN)
  | any v => exact .any v
  | agg cs vs hl h ih => exact .agg cs vs hl ih
  | tup cs vs hl h ih => exact .tup cs vs hl ih
  | ptr b off k h => exact .ptr b off k (hbox _ _ h)
  | mapp b k h => exact .mapp b k (hbox _ _ h)
  | aptr b ver row off size ver' u v h1 h2 ho h3 =>
    obtain ⟨v2, u2, hb, c⟩ := hβ _ _ _ h1
    rcases c with ⟨rfl, rfl⟩ | c
    · exact .aptr b ver row off size _ _ v hb h2 ho h3
    · exact .aptr b ver row off size _ _ v hb (by omega) ho (fun e => by omega)
  | iptr cs a vals h1 =>
    refine .iptr cs a vals fun j pv hj => ?_
    obtain ⟨hc, hna, hr, h1c⟩ := h1 j pv hj
    have hb : (a.add j).block = a.block := by unfold Addr.add; split <;> rfl
    have hlt : a.block < w.heap.size := by
      have := World.block_lt_of_cell? w _ hc
      rwa [hb] at this
    exact ⟨hk.cell (by rw [hb]; exact hna) hc, fun h => hna (hN _ hlt h), hr.mono hk hN, h1c⟩
  | own b ver ver' u v h1 h2 ho h3 =>
    obtain ⟨v2, u2, hb, c⟩ := hβ _ _ _ h1
    rcases c with ⟨rfl, rfl⟩ | c
    · exact .own b ver _ _ v hb h2 ho h3
    · exact .own b ver _ _ v hb (by omega) ho (fun e => by omega)
  | fn f first cap vs us hl hl' h h' ih ih' => exact .fn f first cap vs us hl hl' ih ih'
  | iface t pv v h ih => exact .iface t pv v ih

/-! ### the blocks that a value leads to -/
mutual
def refsIn (ok : Nat → Bool) : PV → Bool
  | .ptr b _ => ok b
  | .mapp b => ok b
  | .aptr b _ _ _ _ => ok b
  | .own b _ => ok b
  | .agg cs => refsInL ok cs
  | .tup cs => refsInL ok cs
  | .fn _ p q => refsInL ok p && refsInL ok q
  | .iface _ v => refsIn ok v
  | _ => true
def refsInL (ok : Nat → Bool) : List PV → Bool
  | [] => true
  | x :: l => refsIn ok x && refsInL ok l
end
theorem refsInL_all {ok : Nat → Bool} : ∀ {l : List PV}, (∀ x ∈ l, refsIn ok x = true) → refsInL ok l = true
  | [], _ => rfl
  | x :: l, h => by
    simp only [refsInL, Bool.and_eq_true]
    exact ⟨h x List.mem_cons_self, refsInL_all fun y hy => h y (List.mem_cons_of_mem _ hy)⟩
theorem refsInL_mem {ok : Nat → Bool} : ∀ {l : List PV} {x : PV}, refsInL ok l = true → x ∈ l → refsIn ok x = true
  | [], _, _, h => by simp at h
  | y :: l, x, h, hx => by
    simp only [refsInL, Bool.and_eq_true] at h
    rcases List.mem_cons.1 hx with rfl | hx
    · exact h.1
    · exact refsInL_mem h.2 hx


theorem Rep.refs {N : Nat → Prop} {w : World} {β : Ref} {pv : PV} {v : Value} (h : Rep N w β pv v) {ok : Nat → Bool} (hok : ∀ b r, β b = some r → ok b = true) : refsIn ok pv = true := by
  have hI : ∀ {pv : PV} {v : Value}, IRep N w pv v → refsIn ok pv = true := by
    intro pv v h
    induction h with
    | lit v => rfl
    | imN => rfl
    | im => rfl
    | agg cs vs hl h ih => exact refsInL_all fun x hx => by obtain ⟨i, hi, rfl⟩ := List.getElem_of_mem hx; exact ih i _ (List.getElem?_eq_getElem hi)
    | tup cs vs hl h ih => exact refsInL_all fun x hx => by obtain ⟨i, hi, rfl⟩ := List.getElem_of_mem hx; exact ih i _ (List.getElem?_eq_getElem hi)
  induction h with
  | i h => exact hI h
  | any v => rfl
  | agg cs vs hl h ih => exact refsInL_all fun x hx => by obtain ⟨i, hi, rfl⟩ := List.getElem_of_mem hx; exact ih i _ (List.getElem?_eq_getElem hi)
  | tup cs vs hl h ih => exact refsInL_all fun x hx => by obtain ⟨i, hi, rfl⟩ := List.getElem_of_mem hx; exact ih i _ (List.getElem?_eq_getElem hi)
  | ptr b off k h => exact hok _ _ h
  | mapp b k h => exact hok _ _ h
  | aptr _ _ _ _ _ _ _ _ h => exact hok _ _ h
  | iptr => rfl
  | own _ _ _ _ _ h => exact hok _ _ h
  | fn f first cap vs us hl hl' h h' ih ih' =>
    simp only [refsIn, Bool.and_eq_true]
    exact ⟨refsInL_all fun x hx => by obtain ⟨i, hi, rfl⟩ := List.getElem_of_mem hx; exact ih i _ (List.getElem?_eq_getElem hi), refsInL_all fun x hx => by obtain ⟨i, hi, rfl⟩ := List.getElem_of_mem hx; exact ih' i _ (List.getElem?_eq_getElem hi)⟩
  | iface t pv v h ih => exact ih

end Go.Pe
