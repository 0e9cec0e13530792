/- Abstract states: slots and local blocks; what it means that the machine's state is one of them; the steps that memory takes. -/
import Derived.Test.YtpnhnobnjcknjaaPe1
import Derived.Laws.Rows
set_option linter.unusedVariables false
set_option linter.unusedSimpArgs false
namespace Go.Pe
open Go.RowKit

inductive Blk : Type where
  | box (T : TypeId) (cs : List PV)
  | arr (T : TypeId) (size : Nat) (rows : List (List PV)) (ver : Nat) (frz : Bool)
  | map (es : List (Value × PV))
  deriving Inhabited

def Blk.frozen : Blk → Bool
  | .box _ _ => false
  | .arr _ _ _ _ f => f
  | .map _ => false

def refBlock : Value → Option Nat
  | .pointer (some a) => some a.block
  | .slice (some a) _ _ => some a.block
  | _ => none

abbrev Env := Nat → Option PV
abbrev Heap := Nat → Option Blk

def upd {α : Type} (f : Nat → Option α) (k : Nat) (v : α) : Nat → Option α := fun j => if j = k then some v else f j
theorem upd_same {α : Type} (f : Nat → Option α) (k : Nat) (v : α) : upd f k v k = some v := by simp [upd]
theorem upd_other {α : Type} (f : Nat → Option α) {k j : Nat} (v : α) (h : j ≠ k) : upd f k v j = f j := by simp [upd, h]

/-- What the call was begun with: blocks that its caller may still write, the first block of its own, the world then; values that its caller still has, that lead to the caller's own blocks alone. -/
structure Ctx where
  nx : Nat → Prop
  base : Nat
  w0 : World
  gh : PV → Value → Prop
  gb : Nat

def Owns (H : Heap) (β : Ref) (k : Nat) : Prop := ∃ b blk ver u, H b = some blk ∧ blk.frozen = false ∧ β b = some (ver, u) ∧ refBlock u = some k
def NN (C : Ctx) (H : Heap) (β : Ref) : Nat → Prop := fun k => C.nx k ∨ Owns H β k

def BoxOK (C : Ctx) (N : Nat → Prop) (w : World) (β : Ref) (b T : Nat) (cs : List PV) : Prop :=
  ∃ k cells, β b = some (0, .pointer (some ⟨k, 0, none⟩)) ∧ C.base ≤ k ∧ w.heap[k]? = some (.cells cells T (0, 0)) ∧ cells.size = cs.length ∧
    ∀ j pv, cs[j]? = some pv → Rep N w β pv (cells.getD j undef) ∧ (cells.getD j undef).oneCell' = true
def ArrOK (C : Ctx) (N : Nat → Prop) (w : World) (β : Ref) (b T size : Nat) (rows : List (List PV)) (ver : Nat) : Prop :=
  ∃ u xs, β b = some (ver, u) ∧ w.ownsRow C.base T size u rows.length xs ∧ (∀ r ∈ rows, r.length = size) ∧
    ∀ i r j pv, rows[i]? = some r → r[j]? = some pv → IRep N w pv (xs.getD (i * size + j) undef) ∧ (xs.getD (i * size + j) undef).oneCell' = true
def MapOK (C : Ctx) (N : Nat → Prop) (w : World) (β : Ref) (b : Nat) (es : List (Value × PV)) : Prop :=
  ∃ k ents clock, β b = some (0, .pointer (some ⟨k, 0, none⟩)) ∧ C.base ≤ k ∧ w.heap[k]? = some (.map ents clock) ∧ ents.size = es.length ∧
    ∀ (j : Nat) kv pv, es[j]? = some (kv, pv) → ∃ e, ents[j]? = some e ∧ e.key = kv ∧ Rep N w β pv e.val
def BlkOK (C : Ctx) (N : Nat → Prop) (w : World) (β : Ref) (b : Nat) : Blk → Prop
  | .box T cs => BoxOK C N w β b T cs
  | .arr T size rows ver _ => ArrOK C N w β b T size rows ver
  | .map es => MapOK C N w β b es

structure Sim (C : Ctx) (n : Nat) (E : Env) (H : Heap) (β : Ref) (a : Act) (w : World) : Prop where
  nt : a.tmps.size = n
  df : a.defers = []
  env : ∀ t pv, E t = some pv → t < n ∧ Rep (NN C H β) w β pv (a.tmps.getD t undef)
  blk : ∀ b x, H b = some x → BlkOK C (NN C H β) w β b x
  sep : ∀ b b' x x', b ≠ b' → H b = some x → H b' = some x' → ∀ ver u ver' u' k, β b = some (ver, u) → β b' = some (ver', u') → refBlock u = some k → refBlock u' ≠ some k
  lies : ∀ b ver u k, β b = some (ver, u) → refBlock u = some k → k < w.heap.size
  fr : ∀ b, H b = none → β b = none
  below : Below C.base C.w0 w
  nxb : ∀ k, C.nx k → k < C.base
  bs : C.base ≤ w.heap.size
  gh : ∀ pv v, C.gh pv v → Rep (NN C H β) w β pv v
  gr : ∀ pv v, C.gh pv v → refsIn (fun b => decide (b < C.gb)) pv = true

theorem Later.upd {β : Ref} {b : Nat} {r : Nat × Value} (h : β b = none) : Later β (Pe.upd β b r) := by
  intro c ver u hc
  refine ⟨ver, u, ?_, .inl ⟨rfl, rfl⟩⟩
  rw [upd_other _ _ (fun e => by rw [e, h] at hc; cases hc)]
  exact hc
theorem Later.bump {β : Ref} {b ver ver' : Nat} {u u' : Value} (h : β b = some (ver, u)) (hv : ver < ver') : Later β (Pe.upd β b (ver', u')) := by
  intro c vc uc hc
  by_cases e : c = b
  · subst e
    rw [h] at hc
    cases hc
    exact ⟨ver', u', upd_same _ _ _, .inr hv⟩
  · exact ⟨vc, uc, by rw [upd_other _ _ e]; exact hc, .inl ⟨rfl, rfl⟩⟩

section
variable {C : Ctx} {n : Nat} {E : Env} {H : Heap} {β : Ref} {a : Act} {w : World}

/-- A slot is given a value. -/
theorem Sim.put (h : Sim C n E H β a w) {d : Nat} (hd : d < n) {pv : PV} {v : Value} (hr : Rep (NN C H β) w β pv v) : Sim C n (upd E d pv) H β (a.put (some d) v) w := by
  refine ⟨by simp [Act.put, h.nt], h.df, fun t pv' ht => ?_, h.blk, h.sep, h.lies, h.fr, h.below, h.nxb, h.bs, h.gh, h.gr⟩
  by_cases e : t = d
  · subst e
    rw [upd_same] at ht
    cases ht
    refine ⟨hd, ?_⟩
    have : ((a.put (some t) v).tmps.getD t undef) = v := by simp [Act.put, h.nt, hd]
    rw [this]
    exact hr
  · rw [upd_other _ _ e] at ht
    obtain ⟨hn, hrep⟩ := h.env t pv' ht
    refine ⟨hn, ?_⟩
    have : ((a.put (some d) v).tmps.getD t undef) = a.tmps.getD t undef := by simp [Act.put, Array.getElem?_setIfInBounds_ne (Ne.symm e)]
    rw [this]
    exact hrep

theorem Owns.upd_new {b : Nat} {x : Blk} {r : Nat × Value} {k : Nat} (hH : H b = none) (ho : Owns (upd H b x) (upd β b r) k) : Owns H β k ∨ refBlock r.2 = some k := by
  obtain ⟨c, y, ver, u, h1, h2, h3, h4⟩ := ho
  by_cases e : c = b
  · subst e
    rw [upd_same] at h3
    cases h3
    exact .inr h4
  · rw [upd_other _ _ e] at h1 h3
    exact .inl ⟨c, y, ver, u, h1, h2, h3, h4⟩

/-- The world has moved, within what is owned; blocks and their names are as they were. -/
theorem Sim.world (h : Sim C n E H β a w) {w' : World} (hk : Keeps (NN C H β) w w') (hb : Below C.base C.w0 w')
    (hblk : ∀ b x, H b = some x → x.frozen = false → BlkOK C (NN C H β) w' β b x) : Sim C n E H β a w' := by
  have hm : ∀ {pv : PV} {v : Value}, Rep (NN C H β) w β pv v → Rep (NN C H β) w' β pv v := fun hr => hr.mono hk (fun _ _ h => h) (Later.refl _) (fun _ _ h => h)
  refine ⟨h.nt, h.df, fun t pv ht => ⟨(h.env t pv ht).1, hm (h.env t pv ht).2⟩, fun b x hx => ?_, h.sep, fun b ver u k h1 h2 => Nat.lt_of_lt_of_le (h.lies b ver u k h1 h2) hk.size, h.fr, hb, h.nxb, Nat.le_trans h.bs hk.size, fun pv v hg => hm (h.gh pv v hg), h.gr⟩
  by_cases hf : x.frozen = false
  · exact hblk b x hx hf
  · cases x with
    | box T cs => simp [Blk.frozen] at hf
    | map es => simp [Blk.frozen] at hf
    | arr T size rows ver frz =>
      obtain ⟨u, xs, h1, h2, h3, h4⟩ := h.blk b _ hx
      refine ⟨u, xs, h1, ?_, h3, fun i r j pv hi hj => ⟨((h4 i r j pv hi hj).1).mono hk (fun _ _ h => h), (h4 i r j pv hi hj).2⟩⟩
      refine ⟨h2.1, ?_⟩
      rcases h2.2 with hn | ⟨g, cap, cur, rfl, hbg, hg, rest⟩
      · exact .inl hn
      · refine .inr ⟨g, cap, cur, rfl, hbg, ?_, rest⟩
        rw [hk.block g (Array.getElem?_eq_some_iff.1 hg).1 ?_]
        · exact hg
        · rintro (hx' | ⟨b', x', ver', u', q1, q2, q3, q4⟩)
          · have := h.nxb _ hx'; omega
          · by_cases e : b = b'
            · subst e
              rw [hx] at q1
              cases q1
              exact hf q2
            · exact h.sep b b' _ _ e hx q1 _ _ _ _ g h1 q3 rfl q4

/-- BlkOK in a later world, for a block that is as it was. -/
theorem BlkOK.later {N N' : Nat → Prop} {w' : World} {β' : Ref} {b : Nat} {x : Blk} (h : BlkOK C N w β b x) (hk : Keeps N w w') (hN : ∀ k, k < w.heap.size → N' k → N k) (hβ : Later β β')
    (hbox : ∀ b u, β b = some (0, .pointer u) → β' b = some (0, .pointer u)) (hsame : β' b = β b)
    (hmem : ∀ ver u k, β b = some (ver, u) → refBlock u = some k → w'.heap[k]? = w.heap[k]?) : BlkOK C N' w' β' b x := by
  cases x with
  | box T cs =>
    obtain ⟨k, cells, h1, h2, h3, h4, h5⟩ := h
    exact ⟨k, cells, hsame.trans h1, h2, (hmem _ _ k h1 rfl).trans h3, h4, fun j pv hj => ⟨(h5 j pv hj).1.mono hk hN hβ hbox, (h5 j pv hj).2⟩⟩
  | map es =>
    obtain ⟨k, ents, clock, h1, h2, h3, h4, h5⟩ := h
    refine ⟨k, ents, clock, hsame.trans h1, h2, (hmem _ _ k h1 rfl).trans h3, h4, fun j kv pv hj => ?_⟩
    obtain ⟨e, q1, q2, q3⟩ := h5 j kv pv hj
    exact ⟨e, q1, q2, q3.mono hk hN hβ hbox⟩
  | arr T size rows ver frz =>
    obtain ⟨u, xs, h1, h2, h3, h4⟩ := h
    refine ⟨u, xs, hsame.trans h1, ⟨h2.1, ?_⟩, h3, fun i r j pv hi hj => ⟨((h4 i r j pv hi hj).1).mono hk hN, (h4 i r j pv hi hj).2⟩⟩
    rcases h2.2 with hn | ⟨g, cap, cur, rfl, hbg, hg, rest⟩
    · exact .inl hn
    · exact .inr ⟨g, cap, cur, rfl, hbg, (hmem _ _ g h1 rfl).trans hg, rest⟩

theorem Keeps.alloc (N : Nat → Prop) (w : World) (o : Obj) : Keeps N w (w.alloc o) := ⟨rfl, rfl, rfl, by simp, fun k hk _ => heap_alloc_old w o k hk⟩
theorem Keeps.drew (N : Nat → Prop) (w : World) : Keeps N w w.drew := ⟨rfl, rfl, rfl, Nat.le_refl _, fun _ _ _ => rfl⟩
theorem Keeps.trans {N : Nat → Prop} {w w1 w2 : World} (h : Keeps N w w1) (h' : Keeps N w1 w2) : Keeps N w w2 :=
  ⟨h'.os.trans h.os, h'.tape.trans h.tape, h'.output.trans h.output, Nat.le_trans h.size h'.size, fun k hk hn => (h'.block k (Nat.lt_of_lt_of_le hk h.size) hn).trans (h.block k hk hn)⟩
theorem Keeps.below {N : Nat → Prop} {w w1 : World} (h : Keeps N w w1) {B : Nat} (hN : ∀ k, N k → B ≤ k) (hB : B ≤ w.heap.size) : Below B w w1 :=
  ⟨h.os, h.tape, h.output, h.size, fun k hk => h.block k (by omega) (fun hn => by have := hN k hn; omega)⟩
theorem Keeps.of_grown {N : Nat → Prop} {w w1 : World} {row : Option Nat} (h : w.grownBy w1 row) (hr : ∀ k, row = some k → N k) : Keeps N w w1 :=
  ⟨h.os, h.tape, h.output, h.size, fun k hk hn => h.block k hk (fun e => hn (hr k e.symm))⟩
theorem Keeps.mono {N N' : Nat → Prop} {w w1 : World} (h : Keeps N w w1) (hn : ∀ k, k < w.heap.size → N k → N' k) : Keeps N' w w1 :=
  ⟨h.os, h.tape, h.output, h.size, fun k hk hk' => h.block k hk (fun e => hk' (hn k hk e))⟩

/-- What is owned lies from the base on. -/
theorem Sim.owns_ge (h : Sim C n E H β a w) {k : Nat} (ho : Owns H β k) : C.base ≤ k := by
  obtain ⟨b, x, ver, u, h1, h2, h3, h4⟩ := ho
  have hb := h.blk b x h1
  cases x with
  | box T cs =>
    obtain ⟨k', cells, q1, q2, _⟩ := hb
    rw [h3] at q1
    cases q1
    simp [refBlock] at h4
    omega
  | map es =>
    obtain ⟨k', ents, clock, q1, q2, _⟩ := hb
    rw [h3] at q1
    cases q1
    simp [refBlock] at h4
    omega
  | arr T size rows ver' frz =>
    obtain ⟨u', xs, q1, q2, _⟩ := hb
    rw [h3] at q1
    cases q1
    rcases q2.2 with ⟨rfl, _⟩ | ⟨g, cap, cur, rfl, hbg, _⟩
    · simp [refBlock] at h4
    · simp [refBlock] at h4
      omega

theorem Sim.keeps_below (h : Sim C n E H β a w) {w' : World} (hk : Keeps (fun k => Owns H β k) w w') : Below C.base C.w0 w' :=
  h.below.trans (hk.below (fun k hk => h.owns_ge hk) h.bs)

/-- A new block. -/
theorem Sim.new (h : Sim C n E H β a w) {b : Nat} (hb : H b = none) {w' : World} {x : Blk} {ver : Nat} {u : Value} (hk : Keeps (fun k => Owns H β k) w w')
    (hsame : ∀ k, k < w.heap.size → w'.heap[k]? = w.heap[k]?) (hu : ∀ k, refBlock u = some k → w.heap.size ≤ k ∧ k < w'.heap.size)
    (hx : Keeps (NN C H β) w w' → (∀ k, k < w.heap.size → NN C (upd H b x) (upd β b (ver, u)) k → NN C H β k) → Later β (upd β b (ver, u)) → (∀ c v, β c = some (0, .pointer v) → upd β b (ver, u) c = some (0, .pointer v)) →
      BlkOK C (NN C (upd H b x) (upd β b (ver, u))) w' (upd β b (ver, u)) b x) : Sim C n E (upd H b x) (upd β b (ver, u)) a w' := by
  have hbn := h.fr b hb
  have hN : ∀ k, k < w.heap.size → NN C (upd H b x) (upd β b (ver, u)) k → NN C H β k := by
    rintro k hk (h' | h')
    · exact .inl h'
    · rcases Owns.upd_new hb h' with h' | h'
      · exact .inr h'
      · have := (hu k h').1; omega
  have hk' : Keeps (NN C H β) w w' := hk.mono (fun k _ h' => .inr h')
  have hbox : ∀ c v, β c = some (0, .pointer v) → upd β b (ver, u) c = some (0, .pointer v) := by
    intro c v hc
    rw [upd_other _ _ (fun e => by rw [e, hbn] at hc; cases hc)]
    exact hc
  refine ⟨h.nt, h.df, fun t pv ht => ⟨(h.env t pv ht).1, (h.env t pv ht).2.mono hk' hN (Later.upd hbn) hbox⟩, fun c y hc => ?_, ?_, ?_, ?_, h.keeps_below hk, h.nxb, Nat.le_trans h.bs hk.size, fun pv v hg => (h.gh pv v hg).mono hk' hN (Later.upd hbn) hbox, h.gr⟩
  · by_cases e : c = b
    · subst e
      rw [upd_same] at hc
      cases hc
      exact hx hk' hN (Later.upd hbn) hbox
    · rw [upd_other _ _ e] at hc
      refine (h.blk c y hc).later hk' hN (Later.upd hbn) hbox (upd_other _ _ e) (fun ver' u' k h1 h2 => hsame k (h.lies c ver' u' k h1 h2))
  · intro c c' y y' hne hc hc' v1 u1 v2 u2 k h1 h2 h3 h4
    by_cases e : c = b
    · subst e
      rw [upd_same] at h1
      cases h1
      rw [upd_other _ _ (Ne.symm hne)] at hc' h2
      have := h.lies c' v2 u2 k h2 h4
      have := (hu k h3).1
      omega
    · by_cases e' : c' = b
      · subst e'
        rw [upd_same] at h2
        cases h2
        rw [upd_other _ _ e] at hc h1
        have := h.lies c v1 u1 k h1 h3
        have := (hu k h4).1
        omega
      · rw [upd_other _ _ e] at hc h1
        rw [upd_other _ _ e'] at hc' h2
        exact h.sep c c' y y' hne hc hc' v1 u1 v2 u2 k h1 h2 h3 h4
  · intro c v1 u1 k h1 h2
    by_cases e : c = b
    · subst e
      rw [upd_same] at h1
      cases h1
      exact (hu k h2).2
    · rw [upd_other _ _ e] at h1
      exact Nat.lt_of_lt_of_le (h.lies c v1 u1 k h1 h2) hk.size
  · intro c hc
    by_cases e : c = b
    · subst e
      rw [upd_same] at hc
      cases hc
    · rw [upd_other _ _ e] at hc ⊢
      exact h.fr c hc

/-- A block of its own has changed: a variable, or a slice, that is not frozen; its name may be another. -/
theorem Sim.change (h : Sim C n E H β a w) {b : Nat} {x x' : Blk} (hb : H b = some x) (hf : x.frozen = false) {w' : World} {ver ver' : Nat} {u u' : Value} (hβ : β b = some (ver, u))
    (hver : (ver' = ver ∧ u' = u) ∨ (ver < ver' ∧ ∀ v, u ≠ .pointer v)) (hsame : ∀ k, k < w.heap.size → refBlock u ≠ some k → w'.heap[k]? = w.heap[k]?) (hos : w'.os = w.os) (htp : w'.tape = w.tape) (hout : w'.output = w.output)
    (hsz : w.heap.size ≤ w'.heap.size) (hu : ∀ k, refBlock u' = some k → refBlock u = some k ∨ (w.heap.size ≤ k ∧ k < w'.heap.size))
    (hx : Keeps (NN C H β) w w' → (∀ k, k < w.heap.size → NN C (upd H b x') (upd β b (ver', u')) k → NN C H β k) → Later β (upd β b (ver', u')) → (∀ c v, β c = some (0, .pointer v) → upd β b (ver', u') c = some (0, .pointer v)) →
      BlkOK C (NN C (upd H b x') (upd β b (ver', u'))) w' (upd β b (ver', u')) b x') : Sim C n E (upd H b x') (upd β b (ver', u')) a w' := by
  have hown : ∀ k, refBlock u = some k → Owns H β k := fun k hk => ⟨b, x, ver, u, hb, hf, hβ, hk⟩
  have hk : Keeps (fun k => Owns H β k) w w' := ⟨hos, htp, hout, hsz, fun k hk hn => hsame k hk (fun e => hn (hown k e))⟩
  have hk' : Keeps (NN C H β) w w' := hk.mono (fun k _ h' => .inr h')
  have hN : ∀ k, k < w.heap.size → NN C (upd H b x') (upd β b (ver', u')) k → NN C H β k := by
    rintro k hlt (h' | ⟨c, y, v1, u1, h1, h2, h3, h4⟩)
    · exact .inl h'
    · by_cases e : c = b
      · subst e
        rw [upd_same] at h3
        cases h3
        rcases hu k h4 with h5 | h5
        · exact .inr (hown k h5)
        · omega
      · rw [upd_other _ _ e] at h1 h3
        exact .inr ⟨c, y, v1, u1, h1, h2, h3, h4⟩
  have hl : Later β (upd β b (ver', u')) := by
    rcases hver with ⟨rfl, rfl⟩ | ⟨hv, _⟩
    · intro c v1 u1 hc
      by_cases e : c = b
      · subst e
        rw [hβ] at hc
        cases hc
        exact ⟨_, _, upd_same _ _ _, .inl ⟨rfl, rfl⟩⟩
      · exact ⟨v1, u1, by rw [upd_other _ _ e]; exact hc, .inl ⟨rfl, rfl⟩⟩
    · exact Later.bump hβ hv
  have hbox : ∀ c v, β c = some (0, .pointer v) → upd β b (ver', u') c = some (0, .pointer v) := by
    intro c v hc
    by_cases e : c = b
    · subst e
      rw [hβ] at hc
      cases hc
      rcases hver with ⟨rfl, rfl⟩ | ⟨_, hv⟩
      · exact upd_same _ _ _
      · exact absurd rfl (hv v)
    · rw [upd_other _ _ e]
      exact hc
  refine ⟨h.nt, h.df, fun t pv ht => ⟨(h.env t pv ht).1, (h.env t pv ht).2.mono hk' hN hl hbox⟩, fun c y hc => ?_, ?_, ?_, ?_, h.keeps_below hk, h.nxb, Nat.le_trans h.bs hsz, fun pv v hg => (h.gh pv v hg).mono hk' hN hl hbox, h.gr⟩
  · by_cases e : c = b
    · subst e
      rw [upd_same] at hc
      cases hc
      exact hx hk' hN hl hbox
    · rw [upd_other _ _ e] at hc
      refine (h.blk c y hc).later hk' hN hl hbox (upd_other _ _ e) (fun v1 u1 k h1 h2 => hsame k (h.lies c v1 u1 k h1 h2) ?_)
      exact fun h3 => h.sep b c x y (Ne.symm e) hb hc _ _ _ _ k hβ h1 h3 h2
  · intro c c' y y' hne hc hc' v1 u1 v2 u2 k h1 h2 h3 h4
    by_cases e : c = b
    · subst e
      rw [upd_same] at h1
      cases h1
      rw [upd_other _ _ (Ne.symm hne)] at hc' h2
      rcases hu k h3 with h5 | h5
      · exact h.sep c c' x y' hne hb hc' _ _ _ _ k hβ h2 h5 h4
      · have := h.lies c' v2 u2 k h2 h4
        omega
    · by_cases e' : c' = b
      · subst e'
        rw [upd_same] at h2
        cases h2
        rw [upd_other _ _ e] at hc h1
        rcases hu k h4 with h5 | h5
        · exact h.sep c c' y x hne hc hb _ _ _ _ k h1 hβ h3 h5
        · have := h.lies c v1 u1 k h1 h3
          omega
      · rw [upd_other _ _ e] at hc h1
        rw [upd_other _ _ e'] at hc' h2
        exact h.sep c c' y y' hne hc hc' v1 u1 v2 u2 k h1 h2 h3 h4
  · intro c v1 u1 k h1 h2
    by_cases e : c = b
    · subst e
      rw [upd_same] at h1
      cases h1
      rcases hu k h2 with h5 | h5
      · exact Nat.lt_of_lt_of_le (h.lies c _ _ k hβ h5) hsz
      · exact h5.2
    · rw [upd_other _ _ e] at h1
      exact Nat.lt_of_lt_of_le (h.lies c v1 u1 k h1 h2) hsz
  · intro c hc
    by_cases e : c = b
    · subst e
      rw [upd_same] at hc
      cases hc
    · rw [upd_other _ _ e] at hc ⊢
      exact h.fr c hc
end

end Go.Pe
