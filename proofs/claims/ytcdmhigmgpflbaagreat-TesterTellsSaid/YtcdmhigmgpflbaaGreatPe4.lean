import Derived.Orders
import Derived.Below
import Derived.Laws.AppendOwn
import Derived.DataElems
import Derived.Laws.Rows
import Derived.Laws.Entries
import Derived.Laws.Small
import Derived.Laws.StructEq
import Derived.Laws.BytesArg
set_option linter.unusedVariables false
set_option linter.unusedSimpArgs false
open List renaming getElem?_eq_getElem → yBh
namespace Go.Pe
open Go.RowKit
inductive PV : Type where
  | any
  | lit (v : Value)
  | im (size : Nat) (rows : List (List PV))
  | agg (cs : List PV)
  | tup (vs : List PV)
  | ptr (b off : Nat)
  | mapp (b : Nat)
  | aptr (b ver row off size : Nat)
  | iptr (cs : List PV)
  | own (b ver : Nat)
  | sub (b ver lo n size : Nat)
  | fn (f : Fn) (first cap : List PV)
  | iface (t : TypeId) (v : PV)
  deriving Inhabited
inductive IRep (N : Nat → Prop) (w : World) : PV → Value → Prop where
  | lit (v : Value) : IRep N w (.lit v) v
  | imN (size n c : Nat) : n = 0 → IRep N w (.im size []) (.slice none n c)
  | im (rows : List (List PV)) (a : Addr) (n cap size : Nat) (vals : Nat → Nat → Value) (hn : n = rows.length) (hs : ∀ r ∈ rows,r.length = size) (hc : rows.length ≤ cap)
      (h1 : ∀ i r j pv,rows[i]? = some r → r[j]? = some pv → w.cell? (a.add (i * size + j)) = some (vals i j) ∧ ¬ N a.block ∧ (vals i j).oneCell' = true)
      (h2 : ∀ i r j pv,rows[i]? = some r → r[j]? = some pv → IRep N w pv (vals i j)) :
      IRep N w (.im size rows) (.slice (some a) n cap)
  | agg (cs : List PV) (vs : Array Value) (hl : vs.size = cs.length) (h : ∀ i pv,cs[i]? = some pv → IRep N w pv (vs.getD i undef)) : IRep N w (.agg cs) (.agg vs)
  | tup (cs : List PV) (vs : Array Value) (hl : vs.size = cs.length) (h : ∀ i pv,cs[i]? = some pv → IRep N w pv (vs.getD i undef)) : IRep N w (.tup cs) (.tuple vs)
structure Keeps (N : Nat → Prop) (w w' : World) : Prop where
  os : w'.os = w.os
  tape : w'.tape = w.tape
  output : w'.output = w.output
  size : w.heap.size ≤ w'.heap.size
  block : ∀ k,k < w.heap.size → ¬ N k → w'.heap[k]? = w.heap[k]?
theorem Keeps.refl (N : Nat → Prop) (w : World) : Keeps N w w := ⟨rfl,rfl,rfl,Nat.le_refl _,fun _ _ _ => rfl⟩
theorem Keeps.cell {N : Nat → Prop} {w w' : World} (h : Keeps N w w') {a : Addr} {v : Value} (hN : ¬ N a.block) (hc : w.cell? a = some v) : w'.cell? a = some v := by
  have hlt := World.block_lt_of_cell? w a hc
  rw [World.cell?_of_block (w := w) (h.block _ hlt hN)]
  exact hc
theorem IRep.mono {N N' : Nat → Prop} {w w' : World} (hk : Keeps N w w') (hN : ∀ k,k < w.heap.size → N' k → N k) {pv : PV} {v : Value} (h : IRep N w pv v) : IRep N' w' pv v := by
  induction h with
  | lit v => exact .lit v
  | imN size n c hn => exact .imN size n c hn
  | im rows a n cap size vals hn hs hc h1 h2 ih =>
    refine .im rows a n cap size vals hn hs hc (fun i r j pv hr hj => ?_) ih
    obtain ⟨hcell,hna,h1c⟩ := h1 i r j pv hr hj
    have hlt : a.block < w.heap.size := by
      have := World.block_lt_of_cell? w _ hcell
      simpa [Addr.add] using (by unfold Addr.add at this; split at this <;> exact this)
    have hb : (a.add (i * size + j)).block = a.block := by unfold Addr.add; split <;> rfl
    exact ⟨hk.cell (by rw [hb]; exact hna) hcell,fun h => hna (hN _ hlt h),h1c⟩
  | agg cs vs hl h ih => exact .agg cs vs hl ih
  | tup cs vs hl h ih => exact .tup cs vs hl ih
def SubOf (u : Value) (lo n size : Nat) (v : Value) : Prop :=
  ∃ ad m,v = .slice ad n m ∧ n ≤ m ∧ (0 < n → ∃ g n0 c,u = .slice (some ⟨g,0,none⟩) n0 c ∧ ad = some ⟨g,lo * size,none⟩)
abbrev Ref := Nat → Option (Nat × Value)
inductive Rep (N : Nat → Prop) (w : World) (β : Ref) : PV → Value → Prop where
  | i {pv : PV} {v : Value} : IRep N w pv v → Rep N w β pv v
  | any (v : Value) : Rep N w β .any v
  | agg (cs : List PV) (vs : Array Value) (hl : vs.size = cs.length) (h : ∀ i pv,cs[i]? = some pv → Rep N w β pv (vs.getD i undef)) : Rep N w β (.agg cs) (.agg vs)
  | tup (cs : List PV) (vs : Array Value) (hl : vs.size = cs.length) (h : ∀ i pv,cs[i]? = some pv → Rep N w β pv (vs.getD i undef)) : Rep N w β (.tup cs) (.tuple vs)
  | ptr (b off k : Nat) : β b = some (0,.pointer (some ⟨k,0,none⟩)) → Rep N w β (.ptr b off) (.pointer (some ⟨k,off,none⟩))
  | mapp (b k : Nat) : β b = some (0,.pointer (some ⟨k,0,none⟩)) → Rep N w β (.mapp b) (.map (some k))
  | aptr (b ver row off size ver' : Nat) (u v : Value) : β b = some (ver',u) → ver ≤ ver' → v.oneCell' = true → (ver' = ver → ∀ g n c,u = .slice (some ⟨g,0,none⟩) n c → v = .pointer (some ⟨g,row * size + off,none⟩)) →
      Rep N w β (.aptr b ver row off size) v
  | iptr (cs : List PV) (a : Addr) (vals : Nat → Value) (h1 : ∀ j pv,cs[j]? = some pv → w.cell? (a.add j) = some (vals j) ∧ ¬ N a.block ∧ IRep N w pv (vals j) ∧ (vals j).oneCell' = true) : Rep N w β (.iptr cs) (.pointer (some a))
  | own (b ver ver' : Nat) (u v : Value) : β b = some (ver',u) → ver ≤ ver' → v.oneCell' = true → (ver' = ver → v = u) → Rep N w β (.own b ver) v
  | sub (b ver lo n size ver' : Nat) (u v : Value) : β b = some (ver',u) → ver ≤ ver' → v.oneCell' = true → (ver' = ver → SubOf u lo n size v) → Rep N w β (.sub b ver lo n size) v
  | fn (f : Fn) (first cap : List PV) (vs us : Array Value) (hl : vs.size = first.length) (hl' : us.size = cap.length) (h : ∀ i pv,first[i]? = some pv → Rep N w β pv (vs.getD i undef))
      (h' : ∀ i pv,cap[i]? = some pv → Rep N w β pv (us.getD i undef)) : Rep N w β (.fn f first cap) (.func f vs us)
  | iface (t : TypeId) (pv : PV) (v : Value) : Rep N w β pv v → Rep N w β (.iface t pv) (.iface t v)
def Later (β β' : Ref) : Prop := ∀ b ver u,β b = some (ver,u) → ∃ ver' u',β' b = some (ver',u') ∧ ((ver' = ver ∧ u' = u) ∨ ver < ver')
theorem Later.refl (β : Ref) : Later β β := fun _ ver u h => ⟨ver,u,h,.inl ⟨rfl,rfl⟩⟩
theorem Later.trans {β β' β'' : Ref} (h : Later β β') (h' : Later β' β'') : Later β β'' := by
  intro b ver u hb
  obtain ⟨v1,u1,h1,c1⟩ := h b ver u hb
  obtain ⟨v2,u2,h2,c2⟩ := h' b v1 u1 h1
  refine ⟨v2,u2,h2,?_⟩
  rcases c1 with ⟨rfl,rfl⟩ | c1
  · exact c2
  · rcases c2 with ⟨rfl,rfl⟩ | c2
    · exact .inr c1
    · exact .inr (by omega)
theorem Rep.mono {N N' : Nat → Prop} {w w' : World} {β β' : Ref} (hk : Keeps N w w') (hN : ∀ k,k < w.heap.size → N' k → N k) (hβ : Later β β') (hbox : ∀ b u,β b = some (0,.pointer u) → β' b = some (0,.pointer u))
    {pv : PV} {v : Value} (h : Rep N w β pv v) : Rep N' w' β' pv v := by
  induction h with
  | i h => exact .i (h.mono hk hN)
  | any v => exact .any v
  | agg cs vs hl h ih => exact .agg cs vs hl ih
  | tup cs vs hl h ih => exact .tup cs vs hl ih
  | ptr b off k h => exact .ptr b off k (hbox _ _ h)
  | mapp b k h => exact .mapp b k (hbox _ _ h)
  | aptr b ver row off size ver' u v h1 h2 ho h3 =>
    obtain ⟨v2,u2,hb,c⟩ := hβ _ _ _ h1
    rcases c with ⟨rfl,rfl⟩ | c
    · exact .aptr b ver row off size _ _ v hb h2 ho h3
    · exact .aptr b ver row off size _ _ v hb (by omega) ho (fun e => by omega)
  | iptr cs a vals h1 =>
    refine .iptr cs a vals fun j pv hj => ?_
    obtain ⟨hc,hna,hr,h1c⟩ := h1 j pv hj
    have hb : (a.add j).block = a.block := by unfold Addr.add; split <;> rfl
    have hlt : a.block < w.heap.size := by
      have := World.block_lt_of_cell? w _ hc
      rwa [hb] at this
    exact ⟨hk.cell (by rw [hb]; exact hna) hc,fun h => hna (hN _ hlt h),hr.mono hk hN,h1c⟩
  | own b ver ver' u v h1 h2 ho h3 =>
    obtain ⟨v2,u2,hb,c⟩ := hβ _ _ _ h1
    rcases c with ⟨rfl,rfl⟩ | c
    · exact .own b ver _ _ v hb h2 ho h3
    · exact .own b ver _ _ v hb (by omega) ho (fun e => by omega)
  | sub b ver lo n size ver' u v h1 h2 ho h3 =>
    obtain ⟨v2,u2,hb,c⟩ := hβ _ _ _ h1
    rcases c with ⟨rfl,rfl⟩ | c
    · exact .sub b ver lo n size _ _ v hb h2 ho h3
    · exact .sub b ver lo n size _ _ v hb (by omega) ho (fun e => by omega)
  | fn f first cap vs us hl hl' h h' ih ih' => exact .fn f first cap vs us hl hl' ih ih'
  | iface t pv v h ih => exact .iface t pv v ih
mutual
def refsIn (ok : Nat → Bool) : PV → Bool
  | .ptr b _ => ok b
  | .mapp b => ok b
  | .aptr b _ _ _ _ => ok b
  | .own b _ => ok b
  | .sub b _ _ _ _ => ok b
  | .agg cs => refsInL ok cs
  | .tup cs => refsInL ok cs
  | .fn _ p q => refsInL ok p && refsInL ok q
  | .iface _ v => refsIn ok v
  | _ => true
def refsInL (ok : Nat → Bool) : List PV → Bool
  | [] => true
  | x :: l => refsIn ok x && refsInL ok l
end
theorem refsInL_all {ok : Nat → Bool} : ∀ {l : List PV},(∀ x ∈ l,refsIn ok x = true) → refsInL ok l = true
  | [],_ => rfl
  | x :: l,h => by
    simp only [refsInL,Bool.and_eq_true]
    exact ⟨h x List.mem_cons_self,refsInL_all fun y hy => h y (List.mem_cons_of_mem _ hy)⟩
theorem refsInL_mem {ok : Nat → Bool} : ∀ {l : List PV} {x : PV},refsInL ok l = true → x ∈ l → refsIn ok x = true
  | [],_,_,h => by simp at h
  | y :: l,x,h,hx => by
    simp only [refsInL,Bool.and_eq_true] at h
    rcases List.mem_cons.1 hx with rfl | hx
    · exact h.1
    · exact refsInL_mem h.2 hx
theorem Rep.refs {N : Nat → Prop} {w : World} {β : Ref} {pv : PV} {v : Value} (h : Rep N w β pv v) {ok : Nat → Bool} (hok : ∀ b r,β b = some r → ok b = true) : refsIn ok pv = true := by
  have hI : ∀ {pv : PV} {v : Value},IRep N w pv v → refsIn ok pv = true := by
    intro pv v h
    induction h with
    | lit v => rfl
    | imN => rfl
    | im => rfl
    | agg cs vs hl h ih => exact refsInL_all fun x hx => by obtain ⟨i,hi,rfl⟩ := List.getElem_of_mem hx; exact ih i _ (yBh hi)
    | tup cs vs hl h ih => exact refsInL_all fun x hx => by obtain ⟨i,hi,rfl⟩ := List.getElem_of_mem hx; exact ih i _ (yBh hi)
  induction h with
  | i h => exact hI h
  | any v => rfl
  | agg cs vs hl h ih => exact refsInL_all fun x hx => by obtain ⟨i,hi,rfl⟩ := List.getElem_of_mem hx; exact ih i _ (yBh hi)
  | tup cs vs hl h ih => exact refsInL_all fun x hx => by obtain ⟨i,hi,rfl⟩ := List.getElem_of_mem hx; exact ih i _ (yBh hi)
  | ptr b off k h => exact hok _ _ h
  | mapp b k h => exact hok _ _ h
  | aptr _ _ _ _ _ _ _ _ h => exact hok _ _ h
  | iptr => rfl
  | own _ _ _ _ _ h => exact hok _ _ h
  | sub _ _ _ _ _ _ _ _ h => exact hok _ _ h
  | fn f first cap vs us hl hl' h h' ih ih' =>
    simp only [refsIn,Bool.and_eq_true]
    exact ⟨refsInL_all fun x hx => by obtain ⟨i,hi,rfl⟩ := List.getElem_of_mem hx; exact ih i _ (yBh hi),refsInL_all fun x hx => by obtain ⟨i,hi,rfl⟩ := List.getElem_of_mem hx; exact ih' i _ (yBh hi)⟩
  | iface t pv v h ih => exact ih
end Go.Pe
namespace Go.Pe
open Go.RowKit
inductive Blk : Type where
  | box (T : TypeId) (cs : List PV)
  | arr (T : TypeId) (size : Nat) (rows : List (List PV)) (ver : Nat) (frz : Bool)
  | map (es : List (Value × PV))
  | obj (k : Nat) (o : Obj)
  deriving Inhabited
def Blk.frozen : Blk → Bool
  | .box _ _ => false
  | .arr _ _ _ _ f => f
  | .map _ => false
  | .obj _ _ => false
def refBlock : Value → Option Nat
  | .pointer (some a) => some a.block
  | .slice (some a) _ _ => some a.block
  | _ => none
abbrev Env := Nat → Option PV
abbrev Heap := Nat → Option Blk
def upd {α : Type} (f : Nat → Option α) (k : Nat) (v : α) : Nat → Option α := fun j => if j = k then some v else f j
theorem upd_same {α : Type} (f : Nat → Option α) (k : Nat) (v : α) : upd f k v k = some v := by simp [upd]
theorem upd_other {α : Type} (f : Nat → Option α) {k j : Nat} (v : α) (h : j ≠ k) : upd f k v j = f j := by simp [upd,h]
structure Ctx where
  nx : Nat → Prop
  base : Nat
  w0 : World
  gh : PV → Value → Prop
  gb : Nat
  df : List Deferred
def Owns (H : Heap) (β : Ref) (k : Nat) : Prop := ∃ b blk ver u,H b = some blk ∧ blk.frozen = false ∧ β b = some (ver,u) ∧ refBlock u = some k
def NN (C : Ctx) (H : Heap) (β : Ref) : Nat → Prop := fun k => C.nx k ∨ Owns H β k
def BoxOK (C : Ctx) (N : Nat → Prop) (w : World) (β : Ref) (b T : Nat) (cs : List PV) : Prop :=
  ∃ k cells,β b = some (0,.pointer (some ⟨k,0,none⟩)) ∧ C.base ≤ k ∧ w.heap[k]? = some (.cells cells T (0,0)) ∧ cells.size = cs.length ∧
    ∀ j pv,cs[j]? = some pv → Rep N w β pv (cells.getD j undef) ∧ (cells.getD j undef).oneCell' = true
def ArrOK (C : Ctx) (N : Nat → Prop) (w : World) (β : Ref) (b T size : Nat) (rows : List (List PV)) (ver : Nat) : Prop :=
  ∃ u xs,β b = some (ver,u) ∧ w.ownsRow C.base T size u rows.length xs ∧ (∀ r ∈ rows,r.length = size) ∧
    ∀ i r j pv,rows[i]? = some r → r[j]? = some pv → IRep N w pv (xs.getD (i * size + j) undef) ∧ (xs.getD (i * size + j) undef).oneCell' = true
def MapOK (C : Ctx) (N : Nat → Prop) (w : World) (β : Ref) (b : Nat) (es : List (Value × PV)) : Prop :=
  ∃ k ents clock,β b = some (0,.pointer (some ⟨k,0,none⟩)) ∧ C.base ≤ k ∧ w.heap[k]? = some (.map ents clock) ∧ ents.size = es.length ∧
    ∀ (j : Nat) kv pv,es[j]? = some (kv,pv) → ∃ e,ents[j]? = some e ∧ e.key = kv ∧ Rep N w β pv e.val
def ObjOK (C : Ctx) (w : World) (β : Ref) (b k : Nat) (o : Obj) : Prop := β b = some (0,.pointer (some ⟨k,0,none⟩)) ∧ C.base ≤ k ∧ w.heap[k]? = some o
def BlkOK (C : Ctx) (N : Nat → Prop) (w : World) (β : Ref) (b : Nat) : Blk → Prop
  | .box T cs => BoxOK C N w β b T cs
  | .arr T size rows ver _ => ArrOK C N w β b T size rows ver
  | .map es => MapOK C N w β b es
  | .obj k o => ObjOK C w β b k o
structure Sim (C : Ctx) (n : Nat) (E : Env) (H : Heap) (β : Ref) (a : Act) (w : World) : Prop where
  nt : a.tmps.size = n
  df : a.defers = C.df
  env : ∀ t pv,E t = some pv → t < n ∧ Rep (NN C H β) w β pv (a.tmps.getD t undef)
  blk : ∀ b x,H b = some x → BlkOK C (NN C H β) w β b x
  sep : ∀ b b' x x',b ≠ b' → H b = some x → H b' = some x' → ∀ ver u ver' u' k,β b = some (ver,u) → β b' = some (ver',u') → refBlock u = some k → refBlock u' ≠ some k
  lies : ∀ b ver u k,β b = some (ver,u) → refBlock u = some k → k < w.heap.size
  fr : ∀ b,H b = none → β b = none
  below : Below C.base C.w0 w
  nxb : ∀ k,C.nx k → k < C.base
  bs : C.base ≤ w.heap.size
  gh : ∀ pv v,C.gh pv v → Rep (NN C H β) w β pv v
  gr : ∀ pv v,C.gh pv v → refsIn (fun b => decide (b < C.gb)) pv = true
theorem Later.upd {β : Ref} {b : Nat} {r : Nat × Value} (h : β b = none) : Later β (Pe.upd β b r) := by
  intro c ver u hc
  refine ⟨ver,u,?_,.inl ⟨rfl,rfl⟩⟩
  rw [upd_other _ _ (fun e => by rw [e,h] at hc; cases hc)]
  exact hc
theorem Later.bump {β : Ref} {b ver ver' : Nat} {u u' : Value} (h : β b = some (ver,u)) (hv : ver < ver') : Later β (Pe.upd β b (ver',u')) := by
  intro c vc uc hc
  by_cases e : c = b
  · subst e
    rw [h] at hc
    cases hc
    exact ⟨ver',u',upd_same _ _ _,.inr hv⟩
  · exact ⟨vc,uc,by rw [upd_other _ _ e]; exact hc,.inl ⟨rfl,rfl⟩⟩
section
variable {C : Ctx} {n : Nat} {E : Env} {H : Heap} {β : Ref} {a : Act} {w : World}
theorem Sim.put (h : Sim C n E H β a w) {d : Nat} (hd : d < n) {pv : PV} {v : Value} (hr : Rep (NN C H β) w β pv v) : Sim C n (upd E d pv) H β (a.put (some d) v) w := by
  refine ⟨by simp [Act.put,h.nt],h.df,fun t pv' ht => ?_,h.blk,h.sep,h.lies,h.fr,h.below,h.nxb,h.bs,h.gh,h.gr⟩
  by_cases e : t = d
  · subst e
    rw [upd_same] at ht
    cases ht
    refine ⟨hd,?_⟩
    have : ((a.put (some t) v).tmps.getD t undef) = v := by simp [Act.put,h.nt,hd]
    rw [this]
    exact hr
  · rw [upd_other _ _ e] at ht
    obtain ⟨hn,hrep⟩ := h.env t pv' ht
    refine ⟨hn,?_⟩
    have : ((a.put (some d) v).tmps.getD t undef) = a.tmps.getD t undef := by simp [Act.put,Array.getElem?_setIfInBounds_ne (Ne.symm e)]
    rw [this]
    exact hrep
theorem Owns.upd_new {b : Nat} {x : Blk} {r : Nat × Value} {k : Nat} (hH : H b = none) (ho : Owns (upd H b x) (upd β b r) k) : Owns H β k ∨ refBlock r.2 = some k := by
  obtain ⟨c,y,ver,u,h1,h2,h3,h4⟩ := ho
  by_cases e : c = b
  · subst e
    rw [upd_same] at h3
    cases h3
    exact .inr h4
  · rw [upd_other _ _ e] at h1 h3
    exact .inl ⟨c,y,ver,u,h1,h2,h3,h4⟩
theorem Sim.world (h : Sim C n E H β a w) {w' : World} (hk : Keeps (NN C H β) w w') (hb : Below C.base C.w0 w')
    (hblk : ∀ b x,H b = some x → x.frozen = false → BlkOK C (NN C H β) w' β b x) : Sim C n E H β a w' := by
  have hm : ∀ {pv : PV} {v : Value},Rep (NN C H β) w β pv v → Rep (NN C H β) w' β pv v := fun hr => hr.mono hk (fun _ _ h => h) (Later.refl _) (fun _ _ h => h)
  refine ⟨h.nt,h.df,fun t pv ht => ⟨(h.env t pv ht).1,hm (h.env t pv ht).2⟩,fun b x hx => ?_,h.sep,fun b ver u k h1 h2 => Nat.lt_of_lt_of_le (h.lies b ver u k h1 h2) hk.size,h.fr,hb,h.nxb,Nat.le_trans h.bs hk.size,fun pv v hg => hm (h.gh pv v hg),h.gr⟩
  by_cases hf : x.frozen = false
  · exact hblk b x hx hf
  · cases x with
    | box T cs => simp [Blk.frozen] at hf
    | map es => simp [Blk.frozen] at hf
    | obj k o => simp [Blk.frozen] at hf
    | arr T size rows ver frz =>
      obtain ⟨u,xs,h1,h2,h3,h4⟩ := h.blk b _ hx
      refine ⟨u,xs,h1,?_,h3,fun i r j pv hi hj => ⟨((h4 i r j pv hi hj).1).mono hk (fun _ _ h => h),(h4 i r j pv hi hj).2⟩⟩
      refine ⟨h2.1,?_⟩
      rcases h2.2 with hn | ⟨g,cap,cur,rfl,hbg,hg,rest⟩
      · exact .inl hn
      · refine .inr ⟨g,cap,cur,rfl,hbg,?_,rest⟩
        rw [hk.block g (Array.getElem?_eq_some_iff.1 hg).1 ?_]
        · exact hg
        · rintro (hx' | ⟨b',x',ver',u',q1,q2,q3,q4⟩)
          · have := h.nxb _ hx'; omega
          · by_cases e : b = b'
            · subst e
              rw [hx] at q1
              cases q1
              exact hf q2
            · exact h.sep b b' _ _ e hx q1 _ _ _ _ g h1 q3 rfl q4
theorem BlkOK.later {N N' : Nat → Prop} {w' : World} {β' : Ref} {b : Nat} {x : Blk} (h : BlkOK C N w β b x) (hk : Keeps N w w') (hN : ∀ k,k < w.heap.size → N' k → N k) (hβ : Later β β')
    (hbox : ∀ b u,β b = some (0,.pointer u) → β' b = some (0,.pointer u)) (hsame : β' b = β b)
    (hmem : ∀ ver u k,β b = some (ver,u) → refBlock u = some k → w'.heap[k]? = w.heap[k]?) : BlkOK C N' w' β' b x := by
  cases x with
  | box T cs =>
    obtain ⟨k,cells,h1,h2,h3,h4,h5⟩ := h
    exact ⟨k,cells,hsame.trans h1,h2,(hmem _ _ k h1 rfl).trans h3,h4,fun j pv hj => ⟨(h5 j pv hj).1.mono hk hN hβ hbox,(h5 j pv hj).2⟩⟩
  | map es =>
    obtain ⟨k,ents,clock,h1,h2,h3,h4,h5⟩ := h
    refine ⟨k,ents,clock,hsame.trans h1,h2,(hmem _ _ k h1 rfl).trans h3,h4,fun j kv pv hj => ?_⟩
    obtain ⟨e,q1,q2,q3⟩ := h5 j kv pv hj
    exact ⟨e,q1,q2,q3.mono hk hN hβ hbox⟩
  | obj k o =>
    obtain ⟨h1,h2,h3⟩ := h
    exact ⟨hsame.trans h1,h2,(hmem _ _ k h1 rfl).trans h3⟩
  | arr T size rows ver frz =>
    obtain ⟨u,xs,h1,h2,h3,h4⟩ := h
    refine ⟨u,xs,hsame.trans h1,⟨h2.1,?_⟩,h3,fun i r j pv hi hj => ⟨((h4 i r j pv hi hj).1).mono hk hN,(h4 i r j pv hi hj).2⟩⟩
    rcases h2.2 with hn | ⟨g,cap,cur,rfl,hbg,hg,rest⟩
    · exact .inl hn
    · exact .inr ⟨g,cap,cur,rfl,hbg,(hmem _ _ g h1 rfl).trans hg,rest⟩
theorem Keeps.alloc (N : Nat → Prop) (w : World) (o : Obj) : Keeps N w (w.alloc o) := ⟨rfl,rfl,rfl,by simp,fun k hk _ => heap_alloc_old w o k hk⟩
theorem Keeps.drew (N : Nat → Prop) (w : World) : Keeps N w w.drew := ⟨rfl,rfl,rfl,Nat.le_refl _,fun _ _ _ => rfl⟩
theorem Keeps.trans {N : Nat → Prop} {w w1 w2 : World} (h : Keeps N w w1) (h' : Keeps N w1 w2) : Keeps N w w2 :=
  ⟨h'.os.trans h.os,h'.tape.trans h.tape,h'.output.trans h.output,Nat.le_trans h.size h'.size,fun k hk hn => (h'.block k (Nat.lt_of_lt_of_le hk h.size) hn).trans (h.block k hk hn)⟩
theorem Keeps.below {N : Nat → Prop} {w w1 : World} (h : Keeps N w w1) {B : Nat} (hN : ∀ k,N k → B ≤ k) (hB : B ≤ w.heap.size) : Below B w w1 :=
  ⟨h.os,h.tape,h.output,h.size,fun k hk => h.block k (by omega) (fun hn => by have := hN k hn; omega)⟩
theorem Keeps.mono {N N' : Nat → Prop} {w w1 : World} (h : Keeps N w w1) (hn : ∀ k,k < w.heap.size → N k → N' k) : Keeps N' w w1 :=
  ⟨h.os,h.tape,h.output,h.size,fun k hk hk' => h.block k hk (fun e => hk' (hn k hk e))⟩
theorem Sim.owns_ge (h : Sim C n E H β a w) {k : Nat} (ho : Owns H β k) : C.base ≤ k := by
  obtain ⟨b,x,ver,u,h1,h2,h3,h4⟩ := ho
  have hb := h.blk b x h1
  cases x with
  | box T cs =>
    obtain ⟨k',cells,q1,q2,_⟩ := hb
    rw [h3] at q1
    cases q1
    simp [refBlock] at h4
    omega
  | map es =>
    obtain ⟨k',ents,clock,q1,q2,_⟩ := hb
    rw [h3] at q1
    cases q1
    simp [refBlock] at h4
    omega
  | obj k' o =>
    obtain ⟨q1,q2,_⟩ := hb
    rw [h3] at q1
    cases q1
    simp [refBlock] at h4
    omega
  | arr T size rows ver' frz =>
    obtain ⟨u',xs,q1,q2,_⟩ := hb
    rw [h3] at q1
    cases q1
    rcases q2.2 with ⟨rfl,_⟩ | ⟨g,cap,cur,rfl,hbg,_⟩
    · simp [refBlock] at h4
    · simp [refBlock] at h4
      omega
theorem Sim.keeps_below (h : Sim C n E H β a w) {w' : World} (hk : Keeps (fun k => Owns H β k) w w') : Below C.base C.w0 w' :=
  h.below.trans (hk.below (fun k hk => h.owns_ge hk) h.bs)
theorem Sim.new (h : Sim C n E H β a w) {b : Nat} (hb : H b = none) {w' : World} {x : Blk} {ver : Nat} {u : Value} (hk : Keeps (fun k => Owns H β k) w w')
    (hsame : ∀ k,k < w.heap.size → w'.heap[k]? = w.heap[k]?) (hu : ∀ k,refBlock u = some k → w.heap.size ≤ k ∧ k < w'.heap.size)
    (hx : Keeps (NN C H β) w w' → (∀ k,k < w.heap.size → NN C (upd H b x) (upd β b (ver,u)) k → NN C H β k) → Later β (upd β b (ver,u)) → (∀ c v,β c = some (0,.pointer v) → upd β b (ver,u) c = some (0,.pointer v)) →
      BlkOK C (NN C (upd H b x) (upd β b (ver,u))) w' (upd β b (ver,u)) b x) : Sim C n E (upd H b x) (upd β b (ver,u)) a w' := by
  have hbn := h.fr b hb
  have hN : ∀ k,k < w.heap.size → NN C (upd H b x) (upd β b (ver,u)) k → NN C H β k := by
    rintro k hk (h' | h')
    · exact .inl h'
    · rcases Owns.upd_new hb h' with h' | h'
      · exact .inr h'
      · have := (hu k h').1; omega
  have hk' : Keeps (NN C H β) w w' := hk.mono (fun k _ h' => .inr h')
  have hbox : ∀ c v,β c = some (0,.pointer v) → upd β b (ver,u) c = some (0,.pointer v) := by
    intro c v hc
    rw [upd_other _ _ (fun e => by rw [e,hbn] at hc; cases hc)]
    exact hc
  refine ⟨h.nt,h.df,fun t pv ht => ⟨(h.env t pv ht).1,(h.env t pv ht).2.mono hk' hN (Later.upd hbn) hbox⟩,fun c y hc => ?_,?_,?_,?_,h.keeps_below hk,h.nxb,Nat.le_trans h.bs hk.size,fun pv v hg => (h.gh pv v hg).mono hk' hN (Later.upd hbn) hbox,h.gr⟩
  · by_cases e : c = b
    · subst e
      rw [upd_same] at hc
      cases hc
      exact hx hk' hN (Later.upd hbn) hbox
    · rw [upd_other _ _ e] at hc
      refine (h.blk c y hc).later hk' hN (Later.upd hbn) hbox (upd_other _ _ e) (fun ver' u' k h1 h2 => hsame k (h.lies c ver' u' k h1 h2))
  · intro c c' y y' hne hc hc' v1 u1 v2 u2 k h1 h2 h3 h4
    by_cases e : c = b
    · subst e
      rw [upd_same] at h1
      cases h1
      rw [upd_other _ _ (Ne.symm hne)] at hc' h2
      have := h.lies c' v2 u2 k h2 h4
      have := (hu k h3).1
      omega
    · by_cases e' : c' = b
      · subst e'
        rw [upd_same] at h2
        cases h2
        rw [upd_other _ _ e] at hc h1
        have := h.lies c v1 u1 k h1 h3
        have := (hu k h4).1
        omega
      · rw [upd_other _ _ e] at hc h1
        rw [upd_other _ _ e'] at hc' h2
        exact h.sep c c' y y' hne hc hc' v1 u1 v2 u2 k h1 h2 h3 h4
  · intro c v1 u1 k h1 h2
    by_cases e : c = b
    · subst e
      rw [upd_same] at h1
      cases h1
      exact (hu k h2).2
    · rw [upd_other _ _ e] at h1
      exact Nat.lt_of_lt_of_le (h.lies c v1 u1 k h1 h2) hk.size
  · intro c hc
    by_cases e : c = b
    · subst e
      rw [upd_same] at hc
      cases hc
    · rw [upd_other _ _ e] at hc ⊢
      exact h.fr c hc
theorem Sim.change (h : Sim C n E H β a w) {b : Nat} {x x' : Blk} (hb : H b = some x) (hf : x.frozen = false) {w' : World} {ver ver' : Nat} {u u' : Value} (hβ : β b = some (ver,u))
    (hver : (ver' = ver ∧ u' = u) ∨ (ver < ver' ∧ ∀ v,u ≠ .pointer v)) (hsame : ∀ k,k < w.heap.size → refBlock u ≠ some k → w'.heap[k]? = w.heap[k]?) (hos : w'.os = w.os) (htp : w'.tape = w.tape) (hout : w'.output = w.output)
    (hsz : w.heap.size ≤ w'.heap.size) (hu : ∀ k,refBlock u' = some k → refBlock u = some k ∨ (w.heap.size ≤ k ∧ k < w'.heap.size))
    (hx : Keeps (NN C H β) w w' → (∀ k,k < w.heap.size → NN C (upd H b x') (upd β b (ver',u')) k → NN C H β k) → Later β (upd β b (ver',u')) → (∀ c v,β c = some (0,.pointer v) → upd β b (ver',u') c = some (0,.pointer v)) →
      BlkOK C (NN C (upd H b x') (upd β b (ver',u'))) w' (upd β b (ver',u')) b x') : Sim C n E (upd H b x') (upd β b (ver',u')) a w' := by
  have hown : ∀ k,refBlock u = some k → Owns H β k := fun k hk => ⟨b,x,ver,u,hb,hf,hβ,hk⟩
  have hk : Keeps (fun k => Owns H β k) w w' := ⟨hos,htp,hout,hsz,fun k hk hn => hsame k hk (fun e => hn (hown k e))⟩
  have hk' : Keeps (NN C H β) w w' := hk.mono (fun k _ h' => .inr h')
  have hN : ∀ k,k < w.heap.size → NN C (upd H b x') (upd β b (ver',u')) k → NN C H β k := by
    rintro k hlt (h' | ⟨c,y,v1,u1,h1,h2,h3,h4⟩)
    · exact .inl h'
    · by_cases e : c = b
      · subst e
        rw [upd_same] at h3
        cases h3
        rcases hu k h4 with h5 | h5
        · exact .inr (hown k h5)
        · omega
      · rw [upd_other _ _ e] at h1 h3
        exact .inr ⟨c,y,v1,u1,h1,h2,h3,h4⟩
  have hl : Later β (upd β b (ver',u')) := by
    rcases hver with ⟨rfl,rfl⟩ | ⟨hv,_⟩
    · intro c v1 u1 hc
      by_cases e : c = b
      · subst e
        rw [hβ] at hc
        cases hc
        exact ⟨_,_,upd_same _ _ _,.inl ⟨rfl,rfl⟩⟩
      · exact ⟨v1,u1,by rw [upd_other _ _ e]; exact hc,.inl ⟨rfl,rfl⟩⟩
    · exact Later.bump hβ hv
  have hbox : ∀ c v,β c = some (0,.pointer v) → upd β b (ver',u') c = some (0,.pointer v) := by
    intro c v hc
    by_cases e : c = b
    · subst e
      rw [hβ] at hc
      cases hc
      rcases hver with ⟨rfl,rfl⟩ | ⟨_,hv⟩
      · exact upd_same _ _ _
      · exact absurd rfl (hv v)
    · rw [upd_other _ _ e]
      exact hc
  refine ⟨h.nt,h.df,fun t pv ht => ⟨(h.env t pv ht).1,(h.env t pv ht).2.mono hk' hN hl hbox⟩,fun c y hc => ?_,?_,?_,?_,h.keeps_below hk,h.nxb,Nat.le_trans h.bs hsz,fun pv v hg => (h.gh pv v hg).mono hk' hN hl hbox,h.gr⟩
  · by_cases e : c = b
    · subst e
      rw [upd_same] at hc
      cases hc
      exact hx hk' hN hl hbox
    · rw [upd_other _ _ e] at hc
      refine (h.blk c y hc).later hk' hN hl hbox (upd_other _ _ e) (fun v1 u1 k h1 h2 => hsame k (h.lies c v1 u1 k h1 h2) ?_)
      exact fun h3 => h.sep b c x y (Ne.symm e) hb hc _ _ _ _ k hβ h1 h3 h2
  · intro c c' y y' hne hc hc' v1 u1 v2 u2 k h1 h2 h3 h4
    by_cases e : c = b
    · subst e
      rw [upd_same] at h1
      cases h1
      rw [upd_other _ _ (Ne.symm hne)] at hc' h2
      rcases hu k h3 with h5 | h5
      · exact h.sep c c' x y' hne hb hc' _ _ _ _ k hβ h2 h5 h4
      · have := h.lies c' v2 u2 k h2 h4
        omega
    · by_cases e' : c' = b
      · subst e'
        rw [upd_same] at h2
        cases h2
        rw [upd_other _ _ e] at hc h1
        rcases hu k h4 with h5 | h5
        · exact h.sep c c' y x hne hc hb _ _ _ _ k h1 hβ h3 h5
        · have := h.lies c v1 u1 k h1 h3
          omega
      · rw [upd_other _ _ e] at hc h1
        rw [upd_other _ _ e'] at hc' h2
        exact h.sep c c' y y' hne hc hc' v1 u1 v2 u2 k h1 h2 h3 h4
  · intro c v1 u1 k h1 h2
    by_cases e : c = b
    · subst e
      rw [upd_same] at h1
      cases h1
      rcases hu k h2 with h5 | h5
      · exact Nat.lt_of_lt_of_le (h.lies c _ _ k hβ h5) hsz
      · exact h5.2
    · rw [upd_other _ _ e] at h1
      exact Nat.lt_of_lt_of_le (h.lies c v1 u1 k h1 h2) hsz
  · intro c hc
    by_cases e : c = b
    · subst e
      rw [upd_same] at hc
      cases hc
    · rw [upd_other _ _ e] at hc ⊢
      exact h.fr c hc
end
end Go.Pe
namespace Go.Pe
open Go.RowKit
inductive TD : Type where
  | other | bool | int (k : IntKind) | str | slice (e : TypeId) | map (k e : TypeId) | struct (fs : List (Nat × TypeId)) | array (len : Nat) (e : TypeId)
structure TI where
  size : Nat
  agg : Bool
  bytes : Nat
  zero : List Value
  zpv : List PV
  desc : TD
  trunc : Bool
  flat : Bool
abbrev Tab := TypeId → Option TI
def TD.fits : TD → TypeDesc → Prop
  | .other,_ => True
  | .bool,d => d = .bool
  | .int k,d => d = .int k
  | .str,d => d = .string
  | .slice e,d => d = .slice e
  | .map k e,d => d = .map k e
  | .struct fs,d => ∃ gs,d = .struct gs ∧ gs.toList.map (fun f => (f.offset,f.type)) = fs
  | .array n e,d => d = .array n e
def isAggD : TypeDesc → Bool
  | .struct _ | .array _ _ => true
  | _ => false
def ZRep (zs : List PV) (vs : List Value) : Prop := zs.length = vs.length ∧ ∀ j x,zs[j]? = some x → x = .lit (vs.getD j undef) ∨ ((∃ s,x = .im s []) ∧ vs.getD j undef = .slice none 0 0)
def flatFs (P : Program) : Nat → List Field → Bool
  | _,[] => true
  | i, f :: l => f.name != "_" && decide (f.offset = i) && (match P.underlying f.type with | some (.int _) => true | _ => false) && flatFs P (i + 1) l
def flatOK (P : Program) (t : TypeId) (n : Nat) : Bool :=
  match P.underlying t with
  | some (.struct fs) => !P.stoodInHeld t && !P.eqGuardType P.depth t && decide (fs.toList.length = n) && flatFs P 0 fs.toList
  | _ => false
structure TypeOK (P : Program) (t : TypeId) (ti : TI) : Prop where
  d : ∃ d,P.underlying t = some d ∧ ti.desc.fits d ∧ isAggD d = ti.agg
  i : ∃ i z,P.info? t = some i ∧ i.size = ti.size ∧ i.bytes = ti.bytes ∧ i.zero = some z ∧ z.cells.toList = ti.zero ∧ ti.zero.length = ti.size ∧ ∀ v ∈ ti.zero,v.oneCell' = true
  z : ZRep ti.zpv ti.zero
  c : ti.flat = true → flatOK P t ti.size = true
def TabOK (P : Program) (T : Tab) : Prop := ∀ t ti,T t = some ti → TypeOK P t ti
section types
variable {P : Program} {t : TypeId} {ti : TI}
theorem TypeOK.run_sizeOf (h : TypeOK P t ti) (w : World) : (sizeOf t).run P w = .ok ti.size w := by
  obtain ⟨i,z,h1,h2,_⟩ := h.i
  simp [sizeOf,typeInfo,h1,h2]
theorem TypeOK.run_isAgg (h : TypeOK P t ti) (w : World) : (isAgg t).run P w = .ok ti.agg w := by
  obtain ⟨d,h1,_,h3⟩ := h.d
  simp only [isAgg,Sem.run_bind,run_underlying h1,Result.andThen_ok]
  cases d <;> simp [isAggD] at h3 <;> simp [h3]
theorem TypeOK.run_zero (h : TypeOK P t ti) (w : World) : ∃ z,(zeroValue t).run P w = .ok z w ∧ z.cells.toList = ti.zero := by
  obtain ⟨i,z,h1,h2,h3,h4,h5,_⟩ := h.i
  exact ⟨z,by simp [zeroValue,typeInfo,h1,h4],h5⟩
end types
def ev (E : Env) : Operand → PV
  | .tmp t => (E t).getD .any
  | .const v => .lit v
  | .global g => .lit (.pointer (some ⟨g,0,none⟩))
  | .func f => .lit (.func (.func f) #[] #[])
def isCell : PV → Bool
  | .lit v => v.oneCell'
  | .any | .agg _ | .tup _ => false
  | _ => true
section
variable {N : Nat → Prop} {w : World} {β : Ref}
theorem Rep.cell {pv : PV} {v : Value} (h : Rep N w β pv v) (hc : isCell pv = true) : v.oneCell' = true := by
  cases h with
  | i h => cases h <;> first | exact hc | rfl | (simp [isCell] at hc)
  | any v => simp [isCell] at hc
  | agg => simp [isCell] at hc
  | tup => simp [isCell] at hc
  | ptr => rfl
  | mapp => rfl
  | aptr _ _ _ _ _ _ _ _ _ _ ho _ => exact ho
  | iptr => rfl
  | own _ _ _ _ _ _ _ ho _ => exact ho
  | sub _ _ _ _ _ _ _ _ _ _ ho _ => exact ho
  | fn => rfl
  | iface => rfl
theorem IRep.cell {pv : PV} {v : Value} (h : IRep N w pv v) (hc : isCell pv = true) : v.oneCell' = true := (Rep.i (β := fun _ => none) h).cell hc
theorem Rep.lit_eq {x v : Value} (h : Rep N w β (.lit x) v) : v = x := by
  cases h with
  | i h => cases h; rfl
theorem Rep.ptr_eq {b off : Nat} {v : Value} (h : Rep N w β (.ptr b off) v) : ∃ k,v = .pointer (some ⟨k,off,none⟩) ∧ β b = some (0,.pointer (some ⟨k,0,none⟩)) := by
  cases h with
  | i h => cases h
  | ptr b off k h => exact ⟨k,rfl,h⟩
theorem Rep.mapp_eq {b : Nat} {v : Value} (h : Rep N w β (.mapp b) v) : ∃ k,v = .map (some k) ∧ β b = some (0,.pointer (some ⟨k,0,none⟩)) := by
  cases h with
  | i h => cases h
  | mapp b k h => exact ⟨k,rfl,h⟩
theorem Rep.iptr_eq {cs : List PV} {v : Value} (h : Rep N w β (.iptr cs) v) :
    ∃ (a : Addr) (vals : Nat → Value),v = .pointer (some a) ∧ ∀ j pv,cs[j]? = some pv → w.cell? (a.add j) = some (vals j) ∧ ¬ N a.block ∧ IRep N w pv (vals j) ∧ (vals j).oneCell' = true := by
  cases h with
  | i h => cases h
  | iptr cs a vals h1 => exact ⟨a,vals,rfl,h1⟩
theorem Rep.aptr_eq {b ver row off size : Nat} {v : Value} (h : Rep N w β (.aptr b ver row off size) v) {u : Value} (hβ : β b = some (ver,u)) :
    ∀ g n c,u = .slice (some ⟨g,0,none⟩) n c → v = .pointer (some ⟨g,row * size + off,none⟩) := by
  cases h with
  | i h => cases h
  | aptr _ _ _ _ _ ver' u' _ h1 h2 h3 h4 =>
    rw [hβ] at h1
    cases h1
    exact h4 rfl
theorem Rep.own_eq {b ver : Nat} {v : Value} (h : Rep N w β (.own b ver) v) {u : Value} (hβ : β b = some (ver,u)) : v = u := by
  cases h with
  | i h => cases h
  | own _ _ ver' u' _ h1 h2 h3 h4 =>
    rw [hβ] at h1
    cases h1
    exact h4 rfl
theorem Rep.sub_eq {b ver lo n size : Nat} {v : Value} (h : Rep N w β (.sub b ver lo n size) v) {u : Value} (hβ : β b = some (ver,u)) : SubOf u lo n size v := by
  cases h with
  | i h => cases h
  | sub _ _ _ _ _ ver' u' _ h1 h2 h3 h4 =>
    rw [hβ] at h1
    cases h1
    exact h4 rfl
theorem Rep.im_eq {size : Nat} {rows : List (List PV)} {v : Value} (h : Rep N w β (.im size rows) v) : IRep N w (.im size rows) v := by
  cases h with
  | i h => exact h
theorem Rep.agg_eq {cs : List PV} {v : Value} (h : Rep N w β (.agg cs) v) : ∃ vs : Array Value,v = .agg vs ∧ vs.size = cs.length ∧ ∀ i pv,cs[i]? = some pv → Rep N w β pv (vs.getD i undef) := by
  cases h with
  | i h => cases h with | agg cs vs hl h => exact ⟨vs,rfl,hl,fun i pv hi => .i (h i pv hi)⟩
  | agg cs vs hl h => exact ⟨vs,rfl,hl,h⟩
theorem Rep.tup_eq {cs : List PV} {v : Value} (h : Rep N w β (.tup cs) v) : ∃ vs : Array Value,v = .tuple vs ∧ vs.size = cs.length ∧ ∀ i pv,cs[i]? = some pv → Rep N w β pv (vs.getD i undef) := by
  cases h with
  | i h => cases h with | tup cs vs hl h => exact ⟨vs,rfl,hl,fun i pv hi => .i (h i pv hi)⟩
  | tup cs vs hl h => exact ⟨vs,rfl,hl,h⟩
end
section
variable {C : Ctx} {n : Nat} {E : Env} {H : Heap} {β : Ref} {a : Act} {w : World}
theorem Sim.ev (h : Sim C n E H β a w) (x : Operand) : Rep (NN C H β) w β (ev E x) (a.eval x) := by
  cases x with
  | tmp t =>
    simp only [Pe.ev,Act.eval]
    cases he : E t with
    | none => exact .any _
    | some pv => exact (h.env t pv he).2
  | const v => exact .i (.lit v)
  | global g => exact .i (.lit _)
  | func f => exact .i (.lit _)
end
def bitsA (op : BinOp) (k : IntKind) (x y : Int) : Int :=
  let a := BitVec.ofInt k.bits x
  let b := BitVec.ofInt k.bits y
  match op with
  | .and => k.wrap (a &&& b).toNat
  | .or => k.wrap (a ||| b).toNat
  | .xor => k.wrap (a ^^^ b).toNat
  | _ => k.wrap (a &&& ~~~b).toNat
def intA (op : BinOp) (k : IntKind) (a b : Int) : Option (Prop × Value) :=
  match op with
  | .add => some (True,.int k (k.wrap (a + b)))
  | .sub => some (True,.int k (k.wrap (a - b)))
  | .mul => some (True,.int k (k.wrap (a * b)))
  | .quo => some (b ≠ 0,.int k (k.wrap (a.tdiv b)))
  | .rem => some (b ≠ 0,.int k (a.tmod b))
  | .and | .or | .xor | .andNot => some (True,.int k (bitsA op k a b))
  | .eql => some (True,.bool (decide (a = b)))
  | .neq => some (True,.bool (!decide (a = b)))
  | .lss => some (True,.bool (decide (a < b)))
  | .leq => some (True,.bool (decide (a ≤ b)))
  | .gtr => some (True,.bool (decide (a > b)))
  | .geq => some (True,.bool (decide (a ≥ b)))
  | _ => none
def binA (T : Tab) (op : BinOp) (t : TypeId) (x y : Value) : Option (Prop × Value) :=
  match x,y with
  | .int k a,.int k' b =>
    match op with
    | .shl => some (0 ≤ b,.int k (k.wrap (a * 2 ^ (min b.toNat k.bits))))
    | .shr => some (0 ≤ b,.int k (a.fdiv (2 ^ (min b.toNat k.bits))))
    | _ => if k = k' then intA op k a b else none
  | .bool a,.bool b =>
    match T t with
    | some { desc := .bool,.. } =>
      match op with
      | .eql => some (True,.bool (a == b))
      | .neq => some (True,.bool (a != b))
      | _ => none
    | _ => none
  | .string a,.string b =>
    match op with
    | .eql => some (True,.bool (a.toList == b.toList))
    | .neq => some (True,.bool (!(a.toList == b.toList)))
    | .add => some ((a.size : Int) + (b.size : Int) ≤ 9223372036854775807,.string (a ++ b))
    | _ => none
  | _,_ => none
theorem binOp_bool {P : Program} {t : TypeId} (a b : Bool) (h : P.underlying t = some .bool) (w : World) :
    (binOp .eql t (.bool a) (.bool b)).run P w = .ok (.bool (a == b)) w ∧ (binOp .neq t (.bool a) (.bool b)).run P w = .ok (.bool (a != b)) w := by
  have h1 : binOp .eql t (.bool a) (.bool b) = (do pure (.bool (← Op.equal t (.bool a) (.bool b)))) := rfl
  have h2 : binOp .neq t (.bool a) (.bool b) = (do pure (.bool (!(← Op.equal t (.bool a) (.bool b))))) := rfl
  rw [h1,h2]
  simp only [Sem.run_bind,run_equal_bool (P := P) w t a b h,Result.andThen_ok,Sem.run_pure]
  exact ⟨trivial,rfl⟩
theorem eqGuard_plain {P : Program} {op : BinOp} {t : TypeId} {x y : Operand} {p q : Value} (hp : ¬ p matches .nilIface | .agg _) (w : World) : (eqGuard op t x y p q).run P w = .ok () w := by
  cases p <;> first | (simp at hp; done) | (cases op <;> rfl)
theorem binOp_string {P : Program} {op : BinOp} {t : TypeId} {a b : ByteArray} (w : World) : (binOp op t (.string a) (.string b)).run P w = (Op.stringOp op a b).run P w := by cases op <;> rfl
theorem binOp_int {P : Program} {op : BinOp} {t : TypeId} {k : IntKind} {a b : Int} {r : Value} {ok : Prop} (h : intA op k a b = some (ok,r)) (hok : ok) (w : World) :
    (binOp op t (.int k a) (.int k b)).run P w = .ok r w := by
  cases op <;> simp only [intA,Option.some.injEq,Prod.mk.injEq,reduceCtorEq] at h <;> obtain ⟨rfl,rfl⟩ := h
  case add => simp [binOp,Op.intArith]
  case sub => simp [binOp,Op.intArith]
  case mul => simp [binOp,Op.intArith]
  case quo => simp only [ne_eq] at hok; simp [binOp,Op.intDiv,hok]
  case rem => simp only [ne_eq] at hok; simp [binOp,Op.intDiv,hok]
  case and => simp [binOp,Op.intBits,bitsA]
  case or => simp [binOp,Op.intBits,bitsA]
  case xor => simp [binOp,Op.intBits,bitsA]
  case andNot => simp [binOp,Op.intBits,bitsA]
  case eql => simp [binOp,Op.intCmp]; rfl
  case neq => simp [binOp,Op.intCmp]; rfl
  case lss => simp [binOp,Op.intCmp]
  case leq => simp [binOp,Op.intCmp]
  case gtr => simp [binOp,Op.intCmp]
  case geq => simp [binOp,Op.intCmp]
theorem run_equal_slice {P : Program} {t e : TypeId} {x : Option Addr} {n c n' c' : Nat} (h : P.underlying t = some (.slice e)) (w : World) : (Op.equal t (.slice x n c) (.slice none n' c')).run P w = .ok x.isNone w := by
  have key : ∀ d,(Op.equalIn (d + 1) t (.slice x n c) (.slice none n' c')).run P w = .ok x.isNone w := by
    intro d
    cases x <;> simp [Op.equalIn,run_underlying h]
  exact key 9999
theorem binOp_slice {P : Program} {t e : TypeId} {x : Option Addr} {n c n' c' : Nat} (h : P.underlying t = some (.slice e)) (w : World) :
    (binOp .eql t (.slice x n c) (.slice none n' c')).run P w = .ok (.bool x.isNone) w ∧ (binOp .neq t (.slice x n c) (.slice none n' c')).run P w = .ok (.bool (!x.isNone)) w := by
  have h1 : binOp .eql t (.slice x n c) (.slice none n' c') = (do pure (.bool (← Op.equal t (.slice x n c) (.slice none n' c')))) := rfl
  have h2 : binOp .neq t (.slice x n c) (.slice none n' c') = (do pure (.bool (!(← Op.equal t (.slice x n c) (.slice none n' c'))))) := rfl
  rw [h1,h2]
  simp only [Sem.run_bind,run_equal_slice (P := P) h w,Result.andThen_ok,Sem.run_pure]
  exact ⟨trivial,trivial⟩
theorem binA_run {P : Program} {T : Tab} (hT : TabOK P T) {op : BinOp} {t : TypeId} {x y : Operand} {p q r : Value} {ok : Prop} (h : binA T op t p q = some (ok,r)) (hok : ok) (w : World) :
    (do eqGuard op t x y p q; binOp op t p q : Sem Value).run P w = .ok r w := by
  have hg : (eqGuard op t x y p q).run P w = .ok () w := eqGuard_plain (by cases p <;> cases q <;> simp [binA] at h ⊢) w
  rw [Sem.run_bind,hg,Result.andThen_ok]
  cases p <;> cases q <;> simp only [binA,reduceCtorEq] at h
  · rename_i a b
    split at h
    · rename_i heq
      obtain ⟨d,hd,hf,_⟩ := (hT t _ heq).d
      simp only [TD.fits] at hf
      subst hf
      cases op <;> simp only [Option.some.injEq,Prod.mk.injEq,reduceCtorEq] at h
      · obtain ⟨_,rfl⟩ := h
        exact (binOp_bool a b hd w).1
      · obtain ⟨_,rfl⟩ := h
        exact (binOp_bool a b hd w).2
    · cases h
  · rename_i k a k' b
    by_cases hs : op = .shl
    · subst hs
      simp only [Option.some.injEq,Prod.mk.injEq] at h
      obtain ⟨rfl,rfl⟩ := h
      have : ¬ b < 0 := by omega
      simp [binOp,Op.shift,this]
    · by_cases hs' : op = .shr
      · subst hs'
        simp only [Option.some.injEq,Prod.mk.injEq] at h
        obtain ⟨rfl,rfl⟩ := h
        have : ¬ b < 0 := by omega
        simp [binOp,Op.shift,this]
      · have h' : (if k = k' then intA op k a b else none) = some (ok,r) := by cases op <;> first | exact h | exact absurd rfl hs | exact absurd rfl hs'
        split at h'
        · rename_i hk
          subst hk
          exact binOp_int h' hok w
        · cases h'
  · rename_i a b
    rw [binOp_string]
    cases op <;> simp only [Option.some.injEq,Prod.mk.injEq,reduceCtorEq] at h <;> obtain ⟨rfl,rfl⟩ := h
    · have h' : ¬ (9223372036854775807 < (a.size : Int) + (b.size : Int)) := by omega
      simp [Op.stringOp,IntKind.max,IntKind.signed,IntKind.bits,h']
    · simp [Op.stringOp]
    · simp [Op.stringOp]
def aggEq : List PV → List PV → Option Bool
  | [],[] => some true
  | .lit (.int k a) :: l,.lit (.int k' b) :: m => if k = k' then (aggEq l m).map (decide (a = b) && ·) else none
  | _,_ => none
def eqA (T : Tab) (op : BinOp) (t : TypeId) (cs ds : List PV) : Option (Prop × PV) :=
  match T t with
  | some ti => match ti.flat,op with
    | true,.eql => (aggEq cs ds).map fun b => (cs.length = ti.size,.lit (.bool b))
    | true,.neq => (aggEq cs ds).map fun b => (cs.length = ti.size,.lit (.bool (!b)))
    | _,_ => none
  | none => none
theorem eqFields_flat {P : Program} (w : World) (d : Nat) (vs us : Array Value) : ∀ (fs : List Field) (i : Nat) (cs ds : List PV) (b : Bool),flatFs P i fs = true → aggEq cs ds = some b → cs.length = fs.length →
    (∀ j x,cs[j]? = some (.lit x) → vs[i + j]? = some x) → (∀ j x,ds[j]? = some (.lit x) → us[i + j]? = some x) → (Op.eqFields (d + 1) vs us fs).run P w = .ok b w
  | [],_,cs,ds,b,_,he,hl,_,_ => by
    have : cs = [] := List.eq_nil_of_length_eq_zero hl
    subst this
    cases ds with
    | nil => simp only [aggEq,Option.some.injEq] at he; subst he; rfl
    | cons _ _ => simp [aggEq] at he
  | f :: fs,i,[],ds,b,_,_,hl,_,_ => by simp at hl
  | f :: fs,i,c :: cs,ds,b,hf,he,hl,hv,hu => by
    unfold aggEq at he
    split at he
    · rename_i h; cases h
    · rename_i _ _ k a l k' b' m h1
      cases h1
      split at he
      · rename_i hk
        subst hk
        simp only [Option.map_eq_some_iff] at he
        obtain ⟨r,hr,rfl⟩ := he
        simp only [flatFs,Bool.and_eq_true,bne_iff_ne,ne_eq,decide_eq_true_eq] at hf
        obtain ⟨⟨⟨n1,n2⟩,n3⟩,n4⟩ := hf
        split at n3
        · rename_i k2 hint
          have e1 := hv 0 _ rfl
          have e2 := hu 0 _ rfl
          simp only [Nat.add_zero] at e1 e2
          rw [← n2] at e1 e2
          have p1 : (part f.type vs f.offset).run P w = .ok (.int k a) w := by simp [part,isAgg,run_underlying hint,e1]
          have p2 : (part f.type us f.offset).run P w = .ok (.int k b') w := by simp [part,isAgg,run_underlying hint,e2]
          have ih := eqFields_flat w d vs us fs (i + 1) _ m r n4 hr (by simpa using hl) (fun j x hj => by have := hv (j + 1) x hj; rwa [show i + (j + 1) = i + 1 + j by omega] at this) (fun j x hj => by have := hu (j + 1) x hj; rwa [show i + (j + 1) = i + 1 + j by omega] at this)
          simp only [Op.eqFields,if_pos n1,Sem.run_bind,p1,p2,Result.andThen_ok,run_equalIn_int w d f.type k k2 a b' hint]
          by_cases hab : a = b'
          · simp [hab,ih]
          · simp [hab,beq_eq_false_iff_ne.2 hab]
        · cases n3
      · cases he
    · cases he
theorem eqA_run {P : Program} {T : Tab} (hT : TabOK P T) {op : BinOp} {t : TypeId} {x y : Operand} {cs ds : List PV} {vs us : Array Value} {r : PV} {ok : Prop} (h : eqA T op t cs ds = some (ok,r)) (hok : ok) (w : World)
    (hv : ∀ (j : Nat) (x : Value),cs[j]? = some (PV.lit x) → vs[j]? = some x) (hu : ∀ (j : Nat) (x : Value),ds[j]? = some (PV.lit x) → us[j]? = some x) :
    ∃ v,r = PV.lit v ∧ (do eqGuard op t x y (.agg vs) (.agg us); binOp op t (.agg vs) (.agg us) : Sem Value).run P w = .ok v w := by
  unfold eqA at h
  split at h
  · rename_i ti hti
    have hc := (hT t ti hti).c
    have key : ∀ b,ti.flat = true → aggEq cs ds = some b → cs.length = ti.size → (Op.equalIn 10000 t (.agg vs) (.agg us)).run P w = .ok b w ∧ (eqGuard op t x y (.agg vs) (.agg us)).run P w = .ok () w := by
      intro b hf hb hl
      have hq := hc hf
      unfold flatOK at hq
      split at hq
      · rename_i fs hfs
        simp only [Bool.and_eq_true,Bool.not_eq_true',decide_eq_true_eq] at hq
        obtain ⟨⟨⟨q1,q2⟩,q3⟩,q4⟩ := hq
        have hfo : P.fieldsOf t = fs := by simp [Program.fieldsOf,hfs]
        refine ⟨?_,run_eqGuard_agg w op t x y vs us q2⟩
        rw [show (10000 : Nat) = 9998 + 1 + 1 from rfl,run_equalIn_agg w _ t vs us (by rw [hfo]; exact hfs) q1,hfo]
        exact eqFields_flat w 9998 vs us fs.toList 0 cs ds b q4 hb (by omega) (fun j x hj => by rw [Nat.zero_add]; exact hv j x hj) (fun j x hj => by rw [Nat.zero_add]; exact hu j x hj)
      · cases hq
    split at h
    · rename_i hf
      simp only [Option.map_eq_some_iff,Prod.mk.injEq] at h
      obtain ⟨b,hb,rfl,rfl⟩ := h
      obtain ⟨k1,k2⟩ := key b hf hb hok
      refine ⟨_,rfl,?_⟩
      rw [Sem.run_bind,k2,Result.andThen_ok,run_eql_struct w t vs us,k1]
      rfl
    · rename_i hf
      simp only [Option.map_eq_some_iff,Prod.mk.injEq] at h
      obtain ⟨b,hb,rfl,rfl⟩ := h
      obtain ⟨k1,k2⟩ := key b hf hb hok
      refine ⟨_,rfl,?_⟩
      rw [Sem.run_bind,k2,Result.andThen_ok,run_neq_struct w t vs us,k1]
      rfl
    · cases h
  · cases h
def unA (op : UnOp) (x : Value) : Option Value :=
  match op,x with
  | .not,.bool b => some (.bool (!b))
  | .neg,.int k n => some (.int k (k.wrap (0 - n)))
  | .xor,.int k n => some (.int k (bitsA .xor k (if k.signed then -1 else k.max) n))
  | _,_ => none
theorem unA_run {P : Program} {op : UnOp} {x r : Value} (h : unA op x = some r) (w : World) : (Op.unary op x).run P w = .ok r w := by
  cases op <;> cases x <;> simp [unA] at h <;> subst h <;> simp [Op.unary,Op.intArith,Op.intBits,bitsA]
end Go.Pe
namespace Go.Pe
open Go.RowKit
def RowsAt (N : Nat → Prop) (w : World) (size : Nat) (rows : List (List PV)) (v : Value) : Prop :=
  (rows = [] ∧ ∃ c,v = .slice none 0 c) ∨
  ∃ a cap,v = .slice (some a) rows.length cap ∧ rows.length ≤ cap ∧ (∀ r ∈ rows,r.length = size) ∧
    ∀ i r j pv,rows[i]? = some r → r[j]? = some pv → ∃ u,w.cell? (a.add (i * size + j)) = some u ∧ IRep N w pv u ∧ u.oneCell' = true
def litRows : Value → Option (List (List PV))
  | .slice none 0 _ => some []
  | _ => none
theorem litRows_eq {x : Value} {rows : List (List PV)} (h : litRows x = some rows) : rows = [] ∧ ∃ c,x = .slice none 0 c := by
  unfold litRows at h
  split at h
  · cases h; exact ⟨rfl,_,rfl⟩
  · cases h
def asIm (H : Heap) (size : Nat) : PV → Option (List (List PV))
  | .im s rows => if s = size then some rows else none
  | .own b ver => match H b with
    | some (.arr _ s rows ver' _) => if s = size ∧ ver = ver' then some rows else none
    | _ => none
  | .lit x => litRows x
  | .sub b ver lo n size' => match H b with
    | some (.arr _ s rows ver' _) => if s = size ∧ size' = size ∧ ver = ver' ∧ 0 < n ∧ lo + n ≤ rows.length then some ((rows.drop lo).take n) else none
    | _ => none
  | _ => none
theorem IRep.rowsAt {N : Nat → Prop} {w : World} {size : Nat} {rows : List (List PV)} {v : Value} (h : IRep N w (.im size rows) v) : RowsAt N w size rows v := by
  cases h with
  | imN _ n c hn => subst hn; exact .inl ⟨rfl,c,rfl⟩
  | im _ a n cap _ vals hn hs hc h1 h2 =>
    subst hn
    exact .inr ⟨a,cap,rfl,hc,hs,fun i r j pv hi hj => ⟨vals i j,(h1 i r j pv hi hj).1,h2 i r j pv hi hj,(h1 i r j pv hi hj).2.2⟩⟩
section
variable {C : Ctx} {n : Nat} {E : Env} {H : Heap} {β : Ref} {a : Act} {w : World}
theorem flat_lt {i size j m : Nat} (hi : i < m) (hj : j < size) : i * size + j < m * size := by
  have h1 : (i + 1) * size ≤ m * size := Nat.mul_le_mul_right _ hi
  rw [Nat.add_mul,Nat.one_mul] at h1
  omega
theorem ArrOK.rowsAt {b T size ver : Nat} {rows : List (List PV)} {N : Nat → Prop} (h : ArrOK C N w β b T size rows ver) : ∃ u,β b = some (ver,u) ∧ RowsAt N w size rows u := by
  obtain ⟨u,xs,h1,h2,h3,h4⟩ := h
  refine ⟨u,h1,?_⟩
  rcases h2.2 with ⟨rfl,hn⟩ | ⟨g,cap,cur,rfl,hbg,hg,hle,hcm,hcs,htk⟩
  · exact .inl ⟨List.eq_nil_of_length_eq_zero hn,0,rfl⟩
  · refine .inr ⟨⟨g,0,none⟩,cap,rfl,hle,h3,fun i r j pv hi hj => ?_⟩
    obtain ⟨q1,q2⟩ := h4 i r j pv hi hj
    have hil : i < rows.length := (List.getElem?_eq_some_iff.1 hi).1
    have hjl : j < size := by have := (List.getElem?_eq_some_iff.1 hj).1; rw [h3 r (List.mem_of_getElem? hi)] at this; exact this
    have hlt : i * size + j < xs.length := by rw [h2.1]; exact flat_lt hil hjl
    refine ⟨xs.getD (i * size + j) undef,?_,q1,q2⟩
    exact h2.cells (g := g) rfl _ _ (by rw [List.getD_eq_getElem?_getD,yBh hlt]; rfl)
theorem Sim.asIm (h : Sim C n E H β a w) {size : Nat} {pv : PV} {v : Value} {rows : List (List PV)} (hp : asIm H size pv = some rows) (hr : Rep (NN C H β) w β pv v) : RowsAt (NN C H β) w size rows v := by
  cases pv <;> simp only [Pe.asIm,reduceCtorEq] at hp
  · rename_i x
    have hv := hr.lit_eq
    subst hv
    exact .inl (litRows_eq hp)
  · rename_i s rws
    split at hp
    · rename_i hs
      subst hs
      cases hp
      exact hr.im_eq.rowsAt
    · cases hp
  · rename_i b ver
    split at hp
    · rename_i T s rws ver' f heq
      split at hp
      · rename_i hs
        obtain ⟨rfl,rfl⟩ := hs
        cases hp
        obtain ⟨u,hu,hrows⟩ := ArrOK.rowsAt (h.blk b _ heq)
        rw [hr.own_eq hu]
        exact hrows
      · cases hp
    · cases hp
  · rename_i b ver lo n size'
    split at hp
    · rename_i T s rws ver' f heq
      split at hp
      · rename_i hs
        obtain ⟨e1,rfl,rfl,hn,hle⟩ := hs
        subst e1
        cases hp
        obtain ⟨u,hu,hrows⟩ := ArrOK.rowsAt (h.blk b _ heq)
        obtain ⟨ad,m,hv,hm,hsub⟩ := hr.sub_eq hu
        obtain ⟨g,n0,c,rfl,rfl⟩ := hsub hn
        rcases hrows with ⟨_,c',hc'⟩ | ⟨a0,cap,hu',hcap,hsz,hcells⟩
        · cases hc'
        · obtain ⟨e1,e2,e3⟩ : a0 = ⟨g,0,none⟩ ∧ n0 = rws.length ∧ c = cap := by cases hu'; exact ⟨rfl,rfl,rfl⟩
          subst e1 e2 e3
          have hl : ((rws.drop lo).take n).length = n := by simp; omega
          refine .inr ⟨⟨g,lo * s,none⟩,m,by rw [hl]; exact hv,by rw [hl]; exact hm,fun r hr' => hsz r (List.mem_of_mem_drop (List.mem_of_mem_take hr')),fun i r j pv hi hj => ?_⟩
          have hin : i < n := by have := (List.getElem?_eq_some_iff.1 hi).1; omega
          rw [List.getElem?_take_of_lt hin,List.getElem?_drop] at hi
          obtain ⟨u,hu1,hu2⟩ := hcells (lo + i) r j pv hi hj
          refine ⟨u,?_,hu2⟩
          rw [← hu1]
          simp only [Addr.add_lit]
          congr 2
          rw [Nat.add_mul]
          omega
      · cases hp
    · cases hp
end
def ld (ti : TI) (cs : List PV) : PV := if ti.agg then .agg (cs.take ti.size) else cs.headD .any
def ldOK (ti : TI) (cs : List PV) : Prop := ti.size ≤ cs.length ∧ (ti.agg = true ∨ ti.size = 1)
theorem add_block (a : Addr) (j : Nat) : (a.add j).block = a.block := by unfold Addr.add; split <;> rfl
theorem load_run {P : Program} {t : TypeId} {ti : TI} (ht : TypeOK P t ti) {N : Nat → Prop} {β : Ref} {w : World} {ad : Addr} {cs : List PV} (hok : ldOK ti cs) (vals : Nat → Value)
    (hc : ∀ j pv,cs[j]? = some pv → w.cell? (ad.add j) = some (vals j) ∧ Rep N w β pv (vals j)) :
    ∃ v,(loadVar t ad).run P w = .ok v w ∧ Rep N w β (ld ti cs) v := by
  obtain ⟨hlen,hsz⟩ := hok
  unfold loadVar ld
  cases hg : ti.agg with
  | true =>
    have hl := run_loadCells (P := P) w ad ti.size vals (fun j hj => (hc j cs[j] (yBh (by omega))).1)
    refine ⟨.agg ((List.range ti.size).map vals).toArray,by simp [ht.run_isAgg,hg,ht.run_sizeOf,hl],?_⟩
    simp only [if_true]
    refine .agg _ _ (by simp; omega) fun i pv hi => ?_
    have hlt : i < ti.size ∧ i < cs.length := by have := (List.getElem?_eq_some_iff.1 hi).1; simp at this; omega
    rw [List.getElem?_take_of_lt hlt.1] at hi
    have : ((List.range ti.size).map vals).toArray.getD i undef = vals i := by simp [Array.getD,hlt.1]
    rw [this]
    exact (hc i pv hi).2
  | false =>
    have h1 : ti.size = 1 := by simpa [hg] using hsz
    cases cs with
    | nil => simp at hlen; omega
    | cons c cs =>
      have h0 := hc 0 c rfl
      simp only [Addr.add_zero'] at h0
      refine ⟨vals 0,by simp [ht.run_isAgg,hg,h0.1],?_⟩
      simpa using h0.2
def boundA (E : Env) (o : Option Operand) (dflt : Int) : Option Int :=
  match o with
  | none => some dflt
  | some x => match ev E x with
    | .lit (.int _ i) => some i
    | _ => none
theorem sliceBound_run {P : Program} {k : IntKind} {i : Int} {y : Nat} {code : BoundsCode} (h : 0 ≤ i ∧ i ≤ y) (w : World) : (Instr.sliceBound (.int k i) y code).run P w = .ok i.toNat w := by
  simp [Instr.sliceBound,asIntOf,h]
theorem bound_eq {N : Nat → Prop} {w : World} {β : Ref} {E : Env} {o : Operand} {v : Value} {i dflt : Int} (h : boundA E (some o) dflt = some i) (hr : Rep N w β (ev E o) v) : ∃ k,v = .int k i := by
  simp only [boundA] at h
  split at h
  · rename_i k j heq
    cases h
    rw [heq] at hr
    exact ⟨k,hr.lit_eq⟩
  · cases h
theorem slice_run_cap {P : Program} {t e : TypeId} {ti te : TI} (ht : TypeOK P t ti) (hd : ti.desc = .slice e) (he : TypeOK P e te) {ad : Option Addr} {len cap : Nat} {lo hi : Option Value} {l h : Int} (w : World)
    (hlo : (lo = none ∧ l = 0) ∨ ∃ k,lo = some (.int k l)) (hhi : (hi = none ∧ h = len) ∨ ∃ k,hi = some (.int k h)) (h0 : 0 ≤ l) (h1 : l ≤ h) (h2 : h ≤ cap) (hc : len ≤ cap) :
    (Instr.sliceAt t (.slice ad len cap) lo hi none).run P w = .ok (.slice (if cap = l.toNat then ad else ad.map (·.add (l.toNat * te.size))) (h.toNat - l.toNat) (cap - l.toNat)) w := by
  obtain ⟨d,hu,hf,_⟩ := ht.d
  rw [hd] at hf
  simp only [TD.fits] at hf
  subst hf
  rcases hhi with ⟨rfl,rfl⟩ | ⟨kh,rfl⟩
  · rcases hlo with ⟨rfl,rfl⟩ | ⟨kl,rfl⟩
    · simp [Instr.sliceAt,Instr.slice,run_underlying hu,Instr.sliceBounds,he.run_sizeOf]
    · have hb := sliceBound_run (P := P) (k := kl) (i := l) (y := len) (code := .sliceB) ⟨h0,h1⟩ w
      simp [Instr.sliceAt,Instr.slice,run_underlying hu,Instr.sliceBounds,he.run_sizeOf,hb]
  · have hbh := sliceBound_run (P := P) (k := kh) (i := h) (y := cap) (code := .sliceAcap) ⟨by omega,by omega⟩ w
    rcases hlo with ⟨rfl,rfl⟩ | ⟨kl,rfl⟩
    · simp [Instr.sliceAt,Instr.slice,run_underlying hu,Instr.sliceBounds,he.run_sizeOf,hbh]
    · have hb := sliceBound_run (P := P) (k := kl) (i := l) (y := h.toNat) (code := .sliceB) ⟨h0,by omega⟩ w
      simp [Instr.sliceAt,Instr.slice,run_underlying hu,Instr.sliceBounds,he.run_sizeOf,hbh,hb]
theorem slice_run {P : Program} {t e : TypeId} {ti te : TI} (ht : TypeOK P t ti) (hd : ti.desc = .slice e) (he : TypeOK P e te) {ad : Option Addr} {len cap : Nat} {lo hi mx : Option Value} {l h : Int} (w : World)
    (hlo : (lo = none ∧ l = 0) ∨ ∃ k,lo = some (.int k l)) (hhi : (hi = none ∧ h = len) ∨ ∃ k,hi = some (.int k h)) (hmx : mx = none ∨ ∃ k m,mx = some (.int k m) ∧ 0 ≤ m ∧ m ≤ cap ∧ h ≤ m ∧ hi ≠ none)
    (h0 : 0 ≤ l) (h1 : l ≤ h) (h2 : h ≤ len) (hc : len ≤ cap) :
    ∃ m : Nat,h ≤ m ∧ m ≤ cap ∧ (Instr.sliceAt t (.slice ad len cap) lo hi mx).run P w = .ok (.slice (if m = l.toNat then ad else ad.map (·.add (l.toNat * te.size))) (h.toNat - l.toNat) (m - l.toNat)) w := by
  obtain ⟨d,hu,hf,_⟩ := ht.d
  rw [hd] at hf
  simp only [TD.fits] at hf
  subst hf
  have hsl : ∀ (x : Option Value),(hlo' : (lo = none ∧ l = 0) ∨ ∃ k,lo = some (.int k l)) → True := fun _ _ => trivial
  rcases hmx with rfl | ⟨km,m,rfl,hm0,hm1,hm2,hm3⟩
  · refine ⟨cap,by omega,Nat.le_refl _,?_⟩
    rcases hhi with ⟨rfl,rfl⟩ | ⟨kh,rfl⟩
    · rcases hlo with ⟨rfl,rfl⟩ | ⟨kl,rfl⟩
      · simp [Instr.sliceAt,Instr.slice,run_underlying hu,Instr.sliceBounds,he.run_sizeOf]
      · have hb := sliceBound_run (P := P) (k := kl) (i := l) (y := len) (code := .sliceB) ⟨h0,h1⟩ w
        simp [Instr.sliceAt,Instr.slice,run_underlying hu,Instr.sliceBounds,he.run_sizeOf,hb]
    · have hbh := sliceBound_run (P := P) (k := kh) (i := h) (y := cap) (code := .sliceAcap) ⟨by omega,by omega⟩ w
      rcases hlo with ⟨rfl,rfl⟩ | ⟨kl,rfl⟩
      · simp [Instr.sliceAt,Instr.slice,run_underlying hu,Instr.sliceBounds,he.run_sizeOf,hbh]
      · have hb := sliceBound_run (P := P) (k := kl) (i := l) (y := h.toNat) (code := .sliceB) ⟨h0,by omega⟩ w
        simp [Instr.sliceAt,Instr.slice,run_underlying hu,Instr.sliceBounds,he.run_sizeOf,hbh,hb]
  · rcases hhi with ⟨rfl,_⟩ | ⟨kh,rfl⟩
    · exact absurd rfl hm3
    · refine ⟨m.toNat,by omega,by omega,?_⟩
      have hbm := sliceBound_run (P := P) (k := km) (i := m) (y := cap) (code := .slice3Acap) ⟨hm0,hm1⟩ w
      have hbh := sliceBound_run (P := P) (k := kh) (i := h) (y := m.toNat) (code := .slice3B) ⟨by omega,by omega⟩ w
      rcases hlo with ⟨rfl,rfl⟩ | ⟨kl,rfl⟩
      · simp [Instr.sliceAt,Instr.slice,run_underlying hu,Instr.sliceBounds,he.run_sizeOf,hbm,hbh]
      · have hb := sliceBound_run (P := P) (k := kl) (i := l) (y := h.toNat) (code := .slice3C) ⟨h0,by omega⟩ w
        simp [Instr.sliceAt,Instr.slice,run_underlying hu,Instr.sliceBounds,he.run_sizeOf,hbm,hbh,hb]
theorem IRep.cut {N : Nat → Prop} {w : World} {size : Nat} {rows : List (List PV)} {ad : Option Addr} {len cap : Nat} (hr : IRep N w (.im size rows) (.slice ad len cap)) {l h m : Nat} (h1 : l ≤ h) (h2 : h ≤ rows.length) (h3 : h ≤ m) :
    IRep N w (.im size ((rows.take h).drop l)) (.slice (if m = l then ad else ad.map (·.add (l * size))) (h - l) (m - l)) := by
  cases hr with
  | imN _ _ c hn =>
    have : h = 0 := by simpa using h2
    subst this
    have : l = 0 := by omega
    subst this
    simp only [List.take_nil,List.drop_nil,Option.map_none]
    split <;> exact .imN _ _ _ (by omega)
  | im _ a _ cap _ vals hn hs hc hq1 hq2 =>
    have key : ∀ (a' : Addr),(l < h → a' = a.add (l * size)) → IRep N w (.im size ((rows.take h).drop l)) (.slice (some a') (h - l) (m - l)) := by
      intro a' ha'
      have hget : ∀ i r,((rows.take h).drop l)[i]? = some r → rows[l + i]? = some r ∧ l + i < h := by
        intro i r hi
        rw [List.getElem?_drop] at hi
        have hlt : l + i < (rows.take h).length := (List.getElem?_eq_some_iff.1 hi).1
        simp at hlt
        rw [List.getElem?_take_of_lt (by omega)] at hi
        exact ⟨hi,by omega⟩
      refine .im _ a' _ _ _ (fun i j => vals (l + i) j) (by simp; omega) (fun r hr => hs r (List.mem_of_mem_take (List.mem_of_mem_drop hr))) (by simp; omega) (fun i r j pv hi hj => ?_) (fun i r j pv hi hj => hq2 _ r j pv (hget i r hi).1 hj)
      obtain ⟨q1,q2,q3⟩ := hq1 _ r j pv (hget i r hi).1 hj
      have := (hget i r hi).2
      rw [ha' (by omega),Addr.add_add,add_block]
      have e : l * size + (i * size + j) = (l + i) * size + j := by rw [Nat.add_mul]; omega
      rw [e]
      exact ⟨q1,q2,q3⟩
    split
    · exact key a (fun hlt => by omega)
    · exact key _ (fun _ => rfl)
end Go.Pe
