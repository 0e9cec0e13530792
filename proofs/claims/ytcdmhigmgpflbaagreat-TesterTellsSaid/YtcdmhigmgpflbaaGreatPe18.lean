import Derived.Test.YtcdmhigmgpflbaaGreatPe15
import Derived.Scope
set_option linter.unusedVariables false
set_option linter.unusedSimpArgs false
open List renaming length_map → yBm
namespace Go.Pe
open Go.RowKit
def Weak (st s : St) : Prop :=
  (st.n = s.n ∧ st.bs = s.bs ∧ ∀ x ∈ st.hp,x.1 < st.bs → (lk x.1 s.hp).isSome = true) ∧ (∀ x ∈ s.env,lk x.1 st.env = lk x.1 s.env ∧ refsIn (fun b => (lk b s.hp).isSome) x.2 = true) ∧ (∀ x ∈ s.hp,lk x.1 st.hp = lk x.1 s.hp ∧ x.2.refsIn (fun b => (lk b s.hp).isSome) = true)
section
variable {P : Program} {T : Tab} {C : Ctx} {β : Ref} {a : Act} {w : World}
theorem lk_some_mem {α : Type} {k : Nat} {l : List (Nat × α)} (h : (lk k l).isSome = true) : ∃ v,(k,v) ∈ l := by
  obtain ⟨v,hv⟩ := Option.isSome_iff_exists.1 h
  exact ⟨v,lk_mem hv⟩
theorem Sim.weak {st s : St} (h : Sim C st.n st.E st.H β a w) (hgb : C.gb ≤ st.bs) (hw : Weak st s) : Sim C s.n s.E s.H (restrict (fun b => (lk b s.hp).isSome) β) a w := by
  obtain ⟨⟨h1,h1b,h1c⟩,h2,h3⟩ := hw
  exact h.weakF hgb h1 (fun b hb hlt => by obtain ⟨v,hv⟩ := lk_some_mem hb; exact h1c (b,v) hv hlt) h2 h3
def swp (x y b : Nat) : Nat := if b = x then y else if b = y then x else b
theorem swp_swp (x y b : Nat) : swp x y (swp x y b) = b := by
  unfold swp
  by_cases h1 : b = x
  · subst h1; simp
  · by_cases h2 : b = y
    · subst h2; simp [h1]
    · simp [h1,h2]
theorem swp_inj {x y b c : Nat} (h : swp x y b = swp x y c) : b = c := by rw [← swp_swp x y b,h,swp_swp]
theorem swp_low {x y g b : Nat} (hx : g ≤ x) (hy : g ≤ y) (hb : b < g) : swp x y b = b := by
  unfold swp
  rw [if_neg (by omega),if_neg (by omega)]
mutual
def PV.sw (x y : Nat) : PV → PV
  | .ptr b o => .ptr (swp x y b) o
  | .mapp b => .mapp (swp x y b)
  | .aptr b v r o s => .aptr (swp x y b) v r o s
  | .own b v => .own (swp x y b) v
  | .sub b v l n s => .sub (swp x y b) v l n s
  | .agg cs => .agg (swL x y cs)
  | .tup cs => .tup (swL x y cs)
  | .fn f p q => .fn f (swL x y p) (swL x y q)
  | .iface t v => .iface t (PV.sw x y v)
  | .any => .any
  | .lit v => .lit v
  | .im n r => .im n r
  | .iptr c => .iptr c
def swL (x y : Nat) : List PV → List PV
  | [] => []
  | p :: l => PV.sw x y p :: swL x y l
end
theorem swL_eq (x y : Nat) : ∀ l : List PV,swL x y l = l.map (PV.sw x y)
  | [] => rfl
  | p :: l => by rw [swL,List.map_cons,swL_eq x y l]
mutual
theorem sw_low {x y g : Nat} (hx : g ≤ x) (hy : g ≤ y) : ∀ {p : PV},refsIn (fun b => decide (b < g)) p = true → p.sw x y = p
  | .ptr b _,h => by simp only [refsIn,decide_eq_true_eq] at h; rw [PV.sw,swp_low hx hy h]
  | .mapp b,h => by simp only [refsIn,decide_eq_true_eq] at h; rw [PV.sw,swp_low hx hy h]
  | .aptr b _ _ _ _,h => by simp only [refsIn,decide_eq_true_eq] at h; rw [PV.sw,swp_low hx hy h]
  | .own b _,h => by simp only [refsIn,decide_eq_true_eq] at h; rw [PV.sw,swp_low hx hy h]
  | .sub b _ _ _ _,h => by simp only [refsIn,decide_eq_true_eq] at h; rw [PV.sw,swp_low hx hy h]
  | .agg cs,h => by rw [PV.sw,swL_low hx hy h]
  | .tup cs,h => by rw [PV.sw,swL_low hx hy h]
  | .fn _ p q,h => by
    simp only [refsIn,Bool.and_eq_true] at h
    rw [PV.sw,swL_low hx hy h.1,swL_low hx hy h.2]
  | .iface _ v,h => by rw [PV.sw,sw_low (p := v) hx hy h]
  | .any,_ => rfl
  | .lit _,_ => rfl
  | .im _ _,_ => rfl
  | .iptr _,_ => rfl
theorem swL_low {x y g : Nat} (hx : g ≤ x) (hy : g ≤ y) : ∀ {l : List PV},refsInL (fun b => decide (b < g)) l = true → swL x y l = l
  | [],_ => rfl
  | p :: l,h => by
    simp only [refsInL,Bool.and_eq_true] at h
    rw [swL,sw_low hx hy h.1,swL_low hx hy h.2]
end
theorem IRep.sw {N : Nat → Prop} {pv : PV} {v : Value} (h : IRep N w pv v) (x y : Nat) : pv.sw x y = pv := by
  induction h with
  | lit v => rfl
  | imN => rfl
  | im => rfl
  | agg cs vs hl h ih =>
    rw [PV.sw,swL_eq]
    congr 1
    apply List.ext_getElem?
    intro i
    rw [List.getElem?_map]
    cases hi : cs[i]? with
    | none => rfl
    | some p => simp [ih i p hi]
  | tup cs vs hl h ih =>
    rw [PV.sw,swL_eq]
    congr 1
    apply List.ext_getElem?
    intro i
    rw [List.getElem?_map]
    cases hi : cs[i]? with
    | none => rfl
    | some p => simp [ih i p hi]
theorem swL_get {x y : Nat} {l : List PV} {i : Nat} {pv : PV} (h : (swL x y l)[i]? = some pv) : ∃ p,l[i]? = some p ∧ p.sw x y = pv := by
  rw [swL_eq,List.getElem?_map] at h
  cases hi : l[i]? with
  | none => rw [hi] at h; cases h
  | some p => rw [hi] at h; exact ⟨p,rfl,by simpa using h⟩
theorem Rep.sw {N : Nat → Prop} {pv : PV} {v : Value} (h : Rep N w β pv v) (x y : Nat) : Rep N w (fun b => β (swp x y b)) (pv.sw x y) v := by
  induction h with
  | i h => rw [h.sw]; exact .i h
  | any v => exact .any v
  | agg cs vs hl h ih => exact .agg _ vs (by rw [swL_eq,yBm]; exact hl) (fun i pv hi => by obtain ⟨p,hp,rfl⟩ := swL_get hi; exact ih i p hp)
  | tup cs vs hl h ih => exact .tup _ vs (by rw [swL_eq,yBm]; exact hl) (fun i pv hi => by obtain ⟨p,hp,rfl⟩ := swL_get hi; exact ih i p hp)
  | ptr b off k h => exact .ptr _ off k (by simp only [swp_swp]; exact h)
  | mapp b k h => exact .mapp _ k (by simp only [swp_swp]; exact h)
  | aptr b ver row off size ver' u v h1 h2 h3 h4 => exact .aptr _ ver row off size ver' u v (by simp only [swp_swp]; exact h1) h2 h3 h4
  | iptr cs a vals h1 => exact .iptr cs a vals h1
  | own b ver ver' u v h1 h2 h3 h4 => exact .own _ ver ver' u v (by simp only [swp_swp]; exact h1) h2 h3 h4
  | sub b ver lo n size ver' u v h1 h2 h3 h4 => exact .sub _ ver lo n size ver' u v (by simp only [swp_swp]; exact h1) h2 h3 h4
  | fn f first cap vs us hl hl' h h' ih ih' =>
    exact .fn f _ _ vs us (by rw [swL_eq,yBm]; exact hl) (by rw [swL_eq,yBm]; exact hl') (fun i pv hi => by obtain ⟨p,hp,rfl⟩ := swL_get hi; exact ih i p hp)
      (fun i pv hi => by obtain ⟨p,hp,rfl⟩ := swL_get hi; exact ih' i p hp)
  | iface t pv v h ih => exact .iface t _ v ih
def Blk.sw (x y : Nat) : Blk → Blk
  | .box T cs => .box T (swL x y cs)
  | .arr T size rows ver f => .arr T size rows ver f
  | .map es => .map (es.map fun e => (e.1,e.2.sw x y))
  | .obj k o => .obj k o
def envSw (x y : Nat) : List (Nat × PV) → List (Nat × PV)
  | [] => []
  | (t,p) :: l => (t,p.sw x y) :: envSw x y l
def hpSw (x y : Nat) : List (Nat × Blk) → List (Nat × Blk)
  | [] => []
  | (b,p) :: l => (swp x y b,p.sw x y) :: hpSw x y l
def St.sw (x y : Nat) (st : St) : St := ⟨st.n,envSw x y st.env,hpSw x y st.hp,st.nx,st.bs⟩
theorem lk_envSw (x y t : Nat) : ∀ l : List (Nat × PV),lk t (envSw x y l) = (lk t l).map (PV.sw x y)
  | [] => rfl
  | (j,p) :: l => by
    simp only [envSw,lk]
    split
    · rfl
    · exact lk_envSw x y t l
theorem lk_hpSw (x y b : Nat) : ∀ l : List (Nat × Blk),lk b (hpSw x y l) = (lk (swp x y b) l).map (Blk.sw x y)
  | [] => rfl
  | (j,p) :: l => by
    simp only [hpSw,lk]
    by_cases h : b = swp x y j
    · rw [if_pos h,if_pos (by rw [h,swp_swp])]
      rfl
    · rw [if_neg h,if_neg (fun h' => h (by rw [← h',swp_swp]))]
      exact lk_hpSw x y b l
theorem Sim.sw {st : St} (h : Sim C st.n st.E st.H β a w) {x y : Nat} (hx : C.gb ≤ x) (hy : C.gb ≤ y) : Sim C (st.sw x y).n (st.sw x y).E (st.sw x y).H (fun b => β (swp x y b)) a w := by
  have hH : ∀ b blk,(st.sw x y).H b = some blk → ∃ blk0,st.H (swp x y b) = some blk0 ∧ blk0.sw x y = blk := by
    intro b blk hb
    have hb' : lk b (hpSw x y st.hp) = some blk := hb
    rw [lk_hpSw] at hb'
    cases hq : lk (swp x y b) st.hp with
    | none => rw [hq] at hb'; cases hb'
    | some blk0 => rw [hq] at hb'; exact ⟨blk0,hq,by simpa using hb'⟩
  have hfrz : ∀ blk : Blk,(blk.sw x y).frozen = blk.frozen := by intro blk; cases blk <;> rfl
  have hN : ∀ k,NN C (st.sw x y).H (fun b => β (swp x y b)) k → NN C st.H β k := by
    rintro k (hk | ⟨b,blk,ver,u,q1,q2,q3,q4⟩)
    · exact .inl hk
    · obtain ⟨blk0,p1,rfl⟩ := hH b blk q1
      exact .inr ⟨swp x y b,blk0,ver,u,p1,by rw [hfrz] at q2; exact q2,q3,q4⟩
  have hR : ∀ {pv : PV} {v : Value},Rep (NN C st.H β) w β pv v → Rep (NN C (st.sw x y).H (fun b => β (swp x y b))) w (fun b => β (swp x y b)) (pv.sw x y) v := fun hr => (hr.sw x y).fewer hN
  refine ⟨h.nt,h.df,fun t pv ht => ?_,fun b blk hb => ?_,fun b b' z z' hne hb hb' ver u ver' u' k q1 q2 => ?_,fun b ver u k q1 => h.lies (swp x y b) ver u k q1,fun b hb => ?_,h.below,h.nxb,h.bs,fun pv v hg => ?_,h.gr⟩
  · have ht' : lk t (envSw x y st.env) = some pv := ht
    rw [lk_envSw] at ht'
    cases hq : lk t st.env with
    | none => rw [hq] at ht'; cases ht'
    | some p =>
      rw [hq] at ht'
      obtain ⟨q1,q2⟩ := h.env t p hq
      simp only [Option.map_some,Option.some.injEq] at ht'
      subst ht'
      exact ⟨q1,hR q2⟩
  · obtain ⟨blk0,p1,rfl⟩ := hH b blk hb
    have hx := h.blk _ _ p1
    cases blk0 with
    | box T0 cs =>
      obtain ⟨k,cells,p1,p2,p3,p4,p5⟩ := hx
      exact ⟨k,cells,p1,p2,p3,by rw [swL_eq,yBm]; exact p4,fun j pv hj => by obtain ⟨p,hp,rfl⟩ := swL_get hj; exact ⟨hR (p5 j p hp).1,(p5 j p hp).2⟩⟩
    | map es =>
      obtain ⟨k,ents,clock,p1,p2,p3,p4,p5⟩ := hx
      refine ⟨k,ents,clock,p1,p2,p3,by rw [yBm]; exact p4,fun j kv pv hj => ?_⟩
      rw [List.getElem?_map] at hj
      cases hq : es[j]? with
      | none => rw [hq] at hj; cases hj
      | some e0 =>
        rw [hq] at hj
        simp only [Option.map_some,Option.some.injEq,Prod.mk.injEq] at hj
        obtain ⟨rfl,rfl⟩ := hj
        obtain ⟨e,q1,q2,q3⟩ := p5 j e0.1 e0.2 hq
        exact ⟨e,q1,q2,hR q3⟩
    | obj k o => exact hx
    | arr T0 size rows ver f =>
      obtain ⟨u,xs,p1,p2,p3,p4⟩ := hx
      exact ⟨u,xs,p1,p2,p3,fun i r j pv hi hj => ⟨(p4 i r j pv hi hj).1.mono (Keeps.refl _ _) (fun k _ => hN k),(p4 i r j pv hi hj).2⟩⟩
  · obtain ⟨blk0,p1,_⟩ := hH b z hb
    obtain ⟨blk1,p2,_⟩ := hH b' z' hb'
    exact h.sep _ _ _ _ (fun e => hne (swp_inj e)) p1 p2 ver u ver' u' k q1 q2
  · have hb' : lk b (hpSw x y st.hp) = none := hb
    rw [lk_hpSw] at hb'
    exact h.fr _ (by simpa using hb')
  · have hl := sw_low (x := x) (y := y) hx hy (h.gr pv v hg)
    have := hR (h.gh pv v hg)
    rwa [hl] at this
theorem Sim.nilOwn {st : St} (h : Sim C st.n st.E st.H β a w) {p j b e size T0 : Nat} {cs : List PV} (h1 : lk p st.hp = some (.box T0 cs)) (h2 : cs[j]? = some (.lit (.slice none 0 0))) (h3 : lk b st.hp = none) :
    Sim C st.n st.E (hpF ((b,.arr e size [] 0 false) :: (p,.box T0 (cs.set j (.own b 0))) :: st.hp)) (upd β b (0,.slice none 0 0)) a w := by
  have hβb : β b = none := h.fr b h3
  have hpb : p ≠ b := by rintro rfl; rw [h1] at h3; cases h3
  have hHb : ∀ c blk,hpF ((b,.arr e size [] 0 false) :: (p,.box T0 (cs.set j (.own b 0))) :: st.hp) c = some blk → (c = b ∧ blk = .arr e size [] 0 false) ∨ (c ≠ b ∧ c = p ∧ blk = .box T0 (cs.set j (.own b 0))) ∨ (c ≠ b ∧ c ≠ p ∧ st.H c = some blk) := by
    intro c blk hc
    simp only [hpF,lk] at hc
    split at hc
    · rename_i e1; simp only [Option.some.injEq] at hc; exact .inl ⟨e1,hc.symm⟩
    · split at hc
      · rename_i e1 e2; simp only [Option.some.injEq] at hc; exact .inr (.inl ⟨e1,e2,hc.symm⟩)
      · rename_i e1 e2; exact .inr (.inr ⟨e1,e2,hc⟩)
  have hold : ∀ c blk,hpF ((b,.arr e size [] 0 false) :: (p,.box T0 (cs.set j (.own b 0))) :: st.hp) c = some blk → c ≠ b → ∃ blk0,st.H c = some blk0 ∧ blk0.frozen = blk.frozen := by
    intro c blk hc hne
    rcases hHb c blk hc with ⟨q,_⟩ | ⟨_,rfl,rfl⟩ | ⟨_,_,q⟩
    · exact absurd q hne
    · exact ⟨_,h1,rfl⟩
    · exact ⟨_,q,rfl⟩
  have hN : ∀ k,NN C (hpF ((b,.arr e size [] 0 false) :: (p,.box T0 (cs.set j (.own b 0))) :: st.hp)) (upd β b (0,.slice none 0 0)) k → NN C st.H β k := by
    rintro k (hk | ⟨c,blk,ver,u,q1,q2,q3,q4⟩)
    · exact .inl hk
    · by_cases hc : c = b
      · subst hc
        rw [upd_same] at q3
        cases q3
        cases q4
      · rw [upd_other _ _ hc] at q3
        obtain ⟨blk0,p1,p2⟩ := hold c blk q1 hc
        exact .inr ⟨c,blk0,ver,u,p1,by rw [p2]; exact q2,q3,q4⟩
  have hbox : ∀ c u,β c = some (0,.pointer u) → upd β b (0,.slice none 0 0) c = some (0,.pointer u) := by
    intro c u hc
    rw [upd_other _ _ (fun e => by rw [e,hβb] at hc; cases hc)]
    exact hc
  have hR : ∀ {pv : PV} {v : Value},Rep (NN C st.H β) w β pv v → Rep (NN C (hpF ((b,.arr e size [] 0 false) :: (p,.box T0 (cs.set j (.own b 0))) :: st.hp)) (upd β b (0,.slice none 0 0))) w (upd β b (0,.slice none 0 0)) pv v :=
    fun hr => hr.mono (Keeps.refl _ _) (fun k _ => hN k) (Later.upd hβb) hbox
  refine ⟨h.nt,h.df,fun t pv ht => ⟨(h.env t pv ht).1,hR (h.env t pv ht).2⟩,fun c blk hc => ?_,fun c c' z z' hne hc hc' ver u ver' u' k q1 q2 => ?_,fun c ver u k q1 q2 => ?_,fun c hc => ?_,h.below,h.nxb,h.bs,fun pv v hg => hR (h.gh pv v hg),h.gr⟩
  · rcases hHb c blk hc with ⟨rfl,rfl⟩ | ⟨hne,rfl,rfl⟩ | ⟨hne,hne',q⟩
    · exact ⟨.slice none 0 0,[],upd_same _ _ _,World.ownsRow_nil _ _ _ _,by simp,by simp⟩
    · obtain ⟨k,cells,p1,p2,p3,p4,p5⟩ := h.blk _ _ h1
      refine ⟨k,cells,hbox _ _ p1,p2,p3,by rw [List.length_set]; exact p4,fun i pv hi => ?_⟩
      by_cases hij : j = i
      · subst hij
        have hlt := (List.getElem?_eq_some_iff.1 h2).1
        rw [List.getElem?_set_self hlt] at hi
        simp only [Option.some.injEq] at hi
        subst hi
        obtain ⟨q1,q2⟩ := p5 j _ h2
        have hv := q1.lit_eq
        rw [hv] at q2 ⊢
        exact ⟨.own b 0 0 (.slice none 0 0) _ (upd_same _ _ _) (Nat.le_refl _) q2 (fun _ => rfl),q2⟩
      · rw [List.getElem?_set_ne hij] at hi
        exact ⟨hR (p5 i pv hi).1,(p5 i pv hi).2⟩
    · have hx := h.blk _ _ q
      have hb' : ∀ r,β c = some r → upd β b (0,.slice none 0 0) c = some r := fun r hr => by rw [upd_other _ _ hne]; exact hr
      cases blk with
      | box T0 cs =>
        obtain ⟨k,cells,p1,p2,p3,p4,p5⟩ := hx
        exact ⟨k,cells,hb' _ p1,p2,p3,p4,fun j pv hj => ⟨hR (p5 j pv hj).1,(p5 j pv hj).2⟩⟩
      | map es =>
        obtain ⟨k,ents,clock,p1,p2,p3,p4,p5⟩ := hx
        refine ⟨k,ents,clock,hb' _ p1,p2,p3,p4,fun j kv pv hj => ?_⟩
        obtain ⟨e,q1,q2,q3⟩ := p5 j kv pv hj
        exact ⟨e,q1,q2,hR q3⟩
      | obj k o => exact ⟨hb' _ hx.1,hx.2⟩
      | arr T0 size rows ver f =>
        obtain ⟨u,xs,p1,p2,p3,p4⟩ := hx
        exact ⟨u,xs,hb' _ p1,p2,p3,fun i r j pv hi hj => ⟨(p4 i r j pv hi hj).1.mono (Keeps.refl _ _) (fun k _ => hN k),(p4 i r j pv hi hj).2⟩⟩
  · by_cases e1 : c = b
    · subst e1; rw [upd_same] at q1; cases q1; intro hh; cases hh
    · by_cases e2 : c' = b
      · subst e2; rw [upd_same] at q2; cases q2; intro _ hh; cases hh
      · rw [upd_other _ _ e1] at q1
        rw [upd_other _ _ e2] at q2
        obtain ⟨b0,r1,_⟩ := hold c z hc e1
        obtain ⟨b1,r2,_⟩ := hold c' z' hc' e2
        exact h.sep c c' b0 b1 hne r1 r2 ver u ver' u' k q1 q2
  · by_cases e1 : c = b
    · subst e1; rw [upd_same] at q1; cases q1; cases q2
    · rw [upd_other _ _ e1] at q1; exact h.lies c ver u k q1 q2
  · simp only [hpF,lk] at hc
    split at hc
    · cases hc
    · rename_i e1
      split at hc
      · cases hc
      · rw [upd_other _ _ e1]; exact h.fr c hc
inductive WeakS : St → St → Prop
  | weak {st s : St} : Weak st s → WeakS st s
  | look {st s : St} : (st.n = s.n ∧ st.bs = s.bs) → (∀ b,(lk b st.hp).isSome = true → b < st.bs → (lk b s.hp).isSome = true) → (∀ x ∈ s.env,lk x.1 st.env = lk x.1 s.env ∧ refsIn (fun b => (lk b s.hp).isSome) x.2 = true) →
      (∀ b x,lk b s.hp = some x → lk b st.hp = some x ∧ x.refsIn (fun b => (lk b s.hp).isSome) = true) → WeakS st s
  | seq {st s s' : St} : Weak st s → WeakS s s' → WeakS st s'
  | sw {st s : St} (x y : Nat) : st.bs ≤ x → st.bs ≤ y → WeakS (st.sw x y) s → WeakS st s
  | nil {st s : St} (p j b e size T0 : Nat) (cs : List PV) : lk p st.hp = some (.box T0 cs) → cs[j]? = some (.lit (.slice none 0 0)) → lk b st.hp = none →
      WeakS ⟨st.n,st.env,(b,.arr e size [] 0 false) :: (p,.box T0 (cs.set j (.own b 0))) :: st.hp,st.nx,st.bs⟩ s → WeakS st s
theorem Sim.weakS {st s : St} (hw : WeakS st s) : ∀ {β : Ref},Sim C st.n st.E st.H β a w → C.gb ≤ st.bs → (st.n = s.n ∧ st.bs = s.bs) ∧ ∃ β',Sim C s.n s.E s.H β' a w := by
  induction hw with
  | weak hw => exact fun h hgb => ⟨⟨hw.1.1,hw.1.2.1⟩,_,h.weak hgb hw⟩
  | look h1 h2 h3 h4 =>
    intro β h hgb
    have hs := Sim.weakG (E' := fun t => lk t _) (H' := fun b => lk b _) h hgb h2 (fun t pv ht => by obtain ⟨q1,q2⟩ := h3 (t,pv) (lk_mem ht); exact ⟨q1.trans ht,q2⟩) h4
    rw [h1.1] at hs
    exact ⟨h1,_,hs⟩
  | seq hw _ ih =>
    intro β h hgb
    obtain ⟨q,r⟩ := ih (h.weak hgb hw) (by rw [← hw.1.2.1]; exact hgb)
    exact ⟨⟨hw.1.1.trans q.1,hw.1.2.1.trans q.2⟩,r⟩
  | sw x y hx hy _ ih => exact fun h hgb => ih (h.sw (Nat.le_trans hgb hx) (Nat.le_trans hgb hy)) hgb
  | nil p j b e size T0 cs h1 h2 h3 _ ih => exact fun h hgb => ih (h.nilOwn h1 h2 h3) hgb
end
def wpA (P : Program) (T : Tab) : Code → St → Cont → Prop
  | .skip,st,Q => Q .normal st
  | .region _ ops draw,st,Q => match draw with
    | false => wpOpsA P T ops.toList ops.toList st Q
    | true => drawA P T ops st Q
  | .seq x y,st,Q => wpA P T x st (restO Q fun st' => wpA P T y st' Q)
  | .cond c x y,st,Q => match ev st.E c with
    | .lit (.bool t) => (t = true → wpA P T x st Q) ∧ (t = false → wpA P T y st Q)
    | _ => False
  | .block id body,st,Q => wpA P T body st (fun o st' => match o with
    | .normal => Q .normal st'
    | .ret => Q .ret st'
    | .panic v => Q (.panic v) st'
    | .exit i => if i = id then Q .normal st' else Q (.exit i) st')
  | .loop body,st,Q => ∃ R : St → St → Prop,(∀ x y,R x y → WeakS x y) ∧ ∃ I : Nat → St → Prop,(∃ m s,R st s ∧ I m s) ∧ ∀ m s,I m s → wpA P T body s (restO Q fun s' => ∃ m' s'',m' < m ∧ R s' s'' ∧ I m' s'')
  | .exit id,st,Q => Q (.exit id) st
  | .ret,st,Q => Q .ret st
  | .scope body,st,Q => wpA P T body st Q
  | _,_,_ => False
theorem panA_postA {C : Ctx} {st : St} {Q : Cont} : PanA C st Q (postA C st.n st.bs Q) := fun pv st' β' a' w' v h hn hs hr => ⟨.panic pv,st',β',⟨v,rfl,hr⟩,h,hn,hs⟩
theorem wpA_sound {P : Program} {T : Tab} (hT : TabOK P T) (hmix : P.follows .mixedOrders = true) {C : Ctx} : ∀ (c : Code) (st : St) (Q : Cont) (β : Ref) (a : Act) (w : World),codeOK c = true → wpA P T c st Q → C.gb ≤ st.bs → Sim C st.n st.E st.H β a w → c.wp P (postA C st.n st.bs Q) a w
  | .skip,st,Q,β,a,w,hc,h,hgb,hs => wp_skip ⟨.normal,st,β,rfl,h,⟨rfl,rfl⟩,hs⟩
  | .region id ops false,st,Q,β,a,w,hc,h,hgb,hs => by
    refine wp_region ?_
    have := wpOpsA_sound hT (Q := postA C st.n st.bs Q) ops.toList 0 st β a w rfl h hgb hs (fun st' β' a' w' hK hn hs' => ⟨.normal,st',β',rfl,hK,hn,hs'⟩) panA_postA
    rw [List.range_eq_range']
    simpa using this
  | .region id ops true,st,Q,β,a,w,hc,h,hgb,hs => drawA_sound hT hmix hc h hgb hs (fun st' β' a' w' hK hn hs' => ⟨.normal,st',β',rfl,hK,hn,hs'⟩) panA_postA
  | .seq x y,st,Q,β,a,w,hc,h,hgb,hs => by
    simp only [codeOK,Bool.and_eq_true] at hc
    refine wp_seq (wp_mono (wpA_sound hT hmix x st _ β a w hc.1 h hgb hs) ?_)
    rintro e a' w' ⟨o,st',β',hf,hq,hn,hs'⟩
    cases o with
    | normal =>
      cases hf
      have := wpA_sound hT hmix y st' Q β' a' w' hc.2 hq (by rw [hn.2]; exact hgb) hs'
      rw [hn.1,hn.2] at this
      exact this
    | ret => cases hf; exact ⟨.ret,st',β',rfl,hq,hn,hs'⟩
    | exit i => cases hf; exact ⟨.exit i,st',β',rfl,hq,hn,hs'⟩
    | panic pv => obtain ⟨v,rfl,hr⟩ := hf; exact ⟨.panic pv,st',β',⟨v,rfl,hr⟩,hq,hn,hs'⟩
  | .cond c x y,st,Q,β,a,w,hok,h,hgb,hs => by
    simp only [codeOK,Bool.and_eq_true] at hok
    simp only [wpA] at h
    split at h
    · rename_i t hc
      have hr := hs.ev c
      rw [hc] at hr
      exact wp_cond_split hr.lit_eq (fun ht => wpA_sound hT hmix x st Q β a w hok.1 (h.1 ht) hgb hs) (fun ht => wpA_sound hT hmix y st Q β a w hok.2 (h.2 ht) hgb hs)
    · exact h.elim
  | .block id body,st,Q,β,a,w,hc,h,hgb,hs => by
    refine wp_block (wp_mono (wpA_sound hT hmix body st _ β a w hc h hgb hs) ?_)
    rintro e a' w' ⟨o,st',β',hf,hq,hn,hs'⟩
    cases o with
    | normal => cases hf; exact ⟨.normal,st',β',rfl,hq,hn,hs'⟩
    | ret => cases hf; exact ⟨.ret,st',β',rfl,hq,hn,hs'⟩
    | panic pv => obtain ⟨v,rfl,hr⟩ := hf; exact ⟨.panic pv,st',β',⟨v,rfl,hr⟩,hq,hn,hs'⟩
    | exit i =>
      cases hf
      simp only [Exit.inBlock]
      simp only at hq
      split at hq
      · rename_i e
        rw [if_pos e]
        exact ⟨.normal,st',β',rfl,hq,hn,hs'⟩
      · rename_i e
        rw [if_neg e]
        exact ⟨.exit i,st',β',rfl,hq,hn,hs'⟩
  | .loop body,st,Q,β,a,w,hc,h,hgb,hs => by
    obtain ⟨R,hR,I,⟨m,s,hw,hI⟩,hstep⟩ := h
    have key : ∀ m s β a w,I m s → (s.n = st.n ∧ s.bs = st.bs) → Sim C s.n s.E s.H β a w → ∀ b k cs,∃ e a' w',postA C st.n st.bs Q e a' w' ∧ Arrives P (lone (b.at a (.code body :: .inLoop body :: k)) cs w) b k cs e a' w' := by
      intro m
      induction m using Nat.strongRecOn with
      | _ m ih =>
        intro s β a w hI hn hs b k cs
        obtain ⟨e,a1,w1,hp,harr⟩ := wpA_sound hT hmix body s _ β a w hc (hstep m s hI) (by rw [hn.2]; exact hgb) hs b (.inLoop body :: k) cs
        obtain ⟨o,s',β',hf,hq,hn',hs'⟩ := hp
        cases o with
        | normal =>
          cases hf
          obtain ⟨m',s'',hlt,hweak,hI'⟩ := hq
          obtain ⟨hn2,β2,hs2⟩ := Sim.weakS (hR _ _ hweak) hs' (by rw [hn'.2,hn.2]; exact hgb)
          obtain ⟨e2,a2,w2,hp2,harr2⟩ := ih m' hlt s'' β2 a1 w1 hI' ⟨by rw [← hn2.1,hn'.1,hn.1],by rw [← hn2.2,hn'.2,hn.2]⟩ hs2 b k cs
          exact ⟨e2,a2,w2,hp2,.of_steps (Steps.trans harr (.one step_inLoop)) harr2⟩
        | ret => cases hf; exact ⟨.ret,a1,w1,⟨.ret,s',β',rfl,hq,⟨by rw [hn'.1,hn.1],by rw [hn'.2,hn.2]⟩,hs'⟩,.pass (x := .inLoop body) rfl (fun _ _ => .inl (by simp)) harr⟩
        | exit i => cases hf; exact ⟨.exit i,a1,w1,⟨.exit i,s',β',rfl,hq,⟨by rw [hn'.1,hn.1],by rw [hn'.2,hn.2]⟩,hs'⟩,.pass (x := .inLoop body) rfl (fun _ _ => .inl (by simp)) harr⟩
        | panic pv => obtain ⟨v,rfl,hr⟩ := hf; exact ⟨_,a1,w1,⟨.panic pv,s',β',⟨v,rfl,hr⟩,hq,⟨by rw [hn'.1,hn.1],by rw [hn'.2,hn.2]⟩,hs'⟩,.pass (x := .inLoop body) rfl (fun _ _ => .inl (by simp)) harr⟩
    intro b k cs
    obtain ⟨hn2,β2,hs2⟩ := Sim.weakS (hR _ _ hw) hs hgb
    obtain ⟨e,a',w',hp,harr⟩ := key m s β2 a w hI ⟨hn2.1.symm,hn2.2.symm⟩ hs2 b k cs
    exact ⟨e,a',w',hp,.of_steps (.one step_loop) harr⟩
  | .exit id,st,Q,β,a,w,hc,h,hgb,hs => wp_exit ⟨.exit id,st,β,rfl,h,⟨rfl,rfl⟩,hs⟩
  | .ret,st,Q,β,a,w,hc,h,hgb,hs => wp_ret ⟨.ret,st,β,rfl,h,⟨rfl,rfl⟩,hs⟩
  | .scope body,st,Q,β,a,w,hc,h,hgb,hs => by
    refine wp_scope_straight (wp_mono (wpA_sound hT hmix body st Q β a w hc h hgb hs) ?_)
    rintro e a' w' ⟨o,st',β',hf,hq,hn,hs'⟩
    cases o with
    | normal => cases hf; exact ⟨.normal,st',β',rfl,hq,hn,hs'⟩
    | ret => cases hf; exact ⟨.ret,st',β',rfl,hq,hn,hs'⟩
    | exit i => cases hf; exact ⟨.exit i,st',β',rfl,hq,hn,hs'⟩
    | panic pv => obtain ⟨v,rfl,hr⟩ := hf; exact ⟨.panic pv,st',β',⟨v,rfl,hr⟩,hq,hn,hs'⟩
  | .rangeFunc ..,_,_,_,_,_,_,h,_,_ => h.elim
  | .label _,_,_,_,_,_,_,h,_,_ => h.elim
  | .goto _,_,_,_,_,_,_,h,_,_ => h.elim
  | .refuse _,_,_,_,_,_,_,h,_,_ => h.elim
end Go.Pe
namespace Go.Pe
open Go.RowKit
def enumFrom : Nat → List PV → List (Nat × PV)
  | _,[] => []
  | k,x :: l => (k,x) :: enumFrom (k + 1) l
theorem lk_enum : ∀ (l : List PV) (k t : Nat),lk t (enumFrom k l) = if k ≤ t then l[t - k]? else none
  | [],k,t => by simp [enumFrom,lk]
  | x :: l,k,t => by
    simp only [enumFrom,lk]
    rw [lk_enum l (k + 1) t]
    by_cases h1 : t = k
    · subst h1; simp
    · by_cases h2 : k + 1 ≤ t
      · rw [if_neg h1,if_pos h2,if_pos (by omega)]
        obtain ⟨m,rfl⟩ : ∃ m,t = k + 1 + m := ⟨t - (k + 1),by omega⟩
        have e1 : k + 1 + m - (k + 1) = m := by omega
        have e2 : k + 1 + m - k = m + 1 := by omega
        rw [e1,e2]
        rfl
      · rw [if_neg h1,if_neg h2,if_neg (by omega)]
def resOneA (T : Tab) (st : St) : ResultVar → Option (Prop × PV)
  | .tmp t => some (True,(lk t st.env).getD .any)
  | .cell p t => match lk p st.env,T t with
    | some (.ptr b off),some ti => match lk b st.hp with
      | some (.box _ cs) => some (ldOK ti (cs.drop off),ld ti (cs.drop off))
      | _ => none
    | _,_ => none
def resListA (T : Tab) (st : St) : List ResultVar → Option (Prop × List PV)
  | [] => some (True,[])
  | x :: l => match resOneA T st x,resListA T st l with
    | some (ok,r),some (ok',rs) => some (ok ∧ ok',r :: rs)
    | _,_ => none
def resRun (tmps : Array Value) : ResultVar → Sem Value
  | .tmp t => pure (tmps.getD t undef)
  | .cell p t => do loadVar t (← asAddr (tmps.getD p undef))
def oneOf : List PV → PV
  | [r] => r
  | rs => .tup rs
section
variable {P : Program} {T : Tab} {C : Ctx} {β : Ref} {a : Act} {w : World}
theorem resOne_sound (hT : TabOK P T) {st : St} (hs : Sim C st.n st.E st.H β a w) {x : ResultVar} {ok : Prop} {r : PV} (h : resOneA T st x = some (ok,r)) (hok : ok) :
    ∃ v,(resRun a.tmps x).run P w = .ok v w ∧ Rep (NN C st.H β) w β r v := by
  cases x with
  | tmp t =>
    simp only [resOneA,Option.some.injEq,Prod.mk.injEq] at h
    obtain ⟨_,rfl⟩ := h
    exact ⟨a.tmps.getD t undef,rfl,hs.ev (.tmp t)⟩
  | cell p t =>
    simp only [resOneA] at h
    split at h
    · rename_i b off ti hp hti
      split at h
      · rename_i T0 cs hH
        simp only [Option.some.injEq,Prod.mk.injEq] at h
        obtain ⟨rfl,rfl⟩ := h
        obtain ⟨k,hk,hβ⟩ := (hs.env p _ hp).2.ptr_eq
        obtain ⟨k',cells,q1,q2,q3,q4,q5⟩ := hs.blk b _ hH
        rw [hβ] at q1
        cases q1
        obtain ⟨v,v1,v2⟩ := load_run (P := P) (hT t ti hti) (ad := ⟨k,off,none⟩) (w := w) (β := β) (N := NN C st.H β) hok (fun j => cells.getD (off + j) undef) (fun j pv hj => by
            rw [List.getElem?_drop] at hj
            refine ⟨?_,(q5 _ _ hj).1⟩
            have hlt : off + j < cells.size := by rw [q4]; exact (List.getElem?_eq_some_iff.1 hj).1
            rw [Addr.add_lit,cell_of_row w k (off + j) cells T0 (0,0) q3]
            simp [Array.getD,hlt])
        exact ⟨v,by simp only [resRun,hk,asAddr,Sem.run_bind,Sem.run_pure,Result.andThen_ok,v1],v2⟩
      · cases h
    · cases h
theorem resList_sound (hT : TabOK P T) {st : St} (hs : Sim C st.n st.E st.H β a w) : ∀ {l : List ResultVar} {ok : Prop} {rs : List PV},resListA T st l = some (ok,rs) → ok →
    ∃ vs : List Value,(l.mapM (resRun a.tmps)).run P w = .ok vs w ∧ vs.length = rs.length ∧
      ∀ i pv,rs[i]? = some pv → Rep (NN C st.H β) w β pv (vs.getD i undef)
  | [],ok,rs,h,hok => by
    simp only [resListA,Option.some.injEq,Prod.mk.injEq] at h
    obtain ⟨_,rfl⟩ := h
    exact ⟨[],by simp,rfl,by simp⟩
  | x :: l,ok,rs,h,hok => by
    simp only [resListA] at h
    split at h
    · rename_i ok1 r ok2 rs' h1 h2
      simp only [Option.some.injEq,Prod.mk.injEq] at h
      obtain ⟨rfl,rfl⟩ := h
      obtain ⟨v,v1,v2⟩ := resOne_sound hT hs h1 hok.1
      obtain ⟨vs,u1,u2,u3⟩ := resList_sound hT hs h2 hok.2
      refine ⟨v :: vs,?_,by simp [u2],fun i pv hi => ?_⟩
      · rw [List.mapM_cons,Sem.run_bind,v1,Result.andThen_ok,Sem.run_bind,u1]
        rfl
      · cases i with
        | zero => cases hi; exact v2
        | succ i => exact u3 i pv (by simpa using hi)
    · cases h
theorem results_sound (hT : TabOK P T) {st : St} (hs : Sim C st.n st.E st.H β a w) {fn : Func} {ok : Prop} {rs : List PV} (h : resListA T st fn.results.toList = some (ok,rs)) (hok : ok) :
    ∃ v,(results fn a.tmps).run P w = .ok v w ∧ Rep (NN C st.H β) w β (oneOf rs) v := by
  obtain ⟨vs,u1,u2,u3⟩ := resList_sound hT hs h hok
  have hm : (fn.results.mapM (resRun a.tmps)).run P w = .ok vs.toArray w := by
    have e : fn.results = fn.results.toList.toArray := by simp
    rw [e,List.mapM_toArray]
    simp only [Sem.run_map,u1,Result.andThen_ok]
  have hres : results fn a.tmps = (do let vs ← fn.results.mapM (resRun a.tmps); pure (if h : vs.size = 1 then vs[0] else .tuple vs)) := by
    unfold results
    congr 1
  rw [hres,Sem.run_bind,hm,Result.andThen_ok]
  refine ⟨_,rfl,?_⟩
  match rs,u2,u3 with
  | [],u2,u3 =>
    have : vs = [] := List.eq_nil_of_length_eq_zero u2
    subst this
    exact .tup _ _ rfl (by simp)
  | [r],u2,u3 =>
    obtain ⟨v,rfl⟩ : ∃ v,vs = [v] := List.length_eq_one_iff.1 u2
    exact u3 0 r rfl
  | r1 :: r2 :: rs,u2,u3 =>
    have hne : ¬ vs.toArray.size = 1 := by simp; simp at u2; omega
    rw [dif_neg hne]
    exact .tup _ _ (by simpa using u2) (fun i pv hi => by simpa [Array.getD_eq_getD_getElem?,List.getD_eq_getElem?_getD] using u3 i pv hi)
end
def bodyA (T : Tab) (fn : Func) (K KP : CK) : Cont
  | .exit _,_ => False
  | .panic v,st => KP v st.hp st.nx
  | _,st => match resListA T st fn.results.toList with
    | some (ok,rs) => ok ∧ K (oneOf rs) st.hp st.nx
    | none => False
theorem enter_sim {C : Ctx} {hp : List (Nat × Blk)} {β : Ref} {w : World} {vs : Array Value} {args : List PV} {n nx : Nat} (hd : C.df = []) (hs : SimH C (hpF hp) β w) (hl : vs.size = args.length) (hn : args.length ≤ n)
    (hv : ∀ i pv,args[i]? = some pv → Rep (NN C (hpF hp) β) w β pv (vs.getD i undef)) :
    Sim C n (fun t => lk t (enumFrom 0 args)) (hpF hp) β { tmps := vs ++ Array.replicate (n - vs.size) undef,defers := [] } w := by
  refine ⟨by simp; omega,hd.symm,fun t pv ht => ?_,hs.blk,hs.sep,hs.lies,hs.fr,hs.below,hs.nxb,hs.bs,hs.gh,hs.gr⟩
  rw [lk_enum] at ht
  simp only [Nat.zero_le,if_true,Nat.sub_zero] at ht
  have hlt := (List.getElem?_eq_some_iff.1 ht).1
  refine ⟨by omega,?_⟩
  have e : (vs ++ Array.replicate (n - vs.size) undef).getD t undef = vs.getD t undef := by
    simp only [Array.getD_eq_getD_getElem?]
    rw [Array.getElem?_append_left (by omega)]
  rw [e]
  exact hv t pv ht
theorem CallA.into {P : Program} {T : Tab} (hT : TabOK P T) (hmix : P.follows .mixedOrders = true) {f : FuncId} {fn : Func} {c : Code} (hf : P.funcs[f]? = some fn) (hb : fn.body = some c) (hnm : (fn.name == "runtime.NumGoroutine") = false) (hok : codeOK c = true)
    {args : List PV} {hp : List (Nat × Blk)} {nx : Nat} {K KP : CK} (hn : args.length ≤ fn.ntmps)
    (h : wpA P T c ⟨fn.ntmps,enumFrom 0 args,hp,nx,nx⟩ (bodyA T fn K KP)) : CallA P f args hp nx K KP := by
  refine ⟨⟨fn,hf,hnm,by rw [hb]; rfl⟩,fun C β w vs hgb hs hl hv => ?_⟩
  have hs0 : SimH { C with df := [] } (hpF hp) β w := hs.rdf []
  refine calls_of_wp hf hb (wp_mono (wpA_sound hT hmix (C := { C with df := [] }) c _ _ β _ w hok h hgb (enter_sim (nx := nx) rfl hs0 hl hn hv)) ?_)
  rintro e a' w' ⟨o,st',β',hfit,hq,hn',hs'⟩
  have key : ∀ {o : Out},(o = .normal ∨ o = .ret) → bodyA T fn K KP o st' → a'.defers = [] ∧ ∃ v,(results fn a'.tmps).run P w' = .ok v w' ∧ ∃ v_1 r hp' nx' β',((Ending.returned v = .returned v_1 ∧ K r hp' nx') ∨ (Ending.returned v = .panicked [{ v := v_1,recovered := false }] ∧ KP r hp' nx')) ∧ SimH C (hpF hp') β' w' ∧ Rep (NN C (hpF hp') β') w' β' r v_1 := by
    intro o ho hq
    have hq' : match resListA T st' fn.results.toList with
      | some (ok,rs) => ok ∧ K (oneOf rs) st'.hp st'.nx
      | none => False := by rcases ho with rfl | rfl <;> exact hq
    split at hq'
    · rename_i ok rs hres
      obtain ⟨v,v1,v2⟩ := results_sound hT hs' hres hq'.1
      exact ⟨hs'.df,v,v1,v,_,_,_,β',.inl ⟨rfl,hq'.2⟩,hs'.heap.rdf C.df,v2⟩
    · exact hq'.elim
  cases o with
  | normal => cases hfit; exact key (.inl rfl) hq
  | ret => cases hfit; exact key (.inr rfl) hq
  | exit i => exact hq.elim
  | panic pv =>
    obtain ⟨v,rfl,hr⟩ := hfit
    exact ⟨hs'.df,v,pv,_,_,β',.inr ⟨rfl,hq⟩,hs'.heap.rdf C.df,hr⟩
theorem FrzR_data {C : Ctx} {H : Heap} {β : Ref} {w : World} (hs : SimH C H β w) {pv q : PV} {v : Value} (hr : Rep (NN C H β) w β pv v) (hq : FrzR H pv q) : IRep C.nx w q v := by
  have hf := Frz.all (frzD H pv) H (frzD_list H pv) ⟨hs,fun _ h => h,fun _ _ h => .inl h,fun _ h => h⟩
  exact (hf.data hr q hq (fun e he => applyEff_mem _ _ _ (frzD_list H pv) he)).mono (Keeps.refl _ _) (fun k _ hk => .inl hk)
theorem PureCalls.of {P : Program} {T : Tab} (hT : TabOK P T) (hmix : P.follows .mixedOrders = true) {f : FuncId} {fn : Func} {c : Code} (hf : P.funcs[f]? = some fn) (hb : fn.body = some c) (hnm : (fn.name == "runtime.NumGoroutine") = false) (hok : codeOK c = true)
    {args : List PV} {r : PV} (hn : args.length ≤ fn.ntmps) (h : wpA P T c ⟨fn.ntmps,enumFrom 0 args,[],0,0⟩ (bodyA T fn (fun rv hp _ => FrzR (hpF hp) rv r) noP)) : PureCalls P f args r := by
  refine ⟨⟨fn,hf,hnm,by rw [hb]; rfl⟩,fun N w vs hN hl hv => ?_⟩
  have hs0 : SimH ⟨N,w.heap.size,w,fun _ _ => False,0,[]⟩ (hpF []) (fun _ => none) w := by
    refine ⟨rfl,rfl,fun t pv ht => by simp at ht,fun b x hx => by simp [hpF,lk] at hx,fun b b' x x' _ hx => by simp [hpF,lk] at hx,fun b ver u k hb => by simp at hb,fun _ _ => rfl,Below.refl _ _,hN,Nat.le_refl _,fun _ _ h => h.elim,fun _ _ h => h.elim⟩
  have hNN : ∀ k,NN ⟨N,w.heap.size,w,fun _ _ => False,0,[]⟩ (hpF []) (fun _ => none) k → N k := by
    rintro k (hk | ⟨b,x,ver,u,q1,_⟩)
    · exact hk
    · simp [hpF,lk] at q1
  refine ((CallA.into hT hmix hf hb hnm hok (hp := []) (nx := 0) hn h).2 ⟨N,w.heap.size,w,fun _ _ => False,0,[]⟩ (fun _ => none) w vs (Nat.le_refl _) hs0 hl (fun i pv hi => .i ((hv i pv hi).mono (Keeps.refl _ _) (fun k _ hk => hNN k hk)))).mono ?_
  rintro e w' ⟨v,rv,hp',nx',β',⟨rfl,hK⟩ | ⟨_,hK⟩,hs',hr⟩
  · exact ⟨v,rfl,FrzR_data hs' hr hK,hs'.below⟩
  · exact hK.elim
end Go.Pe
namespace Go.Pe
open Go.RowKit
def mkZ : List (Option Nat) → List Value → List PV
  | some s :: ch,.slice none 0 0 :: vs => .im s [] :: mkZ ch vs
  | _ :: ch,v :: vs => .lit v :: mkZ ch vs
  | _,_ => []
theorem mkZ_rep : ∀ (ch : List (Option Nat)) (vs : List Value),ch.length = vs.length → ZRep (mkZ ch vs) vs
  | [],[],_ => ⟨rfl,by simp [mkZ]⟩
  | [],_ :: _,h => by simp at h
  | _ :: _,[],h => by simp at h
  | c :: ch,v :: vs,h => by
    obtain ⟨q1,q2⟩ := mkZ_rep ch vs (by simpa using h)
    have step : ∀ x,(x = .lit v ∨ ((∃ s,x = .im s []) ∧ v = .slice none 0 0)) → ZRep (x :: mkZ ch vs) (v :: vs) := by
      intro x hx
      refine ⟨by simp [q1],fun j y hj => ?_⟩
      cases j with
      | zero => cases hj; exact hx
      | succ j => exact q2 j y (by simpa using hj)
    unfold mkZ
    split
    · rename_i h1 h2
      cases h1
      cases h2
      exact step _ (.inr ⟨⟨_,rfl⟩,rfl⟩)
    · rename_i h1 h2
      cases h1
      cases h2
      exact step _ (.inl rfl)
    · rename_i h1 h2
      exact absurd rfl (h2 c ch v vs rfl)
theorem TypeOK.of {P : Program} {t : TypeId} {ti : TI} {d : TypeDesc} {size bytes : Nat} {z : Value} (hd : P.underlying t = some d) (hi : (P.info? t).map (fun i => (i.size,i.bytes,i.zero)) = some (size,bytes,some z)) (hf : ti.desc.fits d) (ha : isAggD d = ti.agg)
    (hs : size = ti.size) (hb : bytes = ti.bytes) (hz : z.cells.toList = ti.zero) (hl : ti.zero.length = ti.size) (h1 : ti.zero.all (·.oneCell') = true) (ch : List (Option Nat)) (hch : ch.length = ti.zero.length) (hzp : ti.zpv = mkZ ch ti.zero) (hc : ti.flat = false ∨ flatOK P t ti.size = true) : TypeOK P t ti := by
  cases hq : P.info? t with
  | none => rw [hq] at hi; cases hi
  | some i =>
    rw [hq] at hi
    simp only [Option.map_some,Option.some.injEq,Prod.mk.injEq] at hi
    obtain ⟨i1,i2,i3⟩ := hi
    exact ⟨⟨d,hd,hf,ha⟩,⟨i,z,hq,i1.trans hs,i2.trans hb,i3,hz,hl,List.all_eq_true.1 h1⟩,by rw [hzp]; exact mkZ_rep ch _ hch,fun hf => hc.resolve_left (by rw [hf]; decide)⟩
end Go.Pe
