import Derived.Test.YtcdmhigmgpflbaaGreatPe20
import Derived.Defers
import Derived.Recover
set_option linter.unusedVariables false
set_option linter.unusedSimpArgs false
open List renaming map_cons → yBi
namespace Go.Pe
open Go.RowKit
theorem envSw_same {p q : Nat} : ∀ (l : List (Nat × PV)),(∀ x ∈ l,x.2.sw p q = x.2) → envSw p q l = l
  | [],_ => rfl
  | (t,v) :: l,h => by
    rw [envSw,envSw_same l (fun x hx => h x (List.mem_cons_of_mem _ hx)),h (t,v) List.mem_cons_self]
theorem own_renamed {n k b c v T s nx nx' bs : Nat} {rows : List (List PV)} {f : Bool} {rest : List (Nat × PV)} (hr : ∀ x ∈ rest,x.2.sw b c = x.2 ∧ refsIn (fun _ => false) x.2 = true) (h1 : bs ≤ b) (h2 : bs ≤ c) (hk : ∀ x ∈ rest,x.1 ≠ k) :
    WeakS ⟨n,(k,.own b v) :: rest,[(b,.arr T s rows v f)],nx,bs⟩ ⟨n,(k,.own c v) :: rest,[(c,.arr T s rows v f)],nx',bs⟩ := by
  refine .sw b c h1 h2 (.weak ?_)
  have e : St.sw b c ⟨n,(k,.own b v) :: rest,[(b,.arr T s rows v f)],nx,bs⟩ = ⟨n,(k,.own c v) :: rest,[(c,.arr T s rows v f)],nx,bs⟩ := by
    simp [St.sw,envSw,hpSw,PV.sw,Blk.sw,swp,envSw_same rest (fun x hx => (hr x hx).1)]
  rw [e]
  refine ⟨⟨rfl,rfl,fun x hx hlt => ?_⟩,fun x hx => ⟨rfl,?_⟩,fun x hx => ⟨rfl,?_⟩⟩
  · simp only [List.mem_singleton] at hx
    subst hx
    have : c < bs := hlt
    omega
  · rcases List.mem_cons.1 hx with rfl | hx
    · simp [refsIn,lk]
    · have := (hr x hx).2
      exact refsIn_both this this (fun b hb _ => by cases hb)
  · simp only [List.mem_singleton] at hx
    subst hx
    rfl
end Go.Pe
namespace Go.Pe
open Go.RowKit
def TidyK (pv : PV) (eff : List (Nat × Blk)) (hp : List (Nat × Blk)) (nx : Nat) : CK := fun r hp' _ =>
  FrzR (hpF hp') r pv ∧ (∀ b,b < nx → lk b hp' = applyEff (hpF hp) eff b) ∧ ∀ e ∈ frzD (hpF hp') r,nx ≤ e.1
def TidyP (pv : PV) (eff : List (Nat × Blk)) (hp : List (Nat × Blk)) (nx : Nat) : CK := fun r hp' _ => r = pv ∧ ∀ b,b < nx → lk b hp' = applyEff (hpF hp) eff b
def EffOK (args : List PV) (H0 : Heap) (eff : List (Nat × Blk)) : Prop := ∀ e ∈ eff,e.1 ∈ footL args ∧ (H0 e.1).isSome = true ∧ e.2.refsIn (fun _ => false) = true
theorem lk_lt {α : Type} {hp : List (Nat × α)} {nx b : Nat} {x : α} (hx : ∀ x ∈ hp,x.1 < nx) (h : lk b hp = some x) : b < nx := hx (b,x) (lk_mem h)
theorem refsIn_up {p q : Nat → Bool} {x : PV} (h : refsIn p x = true) (hpq : ∀ b,p b = true → q b = true) : refsIn q x = true := refsIn_both h h (fun b h1 _ => hpq b h1)
theorem refsInL_up {p q : Nat → Bool} {x : List PV} (h : refsInL p x = true) (hpq : ∀ b,p b = true → q b = true) : refsInL q x = true := refsInL_both h h (fun b h1 _ => hpq b h1)
theorem Blk.refs_up {p q : Nat → Bool} {x : Blk} (h : x.refsIn p = true) (hpq : ∀ b,p b = true → q b = true) : x.refsIn q = true := by
  cases x with
  | box T cs => exact refsInL_up h hpq
  | map es => exact refsInL_up h hpq
  | obj k o => rfl
  | arr => rfl
theorem applyEff_cases : ∀ (l : List (Nat × Blk)) (H : Heap) (b : Nat),applyEff H l b = H b ∨ ∃ e ∈ l,e.1 = b ∧ applyEff H l b = some e.2
  | [],H,b => .inl rfl
  | x :: l,H,b => by
    rcases applyEff_cases l (upd H x.1 x.2) b with h | ⟨e,he,h1,h2⟩
    · by_cases hb : b = x.1
      · subst hb
        exact .inr ⟨x,List.mem_cons_self,rfl,h.trans (upd_same _ _ _)⟩
      · exact .inl (h.trans (upd_other _ _ hb))
    · exact .inr ⟨e,List.mem_cons_of_mem _ he,h1,h2⟩
theorem applyEff_some {l : List (Nat × Blk)} {H : Heap} {b : Nat} (h : (H b).isSome = true) : (applyEff H l b).isSome = true := by
  rcases applyEff_cases l H b with h1 | ⟨e,_,_,h1⟩
  · rw [h1]; exact h
  · rw [h1]; rfl
section
variable {P : Program} {C : Ctx} {β β' : Ref} {w w' : World}
theorem Sim.tidy {args : List PV} {H0 : Heap} {hp : List (Nat × Blk)} {nx : Nat} {eff : List (Nat × Blk)} {Hf : Heap} (hs : SimH C (hpF hp) β w) (hx : ∀ x ∈ hp,x.1 < nx) (hgb : C.gb ≤ nx) (heff : EffOK args H0 eff) (hH : ∀ b ∈ footL args,lk b hp = H0 b)
    (hf : SimH C Hf β' w') (hsame : ∀ b,b < nx → Hf b = applyEff (hpF hp) eff b) : SimH C (applyEff (hpF hp) eff) (restrict (fun b => (applyEff (hpF hp) eff b).isSome) β') w' := by
  have hlt : ∀ b x,applyEff (hpF hp) eff b = some x → b < nx := by
    intro b x hb
    rcases applyEff_cases eff (hpF hp) b with h | ⟨e,he,rfl,h⟩
    · rw [h] at hb; exact lk_lt hx hb
    · obtain ⟨q1,q2,_⟩ := heff e he
      obtain ⟨y,hy⟩ := Option.isSome_iff_exists.1 q2
      exact lk_lt hx ((hH _ q1).trans hy)
  refine hf.weakG (bs := nx) hgb (fun b hb hlt => ?_) (fun t pv ht => by cases ht) (fun b x hb => ⟨(hsame b (hlt b x hb)).trans hb,?_⟩)
  · rw [← hsame b hlt]; exact hb
  · rcases applyEff_cases eff (hpF hp) b with h | ⟨e,he,rfl,h⟩
    · rw [h] at hb
      exact Blk.refs_up (hs.blk_refs hb) (fun c hc => applyEff_some hc)
    · rw [h] at hb
      cases hb
      exact Blk.refs_up (heff e he).2.2 (fun c hc => by cases hc)
theorem NN_restrict {H : Heap} {ok : Nat → Bool} {H' : Heap} (hsub : ∀ b x,H' b = some x → H b = some x) : ∀ k,NN C H' (restrict ok β) k → NN C H β k := by
  rintro k (hk | ⟨b,x,ver,u,q1,q2,q3,q4⟩)
  · exact .inl hk
  · refine .inr ⟨b,x,ver,u,hsub b x q1,q2,?_,q4⟩
    unfold restrict at q3
    split at q3
    · exact q3
    · cases q3
theorem frzD_keys {H : Heap} {r : PV} {nx : Nat} (h : ∀ e ∈ frzD H r,nx ≤ e.1) {b : Nat} (hb : b < nx) (H' : Heap) : applyEff H' (frzD H r) b = H' b := by
  rcases applyEff_cases (frzD H r) H' b with h1 | ⟨e,he,rfl,h1⟩
  · exact h1
  · have := h e he; omega
theorem EffCalls.ofT {g : FuncId} {args : List PV} {H0 : Heap} {pv : PV} {eff : List (Nat × Blk)} (hc : Callable P g) (heff : EffOK args H0 eff)
    (h : ∀ hp nx,(∀ b ∈ footL args,lk b hp = H0 b) → (∀ x ∈ hp,x.1 < nx) → CallA P g args hp nx (TidyK pv eff hp nx) noP) : EffCalls P g args H0 pv eff := by
  refine ⟨hc,fun C β w vs H hfin hH hs hl hv => ?_⟩
  obtain ⟨hp,rfl⟩ := hfin
  obtain ⟨nx,hgb,hx⟩ := FinH.bound (C := C) (hp := hp)
  refine ((h hp nx hH hx).2 C β w vs hgb hs hl hv).mono ?_
  rintro e w' ⟨v,r,hp',nx',β',he,hs',hr⟩
  rcases he with ⟨rfl,hfr,hK,hfz⟩ | ⟨_,hK⟩
  · have hall := Frz.all (frzD (hpF hp') r) (hpF hp') (frzD_list _ r) ⟨hs',fun _ h => h,fun _ _ h => .inl h,fun _ h => h⟩
    have hI := hall.data hr pv hfr (fun e he => applyEff_mem _ _ _ (frzD_list _ r) he)
    have hsame : ∀ b,b < nx → applyEff (hpF hp') (frzD (hpF hp') r) b = applyEff (hpF hp) eff b := fun b hb => (frzD_keys hfz hb _).trans (hK b hb)
    have ht := Sim.tidy hs hx hgb heff hH hall.sim hsame
    refine ⟨v,_,rfl,ht,.i (hI.mono (Keeps.refl _ _) (fun k _ hk => NN_restrict (fun b x hb => ?_) k hk))⟩
    have hlt : b < nx := by
      rcases applyEff_cases eff (hpF hp) b with h | ⟨e,he,rfl,h⟩
      · rw [h] at hb; exact lk_lt hx hb
      · obtain ⟨q1,q2,_⟩ := heff e he
        obtain ⟨y,hy⟩ := Option.isSome_iff_exists.1 q2
        exact lk_lt hx ((hH _ q1).trans hy)
    exact (hsame b hlt).trans hb
  · exact hK.elim
theorem PanCalls.ofT {g : FuncId} {args : List PV} {H0 : Heap} {pv : PV} {eff : List (Nat × Blk)} (hc : Callable P g) (heff : EffOK args H0 eff) (hpv : refsIn (fun _ => false) pv = true)
    (h : ∀ hp nx,(∀ b ∈ footL args,lk b hp = H0 b) → (∀ x ∈ hp,x.1 < nx) → CallA P g args hp nx noP (TidyP pv eff hp nx)) : PanCalls P g args H0 pv eff := by
  refine ⟨hc,fun C β w vs H hfin hH hs hl hv => ?_⟩
  obtain ⟨hp,rfl⟩ := hfin
  obtain ⟨nx,hgb,hx⟩ := FinH.bound (C := C) (hp := hp)
  refine ((h hp nx hH hx).2 C β w vs hgb hs hl hv).mono ?_
  rintro e w' ⟨v,r,hp',nx',β',he,hs',hr⟩
  rcases he with ⟨_,hK⟩ | ⟨rfl,rfl,hK⟩
  · exact hK.elim
  · have ht := Sim.tidy hs hx hgb heff hH hs' hK
    refine ⟨v,_,rfl,ht,(hr.fewer (fun k hk => NN_restrict (fun b x hb => ?_) k hk)).restrict (refsIn_up hpv (fun b hb => by cases hb))⟩
    have hlt : b < nx := by
      rcases applyEff_cases eff (hpF hp) b with h | ⟨e,he,rfl,h⟩
      · rw [h] at hb; exact lk_lt hx hb
      · obtain ⟨q1,q2,_⟩ := heff e he
        obtain ⟨y,hy⟩ := Option.isSome_iff_exists.1 q2
        exact lk_lt hx ((hH _ q1).trans hy)
    exact (hK b hlt).trans hb
end
section
variable {P : Program} {C : Ctx} {β β' : Ref} {w w' : World}
theorem CallA.tidy {g : FuncId} {args : List PV} {hp : List (Nat × Blk)} {nx : Nat} {K KP : CK} {pv : PV} (h : (∀ b x,lk b hp = some x → x.refsIn (fun b => (lk b hp).isSome) = true) → CallA P g args hp nx (TidyK pv [] hp nx) noP) (hc : Callable P g) (hx : ∀ x ∈ hp,x.1 < nx) (hK : K pv hp nx) : CallA P g args hp nx K KP := by
  refine ⟨hc,fun C β w vs hgb hs hl hv => ?_⟩
  refine ((h (fun b x hb => hs.blk_refs hb)).2 C β w vs hgb hs hl hv).mono ?_
  rintro e w' ⟨v,r,hp',nx',β',he,hs',hr⟩
  rcases he with ⟨rfl,hfr,hKt,hfz⟩ | ⟨_,hK⟩
  · have hall := Frz.all (frzD (hpF hp') r) (hpF hp') (frzD_list _ r) ⟨hs',fun _ h => h,fun _ _ h => .inl h,fun _ h => h⟩
    have hI := hall.data hr pv hfr (fun e he => applyEff_mem _ _ _ (frzD_list _ r) he)
    have hsame : ∀ b,b < nx → applyEff (hpF hp') (frzD (hpF hp') r) b = applyEff (hpF hp) [] b := fun b hb => (frzD_keys hfz hb _).trans (hKt b hb)
    have ht := Sim.tidy (args := []) (H0 := fun _ => none) (eff := []) hs hx hgb (fun e he => by cases he) (fun b hb => by cases hb) hall.sim hsame
    refine ⟨v,pv,hp,nx,_,.inl ⟨rfl,hK⟩,ht,.i (hI.mono (Keeps.refl _ _) (fun k _ hk => NN_restrict (fun b x hb => ?_) k hk))⟩
    exact (hsame b (lk_lt hx hb)).trans hb
  · exact hK.elim
theorem CallA.tidyP {g : FuncId} {args : List PV} {hp : List (Nat × Blk)} {nx : Nat} {K KP : CK} {pv : PV} (h : (∀ b x,lk b hp = some x → x.refsIn (fun b => (lk b hp).isSome) = true) → CallA P g args hp nx noP (TidyP pv [] hp nx)) (hc : Callable P g) (hpv : refsIn (fun _ => false) pv = true) (hx : ∀ x ∈ hp,x.1 < nx) (hK : KP pv hp nx) : CallA P g args hp nx K KP := by
  refine ⟨hc,fun C β w vs hgb hs hl hv => ?_⟩
  refine ((h (fun b x hb => hs.blk_refs hb)).2 C β w vs hgb hs hl hv).mono ?_
  rintro e w' ⟨v,r,hp',nx',β',he,hs',hr⟩
  rcases he with ⟨_,hK⟩ | ⟨rfl,rfl,hKt⟩
  · exact hK.elim
  · have ht := Sim.tidy (args := []) (H0 := fun _ => none) (eff := []) hs hx hgb (fun e he => by cases he) (fun b hb => by cases hb) hs' hKt
    refine ⟨v,r,hp,nx,_,.inr ⟨rfl,hK⟩,ht,(hr.fewer (fun k hk => NN_restrict (fun b x hb => ?_) k hk)).restrict (refsIn_up hpv (fun b hb => by cases hb))⟩
    exact (hKt b (lk_lt hx hb)).trans hb
theorem Sim.rebox {n : Nat} {E : Env} {H : Heap} {a : Act} (h : Sim C n E H β a w) {b T : Nat} {cs ds : List PV} (hb : H b = some (.box T cs)) (hl : ds.length = cs.length)
    (hd : ∀ (cells : Array Value) (j : Nat) x y,cs[j]? = some x → ds[j]? = some y → Rep (NN C H β) w β x (cells.getD j undef) → Rep (NN C H β) w β y (cells.getD j undef)) : Sim C n E (upd H b (.box T ds)) β a w := by
  have hN : NN C (upd H b (.box T ds)) β = NN C H β := by
    funext k
    apply propext
    constructor
    · rintro (hk | ⟨c,x,ver,u,q1,q2,q3,q4⟩)
      · exact .inl hk
      · by_cases e : c = b
        · subst e; rw [upd_same] at q1; cases q1; exact .inr ⟨c,_,ver,u,hb,rfl,q3,q4⟩
        · rw [upd_other _ _ e] at q1; exact .inr ⟨c,x,ver,u,q1,q2,q3,q4⟩
    · rintro (hk | ⟨c,x,ver,u,q1,q2,q3,q4⟩)
      · exact .inl hk
      · by_cases e : c = b
        · subst e; rw [hb] at q1; cases q1; exact .inr ⟨c,_,ver,u,upd_same _ _ _,rfl,q3,q4⟩
        · exact .inr ⟨c,x,ver,u,by rw [upd_other _ _ e]; exact q1,q2,q3,q4⟩
  have hold : ∀ c x,upd H b (.box T ds) c = some x → ∃ x0,H c = some x0 := by
    intro c x hx
    by_cases e : c = b
    · subst e; exact ⟨_,hb⟩
    · rw [upd_other _ _ e] at hx; exact ⟨_,hx⟩
  refine ⟨h.nt,h.df,by rw [hN]; exact h.env,fun c x hx => ?_,fun c c' x x' hne hx hx' => ?_,h.lies,fun c hc => ?_,h.below,h.nxb,h.bs,by rw [hN]; exact h.gh,h.gr⟩
  · rw [hN]
    by_cases e : c = b
    · subst e
      rw [upd_same] at hx
      cases hx
      obtain ⟨k,cells,p1,p2,p3,p4,p5⟩ := h.blk c _ hb
      refine ⟨k,cells,p1,p2,p3,by rw [hl]; exact p4,fun j y hj => ?_⟩
      have hlt : j < cs.length := by rw [← hl]; exact (List.getElem?_eq_some_iff.1 hj).1
      have hc := List.getElem?_eq_getElem hlt
      obtain ⟨r1,r2⟩ := p5 j _ hc
      exact ⟨hd cells j _ y hc hj r1,r2⟩
    · rw [upd_other _ _ e] at hx
      exact h.blk c x hx
  · obtain ⟨x0,h0⟩ := hold c x hx
    obtain ⟨x1,h1⟩ := hold c' x' hx'
    exact h.sep c c' x0 x1 hne h0 h1
  · by_cases e : c = b
    · subst e; rw [upd_same] at hc; cases hc
    · rw [upd_other _ _ e] at hc; exact h.fr c hc
def flatC : PV → Bool
  | .lit _ => true
  | .im _ _ => true
  | .own _ _ => true
  | _ => false
def TidyB (pv : PV) (b0 T : Nat) (ds : List PV) (hp : List (Nat × Blk)) (nx : Nat) : CK := fun r hp' _ =>
  (FrzR (hpF hp') r pv ∧ frzD (hpF hp') r = []) ∧ (∀ b,b < nx → b ≠ b0 → lk b hp' = lk b hp) ∧ ∃ cs,lk b0 hp' = some (.box T cs) ∧ cs.all flatC = true ∧ FrzRL (hpF hp') cs ds ∧ ∀ e ∈ frzDL (hpF hp') cs,nx ≤ e.1
theorem EffCalls.ofB {g : FuncId} {args : List PV} {H0 : Heap} {pv : PV} {b0 T : Nat} {ds : List PV} (hc : Callable P g) (heff : EffOK args H0 [(b0,.box T ds)])
    (h : ∀ hp nx,(∀ b ∈ footL args,lk b hp = H0 b) → (∀ x ∈ hp,x.1 < nx) → CallA P g args hp nx (TidyB pv b0 T ds hp nx) noP) : EffCalls P g args H0 pv [(b0,.box T ds)] := by
  refine ⟨hc,fun C β w vs H hfin hH hs hl hv => ?_⟩
  obtain ⟨hp,rfl⟩ := hfin
  obtain ⟨nx,hgb,hx⟩ := FinH.bound (C := C) (hp := hp)
  refine ((h hp nx hH hx).2 C β w vs hgb hs hl hv).mono ?_
  rintro e w' ⟨v,r,hp',nx',β',he,hs',hr⟩
  rcases he with ⟨rfl,⟨hfr,hfn⟩,hK,cs,hcs,hfc,hds,hfz⟩ | ⟨_,hK⟩
  · have hall := Frz.all (frzDL (hpF hp') cs) (hpF hp') (frzDL_list _ cs) ⟨hs',fun _ h => h,fun _ _ h => .inl h,fun _ h => h⟩
    have hI := hall.data hr pv hfr (fun e he => by rw [hfn] at he; cases he)
    have hb0 : b0 < nx := by
      obtain ⟨q1,q2,_⟩ := heff _ List.mem_cons_self
      obtain ⟨y,hy⟩ := Option.isSome_iff_exists.1 q2
      exact lk_lt hx ((hH _ q1).trans hy)
    have keys : ∀ b,b < nx → applyEff (hpF hp') (frzDL (hpF hp') cs) b = hpF hp' b := by
      intro b hb
      rcases applyEff_cases (frzDL (hpF hp') cs) (hpF hp') b with h1 | ⟨e,he,rfl,h1⟩
      · exact h1
      · have := hfz e he; omega
    obtain ⟨f1,f2⟩ := FrzRL_get hds
    have hrb := hall.sim.rebox (b := b0) (T := T) (cs := cs) (ds := ds) ((keys b0 hb0).trans hcs) f1 (fun cells j x y hx hy hrep => by
      obtain ⟨x',hx',hxy⟩ := f2 j y hy
      rw [hx] at hx'
      cases hx'
      cases hxo : x with
      | own c ver =>
        subst hxo
        simp only [FrzR] at hxy
        obtain ⟨T0,s,rows,f,hH1,rfl⟩ := hxy
        have hmem : (c,Blk.arr T0 s rows ver true) ∈ frzDL (hpF hp') cs := frzDL_mem (List.mem_of_getElem? hx) (by simp [frzD,frzOne,hH1])
        have hb := applyEff_mem _ (hpF hp') _ (frzDL_list (hpF hp') cs) hmem
        cases hrep with
        | i hi => cases hi
        | own _ _ ver' u v' g1 g2 g3 g4 =>
          refine .i (hall.sim.frozen_rep hb (fun u' hu => ?_))
          rw [g1] at hu
          cases hu
          exact g4 rfl
      | lit l =>
        subst hxo
        simp only [FrzR] at hxy
        rcases hxy with rfl | ⟨hn,s,rfl⟩
        · exact hrep
        · rw [hrep.lit_eq,isNil_eq hn]
          exact .i (.imN _ _ _ rfl)
      | im s rows =>
        subst hxo
        simp only [FrzR] at hxy
        subst hxy
        exact hrep
      | _ =>
        subst hxo
        have := List.all_eq_true.1 hfc _ (List.mem_of_getElem? hx)
        simp [flatC] at this)
    have hsame : ∀ b,b < nx → upd (applyEff (hpF hp') (frzDL (hpF hp') cs)) b0 (.box T ds) b = applyEff (hpF hp) [(b0,.box T ds)] b := by
      intro b hb
      show _ = upd (hpF hp) b0 (.box T ds) b
      by_cases e : b = b0
      · subst e; rw [upd_same,upd_same]
      · rw [upd_other _ _ e,upd_other _ _ e,keys b hb]
        exact hK b hb e
    have ht := Sim.tidy hs hx hgb heff hH hrb hsame
    refine ⟨v,_,rfl,ht,.i (hI.mono (Keeps.refl _ _) (fun k _ hk => ?_))⟩
    have hsub : ∀ b x,applyEff (hpF hp) [(b0,Blk.box T ds)] b = some x → upd (applyEff (hpF hp') (frzDL (hpF hp') cs)) b0 (.box T ds) b = some x := by
      intro b x hb
      have hlt : b < nx := by
        rcases applyEff_cases [(b0,Blk.box T ds)] (hpF hp) b with h | ⟨e,he,rfl,h⟩
        · rw [h] at hb; exact lk_lt hx hb
        · simp only [List.mem_singleton] at he; subst he; exact hb0
      exact (hsame b hlt).trans hb
    rcases NN_restrict hsub k hk with hk | ⟨c,x,ver,u,q1,q2,q3,q4⟩
    · exact .inl hk
    · by_cases e : c = b0
      · subst e; rw [upd_same] at q1; cases q1; exact .inr ⟨c,_,ver,u,(keys c hb0).trans hcs,rfl,q3,q4⟩
      · rw [upd_other _ _ e] at q1; exact .inr ⟨c,x,ver,u,q1,q2,q3,q4⟩
  · exact hK.elim
end
theorem lk_append {α : Type} {b : Nat} : ∀ {G hp : List (Nat × α)},(∀ x ∈ G,b ≠ x.1) → lk b (G ++ hp) = lk b hp
  | [],_,_ => rfl
  | x :: G,hp,h => by
    show (if b = x.1 then some x.2 else lk b (G ++ hp)) = _
    rw [if_neg (h x List.mem_cons_self)]
    exact lk_append fun y hy => h y (List.mem_cons_of_mem _ hy)
theorem WeakS.garbage {n nx1 nx2 bs : Nat} {env env' : List (Nat × PV)} {G hp : List (Nat × Blk)} (hG : ∀ x ∈ G,bs ≤ x.1) (hx : ∀ x ∈ hp,x.1 < bs) (hcl : ∀ b x,lk b hp = some x → x.refsIn (fun b => (lk b hp).isSome) = true)
    (henv : ∀ x ∈ env',lk x.1 env = lk x.1 env' ∧ refsIn (fun b => (lk b hp).isSome) x.2 = true) : WeakS ⟨n,env,G ++ hp,nx1,bs⟩ ⟨n,env',hp,nx2,bs⟩ := by
  refine .look ⟨rfl,rfl⟩ (fun b hb hlt => ?_) henv (fun b x hb => ⟨?_,hcl b x hb⟩)
  · rw [lk_append (fun x hx' e => by have := hG x hx'; have hlt' : b < bs := hlt; omega)] at hb
    exact hb
  · rw [lk_append (fun x hx' e => by have := hG x hx'; have := lk_lt hx hb; omega)]
    exact hb
def renN (b nx x : Nat) : Nat := if x = b then 0 else x - nx + 1
def renE (b nx : Nat) (e : Nat × List Nat × List Nat) : Nat × List Nat × List Nat := (e.1,e.2.1.map (renN b nx),e.2.2.map (renN b nx))
def okN (b nx : Nat) (l : List Nat) : Prop := ∀ x ∈ l,x = b ∨ nx ≤ x
theorem renN_inj {b nx x y : Nat} (hb : b < nx) (hx : x = b ∨ nx ≤ x) (hy : y = b ∨ nx ≤ y) (h : renN b nx x = renN b nx y) : x = y := by
  unfold renN at h
  split at h <;> split at h <;> omega
theorem contains_ren {b nx x : Nat} (hb : b < nx) (hx : x = b ∨ nx ≤ x) : ∀ {l : List Nat},okN b nx l → (l.map (renN b nx)).contains (renN b nx x) = l.contains x
  | [],_ => rfl
  | y :: l,h => by
    have ih := contains_ren hb hx (l := l) (fun z hz => h z (List.mem_cons_of_mem _ hz))
    have hy := h y List.mem_cons_self
    have hbeq : (renN b nx x == renN b nx y) = (x == y) := by
      by_cases e : x = y
      · subst e; rw [beq_self_eq_true,beq_self_eq_true]
      · rw [beq_false_of_ne (fun e' => e (renN_inj hb hx hy e')),beq_false_of_ne e]
    simp only [yBi,List.contains_cons,ih,hbeq]
theorem all_ren {b nx : Nat} {p q : Nat → Bool} : ∀ {l : List Nat},(∀ x ∈ l,p (renN b nx x) = q x) → (l.map (renN b nx)).all p = l.all q
  | [],_ => rfl
  | y :: l,h => by
    simp only [yBi,List.all_cons,h y List.mem_cons_self,all_ren (fun x hx => h x (List.mem_cons_of_mem _ hx))]
theorem apart_ren {b nx : Nat} (hb : b < nx) {rd wr rd' wr' : List Nat} (h1 : okN b nx rd) (h2 : okN b nx wr) (h3 : okN b nx rd') (h4 : okN b nx wr') :
    apartB (rd.map (renN b nx)) (wr.map (renN b nx)) (rd'.map (renN b nx)) (wr'.map (renN b nx)) = apartB rd wr rd' wr' := by
  unfold apartB
  rw [all_ren (q := fun b => !rd'.contains b && !wr'.contains b) (fun x hx => by rw [contains_ren hb (h2 x hx) h3,contains_ren hb (h2 x hx) h4]),all_ren (q := fun b => !wr'.contains b) (fun x hx => by rw [contains_ren hb (h1 x hx) h4])]
theorem freeB_ren {ops : Array Oper} {b nx i : Nat} {rd : List Nat} (hb : b < nx) (h1 : okN b nx rd) : ∀ {log : Log},(∀ e ∈ log,okN b nx e.2.1 ∧ okN b nx e.2.2) → freeB ops (log.map (renE b nx)) i (rd.map (renN b nx)) = freeB ops log i rd := by
  intro log h
  unfold freeB
  congr 1
  induction log with
  | nil => rfl
  | cons e l ih =>
    obtain ⟨q1,q2⟩ := h e List.mem_cons_self
    simp only [yBi,List.all_cons]
    rw [ih (fun x hx => h x (List.mem_cons_of_mem e hx))]
    show ((isSt ops e.1 || (rd.map (renN b nx)).all fun c => !(e.2.2.map (renN b nx)).contains c) && _) = _
    rw [all_ren (q := fun c => !e.2.2.contains c) (fun x hx => by rw [contains_ren hb (h1 x hx) q2])]
theorem logOK_ren {b nx n i : Nat} {ms rd wr : List Nat} {fr fr' : Nat → List Nat → Bool} (hb : b < nx) (hf : ∀ i rd,okN b nx rd → fr' i (rd.map (renN b nx)) = fr i rd) (h1 : okN b nx rd) (h2 : okN b nx wr) : ∀ {log : Log},(∀ e ∈ log,okN b nx e.2.1 ∧ okN b nx e.2.2) → logOK n ms fr' i (rd.map (renN b nx)) (wr.map (renN b nx)) (log.map (renE b nx)) = logOK n ms fr i rd wr log
  | [],_ => rfl
  | e :: l,h => by
    obtain ⟨q1,q2⟩ := h e List.mem_cons_self
    simp only [yBi,logOK,logOK_ren hb hf h1 h2 (fun x hx => h x (List.mem_cons_of_mem _ hx))]
    show ((bef n ms e.1 i || apartB (e.2.1.map (renN b nx)) (e.2.2.map (renN b nx)) (rd.map (renN b nx)) (wr.map (renN b nx)) || fr' i (rd.map (renN b nx)) || fr' e.1 (e.2.1.map (renN b nx))) && _) = _
    rw [apart_ren hb q1 q2 h1 h2,hf i rd h1,hf e.1 e.2.1 q1]
theorem logsOKm_ren {b nx n : Nat} {ms : List Nat} {fr fr' : Nat → List Nat → Bool} (hb : b < nx) (hf : ∀ i rd,okN b nx rd → fr' i (rd.map (renN b nx)) = fr i rd) : ∀ {log : Log},(∀ e ∈ log,okN b nx e.2.1 ∧ okN b nx e.2.2) → logsOKm n ms fr' (log.map (renE b nx)) = logsOKm n ms fr log
  | [],_ => rfl
  | e :: l,h => by
    obtain ⟨q1,q2⟩ := h e List.mem_cons_self
    have hl := fun x hx => h x (List.mem_cons_of_mem e hx)
    simp only [yBi,logsOKm,logsOKm_ren hb hf hl]
    show (logOK n ms fr' e.1 (e.2.1.map (renN b nx)) (e.2.2.map (renN b nx)) _ && _) = _
    rw [logOK_ren hb hf q1 q2 hl]
theorem logsOK_ren {ops : Array Oper} {log : Log} {b nx : Nat} (hb : b < nx) (h : ∀ e ∈ log,okN b nx e.2.1 ∧ okN b nx e.2.2) (h2 : logsOK ops (log.map (renE b nx)) = true) : logsOK ops log = true := by
  unfold logsOK at h2 ⊢
  rw [withMasks_eq] at h2 ⊢
  rw [← logsOKm_ren (fr := freeB ops log) (fr' := freeB ops (log.map (renE b nx))) hb (fun i rd h1 => freeB_ren hb h1 h) h]
  exact h2
def modeOf : Option Value → FrameMode
  | none => .returning
  | some v => .panicking [{ v,recovered := false }]
def modeAfter : Option Value → FrameMode
  | none => .returning
  | some v => .panicking [{ v,recovered := true }]
def PanR (N : Nat → Prop) (w : World) (β : Ref) : Option PV → Option Value → Prop
  | none,none => True
  | some p,some v => Rep N w β p v
  | _,_ => False
def DefA (P : Program) (g : FuncId) (args : List PV) (hp : List (Nat × Blk)) (nx : Nat) (pan : Option PV) (K : List (Nat × Blk) → Nat → Prop) : Prop :=
  ∀ (C : Ctx) (β : Ref) (w : World) (vs : Array Value) (pv : Option Value),C.gb ≤ nx → SimH C (hpF hp) β w → vs.size = args.length → (∀ i pv,args[i]? = some pv → Rep (NN C (hpF hp) β) w β pv (vs.getD i undef)) →
    PanR (NN C (hpF hp) β) w β pan pv → CallsD P g vs (modeOf pv) w fun e u' w' => (∃ v,e = .returned v) ∧ u' = modeAfter pv ∧ ∃ hp' nx' β',K hp' nx' ∧ SimH C (hpF hp') β' w'
def resK (T : Tab) (fn : Func) (st : St) (K : CK) : List (Nat × Blk) → Nat → Prop := fun hp' nx' => match resListA T ⟨st.n,st.env,hp',nx',st.bs⟩ fn.results.toList with
  | some (ok,rs) => ok ∧ K (oneOf rs) hp' nx'
  | none => False
def bodyD (P : Program) (T : Tab) (fn : Func) (g : FuncId) (caps : List PV) (K : CK) : Cont
  | .exit _,_ => False
  | .panic pv,st => (∀ x ∈ st.hp,x.1 < st.nx) ∧ st.bs ≤ st.nx ∧ DefA P g caps st.hp st.nx (some pv) (resK T fn st K)
  | _,st => (∀ x ∈ st.hp,x.1 < st.nx) ∧ st.bs ≤ st.nx ∧ DefA P g caps st.hp st.nx none (resK T fn st K)
theorem settle_after (pv : Option Value) : settle (modeAfter pv) = .returning := by
  cases pv <;> rfl
theorem modeOf_run (pv : Option Value) : modeOf pv ≠ .run := by
  cases pv <;> simp [modeOf]
section
variable {P : Program} {T : Tab}
theorem leavesD (hT : TabOK P T) {C C2 : Ctx} {fn : Func} {g : FuncId} {caps : List PV} {us : Array Value} {st : St} {β : Ref} {a : Act} {w : World} {K : CK} {pan : Option PV} {pv : Option Value}
    (hlen : us.size = caps.length) (hus : ∀ i p,caps[i]? = some p → C2.gh p (us.getD i undef))
    (hx : ∀ x ∈ st.hp,x.1 < st.nx) (hgb : C2.gb ≤ st.bs) (hbs : st.bs ≤ st.nx) (hfun : Callable P g) (hs : Sim C2 st.n st.E st.H β a w) (hpv : PanR (NN C2 st.H β) w β pan pv)
    (hC : C2.nx = C.nx ∧ C2.base = C.base ∧ C2.w0 = C.w0) (hgh : ∀ p v,C.gh p v → C2.gh p v) (hgr : ∀ p v,C.gh p v → refsIn (fun b => decide (b < C.gb)) p = true)
    (h : DefA P g caps st.hp st.nx pan (resK T fn st K)) :
    Leaves P fn a.tmps (fun e w' => ∃ v r hp' nx' β',((e = .returned v ∧ K r hp' nx') ∨ (e = .panicked [{ v,recovered := false }] ∧ noP r hp' nx')) ∧ SimH C (hpF hp') β' w' ∧ Rep (NN C (hpF hp') β') w' β' r v)
      [{ target := .fn (.func g) us,args := #[] }] (modeOf pv) w := by
  have hsl := hs.lend (gb := st.nx) (by omega) (fun b x hb => hx (b,x) (lk_mem hb))
  have hN : NN (C2.with st.E a st.nx) st.H β = NN C2 st.H β := rfl
  refine leaves_cons (f := g) (args := #[] ++ us) (modeOf_run pv) (by simp [invoke,callFunc_run hfun w]) ?_
  refine (h (C2.with st.E a st.nx) β w (#[] ++ us) pv (Nat.le_refl _) hsl (by simpa using hlen) (fun i p hi => by
    have := hs.gh p _ (hus i p hi)
    rw [Array.empty_append]
    exact this) hpv).mono ?_
  rintro e u' w' ⟨⟨v0,rfl⟩,rfl,hp',nx',β',hK,hs'⟩
  have hb := hs.back hs'
  unfold resK at hK
  split at hK
  · rename_i ok rs hres
    obtain ⟨v,v1,v2⟩ := results_sound (st := ⟨st.n,st.env,hp',nx',st.bs⟩) hT hb hres hK.1
    show Leaves P fn a.tmps _ [] (settle (modeAfter pv)) w'
    rw [settle_after]
    refine ⟨v,v1,v,_,hp',nx',β',.inl ⟨rfl,hK.2⟩,?_,?_⟩
    · have hh := hb.heap
      obtain ⟨c1,c2,c3⟩ := hC
      have hNN : NN C2 (hpF hp') β' = NN C (hpF hp') β' := by unfold NN; rw [c1]
      refine ⟨rfl,rfl,fun t pv ht => by simp at ht,fun b x hb => ?_,hh.sep,hh.lies,hh.fr,by rw [← c2,← c3]; exact hh.below,by rw [← c1,← c2]; exact hh.nxb,by rw [← c2]; exact hh.bs,fun p v hg => by rw [← hNN]; exact hh.gh p v (hgh p v hg),hgr⟩
      have := hh.blk b x hb
      cases x with
      | box T0 cs => obtain ⟨k,cells,p1,p2,p3,p4,p5⟩ := this; exact ⟨k,cells,p1,by rw [← c2]; exact p2,p3,p4,by rw [← hNN]; exact p5⟩
      | map es => obtain ⟨k,ents,clock,p1,p2,p3,p4,p5⟩ := this; exact ⟨k,ents,clock,p1,by rw [← c2]; exact p2,p3,p4,by rw [← hNN]; exact p5⟩
      | obj k o => exact ⟨this.1,by rw [← c2]; exact this.2.1,this.2.2⟩
      | arr T0 size rows ver f => obtain ⟨u,xs,p1,p2,p3,p4⟩ := this; exact ⟨u,xs,p1,by rw [← c2]; exact p2,p3,by rw [← hNN]; exact p4⟩
    · have hNN : NN C2 (hpF hp') β' = NN C (hpF hp') β' := by unfold NN; rw [hC.1]
      rw [← hNN]
      exact v2
  · exact hK.elim
theorem CallA.intoD (hT : TabOK P T) (hmix : P.follows .mixedOrders = true) {f : FuncId} {fn : Func} {r0 c2 : Code} {id1 : Nat} {oM oD : Oper} {t : Tmp} {g : FuncId} {xs : Array Operand}
    (hf : P.funcs[f]? = some fn) (hb : fn.body = some (.seq r0 (.seq (.region id1 #[oM, oD] false) c2))) (hnm : (fn.name == "runtime.NumGoroutine") = false) (hok0 : codeOK r0 = true) (hok2 : codeOK c2 = true) (hg : Callable P g)
    (hM : oM.op = .makeFunc (.func g) #[] xs) (hMd : oM.dst = some t) (hMg : oM.guard = none) (hD : oD.op = .defer { callee := .value (.tmp t),args := #[],argTypes := #[] }) (hDd : oD.dst = none) (hDg : oD.guard = none)
    {args : List PV} {hp : List (Nat × Blk)} {nx : Nat} {K : CK} (hn : args.length ≤ fn.ntmps)
    (h : wpA P T r0 ⟨fn.ntmps,enumFrom 0 args,hp,nx,nx⟩ (fun o st1 => match o with
      | .normal => t < st1.n ∧ (∀ x ∈ st1.hp,x.1 < st1.nx) ∧ st1.bs ≤ st1.nx ∧ wpA P T c2 ⟨st1.n,(t,.fn (.func g) [] (xs.toList.map (ev st1.E))) :: st1.env,st1.hp,st1.nx,st1.nx⟩ (bodyD P T fn g (xs.toList.map (ev st1.E)) K)
      | _ => False)) : CallA P f args hp nx K noP := by
  refine ⟨⟨fn,hf,hnm,by rw [hb]; rfl⟩,fun C β w vs hgb hs hl hv => ?_⟩
  have hs0 : SimH { C with df := [] } (hpF hp) β w := hs.rdf []
  refine calls_of_wp_defers hf hb (wp_seq (wp_mono (wpA_sound hT hmix (C := { C with df := [] }) r0 _ _ β _ w hok0 h hgb (enter_sim (nx := nx) rfl hs0 hl hn hv)) ?_))
  rintro e a1 w1 ⟨o,st1,β1,hfit,hq,hn1,hs1⟩
  cases o with
  | ret => exact hq.elim
  | exit i => exact hq.elim
  | panic pv => exact hq.elim
  | normal =>
  cases hfit
  obtain ⟨htn,hx1,hb1,hq⟩ := hq
  have hops : ∀ {Q : Exit → Act → World → Prop},(∀ (us : Array Value),us = xs.map a1.eval → Q .normal { (a1.put (some t) (.func (.func g) #[] us)) with defers := { target := .fn (.func g) us,args := #[] } :: a1.defers } w1) → (Code.region id1 #[oM,oD] false).wp P Q a1 w1 := by
    intro Q hQ
    refine wp_region ?_
    have hlt : t < a1.tmps.size := by rw [hs1.nt]; exact htn
    have hr1 : (execOp a1.eval oM).run P w1 = .ok (.value (.func (.func g) #[] (xs.map a1.eval))) w1 := by
      simp [execOp,hM,Instr.makeFunc]
    have hr2 : (execOp (a1.put oM.dst (.func (.func g) #[] (xs.map a1.eval))).eval oD).run P w1 = .ok (.defer { target := .fn (.func g) (xs.map a1.eval),args := #[] }) w1 := by
      have he : (a1.put oM.dst (.func (.func g) #[] (xs.map a1.eval))).eval (.tmp t) = .func (.func g) #[] (xs.map a1.eval) := by
        rw [hMd]
        simp [Act.eval,Act.put,hlt]
      simp [execOp,hD,resolve,he,Deferred.ofValue]
    have hw1 : Region.wanted oM (yielded #[oM,oD] a1.tmps) = true := by unfold Region.wanted; rw [hMg]
    have hw2 : ∀ y,Region.wanted oD y = true := by intro y; unfold Region.wanted; rw [hDg]
    show wpOps P #[oM,oD] Q [0,1] a1 w1
    unfold wpOps
    simp only [List.getElem?_toArray,List.getElem?_cons_zero]
    rw [if_pos hw1]
    refine .inl ?_
    unfold Oper.wp
    rw [hr1]
    show wpOps P #[oM,oD] Q [1] _ w1
    unfold wpOps
    simp only [List.getElem?_toArray,List.getElem?_cons_succ,List.getElem?_cons_zero]
    rw [if_pos (hw2 _)]
    refine .inl ?_
    unfold Oper.wp
    rw [hr2]
    show wpOps P #[oM,oD] Q [] _ w1
    unfold wpOps
    have := hQ _ rfl
    rw [hMd,hDd]
    exact this
  refine wp_seq (hops fun us hus => ?_)
  have hcaps : ∀ i p,(xs.toList.map (ev st1.E))[i]? = some p → Rep (NN { C with df := [] } st1.H β1) w1 β1 p (us.getD i undef) := by
    intro i p hi
    simp only [List.getElem?_map,Option.map_eq_some_iff] at hi
    obtain ⟨x,hx,rfl⟩ := hi
    have hx' : xs[i]? = some x := by simpa using hx
    have : us.getD i undef = a1.eval x := by rw [hus]; simp [Array.getD_eq_getD_getElem?,hx']
    rw [this]
    exact hs1.ev x
  have hul : us.size = (xs.toList.map (ev st1.E)).length := by rw [hus]; simp
  let C2 : Ctx := { C with df := [{ target := .fn (.func g) us,args := #[] }],gh := fun p v => C.gh p v ∨ ∃ i : Nat,(xs.toList.map (ev st1.E))[i]? = some p ∧ v = us.getD i undef,gb := st1.nx }
  have hgr := hs.gr
  have hs2 : Sim C2 st1.n (fun s => lk s ((t,.fn (.func g) [] (xs.toList.map (ev st1.E))) :: st1.env)) st1.H β1 { (a1.put (some t) (.func (.func g) #[] us)) with defers := { target := .fn (.func g) us,args := #[] } :: a1.defers } w1 := by
    have hp := hs1.put htn (pv := .fn (.func g) [] (xs.toList.map (ev st1.E))) (v := .func (.func g) #[] us) (.fn _ _ _ _ _ (by simp) hul (by simp) hcaps)
    have hdf : a1.defers = [] := hs1.df
    refine ⟨hp.nt,by simp [C2,hdf],hp.env,hp.blk,hp.sep,hp.lies,hp.fr,hp.below,hp.nxb,hp.bs,?_,?_⟩
    · rintro p v (hg | ⟨i,hi,rfl⟩)
      · exact hp.gh p v hg
      · exact hcaps i p hi
    · intro p v hg
      have hr : Rep (NN { C with df := [] } st1.H β1) w1 β1 p v := by
        rcases hg with hg | ⟨i,hi,rfl⟩
        · exact hp.gh p v hg
        · exact hcaps i p hi
      refine hr.refs fun b r hbr => ?_
      have hxx : (st1.H b).isSome = true := by
        cases hx : st1.H b with
        | none => rw [hs1.fr b hx] at hbr; cases hbr
        | some x => rfl
      obtain ⟨x,hx⟩ := Option.isSome_iff_exists.1 hxx
      simp [C2,hx1 (b,x) (lk_mem hx)]
  refine wp_mono (wpA_sound hT hmix (C := C2) c2 ⟨st1.n,(t,.fn (.func g) [] (xs.toList.map (ev st1.E))) :: st1.env,st1.hp,st1.nx,st1.nx⟩ _ β1 _ w1 hok2 hq (Nat.le_refl _) hs2) ?_
  rintro e a' w' ⟨o,st',β',hfit,hq',hn',hs'⟩
  have hgh2 : ∀ i p,(xs.toList.map (ev st1.E))[i]? = some p → C2.gh p (us.getD i undef) := fun i p hi => .inr ⟨i,hi,rfl⟩
  have fin : ∀ (pan : Option PV) (pv : Option Value),(∀ x ∈ st'.hp,x.1 < st'.nx) → st'.bs ≤ st'.nx → DefA P g (xs.toList.map (ev st1.E)) st'.hp st'.nx pan (resK T fn st' K) → PanR (NN C2 st'.H β') w' β' pan pv →
      Leaves P fn a'.tmps (fun e w' => ∃ v r hp' nx' β',((e = .returned v ∧ K r hp' nx') ∨ (e = .panicked [{ v,recovered := false }] ∧ noP r hp' nx')) ∧ SimH C (hpF hp') β' w' ∧ Rep (NN C (hpF hp') β') w' β' r v) a'.defers (modeOf pv) w' := by
    intro pan pv h1 h2 h3 h4
    rw [hs'.df]
    exact leavesD hT (C := C) (C2 := C2) hul hgh2 h1 (by rw [hn'.2]; exact Nat.le_refl _) h2 hg hs' h4 ⟨rfl,rfl,rfl⟩ (fun p v hg => .inl hg) hgr h3
  cases o with
  | normal => cases hfit; exact fin none none hq'.1 hq'.2.1 hq'.2.2 trivial
  | ret => cases hfit; exact fin none none hq'.1 hq'.2.1 hq'.2.2 trivial
  | exit i => exact hq'.elim
  | panic pv =>
    obtain ⟨v,rfl,hr⟩ := hfit
    exact fin (some pv) (some v) hq'.1 hq'.2.1 hq'.2.2 hr
end
end Go.Pe
namespace Go.Pe
open Go.RowKit
section
variable {P : Program} {T : Tab} {C : Ctx}
theorem uponS {ops : Array Oper} {o : Oper} {a : Act} {w : World} {next : Act → World → Prop} {Q : Exit → Act → World → Prop} {X : World → Prop} (h : o.wp P a w next Q) :
    (match (execOp a.eval o).run P w with
      | .ok .recover w' => X w'
      | r => o.upon P a next Q r) := by
  unfold Oper.wp at h
  generalize (execOp a.eval o).run P w = r at h
  cases r with
  | ok n w' => cases n <;> first | exact h | exact h.elim
  | halt x w' => exact h
theorem wpOpsA_soundS (hT : TabOK P T) {ops : Array Oper} {K : Cont} {Q : Exit → Act → List Frame → World → Prop} {cs : List Frame} : ∀ (l : List Oper) (k : Nat) (st : St) (β : Ref) (a : Act) (w : World),ops.toList.drop k = l → wpOpsA P T ops.toList l st K →
    C.gb ≤ st.bs → Sim C st.n st.E st.H β a w → (∀ st' β' a' w',K .normal st' → (st'.n = st.n ∧ st'.bs = st.bs) → Sim C st'.n st'.E st'.H β' a' w' → Q .normal a' cs w') → PanA C st K (fun e a w => Q e a cs w) → wpOpsS P ops Q (List.range' k l.length) a cs w
  | [],k,st,β,a,w,hl,h,hgb,hs,hQ,hP => hQ st β a w h ⟨rfl,rfl⟩ hs
  | o :: l,k,st,β,a,w,hl,h,hgb,hs,hQ,hP => by
    have hk : ops[k]? = some o := by
      have := congrArg (·[0]?) hl
      simpa using this
    have hl' : ops.toList.drop (k + 1) = l := by
      have := congrArg List.tail hl
      simpa using this
    rw [List.length_cons,List.range'_succ]
    simp only [wpOpsS,hk]
    unfold wpOpsA at h
    obtain ⟨hd,h⟩ := h
    split at h
    · rename_i b hb
      rw [wanted_eq hb hs]
      cases b with
      | true =>
        rw [if_pos rfl]
        have hw : o.wp P a w (fun a' w' => wpOpsS P ops Q (List.range' (k + 1) l.length) a' cs w') (fun e a w => Q e a cs w) := by
          refine Oper.wp_mono ?_ (stepA_sound (Q := fun e a w => Q e a cs w) hT (h.1 rfl) hd hP hgb hs)
          rintro a' w' ⟨st',β',hK,hn,hs'⟩
          exact wpOpsA_soundS hT l (k + 1) st' β' a' w' hl' hK (by rw [hn.2]; exact hgb) hs' (fun st2 β2 a2 w2 h2 hn2 hs2 => hQ st2 β2 a2 w2 h2 ⟨hn2.1.trans hn.1,hn2.2.trans hn.2⟩ hs2) (fun pv st2 β2 a2 w2 v h2 hn2 hs2 hr2 => hP pv st2 β2 a2 w2 v h2 ⟨hn2.1.trans hn.1,hn2.2.trans hn.2⟩ hs2 hr2)
        exact uponS (ops := ops) hw
      | false =>
        rw [if_neg (by simp)]
        refine wpOpsA_soundS hT l (k + 1) _ β _ w hl' (h.2 rfl) hgb (Sim.putL hs hd (.i (.lit undef))) (fun st2 β2 a2 w2 h2 hn2 hs2 => hQ st2 β2 a2 w2 h2 hn2 hs2) (fun pv st2 β2 a2 w2 v h2 hn2 hs2 hr2 => hP pv st2 β2 a2 w2 v h2 hn2 hs2 hr2)
    · exact h.elim
def recOf : Option PV → PV
  | none => .lit .nilIface
  | some p => p
def tupOf : Option PV → PV
  | some (.iface _ v) => .tup [v,.lit (.bool true)]
  | _ => .tup [.any,.lit (.bool false)]
def PanI (t : TypeId) : Option PV → Prop
  | none => True
  | some (.iface t' v) => t' = t
  | _ => False
def endDef (K : List (Nat × Blk) → Nat → Prop) : Cont
  | .normal,st => K st.hp st.nx
  | .ret,st => K st.hp st.nx
  | _,_ => False
def endFst (P : Program) (T : Tab) (c2 : Code) (K : List (Nat × Blk) → Nat → Prop) : Cont
  | .normal,st => wpA P T c2 st (endDef K)
  | _,_ => False
theorem DefA.of (hT : TabOK P T) (hmix : P.follows .mixedOrders = true) {g : FuncId} {fn : Func} {id : Nat} {ops : Array Oper} {c2 : Code} {o0 o1 : Oper} {rest : List Oper} {t5 t6 : Tmp} {xt at' : TypeId} {ti : TI} {kk : IntKind}
    (hf : P.funcs[g]? = some fn) (hb : fn.body = some (.seq (.region id ops false) c2)) (hl : ops.toList = o0 :: o1 :: rest) (h0 : o0.op = .call { callee := .builtin .recover,args := #[],argTypes := #[] }) (d0 : o0.dst = some t5) (g0 : o0.guard = none)
    (h1 : o1.op = .typeAssert (.tmp t5) xt at' true) (d1 : o1.dst = some t6) (g1 : o1.guard = none) (hok2 : codeOK c2 = true) (hti : T at' = some ti) (hint : ti.desc = .int kk) (hres : fn.results = #[]) (h5 : t5 < fn.ntmps) (h6 : t6 < fn.ntmps)
    {args : List PV} {hp : List (Nat × Blk)} {nx : Nat} {pan : Option PV} {K : List (Nat × Blk) → Nat → Prop} (hn : args.length ≤ fn.ntmps) (hpan : PanI at' pan)
    (h : wpOpsA P T ops.toList rest ⟨fn.ntmps,(t6,tupOf pan) :: (t5,recOf pan) :: enumFrom 0 args,hp,nx,nx⟩ (endFst P T c2 K)) : DefA P g args hp nx pan K := by
  intro C β w vs pv hgb hs hlen hv hpr
  refine callsD_of_wpS hf hb fun c₀ cs hu => wpS_seq (wpS_region ?_)
  have hsz : ops.size = rest.length + 2 := by
    have := congrArg List.length hl
    simpa using this
  have hs0 : SimH { C with df := [] } (hpF hp) β w := hs.rdf []
  have hsim := enter_sim (nx := nx) (n := fn.ntmps) rfl hs0 hlen hn hv
  obtain ⟨rv,hrec,hrv⟩ : ∃ rv : Value,(match recoverD (c₀ :: cs) with
        | some (v,cs') => (v,cs')
        | none => (.nilIface,c₀ :: cs)) = (rv,{ c₀ with mode := modeAfter pv } :: cs) ∧ Rep (NN { C with df := [] } (hpF hp) β) w β (recOf pan) rv := by
    cases pv with
    | none =>
      cases pan with
      | some p => exact hpr.elim
      | none =>
        refine ⟨.nilIface,?_,.i (.lit _)⟩
        have hc : ({ c₀ with mode := .returning } : Frame) = c₀ := by
          have hu' : c₀.mode = .returning := hu
          cases c₀; simp at hu'; subst hu'; rfl
        have : recoverD (c₀ :: cs) = none := by
          have hu' : c₀.mode = .returning := hu
          simp [recoverD,hu']
        rw [this]
        show (Value.nilIface,c₀ :: cs) = (Value.nilIface,({ c₀ with mode := .returning } : Frame) :: cs)
        rw [hc]
    | some v =>
      cases pan with
      | none => exact hpr.elim
      | some p =>
        refine ⟨v,?_,hpr⟩
        have : recoverD (c₀ :: cs) = some (v,{ c₀ with mode := .panicking [{ v,recovered := true }] } :: cs) := by
          have hu' : c₀.mode = .panicking [{ v,recovered := false }] := hu
          simp [recoverD,hu']
        rw [this]
        rfl
  have hk0 : ops[0]? = some o0 := by
    have := congrArg (·[0]?) hl
    simpa using this
  have hk1 : ops[1]? = some o1 := by
    have := congrArg (·[1]?) hl
    simpa using this
  have hw0 : ∀ y,Region.wanted o0 y = true := by intro y; unfold Region.wanted; rw [g0]
  have hw1 : ∀ y,Region.wanted o1 y = true := by intro y; unfold Region.wanted; rw [g1]
  have hr0 : ∀ (a : Act),(execOp a.eval o0).run P w = .ok .recover w := by
    intro a
    simp [execOp,h0,resolve,invoke,builtin]
  rw [List.range_eq_range',hsz,List.range'_succ,List.range'_succ]
  have hs1 := hsim.put h5 hrv
  have d0' : (some t5 : Option Tmp) = o0.dst := d0.symm
  have key : ∀ a1,Sim { C with df := [] } fn.ntmps (upd (fun t => lk t (enumFrom 0 args)) t5 (recOf pan)) (hpF hp) β a1 w → a1.eval (.tmp t5) = rv →
      wpOpsS P ops (Exit.thenS (c2.wpS P (bodyPostS P fn c₀ cs fun e u' w' => (∃ v,e = .returned v) ∧ u' = modeAfter pv ∧ ∃ hp' nx' β',K hp' nx' ∧ SimH C (hpF hp') β' w')) (bodyPostS P fn c₀ cs fun e u' w' => (∃ v,e = .returned v) ∧ u' = modeAfter pv ∧ ∃ hp' nx' β',K hp' nx' ∧ SimH C (hpF hp') β' w')) ((0 + 1) :: List.range' (0 + 1 + 1) rest.length) a1 ({ c₀ with mode := modeAfter pv } :: cs) w := by
    intro a1 hs1 hev
    obtain ⟨d,hu,hfit,_⟩ := (hT at' ti hti).d
    rw [hint] at hfit
    simp only [TD.fits] at hfit
    subst hfit
    obtain ⟨z,hz,_⟩ := (hT at' ti hti).run_zero w
    have hta : ∃ tv,(execOp a1.eval o1).run P w = .ok (.value tv) w ∧ Rep (NN { C with df := [] } (hpF hp) β) w β (tupOf pan) tv := by
      cases pan with
      | none =>
        have : rv = .nilIface := hrv.lit_eq
        subst this
        refine ⟨.tuple #[z,.bool false],?_,.tup _ _ rfl ?_⟩
        · simp [execOp,h1,hev,Instr.typeAssert,run_underlying hu,hz]
        · intro i q hi
          match i,hi with
          | 0,hi => cases hi; exact .any _
          | 1,hi => cases hi; exact .i (.lit _)
          | i + 2,hi => simp at hi
      | some p =>
        obtain ⟨q,rfl⟩ : ∃ q,p = .iface at' q := by
          cases p with
          | iface t' v => have e : t' = at' := hpan; exact ⟨v,by rw [e]⟩
          | _ => exact hpan.elim
        obtain ⟨u,rfl,hr⟩ := hrv.iface_eq
        refine ⟨.tuple #[u,.bool true],?_,.tup _ _ rfl ?_⟩
        · simp [execOp,h1,hev,Instr.typeAssert,run_underlying hu]
        · intro i q hi
          match i,hi with
          | 0,hi => cases hi; exact hr
          | 1,hi => cases hi; exact .i (.lit _)
          | i + 2,hi => simp at hi
    obtain ⟨tv,hrun,htv⟩ := hta
    simp only [wpOpsS,hk1,hw1,if_true,hrun,Oper.upon,d1]
    have hs2 := hs1.put h6 htv
    refine wpOpsA_soundS (C := { C with df := [] }) (K := endFst P T c2 K) hT rest (0 + 1 + 1) ⟨fn.ntmps,(t6,tupOf pan) :: (t5,recOf pan) :: enumFrom 0 args,hp,nx,nx⟩ β _ w (by rw [hl]; rfl) h hgb hs2 ?_ ?_
    · intro st' β' a' w' hK hn' hs'
      refine wpS_of_wp (wp_mono (wpA_sound hT hmix (C := { C with df := [] }) c2 st' _ β' a' w' hok2 hK (by rw [hn'.2]; exact hgb) hs') ?_)
      rintro e a2 w2 ⟨o,st2,β2,hfit,hq,hn2,hs2'⟩
      have hfin : K st2.hp st2.nx → a2.defers = [] ∧ ∃ u',({ c₀ with mode := modeAfter pv } :: cs : List Frame) = { c₀ with mode := u' } :: cs ∧ ∃ v,(results fn a2.tmps).run P w2 = .ok v w2 ∧ ((∃ v_1,Ending.returned v = .returned v_1) ∧ u' = modeAfter pv ∧ ∃ hp' nx' β',K hp' nx' ∧ SimH C (hpF hp') β' w2) := by
        intro hK2
        exact ⟨hs2'.df,_,rfl,_,by simp [results,hres]; rfl,⟨_,rfl⟩,rfl,_,_,β2,hK2,hs2'.heap.rdf C.df⟩
      cases o with
      | normal => cases hfit; exact hfin hq
      | ret => cases hfit; exact hfin hq
      | exit i => exact hq.elim
      | panic pv => exact hq.elim
    · intro pv st' β' a' w' v hK _ _ _
      exact hK.elim
  have hlen0 : t5 < (vs ++ Array.replicate (fn.ntmps - vs.size) undef).size := by
    rw [Array.size_append,Array.size_replicate]
    exact Nat.lt_of_lt_of_le h5 (by omega)
  rw [show (0 : Nat) :: (0 + 1) :: List.range' (0 + 1 + 1) rest.length = 0 :: ((0 + 1) :: List.range' (0 + 1 + 1) rest.length) from rfl]
  rw [wpOpsS]
  simp only [hk0,hw0,if_true,hr0]
  have hput : (Act.put { tmps := vs ++ Array.replicate (fn.ntmps - vs.size) undef,defers := [] } o0.dst rv).eval (.tmp t5) = rv := by
    rw [d0]
    have hlen1 : t5 < vs.size + (fn.ntmps - vs.size) := by simpa using hlen0
    show ((vs ++ Array.replicate (fn.ntmps - vs.size) undef).setIfInBounds t5 rv).getD t5 undef = rv
    rw [Array.getD_eq_getD_getElem?,Array.getElem?_setIfInBounds_self_of_lt hlen0]
    rfl
  have hs1' : Sim { C with df := [] } fn.ntmps (upd (fun t => lk t (enumFrom 0 args)) t5 (recOf pan)) (hpF hp) β (Act.put { tmps := vs ++ Array.replicate (fn.ntmps - vs.size) undef,defers := [] } o0.dst rv) w := by
    rw [d0]; exact hs1
  generalize recoverD (c₀ :: cs) = q at hrec
  cases q with
  | none =>
    simp only [Prod.mk.injEq] at hrec
    obtain ⟨rfl,hcs⟩ := hrec
    rw [hcs]
    exact key _ hs1' hput
  | some q =>
    obtain ⟨v,cs'⟩ := q
    simp only [Prod.mk.injEq] at hrec
    obtain ⟨rfl,rfl⟩ := hrec
    exact key _ hs1' hput
end
section
variable {P : Program} {T : Tab}
theorem bodyD_panic {fn : Func} {g : FuncId} {caps : List PV} {K : CK} {st : St} {pv : PV} : bodyD P T fn g caps K (.panic pv) st = ((∀ x ∈ st.hp,x.1 < st.nx) ∧ st.bs ≤ st.nx ∧ DefA P g caps st.hp st.nx (some pv) (resK T fn st K)) := (rfl)
theorem bodyD_normal {fn : Func} {g : FuncId} {caps : List PV} {K : CK} {st : St} : bodyD P T fn g caps K .normal st = ((∀ x ∈ st.hp,x.1 < st.nx) ∧ st.bs ≤ st.nx ∧ DefA P g caps st.hp st.nx none (resK T fn st K)) := (rfl)
theorem bodyD_ret {fn : Func} {g : FuncId} {caps : List PV} {K : CK} {st : St} : bodyD P T fn g caps K .ret st = ((∀ x ∈ st.hp,x.1 < st.nx) ∧ st.bs ≤ st.nx ∧ DefA P g caps st.hp st.nx none (resK T fn st K)) := (rfl)
theorem resK_eq {fn : Func} {n bs nx0 : Nat} {env : List (Nat × PV)} {hp0 : List (Nat × Blk)} {K : CK} {hp : List (Nat × Blk)} {nx : Nat} : resK T fn ⟨n,env,hp0,nx0,bs⟩ K hp nx = endK K hp nx (resListA T ⟨n,env,hp,nx,bs⟩ fn.results.toList) := by
  unfold resK
  cases resListA T ⟨n,env,hp,nx,bs⟩ fn.results.toList with
  | none => rfl
  | some q => rfl
theorem endFst_normal {c2 : Code} {K : List (Nat × Blk) → Nat → Prop} {st : St} : endFst P T c2 K .normal st = wpA P T c2 st (endDef K) := (rfl)
theorem endDef_normal {K : List (Nat × Blk) → Nat → Prop} {st : St} : endDef K .normal st = K st.hp st.nx := (rfl)
theorem endDef_ret {K : List (Nat × Blk) → Nat → Prop} {st : St} : endDef K .ret st = K st.hp st.nx := (rfl)
end
attribute [go_sem] bodyD_panic bodyD_normal bodyD_ret resK_eq endFst_normal endDef_normal endDef_ret recOf tupOf
end Go.Pe
