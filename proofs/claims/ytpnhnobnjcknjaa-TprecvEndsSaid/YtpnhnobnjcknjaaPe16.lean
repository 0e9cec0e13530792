/- Code over abstract states: the weakest condition, and the theorem that it holds of the machine. -/
import Derived.Test.YtpnhnobnjcknjaaPe15
import Derived.Scope
set_option linter.unusedVariables false
set_option linter.unusedSimpArgs false
namespace Go.Pe
open Go.RowKit

/-! ### forgetting -/
def Blk.refsIn (ok : Nat → Bool) : Blk → Bool
  | .box _ cs => refsInL ok cs
  | .arr .. => true
  | .map es => refsInL ok (es.map (·.2))

/-- The state s tells less than st, and what it tells does not lean on blocks that it no longer has. -/
def Weak (st s : St) : Prop :=
  (st.n = s.n ∧ st.bs = s.bs ∧ ∀ x ∈ st.hp, x.1 < st.bs → (lk x.1 s.hp).isSome = true) ∧ (∀ x ∈ s.env, lk x.1 st.env = lk x.1 s.env ∧ refsIn (fun b => (lk b s.hp).isSome) x.2 = true) ∧ (∀ x ∈ s.hp, lk x.1 st.hp = lk x.1 s.hp ∧ x.2.refsIn (fun b => (lk b s.hp).isSome) = true)

section
variable {P : Program} {T : Tab} {C : Ctx} {β : Ref} {a : Act} {w : World}

mutual
theorem refsIn_both {p q r : Nat → Bool} : ∀ {x : PV}, refsIn p x = true → refsIn q x = true → (∀ b, p b = true → q b = true → r b = true) → refsIn r x = true
  | .ptr b _, h1, h2, h => h b h1 h2
  | .mapp b, h1, h2, h => h b h1 h2
  | .aptr b _ _ _ _, h1, h2, h => h b h1 h2
  | .own b _, h1, h2, h => h b h1 h2
  | .agg cs, h1, h2, h => refsInL_both h1 h2 h
  | .tup cs, h1, h2, h => refsInL_both h1 h2 h
  | .fn _ a c, h1, h2, h => by
    simp only [refsIn, Bool.and_eq_true] at h1 h2 ⊢
    exact ⟨refsInL_both h1.1 h2.1 h, refsInL_both h1.2 h2.2 h⟩
  | .iface _ v, h1, h2, h => refsIn_both (x := v) h1 h2 h
  | .any, _, _, _ => rfl
  | .lit _, _, _, _ => rfl
  | .im _ _, _, _, _ => rfl
  | .iptr _, _, _, _ => rfl
theorem refsInL_both {p q r : Nat → Bool} : ∀ {l : List PV}, refsInL p l = true → refsInL q l = true → (∀ b, p b = true → q b = true → r b = true) → refsInL r l = true
  | [], _, _, _ => rfl
  | x :: l, h1, h2, h => by
    simp only [refsInL, Bool.and_eq_true] at h1 h2 ⊢
    exact ⟨refsIn_both h1.1 h2.1 h, refsInL_both h1.2 h2.2 h⟩
end

def restrict (ok : Nat → Bool) (β : Ref) : Ref := fun b => if ok b then β b else none

theorem Rep.restrict {N : Nat → Prop} {ok : Nat → Bool} {pv : PV} {v : Value} (h : Rep N w β pv v) (hr : refsIn ok pv = true) : Rep N w (Pe.restrict ok β) pv v := by
  induction h with
  | i h => exact .i h
  | any v => exact .any v
  | agg cs vs hl h ih => exact .agg cs vs hl (fun i pv hi => ih i pv hi (refsInL_mem hr (List.mem_of_getElem? hi)))
  | tup cs vs hl h ih => exact .tup cs vs hl (fun i pv hi => ih i pv hi (refsInL_mem hr (List.mem_of_getElem? hi)))
  | ptr b off k h => exact .ptr b off k (by simp only [refsIn] at hr; simp [Pe.restrict, hr, h])
  | mapp b k h => exact .mapp b k (by simp only [refsIn] at hr; simp [Pe.restrict, hr, h])
  | aptr b ver row off size ver' u v h1 h2 h3 h4 => exact .aptr b ver row off size ver' u v (by simp only [refsIn] at hr; simp [Pe.restrict, hr, h1]) h2 h3 h4
  | iptr cs a vals h1 => exact .iptr cs a vals h1
  | own b ver ver' u v h1 h2 h3 h4 => exact .own b ver ver' u v (by simp only [refsIn] at hr; simp [Pe.restrict, hr, h1]) h2 h3 h4
  | fn f first cap vs us hl hl' h h' ih ih' =>
    simp only [refsIn, Bool.and_eq_true] at hr
    exact .fn f first cap vs us hl hl' (fun i pv hi => ih i pv hi (refsInL_mem hr.1 (List.mem_of_getElem? hi))) (fun i pv hi => ih' i pv hi (refsInL_mem hr.2 (List.mem_of_getElem? hi)))
  | iface t pv v h ih => exact .iface t pv v (ih (by simpa [refsIn] using hr))

theorem Rep.fewer {N N' : Nat → Prop} (hN : ∀ k, N' k → N k) {pv : PV} {v : Value} (h : Rep N w β pv v) : Rep N' w β pv v := h.mono (Keeps.refl _ _) (fun k _ => hN k) (Later.refl _) (fun _ _ h => h)

theorem Sim.weak {st s : St} (h : Sim C st.n st.E st.H β a w) (hgb : C.gb ≤ st.bs) (hw : Weak st s) : Sim C s.n s.E s.H (restrict (fun b => (lk b s.hp).isSome) β) a w := by
  obtain ⟨⟨h1, h1b, h1c⟩, h2, h3⟩ := hw
  have hH : ∀ b x, s.H b = some x → st.H b = some x := fun b x hb => (h3 (b, x) (lk_mem hb)).1.trans hb
  have hres : ∀ {b r}, restrict (fun b => (lk b s.hp).isSome) β b = some r → β b = some r := by
    intro b r hb
    unfold restrict at hb
    split at hb
    · exact hb
    · cases hb
  have hin : ∀ b x, s.H b = some x → restrict (fun b => (lk b s.hp).isSome) β b = β b := by
    intro b x hb
    have hb' : lk b s.hp = some x := hb
    simp [restrict, hb']
  have hN : ∀ k, NN C s.H (restrict (fun b => (lk b s.hp).isSome) β) k → NN C st.H β k := by
    rintro k (hk | ⟨b, x, ver, u, q1, q2, q3, q4⟩)
    · exact .inl hk
    · exact .inr ⟨b, x, ver, u, hH b x q1, q2, hres q3, q4⟩
  refine ⟨h.nt.trans h1, h.df, fun t pv ht => ?_, fun b x hb => ?_, fun b b' x x' hne hb hb' ver u ver' u' k q1 q2 => h.sep b b' x x' hne (hH b x hb) (hH b' x' hb') ver u ver' u' k (hres q1) (hres q2), fun b ver u k q1 => h.lies b ver u k (hres q1), fun b hb => ?_, h.below, h.nxb, h.bs, fun pv v hg => ?_, h.gr⟩
  · have hm := h2 (t, pv) (lk_mem ht)
    obtain ⟨q1, q2⟩ := h.env t pv (hm.1.trans ht)
    exact ⟨by rw [← h1]; exact q1, (q2.fewer hN).restrict hm.2⟩
  · have hx := h.blk b x (hH b x hb)
    have href := (h3 (b, x) (lk_mem hb)).2
    cases x with
    | box T0 cs =>
      obtain ⟨k, cells, p1, p2, p3, p4, p5⟩ := hx
      exact ⟨k, cells, (hin b _ hb).trans p1, p2, p3, p4, fun j pv hj => ⟨((p5 j pv hj).1.fewer hN).restrict (refsInL_mem href (List.mem_of_getElem? hj)), (p5 j pv hj).2⟩⟩
    | map es =>
      obtain ⟨k, ents, clock, p1, p2, p3, p4, p5⟩ := hx
      refine ⟨k, ents, clock, (hin b _ hb).trans p1, p2, p3, p4, fun j kv pv hj => ?_⟩
      obtain ⟨e, q1, q2, q3⟩ := p5 j kv pv hj
      exact ⟨e, q1, q2, (q3.fewer hN).restrict (refsInL_mem href (List.mem_map.2 ⟨(kv, pv), List.mem_of_getElem? hj, rfl⟩))⟩
    | arr T0 size rows ver f =>
      obtain ⟨u, xs, p1, p2, p3, p4⟩ := hx
      exact ⟨u, xs, (hin b _ hb).trans p1, p2, p3, fun i r j pv hi hj => ⟨(p4 i r j pv hi hj).1.mono (Keeps.refl _ _) (fun k _ => hN k), (p4 i r j pv hi hj).2⟩⟩
  · have hb' : lk b s.hp = none := hb
    simp [restrict, hb']
  · have hr := h.gh pv v hg
    refine (hr.fewer hN).restrict ?_
    -- what a ghost leads to is the caller's, and still there
    have q1 := h.gr pv v hg
    have q2 := hr.refs (ok := fun b => (lk b st.hp).isSome) (fun b r hr' => by
      cases hx : st.H b with
      | none => rw [h.fr b hx] at hr'; cases hr'
      | some x => have hx' : lk b st.hp = some x := hx; simp [hx'])
    refine refsIn_both q1 q2 (fun b h1 h2 => ?_)
    simp only [decide_eq_true_eq] at h1
    obtain ⟨x, hx⟩ := Option.isSome_iff_exists.1 h2
    exact h1c (b, x) (lk_mem hx) (by omega)
end

/-! ### code -/
def wpA (P : Program) (T : Tab) : Code → St → Cont → Prop
  | .skip, st, Q => Q .normal st
  | .region _ ops draw, st, Q => match draw with
    | false => wpOpsA P T ops.toList ops.toList st Q
    | true => drawA P T ops st Q
  | .seq x y, st, Q => wpA P T x st (restO Q fun st' => wpA P T y st' Q)
  | .cond c x y, st, Q => match ev st.E c with
    | .lit (.bool t) => (t = true → wpA P T x st Q) ∧ (t = false → wpA P T y st Q)
    | _ => False
  | .block id body, st, Q => wpA P T body st (fun o st' => match o with
    | .normal => Q .normal st'
    | .ret => Q .ret st'
    | .panic v => Q (.panic v) st'
    | .exit i => if i = id then Q .normal st' else Q (.exit i) st')
  | .loop body, st, Q => ∃ I : Nat → St → Prop, (∃ m s, Weak st s ∧ I m s) ∧ ∀ m s, I m s → wpA P T body s (restO Q fun s' => ∃ m' s'', m' < m ∧ Weak s' s'' ∧ I m' s'')
  | .exit id, st, Q => Q (.exit id) st
  | .ret, st, Q => Q .ret st
  | .scope body, st, Q => wpA P T body st Q
  | _, _, _ => False

theorem panA_postA {C : Ctx} {st : St} {Q : Cont} : PanA C st Q (postA C st.n st.bs Q) := fun pv st' β' a' w' v h hn hs hr => ⟨.panic pv, st', β', ⟨v, rfl, hr⟩, h, hn, hs⟩

theorem wpA_sound {P : Program} {T : Tab} (hT : TabOK P T) (hmix : P.follows .mixedOrders = true) {C : Ctx} : ∀ (c : Code) (st : St) (Q : Cont) (β : Ref) (a : Act) (w : World), codeOK c = true → wpA P T c st Q → C.gb ≤ st.bs → Sim C st.n st.E st.H β a w → c.wp P (postA C st.n st.bs Q) a w
  | .skip, st, Q, β, a, w, hc, h, hgb, hs => wp_skip ⟨.normal, st, β, rfl, h, ⟨rfl, rfl⟩, hs⟩
  | .region id ops false, st, Q, β, a, w, hc, h, hgb, hs => by
    refine wp_region ?_
    have := wpOpsA_sound hT (Q := postA C st.n st.bs Q) ops.toList 0 st β a w rfl h hgb hs (fun st' β' a' w' hK hn hs' => ⟨.normal, st', β', rfl, hK, hn, hs'⟩) panA_postA
    rw [List.range_eq_range']
    simpa using this
  | .region id ops true, st, Q, β, a, w, hc, h, hgb, hs => drawA_sound hT hmix hc h hgb hs (fun st' β' a' w' hK hn hs' => ⟨.normal, st', β', rfl, hK, hn, hs'⟩) panA_postA
  | .seq x y, st, Q, β, a, w, hc, h, hgb, hs => by
    simp only [codeOK, Bool.and_eq_true] at hc
    refine wp_seq (wp_mono (wpA_sound hT hmix x st _ β a w hc.1 h hgb hs) ?_)
    rintro e a' w' ⟨o, st', β', hf, hq, hn, hs'⟩
    cases o with
    | normal =>
      cases hf
      have := wpA_sound hT hmix y st' Q β' a' w' hc.2 hq (by rw [hn.2]; exact hgb) hs'
      rw [hn.1, hn.2] at this
      exact this
    | ret => cases hf; exact ⟨.ret, st', β', rfl, hq, hn, hs'⟩
    | exit i => cases hf; exact ⟨.exit i, st', β', rfl, hq, hn, hs'⟩
    | panic pv => obtain ⟨v, rfl, hr⟩ := hf; exact ⟨.panic pv, st', β', ⟨v, rfl, hr⟩, hq, hn, hs'⟩
  | .cond c x y, st, Q, β, a, w, hok, h, hgb, hs => by
    simp only [codeOK, Bool.and_eq_true] at hok
    simp only [wpA] at h
    split at h
    · rename_i t hc
      have hr := hs.ev c
      rw [hc] at hr
      exact wp_cond_split hr.lit_eq (fun ht => wpA_sound hT hmix x st Q β a w hok.1 (h.1 ht) hgb hs) (fun ht => wpA_sound hT hmix y st Q β a w hok.2 (h.2 ht) hgb hs)
    · exact h.elim
  | .block id body, st, Q, β, a, w, hc, h, hgb, hs => by
    refine wp_block (wp_mono (wpA_sound hT hmix body st _ β a w hc h hgb hs) ?_)
    rintro e a' w' ⟨o, st', β', hf, hq, hn, hs'⟩
    cases o with
    | normal => cases hf; exact ⟨.normal, st', β', rfl, hq, hn, hs'⟩
    | ret => cases hf; exact ⟨.ret, st', β', rfl, hq, hn, hs'⟩
    | panic pv => obtain ⟨v, rfl, hr⟩ := hf; exact ⟨.panic pv, st', β', ⟨v, rfl, hr⟩, hq, hn, hs'⟩
    | exit i =>
      cases hf
      simp only [Exit.inBlock]
      simp only at hq
      split at hq
      · rename_i e
        rw [if_pos e]
        exact ⟨.normal, st', β', rfl, hq, hn, hs'⟩
      · rename_i e
        rw [if_neg e]
        exact ⟨.exit i, st', β', rfl, hq, hn, hs'⟩
  | .loop body, st, Q, β, a, w, hc, h, hgb, hs => by
    obtain ⟨I, ⟨m, s, hw, hI⟩, hstep⟩ := h
    have key : ∀ m s β a w, I m s → (s.n = st.n ∧ s.bs = st.bs) → Sim C s.n s.E s.H β a w → ∀ b k cs, ∃ e a' w', postA C st.n st.bs Q e a' w' ∧ Arrives P (lone (b.at a (.code body :: .inLoop body :: k)) cs w) b k cs e a' w' := by
      intro m
      induction m using Nat.strongRecOn with
      | _ m ih =>
        intro s β a w hI hn hs b k cs
        obtain ⟨e, a1, w1, hp, harr⟩ := wpA_sound hT hmix body s _ β a w hc (hstep m s hI) (by rw [hn.2]; exact hgb) hs b (.inLoop body :: k) cs
        obtain ⟨o, s', β', hf, hq, hn', hs'⟩ := hp
        cases o with
        | normal =>
          cases hf
          obtain ⟨m', s'', hlt, hweak, hI'⟩ := hq
          obtain ⟨e2, a2, w2, hp2, harr2⟩ := ih m' hlt s'' _ a1 w1 hI' ⟨by rw [← hweak.1.1, hn'.1, hn.1], by rw [← hweak.1.2.1, hn'.2, hn.2]⟩ (hs'.weak (by rw [hn'.2, hn.2]; exact hgb) hweak) b k cs
          exact ⟨e2, a2, w2, hp2, .of_steps (Steps.trans harr (.one step_inLoop)) harr2⟩
        | ret => cases hf; exact ⟨.ret, a1, w1, ⟨.ret, s', β', rfl, hq, ⟨by rw [hn'.1, hn.1], by rw [hn'.2, hn.2]⟩, hs'⟩, .pass (x := .inLoop body) rfl (fun _ _ => .inl (by simp)) harr⟩
        | exit i => cases hf; exact ⟨.exit i, a1, w1, ⟨.exit i, s', β', rfl, hq, ⟨by rw [hn'.1, hn.1], by rw [hn'.2, hn.2]⟩, hs'⟩, .pass (x := .inLoop body) rfl (fun _ _ => .inl (by simp)) harr⟩
        | panic pv => obtain ⟨v, rfl, hr⟩ := hf; exact ⟨_, a1, w1, ⟨.panic pv, s', β', ⟨v, rfl, hr⟩, hq, ⟨by rw [hn'.1, hn.1], by rw [hn'.2, hn.2]⟩, hs'⟩, .pass (x := .inLoop body) rfl (fun _ _ => .inl (by simp)) harr⟩
    intro b k cs
    obtain ⟨e, a', w', hp, harr⟩ := key m s _ a w hI ⟨hw.1.1.symm, hw.1.2.1.symm⟩ (hs.weak hgb hw) b k cs
    exact ⟨e, a', w', hp, .of_steps (.one step_loop) harr⟩
  | .exit id, st, Q, β, a, w, hc, h, hgb, hs => wp_exit ⟨.exit id, st, β, rfl, h, ⟨rfl, rfl⟩, hs⟩
  | .ret, st, Q, β, a, w, hc, h, hgb, hs => wp_ret ⟨.ret, st, β, rfl, h, ⟨rfl, rfl⟩, hs⟩
  | .scope body, st, Q, β, a, w, hc, h, hgb, hs => by
    refine wp_scope_straight (wp_mono (wpA_sound hT hmix body st Q β a w hc h hgb hs) ?_)
    rintro e a' w' ⟨o, st', β', hf, hq, hn, hs'⟩
    cases o with
    | normal => cases hf; exact ⟨.normal, st', β', rfl, hq, hn, hs'⟩
    | ret => cases hf; exact ⟨.ret, st', β', rfl, hq, hn, hs'⟩
    | exit i => cases hf; exact ⟨.exit i, st', β', rfl, hq, hn, hs'⟩
    | panic pv => obtain ⟨v, rfl, hr⟩ := hf; exact ⟨.panic pv, st', β', ⟨v, rfl, hr⟩, hq, hn, hs'⟩
  | .rangeFunc .., _, _, _, _, _, _, h, _, _ => h.elim
  | .label _, _, _, _, _, _, _, h, _, _ => h.elim
  | .goto _, _, _, _, _, _, _, h, _, _ => h.elim
  | .refuse _, _, _, _, _, _, _, h, _, _ => h.elim

end Go.Pe
