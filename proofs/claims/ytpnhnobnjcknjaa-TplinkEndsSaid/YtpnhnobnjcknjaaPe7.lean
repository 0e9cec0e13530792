/- Operations that give a value, and write no memory: the theorem. -/
import Derived.Test.YtpnhnobnjcknjaaPe6
set_option linter.unusedVariables false
set_option linter.unusedSimpArgs false
namespace Go.Pe
open Go.RowKit

section
variable {P : Program} {T : Tab} {C : Ctx} {n : Nat} {E : Env} {H : Heap} {β : Ref} {a : Act} {w : World}

theorem TD.field {fs : List (Nat × TypeId)} {gs : Array Field} (h : gs.toList.map (fun f => (f.offset, f.type)) = fs) {f off : Nat} {ft : TypeId} (hf : fs[f]? = some (off, ft)) :
    ∃ fd, gs[f]? = some fd ∧ fd.offset = off ∧ fd.type = ft := by
  subst h
  simp only [List.getElem?_map, Option.map_eq_some_iff, Prod.mk.injEq] at hf
  obtain ⟨fd, h1, h2, h3⟩ := hf
  exact ⟨fd, by simpa using h1, h2, h3⟩

theorem mapM_places (hT : TabOK P T) : ∀ (l : List Field), (l.map (fun f => (f.offset, f.type))).all (fun f => (T f.2).isSome) = true →
    ∃ places, l.mapM (fun f => (P.info? f.type).map fun i => (f.offset, i.size)) = some places ∧ places.length = l.length ∧
      ∀ (i off : Nat) (ft : TypeId) (fi : TI), (l.map (fun f => (f.offset, f.type)))[i]? = some (off, ft) → T ft = some fi → places[i]? = some (off, fi.size)
  | [], _ => ⟨[], rfl, rfl, by simp⟩
  | f :: l, h => by
    simp only [List.map_cons, List.all_cons, Bool.and_eq_true] at h
    obtain ⟨places, h1, h2, h3⟩ := mapM_places hT l h.2
    obtain ⟨ti, hti⟩ := Option.isSome_iff_exists.1 h.1
    obtain ⟨i, z, q1, q2, _⟩ := (hT f.type ti hti).i
    refine ⟨(f.offset, i.size) :: places, by simp [List.mapM_cons, q1, h1], by simp [h2], fun k off ft fi hk hf => ?_⟩
    cases k with
    | zero =>
      simp only [List.map_cons, List.getElem?_cons_zero, Option.some.injEq, Prod.mk.injEq] at hk
      obtain ⟨rfl, rfl⟩ := hk
      rw [hti] at hf
      cases hf
      simp [q2]
    | succ k =>
      simp only [List.map_cons, List.getElem?_cons_succ] at hk ⊢
      exact h3 k off ft fi hk hf

theorem zero_rep {N : Nat → Prop} {z : Value} {ti : TI} (hz : z.cells.toList = ti.zero) (hr : ZRep ti.zpv ti.zero) : z.cells.size = ti.zpv.length ∧ ∀ j x, ti.zpv[j]? = some x → IRep N w x (z.cells.getD j undef) := by
  refine ⟨by rw [hr.1, ← hz]; simp, fun j x hj => ?_⟩
  have e : z.cells.getD j undef = ti.zero.getD j undef := by rw [← hz]; simp [Array.getD_eq_getD_getElem?, List.getD_eq_getElem?_getD]
  rw [e]
  rcases hr.2 j x hj with rfl | ⟨⟨s, rfl⟩, h⟩
  · exact .lit _
  · rw [h]
    exact .imN _ _ _ rfl

theorem build_sound (hT : TabOK P T) (hs : Sim C n E H β a w) {t : TypeId} {ps : Array (Nat × Operand)} {r : PV} {ok : Prop} (h : buildA T E t ps = some (ok, r)) (hok : ok) :
    ∃ u, (Instr.build t (ps.map fun (i, x) => (i, a.eval x))).run P w = .ok u w ∧ Rep (NN C H β) w β r u := by
  have hparts : ∀ (i : Nat) (p : Nat × PV) (q : Nat × Value), (ps.toList.map fun p => (p.1, ev E p.2))[i]? = some p → ((ps.map fun (i, x) => (i, a.eval x)).toList)[i]? = some q → p.1 = q.1 ∧ Rep (NN C H β) w β p.2 q.2 := by
    intro i p q h1 h2
    simp only [List.getElem?_map, Option.map_eq_some_iff, Array.toList_map] at h1 h2
    obtain ⟨z, hz1, rfl⟩ := h1
    obtain ⟨z', hz2, rfl⟩ := h2
    rw [hz1] at hz2
    cases hz2
    exact ⟨rfl, hs.ev _⟩
  unfold buildA at h
  split at h
  · cases h
  · rename_i ti hti
    obtain ⟨d, hu, hf, _⟩ := (hT t ti hti).d
    obtain ⟨it, z, i1, i2, i3, i4, i5, _⟩ := (hT t ti hti).i
    have hz' := zero_rep (w := w) (N := NN C H β) i5 (hT t ti hti).z
    have hz : z.cells.size = ti.zpv.length ∧ ∀ j x, ti.zpv[j]? = some x → Rep (NN C H β) w β x (z.cells.getD j undef) := ⟨hz'.1, fun j x hj => .i (hz'.2 j x hj)⟩
    split at h
    · rename_i fs hd
      rw [hd] at hf
      obtain ⟨gs, rfl, hgs⟩ := hf
      split at h
      · rename_i hall
        simp only [Option.map_eq_some_iff, Prod.mk.injEq] at h
        obtain ⟨cs, hcs, rfl, rfl⟩ := h
        rw [← hgs] at hall hcs
        obtain ⟨places, p1, p2, p3⟩ := mapM_places hT gs.toList hall
        obtain ⟨cells, c1, c2, c3⟩ := fill_run hT (place' := (places.toArray[·]?)) (fun i off ft fi hi hfi => by simpa using p3 i off ft fi hi hfi) _ (ps.map fun (i, x) => (i, a.eval x)).toList _ z.cells cs hcs (by simp) hparts hz.1 hz.2
        exact ⟨.agg cells, run_build w t _ cells (by simp only [Program.built, i1, hu, i4, p1, c1]), .agg _ _ c2 c3⟩
      · cases h
    · rename_i m e hd
      rw [hd] at hf
      simp only [TD.fits] at hf
      subst hf
      split at h
      · rename_i te hte
        obtain ⟨ie, ze, j1, j2, _⟩ := (hT e te hte).i
        simp only [Option.map_eq_some_iff, Prod.mk.injEq] at h
        obtain ⟨cs, hcs, rfl, rfl⟩ := h
        obtain ⟨cells, c1, c2, c3⟩ := fill_run hT (place' := fun i => some (i * ie.size, ie.size)) (fun i off ft fi hi hfi => by
          simp only [Option.some.injEq, Prod.mk.injEq] at hi ⊢
          obtain ⟨rfl, rfl⟩ := hi
          rw [hte] at hfi
          cases hfi
          exact ⟨by rw [j2], j2⟩) _ (ps.map fun (i, x) => (i, a.eval x)).toList _ z.cells cs hcs (by simp) hparts hz.1 hz.2
        exact ⟨.agg cells, run_build w t _ cells (by simp only [Program.built, i1, hu, i4, j1, c1]), .agg _ _ c2 c3⟩
      · cases h
    · cases h

theorem part_run {t : TypeId} {ti : TI} (ht : TypeOK P t ti) {N : Nat → Prop} {cs : List PV} {vs : Array Value} {off : Nat} (hl : vs.size = cs.length) (hv : ∀ i pv, cs[i]? = some pv → Rep N w β pv (vs.getD i undef))
    (hok : ldOK ti (cs.drop off)) : ∃ v, (part t vs off).run P w = .ok v w ∧ Rep N w β (ld ti (cs.drop off)) v := by
  obtain ⟨h1, h2⟩ := hok
  unfold part ld
  cases hg : ti.agg with
  | true =>
    refine ⟨.agg (vs.extract off (off + ti.size)), by simp [ht.run_isAgg, hg, ht.run_sizeOf], ?_⟩
    simp only [if_true]
    simp at h1
    refine .agg _ _ (by simp; omega) fun i pv hi => ?_
    have hlt : i < ti.size := by have := (List.getElem?_eq_some_iff.1 hi).1; simp at this; omega
    rw [List.getElem?_take_of_lt hlt, List.getElem?_drop] at hi
    have := hv _ _ hi
    have e : (vs.extract off (off + ti.size)).getD i undef = vs.getD (off + i) undef := by
      simp only [Array.getD_eq_getD_getElem?]
      rw [Array.getElem?_extract]
      simp [show i < min (off + ti.size) vs.size - off by omega]
    rw [e]
    exact this
  | false =>
    have h3 : ti.size = 1 := by simpa [hg] using h2
    simp at h1
    have hlt : off < cs.length := by omega
    have hlt' : off < vs.size := by omega
    refine ⟨vs[off], by simp [ht.run_isAgg, hg, hlt'], ?_⟩
    have := hv off cs[off] (List.getElem?_eq_getElem hlt)
    have e : (List.drop off cs).headD .any = cs[off] := by rw [List.drop_eq_getElem_cons hlt]; rfl
    simp only [Bool.false_eq_true, if_false]
    rw [e]
    simpa [Array.getD, hlt'] using this

theorem findNow_spec {R : PV → Value → Prop} {k k0 : IntKind} {n : Int} : ∀ (es : List (Value × PV)) (ents : List MapEntry) (i : Nat), ents.length = es.length → (∀ (j : Nat) kv pv, es[j]? = some (kv, pv) → ∃ e, ents[j]? = some e ∧ e.key = kv ∧ R pv e.val) → keysOK k es = true →
    ∃ r, Instr.findNow (.int k0) (.int k n) ents i = some r ∧ ((lookB n es = false ∧ r = none) ∨ (lookB n es = true ∧ ∃ i' v, r = some (i', v) ∧ R (lookV n es) v))
  | [], ents, i, hl, h, hk => by
    have : ents = [] := List.eq_nil_of_length_eq_zero hl
    subst this
    exact ⟨none, rfl, .inl ⟨rfl, rfl⟩⟩
  | (kv, pv) :: es, [], i, hl, h, hk => by simp at hl
  | (kv, pv) :: es, en :: ents, i, hl, h, hk => by
    obtain ⟨e, q1, q2, q3⟩ := h 0 kv pv rfl
    cases q1
    cases kv <;> simp only [keysOK, Bool.false_eq_true] at hk
    rename_i k' m
    simp only [Bool.and_eq_true, decide_eq_true_eq] at hk
    obtain ⟨rfl, hk⟩ := hk
    obtain ⟨r, r1, r2⟩ := findNow_spec (R := R) (k0 := k0) (n := n) es ents (i + 1) (by simpa using hl) (fun j kv pv hj => by have := h (j + 1) kv pv (by simpa using hj); simpa using this) hk
    simp only [Instr.findNow, q2, Instr.sameNow, if_true]
    by_cases hm : n = m
    · subst hm
      refine ⟨some (i, en.val), by simp, .inr ⟨by simp [lookB], i, en.val, rfl, by simpa [lookV] using q3⟩⟩
    · have hb : (n == m) = false := by simpa using hm
      rw [hb]
      refine ⟨r, r1, ?_⟩
      simpa [lookB, lookV, hm] using r2
theorem lookV_none {n : Int} : ∀ {es : List (Value × PV)}, lookB n es = false → lookV n es = .any
  | [], _ => rfl
  | (kv, pv) :: es, h => by
    cases kv <;> simp only [lookV]
    rename_i k m
    simp only [lookB, Bool.or_eq_false_iff, decide_eq_false_iff_not] at h
    rw [if_neg h.1]
    exact lookV_none h.2
theorem checkKey_int {t : TypeId} {k k' : IntKind} {n : Int} {empty : Bool} (h : P.underlying t = some (.int k)) (w : World) : (Instr.checkKey empty 10000 t (.int k' n)).run P w = .ok () w := by
  have key : ∀ d, (Instr.checkKey empty (d + 1) t (.int k' n)).run P w = .ok () w := by
    intro d
    simp [Instr.checkKey, run_underlying h]
  exact key 9999

/-- THE THEOREM: what 'evVal' tells of an operation, the model's operation gives. -/
theorem evVal_sound (hT : TabOK P T) (hs : Sim C n E H β a w) {o : Oper} {r : PV} {ok : Prop} (h : evVal T E H o.op = some (ok, r)) (hok : ok) :
    ∃ u, (execOp a.eval o).run P w = .ok (.value u) w ∧ Rep (NN C H β) w β r u := by
  obtain ⟨dst, op, ty, pos, after, guard⟩ := o
  have lift : ∀ {s : Sem Value}, (∃ u, s.run P w = .ok u w ∧ Rep (NN C H β) w β r u) → ∃ u, (do pure (.value (← s)) : Sem Next).run P w = .ok (.value u) w ∧ Rep (NN C H β) w β r u := by
    rintro s ⟨u, h1, h2⟩
    exact ⟨u, by simp [h1], h2⟩
  cases op <;> simp only [evVal, reduceCtorEq] at h
  case move x =>
    simp only [Option.some.injEq, Prod.mk.injEq] at h
    obtain ⟨_, rfl⟩ := h
    exact ⟨a.eval x, by simp [execOp], hs.ev x⟩
  case assign x =>
    simp only [Option.some.injEq, Prod.mk.injEq] at h
    obtain ⟨_, rfl⟩ := h
    exact ⟨a.eval x, by simp [execOp], hs.ev x⟩
  case pick c x y =>
    split at h
    · rename_i t hc
      simp only [Option.some.injEq, Prod.mk.injEq] at h
      obtain ⟨_, rfl⟩ := h
      have hr := hs.ev c
      rw [hc] at hr
      refine ⟨if t then a.eval x else a.eval y, by simp [execOp, hr.lit_eq, asBool], ?_⟩
      cases t
      · exact hs.ev y
      · exact hs.ev x
    · cases h
  case load t x =>
    refine lift (s := Instr.loadAt t (a.eval x)) ?_
    split at h
    · cases h
    · rename_i ti hti
      have hr := hs.ev x
      split at h
      · rename_i b off hx
        rw [hx] at hr
        obtain ⟨k, hk, hβ⟩ := hr.ptr_eq
        split at h
        · rename_i T0 cs hH
          simp only [Option.some.injEq, Prod.mk.injEq] at h
          obtain ⟨rfl, rfl⟩ := h
          obtain ⟨k', cells, q1, q2, q3, q4, q5⟩ := hs.blk b _ hH
          rw [hβ] at q1
          cases q1
          obtain ⟨v, v1, v2⟩ := load_run (P := P) (hT t ti hti) (ad := ⟨k, off, none⟩) (w := w) (β := β) (N := NN C H β) hok (fun j => cells.getD (off + j) undef) (fun j pv hj => by
            rw [List.getElem?_drop] at hj
            refine ⟨?_, (q5 _ _ hj).1⟩
            have hlt : off + j < cells.size := by rw [q4]; exact (List.getElem?_eq_some_iff.1 hj).1
            rw [Addr.add_lit, cell_of_row w k (off + j) cells T0 (0, 0) q3]
            simp [Array.getD, hlt])
          exact ⟨v, by simp [hk, Instr.loadAt, Instr.sureAddr, v1], v2⟩
        · cases h
      · rename_i b ver row off size hx
        rw [hx] at hr
        split at h
        · rename_i T0 s rows ver' f hH
          simp only [Option.some.injEq, Prod.mk.injEq] at h
          obtain ⟨rfl, rfl⟩ := h
          obtain ⟨rfl, rfl, hrow, hld⟩ := hok
          obtain ⟨g, nn, c, xs, h1, h2, h3, h4⟩ := arr_ptr hs hH hrow hr
          have hrl : rows[row]? = some (rows.getD row []) := by simp [List.getD_eq_getElem?_getD, hrow]
          obtain ⟨v, v1, v2⟩ := load_run (P := P) (hT t ti hti) (ad := ⟨g, row * s + off, none⟩) (w := w) (β := β) (N := NN C H β) hld (fun j => xs.getD (row * s + (off + j)) undef) (fun j pv hj => by
            rw [List.getElem?_drop] at hj
            refine ⟨?_, .i (h4 row _ (off + j) pv hrl hj).1⟩
            obtain ⟨_, _, _, _, hsz, _⟩ := hs.blk b _ hH
            have hjl : off + j < s := by have := (List.getElem?_eq_some_iff.1 hj).1; rw [hsz _ (List.mem_of_getElem? hrl)] at this; exact this
            have hlt : row * s + (off + j) < xs.length := by rw [h3.1]; exact flat_lt hrow hjl
            have := h3.cells (g := g) rfl (row * s + (off + j)) (xs.getD (row * s + (off + j)) undef) (by simp [List.getD_eq_getElem?_getD, hlt])
            rw [Addr.add_lit] at this ⊢
            simpa [Nat.add_assoc] using this)
          exact ⟨v, by simp [h2, Instr.loadAt, Instr.sureAddr, v1], v2⟩
        · cases h
      · rename_i cs hx
        rw [hx] at hr
        simp only [Option.some.injEq, Prod.mk.injEq] at h
        obtain ⟨rfl, rfl⟩ := h
        obtain ⟨ad, vals, hv, hc⟩ := hr.iptr_eq
        obtain ⟨v, v1, v2⟩ := load_run (P := P) (hT t ti hti) (ad := ad) (w := w) (β := β) (N := NN C H β) hok vals (fun j pv hj => ⟨(hc j pv hj).1, .i (hc j pv hj).2.2.1⟩)
        exact ⟨v, by simp [hv, Instr.loadAt, Instr.sureAddr, v1], v2⟩
      · cases h
  case build t ps => exact lift (build_sound hT hs h hok)
  case makeInterface t x =>
    refine lift (s := Instr.makeInterface t (a.eval x)) ?_
    split at h
    · rename_i ti hti
      obtain ⟨d, hu, hf, _⟩ := (hT t ti hti).d
      split at h
      · rename_i k hd
        rw [hd] at hf
        simp only [TD.fits] at hf
        subst hf
        simp only [Option.some.injEq, Prod.mk.injEq] at h
        obtain ⟨_, rfl⟩ := h
        exact ⟨.iface t (a.eval x), by simp [Instr.makeInterface, run_underlying hu], .iface _ _ _ (hs.ev x)⟩
      · rename_i hd
        rw [hd] at hf
        simp only [TD.fits] at hf
        subst hf
        simp only [Option.some.injEq, Prod.mk.injEq] at h
        obtain ⟨_, rfl⟩ := h
        exact ⟨.iface t (a.eval x), by simp [Instr.makeInterface, run_underlying hu], .iface _ _ _ (hs.ev x)⟩
      · cases h
    · cases h
  case lookup t x i ok' =>
    refine lift (s := Instr.lookup t (a.eval x) (a.eval i) ok') ?_
    split at h
    · rename_i ti b k n0 hti hx hi
      split at h
      · rename_i kt et es hd hH
        split at h
        · rename_i ki hki
          split at h
          · rename_i k' hkd
            simp only [Option.some.injEq, Prod.mk.injEq] at h
            obtain ⟨rfl, rfl⟩ := h
            obtain ⟨rfl, hk, hok', het⟩ := hok
            obtain ⟨d, hu, hf, _⟩ := (hT t ti hti).d
            rw [hd] at hf
            simp only [TD.fits] at hf
            subst hf
            obtain ⟨d2, hu2, hf2, _⟩ := (hT kt ki hki).d
            rw [hkd] at hf2
            simp only [TD.fits] at hf2
            subst hf2
            have hrx := hs.ev x
            have hri := hs.ev i
            rw [hx] at hrx
            rw [hi] at hri
            obtain ⟨kk, hvx, hβ⟩ := hrx.mapp_eq
            obtain ⟨k2, ents, clock, q1, q2, q3, q4, q5⟩ := hs.blk b _ hH
            rw [hβ] at q1
            cases q1
            obtain ⟨rr, r1, r2⟩ := findNow_spec (R := fun pv v => Rep (NN C H β) w β pv v) (k0 := k') (n := n0) es ents.toList 0 (by simpa using q4) (fun j kv pv hj => by have := q5 j kv pv hj; simpa using this) hk
            have hfind : (Instr.findKey kt (.int k' n0) ents.toList).run P w = .ok rr w := by
              simp [Instr.findKey, run_underlying hu2, r1]
            have hget : (getObj kk).run P w = .ok (.map ents clock) w := by simp [getObj, Sem.run, q3]
            rcases r2 with ⟨hb, rfl⟩ | ⟨hb, i', v, rfl, hv⟩
            · have hokt : ok' = true := by simpa [hb] using hok'
              subst hokt
              obtain ⟨ei, hei⟩ := Option.isSome_iff_exists.1 het
              obtain ⟨z, hz, _⟩ := (hT et ei hei).run_zero w
              refine ⟨.tuple #[z, .bool false], ?_, ?_⟩
              · simp [Instr.lookup, run_underlying hu, hvx, hri.lit_eq, hget, checkKey_int hu2, hfind, hz]
              · simp only [if_true, hb]
                refine .tup _ _ rfl fun j pv hj => ?_
                match j, hj with
                | 0, hj => cases hj; rw [lookV_none hb]; exact .any _
                | 1, hj => cases hj; exact .i (.lit _)
                | j + 2, hj => simp at hj
            · refine ⟨if ok' then .tuple #[v, .bool true] else v, ?_, ?_⟩
              · simp [Instr.lookup, run_underlying hu, hvx, hri.lit_eq, hget, checkKey_int hu2, hfind]
              · cases ok' with
                | false => simpa using hv
                | true =>
                  simp only [if_true, hb]
                  refine .tup _ _ rfl fun j pv hj => ?_
                  match j, hj with
                  | 0, hj => cases hj; exact hv
                  | 1, hj => cases hj; exact .i (.lit _)
                  | j + 2, hj => simp at hj
          · cases h
        · cases h
      · cases h
    · cases h
  case nilCheck x =>
    have hr := hs.ev x
    unfold nilA at h
    split at h
    · rename_i f p q hx
      unfold nilFn at h
      split at h
      · rename_i f'
        rw [hx] at hr
        simp only [Option.some.injEq, Prod.mk.injEq] at h
        obtain ⟨_, rfl⟩ := h
        refine ⟨a.eval x, ?_, hr⟩
        simp only [execOp]
        generalize a.eval x = vx at hr
        cases hr with
        | i hi => cases hi
        | fn => rfl
      · cases h
    · rename_i v hx
      unfold nilLit at h
      split at h
      · rw [hx] at hr
        simp only [Option.some.injEq, Prod.mk.injEq] at h
        obtain ⟨_, rfl⟩ := h
        refine ⟨a.eval x, ?_, hr⟩
        simp only [execOp, hr.lit_eq]
        rfl
      · cases h
    · obtain ⟨ad, hv, hrep⟩ := stepIn_sound hs h hok hr
      rw [Addr.add_zero'] at hrep
      exact ⟨.pointer (some ad), by simp [execOp, hv], hrep⟩
  case binOp op t x y _ =>
    split at h
    · rename_i p q hx hy
      simp only [Option.map_eq_some_iff, Prod.mk.injEq] at h
      obtain ⟨⟨ok', v⟩, hb, rfl, rfl⟩ := h
      have hrx := hs.ev x
      have hry := hs.ev y
      rw [hx] at hrx
      rw [hy] at hry
      refine ⟨v, ?_, .i (.lit _)⟩
      have := binA_run (P := P) hT (x := x) (y := y) hb hok w
      simp only [execOp, hrx.lit_eq, hry.lit_eq]
      simp only [Sem.run_bind] at this ⊢
      rw [this]
      rfl
    · cases h
  case unOp op _ x =>
    split at h
    · rename_i p hx
      simp only [Option.map_eq_some_iff, Prod.mk.injEq] at h
      obtain ⟨v, hb, rfl, rfl⟩ := h
      have hrx := hs.ev x
      rw [hx] at hrx
      refine ⟨v, ?_, .i (.lit _)⟩
      simp [execOp, hrx.lit_eq, unA_run hb]
    · cases h
  case convert s d x => exact lift (conv_sound hT hs h hok (hs.ev x))
  case makeFunc f first cap =>
    simp only [Option.some.injEq, Prod.mk.injEq] at h
    obtain ⟨_, rfl⟩ := h
    refine ⟨.func f (first.map a.eval) (cap.map a.eval), by simp [execOp, Instr.makeFunc], ?_⟩
    have hget : ∀ (l : Array Operand) i pv, (l.toList.map (ev E))[i]? = some pv → Rep (NN C H β) w β pv ((l.map a.eval).getD i undef) := by
      intro l i pv hi
      simp only [List.getElem?_map, Option.map_eq_some_iff] at hi
      obtain ⟨x, hx, rfl⟩ := hi
      have hx' : l[i]? = some x := by simpa using hx
      have : (l.map a.eval).getD i undef = a.eval x := by simp [Array.getD_eq_getD_getElem?, hx']
      rw [this]
      exact hs.ev x
    exact .fn f _ _ _ _ (by simp) (by simp) (hget first) (hget cap)
  case slice t x lo hi mx => exact lift (slice_sound hT hs h hok)
  case fieldAddr s x f =>
    refine lift (s := Instr.fieldAt s (a.eval x) f) ?_
    split at h
    · rename_i ti hti
      obtain ⟨d, hu, hf, _⟩ := (hT s ti hti).d
      split at h
      · rename_i fs hd
        rw [hd] at hf
        obtain ⟨gs, rfl, hgs⟩ := hf
        split at h
        · rename_i off ft hfs
          obtain ⟨fd, g1, rfl, rfl⟩ := TD.field hgs hfs
          split at h
          · rename_i fi hfi
            simp only [Option.map_eq_some_iff, Prod.mk.injEq] at h
            obtain ⟨⟨ok', r'⟩, hst, rfl, rfl⟩ := h
            obtain ⟨hok1, hok2⟩ := hok
            obtain ⟨ad, hv, hrep⟩ := stepIn_sound hs hst hok1 (hs.ev x)
            refine ⟨_, ?_, hrep⟩
            simp [Instr.fieldAt, run_underlying hu, g1, hv, Instr.sureAddr, fieldPlace, (hT fd.type fi hfi).run_sizeOf, hok2]
          · cases h
        · cases h
      · cases h
    · cases h
  case field t x f =>
    refine lift (s := Instr.field t (a.eval x) f) ?_
    split at h
    · rename_i ti cs hti hx
      obtain ⟨d, hu, hf, _⟩ := (hT t ti hti).d
      split at h
      · rename_i fs hd
        rw [hd] at hf
        obtain ⟨gs, rfl, hgs⟩ := hf
        split at h
        · rename_i off ft hfs
          obtain ⟨fd, g1, rfl, rfl⟩ := TD.field hgs hfs
          split at h
          · rename_i fi hfi
            simp only [Option.some.injEq, Prod.mk.injEq] at h
            obtain ⟨rfl, rfl⟩ := h
            have hr := hs.ev x
            rw [hx] at hr
            obtain ⟨vs, hv, hl, he⟩ := hr.agg_eq
            obtain ⟨v, v1, v2⟩ := part_run (hT fd.type fi hfi) hl he hok
            exact ⟨v, by simp [Instr.field, run_underlying hu, g1, hv, asAgg, v1], v2⟩
          · cases h
        · cases h
      · cases h
    · cases h
  case indexAddr t x i =>
    refine lift (s := Instr.indexAt t (a.eval x) (a.eval i)) ?_
    split at h
    · rename_i k iv ti hi hti
      have hri := hs.ev i
      rw [hi] at hri
      have hvi := hri.lit_eq
      obtain ⟨d, hu, hf, _⟩ := (hT t ti hti).d
      have hr := hs.ev x
      split at h
      · rename_i e hd
        rw [hd] at hf
        simp only [TD.fits] at hf
        subst hf
        split at h
        · rename_i te hte
          split at h
          · rename_i s rows hx
            rw [hx] at hr
            simp only [Option.some.injEq, Prod.mk.injEq] at h
            obtain ⟨rfl, rfl⟩ := h
            obtain ⟨rfl, h0, h1⟩ := hok
            have him := hr.im_eq
            generalize a.eval x = vx at him
            cases him with
            | imN _ _ c hn => simp at h1; omega
            | im _ ad _ cap _ vals hn hsz hc q1 q2 =>
              subst hn
              have hlt : iv.toNat < rows.length := by omega
              refine ⟨.pointer (some (ad.add (iv.toNat * te.size))), ?_, ?_⟩
              · simp [Instr.indexAt, hvi, asIntOf, run_underlying hu, h0, h1, (hT e te hte).run_sizeOf]
              · refine .iptr _ _ (fun j => vals iv.toNat j) fun j pv hj => ?_
                have hrl : rows[iv.toNat]? = some (rows.getD iv.toNat []) := by simp [List.getD_eq_getElem?_getD, hlt]
                obtain ⟨p1, p2, p3⟩ := q1 _ _ j pv hrl hj
                rw [Addr.add_add, add_block]
                exact ⟨p1, p2, q2 _ _ j pv hrl hj, p3⟩
          · rename_i b ver hx
            rw [hx] at hr
            split at h
            · rename_i T0 s rows ver' f hH
              simp only [Option.some.injEq, Prod.mk.injEq] at h
              obtain ⟨rfl, rfl⟩ := h
              obtain ⟨rfl, rfl, h0, h1⟩ := hok
              obtain ⟨u, xs, q1, q2, q3, q4⟩ := hs.blk b _ hH
              have hvx := hr.own_eq q1
              rcases q2.2 with ⟨rfl, hn⟩ | ⟨g, cap, cur, rfl, hrest⟩
              · omega
              · refine ⟨.pointer (some ⟨g, iv.toNat * te.size + 0, none⟩), ?_, ?_⟩
                · simp [Instr.indexAt, hvi, hvx, asIntOf, run_underlying hu, h0, h1, (hT e te hte).run_sizeOf, Addr.add_lit]
                · exact .aptr _ _ _ _ _ _ _ _ q1 (Nat.le_refl _) rfl (fun _ g' n' c' e => by cases e; rfl)
            · cases h
          · cases h
        · cases h
      · rename_i m e hd
        rw [hd] at hf
        simp only [TD.fits] at hf
        subst hf
        split at h
        · rename_i te hte
          split at h
          · rename_i b o hx
            rw [hx] at hr
            simp only [Option.some.injEq, Prod.mk.injEq] at h
            obtain ⟨rfl, rfl⟩ := h
            obtain ⟨kk, hk, hβ⟩ := hr.ptr_eq
            refine ⟨.pointer (some ⟨kk, o + iv.toNat * te.size, none⟩), ?_, .ptr _ _ _ hβ⟩
            simp [Instr.indexAt, hvi, hk, asIntOf, run_underlying hu, Instr.sureAddr, hok, (hT e te hte).run_sizeOf, Addr.add_lit]
          · rename_i cs hx
            rw [hx] at hr
            simp only [Option.some.injEq, Prod.mk.injEq] at h
            obtain ⟨rfl, rfl⟩ := h
            obtain ⟨ad, vals, hv, hc⟩ := hr.iptr_eq
            refine ⟨.pointer (some (ad.add (iv.toNat * te.size))), ?_, ?_⟩
            · simp [Instr.indexAt, hvi, hv, asIntOf, run_underlying hu, Instr.sureAddr, hok, (hT e te hte).run_sizeOf]
            · refine .iptr _ _ (fun j => vals (iv.toNat * te.size + j)) fun j pv hj => ?_
              rw [List.getElem?_drop] at hj
              rw [Addr.add_add, add_block]
              exact hc _ _ hj
          · cases h
        · cases h
      · cases h
    · cases h
  case index t x i =>
    refine lift (s := Instr.index t (a.eval x) (a.eval i)) ?_
    split at h
    · rename_i k iv ti hi hti
      have hri := hs.ev i
      rw [hi] at hri
      have hvi := hri.lit_eq
      obtain ⟨d, hu, hf, _⟩ := (hT t ti hti).d
      have hr := hs.ev x
      split at h
      · rename_i m e cs hd hx
        rw [hd] at hf
        simp only [TD.fits] at hf
        subst hf
        rw [hx] at hr
        split at h
        · rename_i te hte
          simp only [Option.some.injEq, Prod.mk.injEq] at h
          obtain ⟨rfl, rfl⟩ := h
          obtain ⟨h0, h1, h2⟩ := hok
          obtain ⟨vs, hv, hl, he⟩ := hr.agg_eq
          obtain ⟨v, v1, v2⟩ := part_run (hT e te hte) hl he h2
          exact ⟨v, by simp [Instr.index, hvi, hv, asIntOf, run_underlying hu, h0, h1, (hT e te hte).run_sizeOf, v1], v2⟩
        · cases h
      · rename_i s hd hx
        rw [hd] at hf
        simp only [TD.fits] at hf
        subst hf
        rw [hx] at hr
        simp only [Option.some.injEq, Prod.mk.injEq] at h
        obtain ⟨rfl, rfl⟩ := h
        obtain ⟨h0, h1⟩ := hok
        have hlt : iv.toNat < s.size := by omega
        refine ⟨.int .u8 (s[iv.toNat]'hlt).toNat, ?_, ?_⟩
        · simp [Instr.index, hvi, hr.lit_eq, asIntOf, run_underlying hu, h0, hlt]
        · have e : s.data.toList.getD iv.toNat 0 = s[iv.toNat]'hlt := by
            rw [List.getD_eq_getElem?_getD, List.getElem?_eq_getElem (by simpa using hlt)]
            rfl
          rw [e]
          exact .i (.lit _)
      · cases h
    · cases h
  case extract x i =>
    refine lift (s := Instr.extract (a.eval x) i) ?_
    split at h
    · rename_i cs hx
      split at h
      · rename_i c hc
        simp only [Option.some.injEq, Prod.mk.injEq] at h
        obtain ⟨_, rfl⟩ := h
        have hr := hs.ev x
        rw [hx] at hr
        obtain ⟨vs, hv, hl, he⟩ := hr.tup_eq
        have hlt : i < vs.size := by rw [hl]; exact (List.getElem?_eq_some_iff.1 hc).1
        have := he i c hc
        refine ⟨vs[i], by simp [Instr.extract, hv, hlt], ?_⟩
        simpa [Array.getD, hlt] using this
      · cases h
    · cases h
  case call c => exact len_sound hT hs (t := 0) h hok ty
end

end Go.Pe
