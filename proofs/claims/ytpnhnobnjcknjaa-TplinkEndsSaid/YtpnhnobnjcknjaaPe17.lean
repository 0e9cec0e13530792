/- Functions: what a call over plain data gives; calls by a contract, and calls that are walked into. -/
import Derived.Test.YtpnhnobnjcknjaaPe16
set_option linter.unusedVariables false
set_option linter.unusedSimpArgs false
namespace Go.Pe
open Go.RowKit

/-! ### walking into a function -/
def enumFrom : Nat → List PV → List (Nat × PV)
  | _, [] => []
  | k, x :: l => (k, x) :: enumFrom (k + 1) l
theorem lk_enum : ∀ (l : List PV) (k t : Nat), lk t (enumFrom k l) = if k ≤ t then l[t - k]? else none
  | [], k, t => by simp [enumFrom, lk]
  | x :: l, k, t => by
    simp only [enumFrom, lk]
    rw [lk_enum l (k + 1) t]
    by_cases h1 : t = k
    · subst h1; simp
    · by_cases h2 : k + 1 ≤ t
      · rw [if_neg h1, if_pos h2, if_pos (by omega)]
        obtain ⟨m, rfl⟩ : ∃ m, t = k + 1 + m := ⟨t - (k + 1), by omega⟩
        have e1 : k + 1 + m - (k + 1) = m := by omega
        have e2 : k + 1 + m - k = m + 1 := by omega
        rw [e1, e2]
        rfl
      · rw [if_neg h1, if_neg h2, if_neg (by omega)]

/-- A result that is read. -/
def resOneA (T : Tab) (st : St) : ResultVar → Option (Prop × PV)
  | .tmp t => some (True, (lk t st.env).getD .any)
  | .cell p t => match lk p st.env, T t with
    | some (.ptr b off), some ti => match lk b st.hp with
      | some (.box _ cs) => some (ldOK ti (cs.drop off), ld ti (cs.drop off))
      | _ => none
    | _, _ => none
def resListA (T : Tab) (st : St) : List ResultVar → Option (Prop × List PV)
  | [] => some (True, [])
  | x :: l => match resOneA T st x, resListA T st l with
    | some (ok, r), some (ok', rs) => some (ok ∧ ok', r :: rs)
    | _, _ => none
def resRun (tmps : Array Value) : ResultVar → Sem Value
  | .tmp t => pure (tmps.getD t undef)
  | .cell p t => do loadVar t (← asAddr (tmps.getD p undef))
def oneOf : List PV → PV
  | [r] => r
  | rs => .tup rs

section
variable {P : Program} {T : Tab} {C : Ctx} {β : Ref} {a : Act} {w : World}

theorem resOne_sound (hT : TabOK P T) {st : St} (hs : Sim C st.n st.E st.H β a w) {x : ResultVar} {ok : Prop} {r : PV} (h : resOneA T st x = some (ok, r)) (hok : ok) :
    ∃ v, (resRun a.tmps x).run P w = .ok v w ∧ Rep (NN C st.H β) w β r v := by
  cases x with
  | tmp t =>
    simp only [resOneA, Option.some.injEq, Prod.mk.injEq] at h
    obtain ⟨_, rfl⟩ := h
    exact ⟨a.tmps.getD t undef, rfl, hs.ev (.tmp t)⟩
  | cell p t =>
    simp only [resOneA] at h
    split at h
    · rename_i b off ti hp hti
      split at h
      · rename_i T0 cs hH
        simp only [Option.some.injEq, Prod.mk.injEq] at h
        obtain ⟨rfl, rfl⟩ := h
        obtain ⟨k, hk, hβ⟩ := (hs.env p _ hp).2.ptr_eq
        obtain ⟨k', cells, q1, q2, q3, q4, q5⟩ := hs.blk b _ hH
        rw [hβ] at q1
        cases q1
        obtain ⟨v, v1, v2⟩ := load_run (P := P) (hT t ti hti) (ad := ⟨k, off, none⟩) (w := w) (β := β) (N := NN C st.H β) hok (fun j => cells.getD (off + j) undef) (fun j pv hj => by
            rw [List.getElem?_drop] at hj
            refine ⟨?_, (q5 _ _ hj).1⟩
            have hlt : off + j < cells.size := by rw [q4]; exact (List.getElem?_eq_some_iff.1 hj).1
            rw [Addr.add_lit, cell_of_row w k (off + j) cells T0 (0, 0) q3]
            simp [Array.getD, hlt])
        exact ⟨v, by simp only [resRun, hk, asAddr, Sem.run_bind, Sem.run_pure, Result.andThen_ok, v1], v2⟩
      · cases h
    · cases h

theorem resList_sound (hT : TabOK P T) {st : St} (hs : Sim C st.n st.E st.H β a w) : ∀ {l : List ResultVar} {ok : Prop} {rs : List PV}, resListA T st l = some (ok, rs) → ok →
    ∃ vs : List Value, (l.mapM (resRun a.tmps)).run P w = .ok vs w ∧ vs.length = rs.length ∧
      ∀ i pv, rs[i]? = some pv → Rep (NN C st.H β) w β pv (vs.getD i undef)
  | [], ok, rs, h, hok => by
    simp only [resListA, Option.some.injEq, Prod.mk.injEq] at h
    obtain ⟨_, rfl⟩ := h
    exact ⟨[], by simp, rfl, by simp⟩
  | x :: l, ok, rs, h, hok => by
    simp only [resListA] at h
    split at h
    · rename_i ok1 r ok2 rs' h1 h2
      simp only [Option.some.injEq, Prod.mk.injEq] at h
      obtain ⟨rfl, rfl⟩ := h
      obtain ⟨v, v1, v2⟩ := resOne_sound hT hs h1 hok.1
      obtain ⟨vs, u1, u2, u3⟩ := resList_sound hT hs h2 hok.2
      refine ⟨v :: vs, ?_, by simp [u2], fun i pv hi => ?_⟩
      · rw [List.mapM_cons, Sem.run_bind, v1, Result.andThen_ok, Sem.run_bind, u1]
        rfl
      · cases i with
        | zero => cases hi; exact v2
        | succ i => exact u3 i pv (by simpa using hi)
    · cases h

theorem results_sound (hT : TabOK P T) {st : St} (hs : Sim C st.n st.E st.H β a w) {fn : Func} {ok : Prop} {rs : List PV} (h : resListA T st fn.results.toList = some (ok, rs)) (hok : ok) :
    ∃ v, (results fn a.tmps).run P w = .ok v w ∧ Rep (NN C st.H β) w β (oneOf rs) v := by
  obtain ⟨vs, u1, u2, u3⟩ := resList_sound hT hs h hok
  have hm : (fn.results.mapM (resRun a.tmps)).run P w = .ok vs.toArray w := by
    have e : fn.results = fn.results.toList.toArray := by simp
    rw [e, List.mapM_toArray]
    simp only [Sem.run_map, u1, Result.andThen_ok]
  have hres : results fn a.tmps = (do let vs ← fn.results.mapM (resRun a.tmps); pure (if h : vs.size = 1 then vs[0] else .tuple vs)) := by
    unfold results
    congr 1
  rw [hres, Sem.run_bind, hm, Result.andThen_ok]
  refine ⟨_, rfl, ?_⟩
  match rs, u2, u3 with
  | [], u2, u3 =>
    have : vs = [] := List.eq_nil_of_length_eq_zero u2
    subst this
    exact .tup _ _ rfl (by simp)
  | [r], u2, u3 =>
    obtain ⟨v, rfl⟩ : ∃ v, vs = [v] := List.length_eq_one_iff.1 u2
    exact u3 0 r rfl
  | r1 :: r2 :: rs, u2, u3 =>
    have hne : ¬ vs.toArray.size = 1 := by simp; simp at u2; omega
    rw [dif_neg hne]
    exact .tup _ _ (by simpa using u2) (fun i pv hi => by simpa [Array.getD_eq_getD_getElem?, List.getD_eq_getElem?_getD] using u3 i pv hi)
end

/-- What a function's body must meet. -/
def bodyA (T : Tab) (fn : Func) (K KP : CK) : Cont
  | .exit _, _ => False
  | .panic v, st => KP v st.hp st.nx
  | _, st => match resListA T st fn.results.toList with
    | some (ok, rs) => ok ∧ K (oneOf rs) st.hp st.nx
    | none => False

theorem enter_sim {C : Ctx} {hp : List (Nat × Blk)} {β : Ref} {w : World} {vs : Array Value} {args : List PV} {n nx : Nat} (hs : SimH C (hpF hp) β w) (hl : vs.size = args.length) (hn : args.length ≤ n)
    (hv : ∀ i pv, args[i]? = some pv → Rep (NN C (hpF hp) β) w β pv (vs.getD i undef)) :
    Sim C n (fun t => lk t (enumFrom 0 args)) (hpF hp) β { tmps := vs ++ Array.replicate (n - vs.size) undef, defers := [] } w := by
  refine ⟨by simp; omega, rfl, fun t pv ht => ?_, hs.blk, hs.sep, hs.lies, hs.fr, hs.below, hs.nxb, hs.bs, hs.gh, hs.gr⟩
  rw [lk_enum] at ht
  simp only [Nat.zero_le, if_true, Nat.sub_zero] at ht
  have hlt := (List.getElem?_eq_some_iff.1 ht).1
  refine ⟨by omega, ?_⟩
  have e : (vs ++ Array.replicate (n - vs.size) undef).getD t undef = vs.getD t undef := by
    simp only [Array.getD_eq_getD_getElem?]
    rw [Array.getElem?_append_left (by omega)]
  rw [e]
  exact hv t pv ht

/-- A call that is walked into. -/
theorem CallA.into {P : Program} {T : Tab} (hT : TabOK P T) (hmix : P.follows .mixedOrders = true) {f : FuncId} {fn : Func} {c : Code} (hf : P.funcs[f]? = some fn) (hb : fn.body = some c) (hnm : (fn.name == "runtime.NumGoroutine") = false) (hok : codeOK c = true)
    {args : List PV} {hp : List (Nat × Blk)} {nx : Nat} {K KP : CK} (hn : args.length ≤ fn.ntmps)
    (h : wpA P T c ⟨fn.ntmps, enumFrom 0 args, hp, nx, nx⟩ (bodyA T fn K KP)) : CallA P f args hp nx K KP := by
  refine ⟨⟨fn, hf, hnm, by rw [hb]; rfl⟩, fun C β w vs hgb hs hl hv => ?_⟩
  refine calls_of_wp hf hb (wp_mono (wpA_sound hT hmix c _ _ β _ w hok h hgb (enter_sim (nx := nx) hs hl hn hv)) ?_)
  rintro e a' w' ⟨o, st', β', hfit, hq, hn', hs'⟩
  have key : ∀ {o : Out}, (o = .normal ∨ o = .ret) → bodyA T fn K KP o st' → a'.defers = [] ∧ ∃ v, (results fn a'.tmps).run P w' = .ok v w' ∧ ∃ v_1 r hp' nx' β', ((Ending.returned v = .returned v_1 ∧ K r hp' nx') ∨ (Ending.returned v = .panicked [{ v := v_1, recovered := false }] ∧ KP r hp' nx')) ∧ SimH C (hpF hp') β' w' ∧ Rep (NN C (hpF hp') β') w' β' r v_1 := by
    intro o ho hq
    have hq' : match resListA T st' fn.results.toList with
      | some (ok, rs) => ok ∧ K (oneOf rs) st'.hp st'.nx
      | none => False := by rcases ho with rfl | rfl <;> exact hq
    split at hq'
    · rename_i ok rs hres
      obtain ⟨v, v1, v2⟩ := results_sound hT hs' hres hq'.1
      exact ⟨hs'.df, v, v1, v, _, _, _, β', .inl ⟨rfl, hq'.2⟩, hs'.heap, v2⟩
    · exact hq'.elim
  cases o with
  | normal => cases hfit; exact key (.inl rfl) hq
  | ret => cases hfit; exact key (.inr rfl) hq
  | exit i => exact hq.elim
  | panic pv =>
    obtain ⟨v, rfl, hr⟩ := hfit
    exact ⟨hs'.df, v, pv, _, _, β', .inr ⟨rfl, hq⟩, hs'.heap, hr⟩

theorem FrzR_data {C : Ctx} {H : Heap} {β : Ref} {w : World} (hs : SimH C H β w) {pv q : PV} {v : Value} (hr : Rep (NN C H β) w β pv v) (hq : FrzR H pv q) : IRep C.nx w q v := by
  have hf := Frz.all (frzD H pv) H (frzD_list H pv) ⟨hs, fun _ h => h, fun _ _ h => .inl h, fun _ h => h⟩
  exact (hf.data hr q hq (fun e he => applyEff_mem _ _ _ (frzD_list H pv) he)).mono (Keeps.refl _ _) (fun k _ hk => .inl hk)

/-- A function's contract, out of its body. -/
theorem PureCalls.of {P : Program} {T : Tab} (hT : TabOK P T) (hmix : P.follows .mixedOrders = true) {f : FuncId} {fn : Func} {c : Code} (hf : P.funcs[f]? = some fn) (hb : fn.body = some c) (hnm : (fn.name == "runtime.NumGoroutine") = false) (hok : codeOK c = true)
    {args : List PV} {r : PV} (hn : args.length ≤ fn.ntmps) (h : wpA P T c ⟨fn.ntmps, enumFrom 0 args, [], 0, 0⟩ (bodyA T fn (fun rv hp _ => FrzR (hpF hp) rv r) noP)) : PureCalls P f args r := by
  refine ⟨⟨fn, hf, hnm, by rw [hb]; rfl⟩, fun N w vs hN hl hv => ?_⟩
  have hs0 : SimH ⟨N, w.heap.size, w, fun _ _ => False, 0⟩ (hpF []) (fun _ => none) w := by
    refine ⟨rfl, rfl, fun t pv ht => by simp at ht, fun b x hx => by simp [hpF, lk] at hx, fun b b' x x' _ hx => by simp [hpF, lk] at hx, fun b ver u k hb => by simp at hb, fun _ _ => rfl, Below.refl _ _, hN, Nat.le_refl _, fun _ _ h => h.elim, fun _ _ h => h.elim⟩
  have hNN : ∀ k, NN ⟨N, w.heap.size, w, fun _ _ => False, 0⟩ (hpF []) (fun _ => none) k → N k := by
    rintro k (hk | ⟨b, x, ver, u, q1, _⟩)
    · exact hk
    · simp [hpF, lk] at q1
  refine ((CallA.into hT hmix hf hb hnm hok (hp := []) (nx := 0) hn h).2 ⟨N, w.heap.size, w, fun _ _ => False, 0⟩ (fun _ => none) w vs (Nat.le_refl _) hs0 hl (fun i pv hi => .i ((hv i pv hi).mono (Keeps.refl _ _) (fun k _ hk => hNN k hk)))).mono ?_
  rintro e w' ⟨v, rv, hp', nx', β', ⟨rfl, hK⟩ | ⟨_, hK⟩, hs', hr⟩
  · exact ⟨v, rfl, FrzR_data hs' hr hK, hs'.below⟩
  · exact hK.elim

end Go.Pe
