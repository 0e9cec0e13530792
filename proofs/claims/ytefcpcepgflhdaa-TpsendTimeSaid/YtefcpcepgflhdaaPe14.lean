/- Abstract states as lists; calls; a region's operations in the text's order. -/
import Derived.Test.YtefcpcepgflhdaaPe13
import Derived.Calls
set_option linter.unusedVariables false
set_option linter.unusedSimpArgs false
namespace Go.Pe
open Go.RowKit

def lk {α : Type} (k : Nat) : List (Nat × α) → Option α
  | [] => none
  | (j, v) :: l => if k = j then some v else lk k l
/-- Slots, how many there are; local blocks; the next block's number; the first number of this call's own. -/
structure St where
  n : Nat
  env : List (Nat × PV)
  hp : List (Nat × Blk)
  nx : Nat
  bs : Nat
theorem lk_mem {α : Type} {k : Nat} {v : α} : ∀ {l : List (Nat × α)}, lk k l = some v → (k, v) ∈ l
  | [], h => by simp [lk] at h
  | (j, u) :: l, h => by
    simp only [lk] at h
    split at h
    · rename_i e
      cases h
      subst e
      exact List.mem_cons_self
    · exact List.mem_cons_of_mem _ (lk_mem h)

abbrev St.E (st : St) : Env := fun t => lk t st.env
abbrev hpF (hp : List (Nat × Blk)) : Heap := fun b => lk b hp
abbrev St.H (st : St) : Heap := hpF st.hp
def putL (d : Option Nat) (pv : PV) (env : List (Nat × PV)) : List (Nat × PV) :=
  match d with
  | none => env
  | some d => (d, pv) :: env
def addL : List (Nat × Blk) → List (Nat × Blk) → List (Nat × Blk)
  | [], hp => hp
  | x :: l, hp => addL l (x :: hp)

theorem lk_cons {α : Type} (k d : Nat) (v : α) (l : List (Nat × α)) : (fun t => lk t ((d, v) :: l)) = upd (fun t => lk t l) d v := rfl
theorem hpF_addL : ∀ (l hp : List (Nat × Blk)), hpF (addL l hp) = applyEff (hpF hp) l
  | [], hp => rfl
  | x :: l, hp => by
    show hpF (addL l (x :: hp)) = applyEff (upd (hpF hp) x.1 x.2) l
    rw [hpF_addL l]
    rfl

abbrev noEnv : Env := fun _ => none
def actE : Act := ⟨#[], []⟩
abbrev SimH (C : Ctx) (H : Heap) (β : Ref) (w : World) : Prop := Sim C 0 noEnv H β actE w

theorem Sim.heap {C : Ctx} {n : Nat} {E : Env} {H : Heap} {β : Ref} {a : Act} {w : World} (h : Sim C n E H β a w) : SimH C H β w :=
  ⟨rfl, rfl, fun t pv ht => by simp at ht, h.blk, h.sep, h.lies, h.fr, h.below, h.nxb, h.bs, h.gh, h.gr⟩
/-- The caller's slots, as values that are to stay. -/
def Ctx.with (C : Ctx) (E : Env) (a : Act) (gb : Nat) : Ctx := { C with gh := fun pv v => C.gh pv v ∨ ∃ t, t < a.tmps.size ∧ E t = some pv ∧ v = a.tmps.getD t undef, gb := gb }
theorem Sim.lend {C : Ctx} {n : Nat} {E : Env} {H : Heap} {β : Ref} {a : Act} {w : World} (h : Sim C n E H β a w) {gb : Nat} (hb : C.gb ≤ gb) (hH : ∀ b x, H b = some x → b < gb) : SimH (C.with E a gb) H β w := by
  have hgr : ∀ pv v, (C.with E a gb).gh pv v → Rep (NN C H β) w β pv v := by
    rintro pv v (hg | ⟨t, ht, he, rfl⟩)
    · exact h.gh pv v hg
    · exact (h.env t pv he).2
  refine ⟨rfl, rfl, fun t pv ht => by simp at ht, h.blk, h.sep, h.lies, h.fr, h.below, h.nxb, h.bs, hgr, fun pv v hg => ?_⟩
  refine (hgr pv v hg).refs fun b r hr => ?_
  cases hx : H b with
  | none => rw [h.fr b hx] at hr; cases hr
  | some x => simp [Ctx.with, hH b x hx]
theorem Sim.back {C : Ctx} {n : Nat} {E : Env} {H H' : Heap} {β β' : Ref} {a : Act} {w w' : World} {gb : Nat} (h : Sim C n E H β a w) (h' : SimH (C.with E a gb) H' β' w') : Sim C n E H' β' a w' :=
  ⟨h.nt, h.df, fun t pv ht => ⟨(h.env t pv ht).1, h'.gh pv _ (.inr ⟨t, by rw [h.nt]; exact (h.env t pv ht).1, ht, rfl⟩)⟩, h'.blk, h'.sep, h'.lies, h'.fr, h'.below, h'.nxb, h'.bs, fun pv v hg => h'.gh pv v (.inl hg), h.gr⟩

/-- A function with a body. -/
def Callable (P : Program) (f : FuncId) : Prop := ∃ fn, P.funcs[f]? = some fn ∧ (fn.name == "runtime.NumGoroutine") = false ∧ fn.body.isNone = false

/-- The call of f at args, over these local blocks: its result, and the blocks behind it, meet K. -/
def CallA (P : Program) (f : FuncId) (args : List PV) (hp : List (Nat × Blk)) (nx : Nat) (K : PV → List (Nat × Blk) → Nat → Prop) : Prop :=
  Callable P f ∧ ∀ (C : Ctx) (β : Ref) (w : World) (vs : Array Value), C.gb ≤ nx → SimH C (hpF hp) β w → vs.size = args.length → (∀ i pv, args[i]? = some pv → Rep (NN C (hpF hp) β) w β pv (vs.getD i undef)) →
    Calls P f vs w fun e w' => ∃ v r hp' nx' β', e = .returned v ∧ K r hp' nx' ∧ SimH C (hpF hp') β' w' ∧ Rep (NN C (hpF hp') β') w' β' r v

def wantA (all : List Oper) (st : St) (o : Oper) : Option Bool :=
  match o.guard with
  | none => some true
  | some (j, want) => match (all[j]?).bind (·.dst) with
    | none => none
    | some d => match lk d st.env with
      | some (.lit (.bool b)) => some (b == want)
      | some (.lit (.tuple _)) => some false
      | _ => none

def dstOK (d : Option Nat) (n : Nat) : Prop :=
  match d with
  | none => True
  | some d => d < n

def genA (T : Tab) (o : Oper) (st : St) (K : St → Prop) : Prop :=
  match evVal T st.E st.H o.op with
  | some (ok, pv) => ok ∧ K ⟨st.n, putL o.dst pv st.env, st.hp, st.nx, st.bs⟩
  | none => match evMem T st.nx st.E st.H o.op with
    | some (ok, pv, eff) => lk st.nx st.hp = none ∧ ok ∧ K ⟨st.n, putL o.dst pv st.env, addL eff st.hp, st.nx + 1, st.bs⟩
    | none => False

def callV (P : Program) (c : Call) (dst : Option Nat) (st : St) (K : St → Prop) : PV → Prop
  | .lit (.func (.func g) p q) => (p = #[] ∧ q = #[]) ∧ (∀ x ∈ st.hp, x.1 < st.nx) ∧ st.bs ≤ st.nx ∧ CallA P g (c.args.toList.map (ev st.E)) st.hp st.nx (fun r hp nx => K ⟨st.n, putL dst r st.env, hp, nx, st.bs⟩)
  | .fn (.func g) first cap => (∀ x ∈ st.hp, x.1 < st.nx) ∧ st.bs ≤ st.nx ∧ CallA P g (first ++ c.args.toList.map (ev st.E) ++ cap) st.hp st.nx (fun r hp nx => K ⟨st.n, putL dst r st.env, hp, nx, st.bs⟩)
  | _ => False

def stepA (P : Program) (T : Tab) (o : Oper) (st : St) (K : St → Prop) : Prop :=
  match o.op with
  | .call { callee := .value f, args, argTypes } => callV P { callee := .value f, args, argTypes } o.dst st K (ev st.E f)
  | _ => genA T o st K

def wpOpsA (P : Program) (T : Tab) (all : List Oper) : List Oper → St → (St → Prop) → Prop
  | [], st, K => K st
  | o :: os, st, K => dstOK o.dst st.n ∧ match wantA all st o with
    | some b => (b = true → stepA P T o st (fun st' => wpOpsA P T all os st' K)) ∧ (b = false → wpOpsA P T all os ⟨st.n, putL o.dst (.lit (.tuple #[])) st.env, st.hp, st.nx, st.bs⟩ K)
    | none => False

section
variable {P : Program} {T : Tab} {C : Ctx} {β : Ref} {a : Act} {w : World}

theorem Sim.putL {st : St} (h : Sim C st.n st.E st.H β a w) {o : Option Nat} (hd : dstOK o st.n) {pv : PV} {v : Value} (hr : Rep (NN C st.H β) w β pv v) :
    Sim C st.n (fun t => lk t (putL o pv st.env)) st.H β (a.put o v) w := by
  cases o with
  | none => exact h
  | some d => exact h.put hd hr

theorem callFunc_run {f : FuncId} {args : Array Value} (h : Callable P f) (w : World) : (callFunc f args).run P w = .ok (.enter f args) w := by
  obtain ⟨fn, h1, h2, h3⟩ := h
  have h2' : ¬ fn.name = "runtime.NumGoroutine" := by simpa using h2
  have h3' : fn.body ≠ none := by intro e; simp [e] at h3
  simp [callFunc, h1, h2', h3']

theorem CallA.wp {st : St} {o : Oper} {g : FuncId} {args : List PV} {vs : Array Value} {K : St → Prop} {Q : Exit → Act → World → Prop} (h : CallA P g args st.hp st.nx (fun r hp nx => K ⟨st.n, Pe.putL o.dst r st.env, hp, nx, st.bs⟩)) (hd : dstOK o.dst st.n)
    (hx : ∀ x ∈ st.hp, x.1 < st.nx) (hbs : st.bs ≤ st.nx) (hgb : C.gb ≤ st.bs) (hs : Sim C st.n st.E st.H β a w) (hrun : (execOp a.eval o).run P w = (callFunc g vs).run P w) (hl : vs.size = args.length) (hv : ∀ i pv, args[i]? = some pv → Rep (NN C st.H β) w β pv (vs.getD i undef)) :
    o.wp P a w (fun a' w' => ∃ st' β', K st' ∧ (st'.n = st.n ∧ st'.bs = st.bs) ∧ Sim C st'.n st'.E st'.H β' a' w') Q := by
  unfold Oper.wp
  rw [hrun, callFunc_run h.1 w]
  refine (h.2 (C.with st.E a st.nx) β w vs (Nat.le_refl _) (hs.lend (by omega) (fun b x hb => hx (b, x) (lk_mem hb))) hl hv).mono ?_
  rintro e w' ⟨v, r, hp', nx', β', rfl, hK, hs', hr⟩
  have hsim := hs.back hs'
  exact ⟨_, β', hK, ⟨rfl, rfl⟩, Sim.putL (st := ⟨st.n, st.env, hp', nx', st.bs⟩) hsim hd hr⟩

theorem stepA_sound (hT : TabOK P T) {o : Oper} {st : St} {K : St → Prop} {Q : Exit → Act → World → Prop} (h : stepA P T o st K) (hd : dstOK o.dst st.n) (hgb : C.gb ≤ st.bs) (hs : Sim C st.n st.E st.H β a w) :
    o.wp P a w (fun a' w' => ∃ st' β', K st' ∧ (st'.n = st.n ∧ st'.bs = st.bs) ∧ Sim C st'.n st'.E st'.H β' a' w') Q := by
  have gen : genA T o st K → o.wp P a w (fun a' w' => ∃ st' β', K st' ∧ (st'.n = st.n ∧ st'.bs = st.bs) ∧ Sim C st'.n st'.E st'.H β' a' w') Q := by
    intro h
    unfold genA at h
    split at h
    · rename_i ok pv hev
      obtain ⟨u, hrun, hr⟩ := evVal_sound hT hs hev h.1
      unfold Oper.wp
      rw [hrun]
      exact ⟨_, β, h.2, ⟨rfl, rfl⟩, Sim.putL hs hd hr⟩
    · split at h
      · rename_i ok pv eff hev
        obtain ⟨hfr, hok, hK⟩ := h
        obtain ⟨nx, w', β', hrun, hsim, hres⟩ := evMem_sound hT hs hfr hev hok
        rw [← hpF_addL] at hsim
        unfold Oper.wp
        rw [hrun]
        rcases hres with ⟨u, rfl, hr⟩ | ⟨rfl, rfl⟩
        · rw [← hpF_addL] at hr
          exact ⟨_, β', hK, ⟨rfl, rfl⟩, Sim.putL (st := ⟨st.n, st.env, addL eff st.hp, st.nx, st.bs⟩) hsim hd hr⟩
        · exact ⟨_, β', hK, ⟨rfl, rfl⟩, Sim.putL (st := ⟨st.n, st.env, addL eff st.hp, st.nx, st.bs⟩) hsim hd (.any _)⟩
      · exact h.elim
  unfold stepA at h
  split at h
  · rename_i f args argTypes hop
    have hrf := hs.ev f
    have hargs : ∀ i pv, (args.toList.map (ev st.E))[i]? = some pv → Rep (NN C st.H β) w β pv ((args.map a.eval).getD i undef) := by
      intro i pv hi
      simp only [List.getElem?_map, Option.map_eq_some_iff] at hi
      obtain ⟨x, hx, rfl⟩ := hi
      have hx' : args[i]? = some x := by simpa using hx
      have : (args.map a.eval).getD i undef = a.eval x := by simp [Array.getD_eq_getD_getElem?, hx']
      rw [this]
      exact hs.ev x
    generalize hpv : ev st.E f = pv at h hrf
    unfold callV at h
    split at h
    · rename_i g p q
      obtain ⟨⟨rfl, rfl⟩, hx, hbs, h⟩ := h
      refine h.wp hd hx hbs hgb hs (vs := args.map a.eval) ?_ (by simp) hargs
      simp [execOp, hop, resolve, Deferred.ofValue, hrf.lit_eq, invoke]
    · rename_i g first cap
      generalize hvf : a.eval f = vf at hrf
      cases hrf with
      | i hi => cases hi
      | fn _ _ _ vs us hl hl' h1 h2 =>
        obtain ⟨hx, hbs, h⟩ := h
        refine h.wp hd hx hbs hgb hs (vs := vs ++ args.map a.eval ++ us) ?_ (by simp; omega) ?_
        · simp [execOp, hop, resolve, Deferred.ofValue, hvf, invoke]
        · intro i pv hi
          simp only [Array.getD_eq_getD_getElem?] at h1 h2 hargs ⊢
          by_cases c1 : i < first.length
          · rw [List.append_assoc, List.getElem?_append_left c1] at hi
            rw [Array.append_assoc, Array.getElem?_append_left (by omega)]
            exact h1 i pv hi
          · by_cases c2 : i < first.length + args.size
            · rw [List.append_assoc, List.getElem?_append_right (by omega), List.getElem?_append_left (by simp; omega)] at hi
              rw [Array.append_assoc, Array.getElem?_append_right (by omega), Array.getElem?_append_left (by simp; omega), hl]
              exact hargs _ pv hi
            · rw [List.getElem?_append_right (by simp; omega)] at hi
              rw [Array.getElem?_append_right (by simp; omega)]
              have e : i - (vs ++ Array.map a.eval args).size = i - (first ++ List.map (ev st.E) args.toList).length := by simp; omega
              rw [e]
              exact h2 _ pv hi
    · exact h.elim
  · exact gen h

theorem wanted_eq {ops : Array Oper} {st : St} {o : Oper} {b : Bool} (h : wantA ops.toList st o = some b) (hs : Sim C st.n st.E st.H β a w) : Region.wanted o (yielded ops a.tmps) = b := by
  unfold wantA at h
  unfold Region.wanted
  split at h
  · rename_i hg
    cases h
    rw [hg]
  · rename_i j want hg
    rw [hg]
    split at h
    · cases h
    · rename_i d hd
      split at h
      · rename_i bb hlk
        cases h
        obtain ⟨hlt, hr⟩ := hs.env d _ hlk
        have hv := hr.lit_eq
        have hd' : (ops[j]?).bind (·.dst) = some d := by simpa using hd
        have hlt' : d < a.tmps.size := by rw [hs.nt]; exact hlt
        have hget : a.tmps[d]? = some (.bool bb) := by
          rw [Array.getElem?_eq_getElem hlt']
          simp only [Array.getD, hlt', dif_pos] at hv
          rw [← hv]
          rfl
        simp [yielded, hd', hget]
      · rename_i p hlk
        cases h
        obtain ⟨hlt, hr⟩ := hs.env d _ hlk
        have hv := hr.lit_eq
        have hd' : (ops[j]?).bind (·.dst) = some d := by simpa using hd
        have hlt' : d < a.tmps.size := by rw [hs.nt]; exact hlt
        have hget : a.tmps[d]? = some (.tuple p) := by
          rw [Array.getElem?_eq_getElem hlt']
          simp only [Array.getD, hlt', dif_pos] at hv
          rw [← hv]
          rfl
        simp [yielded, hd', hget]
      · cases h

theorem wpOpsA_sound (hT : TabOK P T) {ops : Array Oper} {K : St → Prop} {Q : Exit → Act → World → Prop} : ∀ (l : List Oper) (k : Nat) (st : St) (β : Ref) (a : Act) (w : World), ops.toList.drop k = l → wpOpsA P T ops.toList l st K →
    C.gb ≤ st.bs → Sim C st.n st.E st.H β a w → (∀ st' β' a' w', K st' → (st'.n = st.n ∧ st'.bs = st.bs) → Sim C st'.n st'.E st'.H β' a' w' → Q .normal a' w') → wpOps P ops Q (List.range' k l.length) a w
  | [], k, st, β, a, w, hl, h, hgb, hs, hQ => hQ st β a w h ⟨rfl, rfl⟩ hs
  | o :: l, k, st, β, a, w, hl, h, hgb, hs, hQ => by
    have hk : ops[k]? = some o := by
      have := congrArg (·[0]?) hl
      simpa using this
    have hl' : ops.toList.drop (k + 1) = l := by
      have := congrArg List.tail hl
      simpa using this
    rw [List.length_cons, List.range'_succ]
    simp only [wpOps, hk]
    unfold wpOpsA at h
    obtain ⟨hd, h⟩ := h
    split at h
    · rename_i b hb
      rw [wanted_eq hb hs]
      cases b with
      | true =>
        refine .inl ?_
        refine Oper.wp_mono ?_ (stepA_sound hT (h.1 rfl) hd hgb hs)
        rintro a' w' ⟨st', β', hK, hn, hs'⟩
        exact wpOpsA_sound hT l (k + 1) st' β' a' w' hl' hK (by rw [hn.2]; exact hgb) hs' (fun st2 β2 a2 w2 h2 hn2 hs2 => hQ st2 β2 a2 w2 h2 ⟨hn2.1.trans hn.1, hn2.2.trans hn.2⟩ hs2)
      | false =>
        refine wpOpsA_sound hT l (k + 1) _ β _ w hl' (h.2 rfl) hgb (Sim.putL hs hd (.i (.lit undef))) (fun st2 β2 a2 w2 h2 hn2 hs2 => hQ st2 β2 a2 w2 h2 hn2 hs2)
    · exact h.elim
end

end Go.Pe
