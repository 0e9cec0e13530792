/- A region that draws its order: told in the text's order, with what each operation reads and writes; operations that touch the same things must be ordered. -/
import Derived.Test.YtpnhnobnjcknjaaPeF
import Derived.Test.YtpnhnobnjcknjaaPeD1
set_option linter.unusedVariables false
set_option linter.unusedSimpArgs false
namespace Go.Pe
open Go.RowKit

section
variable {H H' : Heap}
mutual
theorem FrzR_congr : ∀ {x q : PV}, FrzR H x q → (∀ b ∈ deepB x, H' b = H b) → FrzR H' x q
  | .lit v, q, h, _ => by simpa [FrzR] using h
  | .im _ _, q, h, _ => by simpa [FrzR] using h
  | .own b ver, q, h, hb => by
    simp only [FrzR] at h ⊢
    obtain ⟨T0, s, rows, f, h1, h2⟩ := h
    exact ⟨T0, s, rows, f, by rw [hb b (by simp [deepB])]; exact h1, h2⟩
  | .agg cs, q, h, hb => by
    simp only [FrzR] at h ⊢
    obtain ⟨ds, h1, h2⟩ := h
    exact ⟨ds, h1, FrzRL_congr h2 (by simpa [deepB] using hb)⟩
  | .tup cs, q, h, hb => by
    simp only [FrzR] at h ⊢
    obtain ⟨ds, h1, h2⟩ := h
    exact ⟨ds, h1, FrzRL_congr h2 (by simpa [deepB] using hb)⟩
  | .any, _, h, _ => by simp [FrzR] at h
  | .ptr _ _, _, h, _ => by simp [FrzR] at h
  | .mapp _, _, h, _ => by simp [FrzR] at h
  | .aptr .., _, h, _ => by simp [FrzR] at h
  | .iptr _, _, h, _ => by simp [FrzR] at h
  | .fn .., _, h, _ => by simp [FrzR] at h
  | .iface .., _, h, _ => by simp [FrzR] at h
theorem FrzRL_congr : ∀ {l q : List PV}, FrzRL H l q → (∀ b ∈ deepL l, H' b = H b) → FrzRL H' l q
  | [], q, h, _ => by simpa [FrzRL] using h
  | x :: l, q, h, hb => by
    simp only [FrzRL] at h ⊢
    simp only [deepL, List.mem_append] at hb
    obtain ⟨y, m, h1, h2, h3⟩ := h
    exact ⟨y, m, h1, FrzR_congr h2 (fun b hb' => hb b (.inl hb')), FrzRL_congr h3 (fun b hb' => hb b (.inr hb'))⟩
end
mutual
theorem frzD_congr : ∀ {x : PV}, (∀ b ∈ deepB x, H' b = H b) → frzD H' x = frzD H x
  | .own b ver, hb => by simp only [frzD, frzOne]; rw [hb b (by simp [deepB])]
  | .agg cs, hb => by simp only [frzD]; exact frzDL_congr (by simpa [deepB] using hb)
  | .tup cs, hb => by simp only [frzD]; exact frzDL_congr (by simpa [deepB] using hb)
  | .any, _ => rfl
  | .lit _, _ => rfl
  | .im _ _, _ => rfl
  | .ptr _ _, _ => rfl
  | .mapp _, _ => rfl
  | .aptr .., _ => rfl
  | .iptr _, _ => rfl
  | .fn .., _ => rfl
  | .iface .., _ => rfl
theorem frzDL_congr : ∀ {l : List PV}, (∀ b ∈ deepL l, H' b = H b) → frzDL H' l = frzDL H l
  | [], _ => rfl
  | x :: l, hb => by
    simp only [deepL, List.mem_append] at hb
    simp only [frzDL]
    rw [frzD_congr (fun b h => hb b (.inl h)), frzDL_congr (fun b h => hb b (.inr h))]
end
end

/-! ### one operation -/
/-- The callee of a call by contract, and what it is handed. -/
def calleeA : PV → List PV → Option (FuncId × List PV)
  | .lit (.func (.func g) p q), args => if p.size = 0 ∧ q.size = 0 then some (g, args) else none
  | .fn (.func g) first cap, args => some (g, first ++ args ++ cap)
  | _, _ => none
def callOf (E : Env) : Op → Option (FuncId × List PV)
  | .call { callee := .value f, args, .. } => calleeA (ev E f) (args.toList.map (ev E))
  | _ => none
def isCallV : Op → Bool
  | .call { callee := .value _, .. } => true
  | _ => false

/-- The blocks to which pointers lead. -/
def ptrsOf : List PV → List Nat
  | [] => []
  | .ptr b _ :: l => b :: ptrsOf l
  | _ :: l => ptrsOf l
/-- What a call may look at. -/
def footL (args : List PV) : List Nat := deepL args ++ ptrsOf args
/-- Blocks that can be told. -/
def FinH (H : Heap) : Prop := ∃ hp, H = hpF hp
/-- A call that gives pv and turns the blocks eff, and looks at no others than those to which its arguments lead. -/
def EffCalls (P : Program) (g : FuncId) (args : List PV) (H0 : Heap) (pv : PV) (eff : List (Nat × Blk)) : Prop :=
  Callable P g ∧ ∀ (C : Ctx) (β : Ref) (w : World) (vs : Array Value) (H : Heap), FinH H → (∀ b ∈ footL args, H b = H0 b) → SimH C H β w → vs.size = args.length → (∀ i pv, args[i]? = some pv → Rep (NN C H β) w β pv (vs.getD i undef)) →
    Calls P g vs w fun e w' => ∃ v β', e = .returned v ∧ SimH C (applyEff H eff) β' w' ∧ Rep (NN C (applyEff H eff) β') w' β' pv v
theorem EffCalls.of {P : Program} {g : FuncId} {args : List PV} {H0 : Heap} {pv : PV} {eff : List (Nat × Blk)} (hc : Callable P g)
    (h : ∀ hp nx, (∀ b ∈ footL args, lk b hp = H0 b) → (∀ x ∈ hp, x.1 < nx) → CallA P g args hp nx (fun r hp' _ => r = pv ∧ ∀ b, lk b hp' = applyEff (hpF hp) eff b) noP) : EffCalls P g args H0 pv eff := by
  refine ⟨hc, fun C β w vs H hfin hH hs hl hv => ?_⟩
  obtain ⟨hp, rfl⟩ := hfin
  obtain ⟨nx, hgb, hx⟩ : ∃ nx, C.gb ≤ nx ∧ ∀ x ∈ hp, x.1 < nx := by
    have : ∃ m, ∀ x ∈ hp, x.1 < m := by
      clear hH hs hv
      induction hp with
      | nil => exact ⟨0, by simp⟩
      | cons x l ih =>
        obtain ⟨m, hm⟩ := ih
        refine ⟨max m (x.1 + 1), fun y hy => ?_⟩
        rcases List.mem_cons.1 hy with rfl | hy
        · omega
        · have := hm y hy; omega
    obtain ⟨m, hm⟩ := this
    exact ⟨max m C.gb, by omega, fun x hx => by have := hm x hx; omega⟩
  refine ((h hp nx hH hx).2 C β w vs hgb hs hl hv).mono ?_
  rintro e w' ⟨v, r, hp', nx', β', he, hs', hr⟩
  rcases he with ⟨rfl, rfl, hK⟩ | ⟨_, hK⟩
  · have e : hpF hp' = applyEff (hpF hp) eff := funext hK
    rw [e] at hs' hr
    exact ⟨v, β', rfl, hs', hr⟩
  · exact hK.elim

/-- What an operation gives, and which blocks it turns. -/
def OpOK (P : Program) (T : Tab) (E : Env) (H : Heap) (fresh : Nat) (op : Op) (pv : PV) (eff : List (Nat × Blk)) : Prop :=
  (isCallV op = false ∧ ∃ ok, evVal T E H op = some (ok, pv) ∧ ok ∧ eff = []) ∨
  (isCallV op = false ∧ evVal T E H op = none ∧ H fresh = none ∧ ∃ ok, evMem T fresh E H op = some (ok, pv, eff) ∧ ok) ∨
  (∃ g args args', callOf E op = some (g, args) ∧ PureCalls P g args' pv ∧ FrzRL H args args' ∧ eff = if noSl pv then [] else frzDL H args) ∨
  (∃ g args, callOf E op = some (g, args) ∧ EffCalls P g args H pv eff)

def rdOp (E : Env) : Op → List Nat
  | .call { callee := .value f, args, .. } => footL (match calleeA (ev E f) (args.toList.map (ev E)) with | some (_, l) => l | none => [])
  | op => rdA E op

section
variable {P : Program} {T : Tab} {C : Ctx} {n : Nat} {E E' : Env} {H H' : Heap} {β : Ref} {a : Act} {w : World}

theorem callOf_congr {op : Op} (hE : ∀ x ∈ op.operands.toList, ev E' x = ev E x) : callOf E' op = callOf E op := by
  unfold callOf
  split
  · rename_i f args ats
    have h1 : ev E' f = ev E f := hE f (by simp [Op.operands, Call.operands])
    have h2 : args.toList.map (ev E') = args.toList.map (ev E) := List.map_congr_left fun x hx => hE x (by simp only [Op.operands, Call.operands, Array.toList_append]; exact List.mem_append_right _ hx)
    rw [h1, h2]
  · rfl

theorem OpOK.congr {fresh : Nat} {op : Op} {pv : PV} {eff : List (Nat × Blk)} (h : OpOK P T E H fresh op pv eff) (hE : ∀ x ∈ op.operands.toList, ev E' x = ev E x) (hH : ∀ b ∈ rdOp E op, H' b = H b) (hf : isCallV op = false → evVal T E H op = none → H' fresh = H fresh) : OpOK P T E' H' fresh op pv eff := by
  have hrd : isCallV op = false → rdOp E op = rdA E op := by
    intro hc
    unfold rdOp
    split
    · simp [isCallV] at hc
    · rfl
  have hfoot : ∀ {g args}, callOf E op = some (g, args) → ∀ b ∈ footL args, H' b = H b := by
    intro g args h1 b hb
    refine hH b ?_
    unfold callOf at h1
    unfold rdOp
    split at h1
    · simp only [h1]
      exact hb
    · cases h1
  rcases h with ⟨hc, ok, h1, h2, h3⟩ | ⟨hc, h1, h2, ok, h3, h4⟩ | ⟨g, args, args', h1, h2, h3, h4⟩ | ⟨g, args, h1, h2⟩
  · exact .inl ⟨hc, ok, by rw [evVal_congr hE (by rw [← hrd hc]; exact hH)]; exact h1, h2, h3⟩
  · exact .inr (.inl ⟨hc, by rw [evVal_congr hE (by rw [← hrd hc]; exact hH)]; exact h1, by rw [hf hc h1]; exact h2, ok, by rw [evMem_congr hE (by rw [← hrd hc]; exact hH)]; exact h3, h4⟩)
  · have hb : ∀ b ∈ deepL args, H' b = H b := fun b hb => hfoot h1 b (List.mem_append_left _ hb)
    refine .inr (.inr (.inl ⟨g, args, args', by rw [callOf_congr hE]; exact h1, h2, FrzRL_congr h3 hb, ?_⟩))
    rw [frzDL_congr hb]
    exact h4
  · exact .inr (.inr (.inr ⟨g, args, by rw [callOf_congr hE]; exact h1, h2.1, fun C β w vs H1 hf hH1 => h2.2 C β w vs H1 hf (fun b hb => (hH1 b hb).trans (hfoot h1 b hb))⟩))

/-- A call by contract, over any state. -/
theorem PureCalls.wp {g : FuncId} {args args' : List PV} {r : PV} {o : Oper} {vs : Array Value} {Q : Exit → Act → World → Prop} (h : PureCalls P g args' r) (hf : FrzRL H args args') (hs : Sim C n E H β a w) (hd : ∀ d, o.dst = some d → d < n)
    (hrun : (execOp a.eval o).run P w = (callFunc g vs).run P w) (hl : vs.size = args.length) (hv : ∀ i pv, args[i]? = some pv → Rep (NN C H β) w β pv (vs.getD i undef)) :
    o.wp P a w (fun a' w' => ∃ v, a' = a.put o.dst v ∧ Sim C n E (applyEff H (if noSl r then [] else frzDL H args)) β a w' ∧ Rep (NN C (applyEff H (if noSl r then [] else frzDL H args)) β) w' β r v) Q := by
  unfold Oper.wp
  rw [hrun, callFunc_run h.1 w]
  obtain ⟨q1, q2⟩ := FrzRL_get hf
  have hfz := Frz.all (frzDL H args) H (frzDL_list _ args) ⟨hs, fun _ h => h, fun _ _ h => .inl h, fun _ h => h⟩
  have hN : ∀ k, NN C (applyEff H (frzDL H args)) β k → k < w.heap.size := by
    rintro k (hk | ⟨b, x, ver, u, p1, p2, p3, p4⟩)
    · have := hs.nxb k hk; have := hs.bs; omega
    · exact hs.lies b ver u k p3 p4
  refine (h.2 (NN C (applyEff H (frzDL H args)) β) w vs hN (by omega) (fun i y hy => ?_)).mono ?_
  · obtain ⟨x, hx, hxy⟩ := q2 i y hy
    exact hfz.data (hv i x hx) y hxy (fun e he => applyEff_mem _ _ _ (frzDL_list _ args) (frzDL_mem (List.mem_of_getElem? hx) he))
  · rintro e w' ⟨v, rfl, hr, hb⟩
    have hk : ∀ N, Keeps N w w' := fun N => ⟨hb.os, hb.tape, hb.output, hb.size, fun k hk _ => hb.block k hk⟩
    have move : ∀ {H : Heap}, Sim C n E H β a w → Sim C n E H β a w' := fun {H} hs => hs.world (hk _) (hs.keeps_below (hk _)) (fun b x hx _ => (hs.blk b x hx).later (hk _) (fun _ _ h => h) (Later.refl _) (fun _ _ h => h) rfl
      (fun ver u k h1 h2 => hb.block k (hs.lies b ver u k h1 h2)))
    refine ⟨v, rfl, ?_⟩
    cases hn : noSl r with
    | true => exact ⟨move hs, .i (hr.anywhere hn)⟩
    | false => exact ⟨move hfz.sim, .i hr⟩

def updO (E : Env) (d : Option Nat) (pv : PV) : Env := match d with | none => E | some d => upd E d pv

theorem Sim.putO (h : Sim C n E H β a w) {o : Option Nat} (hd : ∀ d, o = some d → d < n) {pv : PV} {v : Value} (hr : Rep (NN C H β) w β pv v) : Sim C n (updO E o pv) H β (a.put o v) w := by
  cases o with
  | none => exact h
  | some d => exact h.put (hd d rfl) hr

theorem OpOK.wp (hT : TabOK P T) {o : Oper} {fresh : Nat} {pv : PV} {eff : List (Nat × Blk)} {Q : Exit → Act → World → Prop} (h : OpOK P T E H fresh o.op pv eff) (hfin : FinH H) (hd : ∀ d, o.dst = some d → d < n) (hs : Sim C n E H β a w) :
    o.wp P a w (fun a' w' => ∃ β', Sim C n (updO E o.dst pv) (applyEff H eff) β' a' w') Q := by
  rcases h with ⟨_, ok, h1, h2, rfl⟩ | ⟨_, _, hfr, ok, h1, h2⟩ | h4
  · obtain ⟨u, hrun, hr⟩ := evVal_sound hT hs h1 h2
    unfold Oper.wp
    rw [hrun]
    exact ⟨β, hs.putO hd hr⟩
  · obtain ⟨nx, w', β', hrun, hsim, hres⟩ := evMem_sound hT hs hfr h1 h2
    unfold Oper.wp
    rw [hrun]
    rcases hres with ⟨u, rfl, hr⟩ | ⟨rfl, rfl⟩
    · exact ⟨β', hsim.putO hd hr⟩
    · exact ⟨β', hsim.putO hd (.any _)⟩
  · obtain ⟨dst, op, ty, pos, after, guard⟩ := o
    obtain ⟨g, args, h1, hrest⟩ : ∃ g args, callOf E op = some (g, args) ∧ ((∃ args', PureCalls P g args' pv ∧ FrzRL H args args' ∧ eff = if noSl pv then [] else frzDL H args) ∨ EffCalls P g args H pv eff) := by
      rcases h4 with ⟨g, args, args', h1, h2, h3, h4⟩ | ⟨g, args, h1, h2⟩
      · exact ⟨g, args, h1, .inl ⟨args', h2, h3, h4⟩⟩
      · exact ⟨g, args, h1, .inr h2⟩
    clear h4
    unfold callOf at h1
    split at h1
    · rename_i f fargs ats
      have hrf := hs.ev f
      have hargs : ∀ i pv, (fargs.toList.map (ev E))[i]? = some pv → Rep (NN C H β) w β pv ((fargs.map a.eval).getD i undef) := by
        intro i pv hi
        simp only [List.getElem?_map, Option.map_eq_some_iff] at hi
        obtain ⟨x, hx, rfl⟩ := hi
        have hx' : fargs[i]? = some x := by simpa using hx
        have : (fargs.map a.eval).getD i undef = a.eval x := by simp [Array.getD_eq_getD_getElem?, hx']
        rw [this]
        exact hs.ev x
      have fin : ∀ (vs : Array Value), (execOp a.eval ⟨dst, .call ⟨.value f, fargs, ats⟩, ty, pos, after, guard⟩).run P w = (callFunc g vs).run P w → vs.size = args.length → (∀ i pv, args[i]? = some pv → Rep (NN C H β) w β pv (vs.getD i undef)) →
          Oper.wp P ⟨dst, .call ⟨.value f, fargs, ats⟩, ty, pos, after, guard⟩ a w (fun a' w' => ∃ β', Sim C n (updO E dst pv) (applyEff H eff) β' a' w') Q := by
        intro vs e1 e2 e3
        rcases hrest with ⟨args', h2, h3, rfl⟩ | hE
        rotate_left 1
        · unfold Oper.wp
          rw [e1, callFunc_run hE.1 w]
          obtain ⟨hp, rfl⟩ := hfin
          obtain ⟨gb, hgb, hx⟩ : ∃ gb, C.gb ≤ gb ∧ ∀ x ∈ hp, x.1 < gb := by
            have : ∃ m, ∀ x ∈ hp, x.1 < m := by
              clear e1 e2 e3 hE hs hrf hargs
              induction hp with
              | nil => exact ⟨0, by simp⟩
              | cons x l ih =>
                obtain ⟨m, hm⟩ := ih
                refine ⟨max m (x.1 + 1), fun y hy => ?_⟩
                rcases List.mem_cons.1 hy with rfl | hy
                · omega
                · have := hm y hy; omega
            obtain ⟨m, hm⟩ := this
            exact ⟨max m C.gb, by omega, fun x hx => by have := hm x hx; omega⟩
          refine (hE.2 (C.with E a gb) β w vs (hpF hp) ⟨hp, rfl⟩ (fun _ _ => rfl) (hs.lend hgb (fun b x hb => hx (b, x) (lk_mem hb))) e2 e3).mono ?_
          rintro e w' ⟨v, β', rfl, hs', hr⟩
          exact ⟨β', (hs.back hs').putO hd hr⟩
        refine Oper.wp_mono ?_ (h2.wp (o := ⟨dst, .call ⟨.value f, fargs, ats⟩, ty, pos, after, guard⟩) h3 hs hd e1 e2 e3)
        rintro a' w' ⟨v, rfl, q1, q2⟩
        exact ⟨β, q1.putO hd q2⟩
      generalize hpv : ev E f = fv at h1 hrf
      unfold calleeA at h1
      split at h1
      · rename_i g' p q
        split at h1
        · rename_i hpq
          simp only [Option.some.injEq, Prod.mk.injEq] at h1
          obtain ⟨rfl, rfl⟩ := h1
          have ep : p = #[] := Array.eq_empty_of_size_eq_zero hpq.1
          have eq : q = #[] := Array.eq_empty_of_size_eq_zero hpq.2
          subst ep eq
          refine fin (fargs.map a.eval) ?_ (by simp) hargs
          simp [execOp, resolve, Deferred.ofValue, hrf.lit_eq, invoke]
        · cases h1
      · rename_i g' first cap
        simp only [Option.some.injEq, Prod.mk.injEq] at h1
        obtain ⟨rfl, rfl⟩ := h1
        generalize hvf : a.eval f = vf at hrf
        cases hrf with
        | i hi => cases hi
        | fn _ _ _ vs us hl hl' h1' h2' =>
          refine fin (vs ++ fargs.map a.eval ++ us) ?_ (by simp; omega) ?_
          · simp [execOp, resolve, Deferred.ofValue, hvf, invoke]
          · intro i pv hi
            simp only [Array.getD_eq_getD_getElem?] at h1' h2' hargs ⊢
            by_cases c1 : i < first.length
            · rw [List.append_assoc, List.getElem?_append_left c1] at hi
              rw [Array.append_assoc, Array.getElem?_append_left (by omega)]
              exact h1' i pv hi
            · by_cases c2 : i < first.length + fargs.size
              · rw [List.append_assoc, List.getElem?_append_right (by omega), List.getElem?_append_left (by simp; omega)] at hi
                rw [Array.append_assoc, Array.getElem?_append_right (by omega), Array.getElem?_append_left (by simp; omega), hl]
                exact hargs _ pv hi
              · rw [List.getElem?_append_right (by simp; omega)] at hi
                rw [Array.getElem?_append_right (by simp; omega)]
                have e : i - (vs ++ Array.map a.eval fargs).size = i - (first ++ List.map (ev E) fargs.toList).length := by simp; omega
                rw [e]
                exact h2' _ pv hi
      · cases h1
    · cases h1
end

end Go.Pe
