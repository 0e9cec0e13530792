import Derived.Test.YtcdmhigmgpflbaaGreatPe13
import Derived.Calls
set_option linter.unusedVariables false
set_option linter.unusedSimpArgs false
namespace Go.Pe
open Go.RowKit
def lk {α : Type} (k : Nat) : List (Nat × α) → Option α
  | [] => none
  | (j,v) :: l => if k = j then some v else lk k l
structure St where
  n : Nat
  env : List (Nat × PV)
  hp : List (Nat × Blk)
  nx : Nat
  bs : Nat
theorem lk_mem {α : Type} {k : Nat} {v : α} : ∀ {l : List (Nat × α)},lk k l = some v → (k,v) ∈ l
  | [],h => by simp [lk] at h
  | (j,u) :: l,h => by
    simp only [lk] at h
    split at h
    · rename_i e
      cases h
      subst e
      exact List.mem_cons_self
    · exact List.mem_cons_of_mem _ (lk_mem h)
abbrev St.E (st : St) : Env := fun t => lk t st.env
abbrev hpF (hp : List (Nat × Blk)) : Heap := fun b => lk b hp
abbrev St.H (st : St) : Heap := hpF st.hp
def putL (d : Option Nat) (pv : PV) (env : List (Nat × PV)) : List (Nat × PV) :=
  match d with
  | none => env
  | some d => (d,pv) :: env
def addL : List (Nat × Blk) → List (Nat × Blk) → List (Nat × Blk)
  | [],hp => hp
  | x :: l,hp => addL l (x :: hp)
theorem hpF_addL : ∀ (l hp : List (Nat × Blk)),hpF (addL l hp) = applyEff (hpF hp) l
  | [],hp => rfl
  | x :: l,hp => by
    show hpF (addL l (x :: hp)) = applyEff (upd (hpF hp) x.1 x.2) l
    rw [hpF_addL l]
    rfl
abbrev noEnv : Env := fun _ => none
abbrev SimH (C : Ctx) (H : Heap) (β : Ref) (w : World) : Prop := Sim C 0 noEnv H β ⟨#[],C.df⟩ w
theorem Sim.rdf {C : Ctx} {n : Nat} {E : Env} {H : Heap} {β : Ref} {a : Act} {w : World} (h : Sim C n E H β a w) (ds : List Deferred) : Sim { C with df := ds } n E H β { a with defers := ds } w :=
  ⟨h.nt,rfl,h.env,h.blk,h.sep,h.lies,h.fr,h.below,h.nxb,h.bs,h.gh,h.gr⟩
theorem Sim.heap {C : Ctx} {n : Nat} {E : Env} {H : Heap} {β : Ref} {a : Act} {w : World} (h : Sim C n E H β a w) : SimH C H β w :=
  ⟨rfl,rfl,fun t pv ht => by simp at ht,h.blk,h.sep,h.lies,h.fr,h.below,h.nxb,h.bs,h.gh,h.gr⟩
def Ctx.with (C : Ctx) (E : Env) (a : Act) (gb : Nat) : Ctx := { C with gh := fun pv v => C.gh pv v ∨ ∃ t,t < a.tmps.size ∧ E t = some pv ∧ v = a.tmps.getD t undef,gb := gb }
theorem Sim.lend {C : Ctx} {n : Nat} {E : Env} {H : Heap} {β : Ref} {a : Act} {w : World} (h : Sim C n E H β a w) {gb : Nat} (hb : C.gb ≤ gb) (hH : ∀ b x,H b = some x → b < gb) : SimH (C.with E a gb) H β w := by
  have hgr : ∀ pv v,(C.with E a gb).gh pv v → Rep (NN C H β) w β pv v := by
    rintro pv v (hg | ⟨t,ht,he,rfl⟩)
    · exact h.gh pv v hg
    · exact (h.env t pv he).2
  refine ⟨rfl,rfl,fun t pv ht => by simp at ht,h.blk,h.sep,h.lies,h.fr,h.below,h.nxb,h.bs,hgr,fun pv v hg => ?_⟩
  refine (hgr pv v hg).refs fun b r hr => ?_
  cases hx : H b with
  | none => rw [h.fr b hx] at hr; cases hr
  | some x => simp [Ctx.with,hH b x hx]
theorem Sim.back {C : Ctx} {n : Nat} {E : Env} {H H' : Heap} {β β' : Ref} {a : Act} {w w' : World} {gb : Nat} (h : Sim C n E H β a w) (h' : SimH (C.with E a gb) H' β' w') : Sim C n E H' β' a w' :=
  ⟨h.nt,h.df,fun t pv ht => ⟨(h.env t pv ht).1,h'.gh pv _ (.inr ⟨t,by rw [h.nt]; exact (h.env t pv ht).1,ht,rfl⟩)⟩,h'.blk,h'.sep,h'.lies,h'.fr,h'.below,h'.nxb,h'.bs,fun pv v hg => h'.gh pv v (.inl hg),h.gr⟩
def Callable (P : Program) (f : FuncId) : Prop := ∃ fn, P.funcs[f]? = some fn ∧ (fn.name == "runtime.NumGoroutine") = false ∧ fn.body.isNone = false
inductive Out where
  | normal | ret
  | exit (id : Nat)
  | panic (v : PV)
abbrev CK := PV → List (Nat × Blk) → Nat → Prop
def noP : CK := fun _ _ _ => False
def CallA (P : Program) (f : FuncId) (args : List PV) (hp : List (Nat × Blk)) (nx : Nat) (K : CK) (KP : CK) : Prop :=
  Callable P f ∧ ∀ (C : Ctx) (β : Ref) (w : World) (vs : Array Value),C.gb ≤ nx → SimH C (hpF hp) β w → vs.size = args.length → (∀ i pv,args[i]? = some pv → Rep (NN C (hpF hp) β) w β pv (vs.getD i undef)) →
    Calls P f vs w fun e w' => ∃ v r hp' nx' β',((e = .returned v ∧ K r hp' nx') ∨ (e = .panicked [{ v,recovered := false }] ∧ KP r hp' nx')) ∧ SimH C (hpF hp') β' w' ∧ Rep (NN C (hpF hp') β') w' β' r v
def wantA (all : List Oper) (st : St) (o : Oper) : Option Bool :=
  match o.guard with
  | none => some true
  | some (j,want) => match (all[j]?).bind (·.dst) with
    | none => none
    | some d => match lk d st.env with
      | some (.lit (.bool b)) => some (b == want)
      | some (.lit (.tuple _)) => some false
      | _ => none
def dstOK (d : Option Nat) (n : Nat) : Prop :=
  match d with
  | none => True
  | some d => d < n
abbrev Cont := Out → St → Prop
def genA (T : Tab) (o : Oper) (st : St) (K : Cont) : Prop :=
  match evVal T st.E st.H o.op with
  | some (ok,pv) => ok ∧ K .normal ⟨st.n,putL o.dst pv st.env,st.hp,st.nx,st.bs⟩
  | none => match evMem T st.nx st.E st.H o.op with
    | some (ok,pv,eff) => lk st.nx st.hp = none ∧ ok ∧ K .normal ⟨st.n,putL o.dst pv st.env,addL eff st.hp,st.nx + 1,st.bs⟩
    | none => False
def callV (P : Program) (c : Call) (dst : Option Nat) (st : St) (K : Cont) : PV → Prop
  | .lit (.func (.func g) p q) => (p = #[] ∧ q = #[]) ∧ (∀ x ∈ st.hp,x.1 < st.nx) ∧ st.bs ≤ st.nx ∧
      CallA P g (c.args.toList.map (ev st.E)) st.hp st.nx (fun r hp nx => K .normal ⟨st.n,putL dst r st.env,hp,nx,st.bs⟩) (fun r hp nx => K (.panic r) ⟨st.n,st.env,hp,nx,st.bs⟩)
  | .fn (.func g) first cap => (∀ x ∈ st.hp,x.1 < st.nx) ∧ st.bs ≤ st.nx ∧
      CallA P g (first ++ c.args.toList.map (ev st.E) ++ cap) st.hp st.nx (fun r hp nx => K .normal ⟨st.n,putL dst r st.env,hp,nx,st.bs⟩) (fun r hp nx => K (.panic r) ⟨st.n,st.env,hp,nx,st.bs⟩)
  | _ => False
def panicA (st : St) (K : Cont) : PV → Prop
  | .iface t v => K (.panic (.iface t v)) st
  | _ => False
def nilR (rows : List (List PV)) (b : Bool) : Prop := b = true → rows = []
def nilT (b : Bool) : Prop := b = true
def nilO (ver : Nat) : Option Blk → Option (Bool → Prop)
  | some (.arr _ _ rows ver' _) => if ver = ver' then some (nilR rows) else none
  | _ => none
def nilQ (H : Heap) : PV → PV → Option (Bool → Prop)
  | .im _ rows,.lit (.slice none 0 0) => some (nilR rows)
  | .own b ver,.lit (.slice none 0 0) => nilO ver (H b)
  | .lit (.slice none 0 0),.lit (.slice none 0 0) => some nilT
  | _,_ => none
def nilB (op : BinOp) (b : Bool) : Bool :=
  match op with
  | .eql => b
  | _ => !b
def isSl (T : Tab) (t : TypeId) : Prop :=
  match T t with
  | some ti => match ti.desc with
    | .slice _ => True
    | _ => False
  | none => False
def binN (T : Tab) (op : BinOp) (t : TypeId) (dst : Option Nat) (st : St) (K : Cont) (R : Bool → Prop) : Prop :=
  (op = .eql ∨ op = .neq) ∧ isSl T t ∧ ∀ b : Bool,R b → K .normal ⟨st.n,putL dst (.lit (.bool (nilB op b))) st.env,st.hp,st.nx,st.bs⟩
def stepA (P : Program) (T : Tab) (o : Oper) (st : St) (K : Cont) : Prop :=
  match o.op with
  | .call { callee := .value f,args,argTypes } => callV P { callee := .value f,args,argTypes } o.dst st K (ev st.E f)
  | .panic x => panicA st K (ev st.E x)
  | .binOp op t x y _ => match nilQ st.H (ev st.E x) (ev st.E y) with
    | some R => binN T op t o.dst st K R
    | none => genA T o st K
  | _ => genA T o st K
def restO (K : Cont) (next : St → Prop) : Cont
  | .normal => next
  | o => K o
def wpOpsA (P : Program) (T : Tab) (all : List Oper) : List Oper → St → Cont → Prop
  | [],st,K => K .normal st
  | o :: os,st,K => dstOK o.dst st.n ∧ match wantA all st o with
    | some b => (b = true → stepA P T o st (restO K fun st' => wpOpsA P T all os st' K)) ∧ (b = false → wpOpsA P T all os ⟨st.n,putL o.dst (.lit (.tuple #[])) st.env,st.hp,st.nx,st.bs⟩ K)
    | none => False
def Fits (C : Ctx) (H : Heap) (β : Ref) (w : World) : Out → Exit → Prop
  | .normal,e => e = .normal
  | .ret,e => e = .ret
  | .exit i,e => e = .exit i
  | .panic pv,e => ∃ v,e = .panic [{ v,recovered := false }] ∧ Rep (NN C H β) w β pv v
def postA (C : Ctx) (n bs : Nat) (Q : Cont) : Exit → Act → World → Prop := fun e a w => ∃ o st β,Fits C st.H β w o e ∧ Q o st ∧ (st.n = n ∧ st.bs = bs) ∧ Sim C st.n st.E st.H β a w
section
variable {P : Program} {T : Tab} {C : Ctx} {β : Ref} {a : Act} {w : World}
theorem Sim.putL {st : St} (h : Sim C st.n st.E st.H β a w) {o : Option Nat} (hd : dstOK o st.n) {pv : PV} {v : Value} (hr : Rep (NN C st.H β) w β pv v) :
    Sim C st.n (fun t => lk t (putL o pv st.env)) st.H β (a.put o v) w := by
  cases o with
  | none => exact h
  | some d => exact h.put hd hr
theorem callFunc_run {f : FuncId} {args : Array Value} (h : Callable P f) (w : World) : (callFunc f args).run P w = .ok (.enter f args) w := by
  obtain ⟨fn,h1,h2,h3⟩ := h
  have h2' : ¬ fn.name = "runtime.NumGoroutine" := by simpa using h2
  have h3' : fn.body ≠ none := by intro e; simp [e] at h3
  simp [callFunc,h1,h2',h3']
abbrev NextA (C : Ctx) (st : St) (K : Cont) : Act → World → Prop := fun a' w' => ∃ st' β',K .normal st' ∧ (st'.n = st.n ∧ st'.bs = st.bs) ∧ Sim C st'.n st'.E st'.H β' a' w'
abbrev PanA (C : Ctx) (st : St) (K : Cont) (Q : Exit → Act → World → Prop) : Prop := ∀ pv st' β' a' w' v,K (.panic pv) st' → (st'.n = st.n ∧ st'.bs = st.bs) → Sim C st'.n st'.E st'.H β' a' w' → Rep (NN C st'.H β') w' β' pv v → Q (.panic [{ v,recovered := false }]) a' w'
theorem CallA.wp {st : St} {o : Oper} {g : FuncId} {args : List PV} {vs : Array Value} {K : Cont} {Q : Exit → Act → World → Prop}
    (h : CallA P g args st.hp st.nx (fun r hp nx => K .normal ⟨st.n,Pe.putL o.dst r st.env,hp,nx,st.bs⟩) (fun r hp nx => K (.panic r) ⟨st.n,st.env,hp,nx,st.bs⟩)) (hd : dstOK o.dst st.n) (hQ : PanA C st K Q)
    (hx : ∀ x ∈ st.hp,x.1 < st.nx) (hbs : st.bs ≤ st.nx) (hgb : C.gb ≤ st.bs) (hs : Sim C st.n st.E st.H β a w) (hrun : (execOp a.eval o).run P w = (callFunc g vs).run P w) (hl : vs.size = args.length) (hv : ∀ i pv,args[i]? = some pv → Rep (NN C st.H β) w β pv (vs.getD i undef)) :
    o.wp P a w (NextA C st K) Q := by
  unfold Oper.wp
  rw [hrun,callFunc_run h.1 w]
  refine (h.2 (C.with st.E a st.nx) β w vs (Nat.le_refl _) (hs.lend (by omega) (fun b x hb => hx (b,x) (lk_mem hb))) hl hv).mono ?_
  rintro e w' ⟨v,r,hp',nx',β',he,hs',hr⟩
  have hsim := hs.back hs'
  rcases he with ⟨rfl,hK⟩ | ⟨rfl,hK⟩
  · exact ⟨_,β',hK,⟨rfl,rfl⟩,Sim.putL (st := ⟨st.n,st.env,hp',nx',st.bs⟩) hsim hd hr⟩
  · exact hQ r ⟨st.n,st.env,hp',nx',st.bs⟩ β' a w' v hK ⟨rfl,rfl⟩ hsim hr
theorem Rep.iface_eq {N : Nat → Prop} {t : TypeId} {pv : PV} {v : Value} (h : Rep N w β (.iface t pv) v) : ∃ u,v = .iface t u ∧ Rep N w β pv u := by
  cases h with
  | i h => cases h
  | iface t pv u h => exact ⟨u,rfl,h⟩
theorem stepA_sound (hT : TabOK P T) {o : Oper} {st : St} {K : Cont} {Q : Exit → Act → World → Prop} (h : stepA P T o st K) (hd : dstOK o.dst st.n) (hQ : PanA C st K Q) (hgb : C.gb ≤ st.bs) (hs : Sim C st.n st.E st.H β a w) :
    o.wp P a w (NextA C st K) Q := by
  have gen : genA T o st K → o.wp P a w (NextA C st K) Q := by
    intro h
    unfold genA at h
    split at h
    · rename_i ok pv hev
      obtain ⟨u,hrun,hr⟩ := evVal_sound hT hs hev h.1
      unfold Oper.wp
      rw [hrun]
      exact ⟨_,β,h.2,⟨rfl,rfl⟩,Sim.putL hs hd hr⟩
    · split at h
      · rename_i ok pv eff hev
        obtain ⟨hfr,hok,hK⟩ := h
        obtain ⟨nx,w',β',hrun,hsim,hres⟩ := evMem_sound hT hs hfr hev hok
        rw [← hpF_addL] at hsim
        unfold Oper.wp
        rw [hrun]
        rcases hres with ⟨u,rfl,hr⟩ | ⟨rfl,rfl⟩
        · rw [← hpF_addL] at hr
          exact ⟨_,β',hK,⟨rfl,rfl⟩,Sim.putL (st := ⟨st.n,st.env,addL eff st.hp,st.nx,st.bs⟩) hsim hd hr⟩
        · exact ⟨_,β',hK,⟨rfl,rfl⟩,Sim.putL (st := ⟨st.n,st.env,addL eff st.hp,st.nx,st.bs⟩) hsim hd (.any _)⟩
      · exact h.elim
  unfold stepA at h
  split at h
  · rename_i f args argTypes hop
    have hrf := hs.ev f
    have hargs : ∀ i pv,(args.toList.map (ev st.E))[i]? = some pv → Rep (NN C st.H β) w β pv ((args.map a.eval).getD i undef) := by
      intro i pv hi
      simp only [List.getElem?_map,Option.map_eq_some_iff] at hi
      obtain ⟨x,hx,rfl⟩ := hi
      have hx' : args[i]? = some x := by simpa using hx
      have : (args.map a.eval).getD i undef = a.eval x := by simp [Array.getD_eq_getD_getElem?,hx']
      rw [this]
      exact hs.ev x
    generalize hpv : ev st.E f = pv at h hrf
    unfold callV at h
    split at h
    · rename_i g p q
      obtain ⟨⟨rfl,rfl⟩,hx,hbs,h⟩ := h
      refine h.wp hd hQ hx hbs hgb hs (vs := args.map a.eval) ?_ (by simp) hargs
      simp [execOp,hop,resolve,Deferred.ofValue,hrf.lit_eq,invoke]
    · rename_i g first cap
      generalize hvf : a.eval f = vf at hrf
      cases hrf with
      | i hi => cases hi
      | fn _ _ _ vs us hl hl' h1 h2 =>
        obtain ⟨hx,hbs,h⟩ := h
        refine h.wp hd hQ hx hbs hgb hs (vs := vs ++ args.map a.eval ++ us) ?_ (by simp; omega) ?_
        · simp [execOp,hop,resolve,Deferred.ofValue,hvf,invoke]
        · intro i pv hi
          simp only [Array.getD_eq_getD_getElem?] at h1 h2 hargs ⊢
          by_cases c1 : i < first.length
          · rw [List.append_assoc,List.getElem?_append_left c1] at hi
            rw [Array.append_assoc,Array.getElem?_append_left (by omega)]
            exact h1 i pv hi
          · by_cases c2 : i < first.length + args.size
            · rw [List.append_assoc,List.getElem?_append_right (by omega),List.getElem?_append_left (by simp; omega)] at hi
              rw [Array.append_assoc,Array.getElem?_append_right (by omega),Array.getElem?_append_left (by simp; omega),hl]
              exact hargs _ pv hi
            · rw [List.getElem?_append_right (by simp; omega)] at hi
              rw [Array.getElem?_append_right (by simp; omega)]
              have e : i - (vs ++ Array.map a.eval args).size = i - (first ++ List.map (ev st.E) args.toList).length := by simp; omega
              rw [e]
              exact h2 _ pv hi
    · exact h.elim
  · rename_i x hop
    have hr := hs.ev x
    generalize hpv : ev st.E x = pv at h hr
    unfold panicA at h
    split at h
    · rename_i t pv'
      obtain ⟨u,hu,hr'⟩ := hr.iface_eq
      unfold Oper.wp
      have : (execOp a.eval o).run P w = .halt (.panic (.iface t u)) w := by
        simp [execOp,hop,hu,Instr.panic,goPanic,Sem.run]
      rw [this]
      refine hQ _ st β a w _ h ⟨rfl,rfl⟩ hs ?_
      rw [← hu]
      exact hr
    · exact h.elim
  · rename_i op t x y t' hop
    split at h
    · rename_i R hq
      obtain ⟨h1,h2,h3⟩ := h
      obtain ⟨e,hu⟩ : ∃ e,P.underlying t = some (.slice e) := by
        unfold isSl at h2
        split at h2
        · rename_i ti hti
          split at h2
          · rename_i e hd
            obtain ⟨d,hu,hf,_⟩ := (hT t ti hti).d
            rw [hd] at hf
            simp only [TD.fits] at hf
            subst hf
            exact ⟨e,hu⟩
          · exact h2.elim
        · exact h2.elim
      have hrx := hs.ev x
      have hry := hs.ev y
      have hval : ∃ ad n c,a.eval x = .slice ad n c ∧ a.eval y = .slice none 0 0 ∧ R ad.isNone := by
        generalize ev st.E x = px at hq hrx
        generalize ev st.E y = py at hq hry
        unfold nilQ at hq
        split at hq
        · cases hq
          have him := hrx.im_eq
          rename_i rows
          refine (?_ : ∃ ad n c,a.eval x = .slice ad n c ∧ (ad.isNone = true → rows = [])).elim fun ad ⟨n,c,p,q⟩ => ⟨ad,n,c,p,hry.lit_eq,q⟩
          generalize a.eval x = vx at him
          cases him with
          | imN _ n c hn => exact ⟨none,n,c,rfl,fun _ => rfl⟩
          | im _ ad n cap _ vals hn _ hc _ _ => exact ⟨some ad,n,cap,rfl,fun h => by simp at h⟩
        · rename_i b ver
          unfold nilO at hq
          split at hq
          · rename_i T0 s rows' ver' f hH
            split at hq
            · rename_i hv
              subst hv
              cases hq
              obtain ⟨u,hβ,hrows⟩ := ArrOK.rowsAt (hs.blk b _ hH)
              rw [hrx.own_eq hβ]
              rcases hrows with ⟨rfl,c,rfl⟩ | ⟨ad,cap,rfl,_⟩
              · exact ⟨none,0,c,rfl,hry.lit_eq,fun _ => rfl⟩
              · exact ⟨some ad,_,cap,rfl,hry.lit_eq,fun h => by simp at h⟩
            · cases hq
          · cases hq
        · cases hq
          exact ⟨none,0,0,hrx.lit_eq,hry.lit_eq,rfl⟩
        · cases hq
      obtain ⟨ad,n,c,hx,hy,hn⟩ := hval
      have hg : (eqGuard op t x y (.slice ad n c) (.slice none 0 0)).run P w = .ok () w := eqGuard_plain (by simp) w
      have hb := binOp_slice (P := P) (x := ad) (n := n) (c := c) (n' := 0) (c' := 0) hu w
      have hrun : (execOp a.eval o).run P w = .ok (.value (.bool (nilB op ad.isNone))) w := by
        rcases h1 with rfl | rfl
        · simp [execOp,hop,hx,hy,hg,hb.1,nilB]
        · simp [execOp,hop,hx,hy,hg,hb.2,nilB]
      unfold Oper.wp
      rw [hrun]
      exact ⟨_,β,h3 ad.isNone hn,⟨rfl,rfl⟩,Sim.putL hs hd (.i (.lit _))⟩
    · exact gen h
  · exact gen h
theorem wanted_eq {ops : Array Oper} {st : St} {o : Oper} {b : Bool} (h : wantA ops.toList st o = some b) (hs : Sim C st.n st.E st.H β a w) : Region.wanted o (yielded ops a.tmps) = b := by
  unfold wantA at h
  unfold Region.wanted
  split at h
  · rename_i hg
    cases h
    rw [hg]
  · rename_i j want hg
    rw [hg]
    split at h
    · cases h
    · rename_i d hd
      split at h
      · rename_i bb hlk
        cases h
        obtain ⟨hlt,hr⟩ := hs.env d _ hlk
        have hv := hr.lit_eq
        have hd' : (ops[j]?).bind (·.dst) = some d := by simpa using hd
        have hlt' : d < a.tmps.size := by rw [hs.nt]; exact hlt
        have hget : a.tmps[d]? = some (.bool bb) := by
          rw [Array.getElem?_eq_getElem hlt']
          simp only [Array.getD,hlt',dif_pos] at hv
          rw [← hv]
          rfl
        simp [yielded,hd',hget]
      · rename_i p hlk
        cases h
        obtain ⟨hlt,hr⟩ := hs.env d _ hlk
        have hv := hr.lit_eq
        have hd' : (ops[j]?).bind (·.dst) = some d := by simpa using hd
        have hlt' : d < a.tmps.size := by rw [hs.nt]; exact hlt
        have hget : a.tmps[d]? = some (.tuple p) := by
          rw [Array.getElem?_eq_getElem hlt']
          simp only [Array.getD,hlt',dif_pos] at hv
          rw [← hv]
          rfl
        simp [yielded,hd',hget]
      · cases h
theorem wpOpsA_sound (hT : TabOK P T) {ops : Array Oper} {K : Cont} {Q : Exit → Act → World → Prop} : ∀ (l : List Oper) (k : Nat) (st : St) (β : Ref) (a : Act) (w : World),ops.toList.drop k = l → wpOpsA P T ops.toList l st K →
    C.gb ≤ st.bs → Sim C st.n st.E st.H β a w → (∀ st' β' a' w',K .normal st' → (st'.n = st.n ∧ st'.bs = st.bs) → Sim C st'.n st'.E st'.H β' a' w' → Q .normal a' w') → PanA C st K Q → wpOps P ops Q (List.range' k l.length) a w
  | [],k,st,β,a,w,hl,h,hgb,hs,hQ,hP => hQ st β a w h ⟨rfl,rfl⟩ hs
  | o :: l,k,st,β,a,w,hl,h,hgb,hs,hQ,hP => by
    have hk : ops[k]? = some o := by
      have := congrArg (·[0]?) hl
      simpa using this
    have hl' : ops.toList.drop (k + 1) = l := by
      have := congrArg List.tail hl
      simpa using this
    rw [List.length_cons,List.range'_succ]
    simp only [wpOps,hk]
    unfold wpOpsA at h
    obtain ⟨hd,h⟩ := h
    split at h
    · rename_i b hb
      rw [wanted_eq hb hs]
      cases b with
      | true =>
        refine .inl ?_
        refine Oper.wp_mono ?_ (stepA_sound (Q := Q) hT (h.1 rfl) hd hP hgb hs)
        rintro a' w' ⟨st',β',hK,hn,hs'⟩
        exact wpOpsA_sound hT l (k + 1) st' β' a' w' hl' hK (by rw [hn.2]; exact hgb) hs' (fun st2 β2 a2 w2 h2 hn2 hs2 => hQ st2 β2 a2 w2 h2 ⟨hn2.1.trans hn.1,hn2.2.trans hn.2⟩ hs2) (fun pv st2 β2 a2 w2 v h2 hn2 hs2 hr2 => hP pv st2 β2 a2 w2 v h2 ⟨hn2.1.trans hn.1,hn2.2.trans hn.2⟩ hs2 hr2)
      | false =>
        refine wpOpsA_sound hT l (k + 1) _ β _ w hl' (h.2 rfl) hgb (Sim.putL hs hd (.i (.lit undef))) (fun st2 β2 a2 w2 h2 hn2 hs2 => hQ st2 β2 a2 w2 h2 hn2 hs2) (fun pv st2 β2 a2 w2 v h2 hn2 hs2 hr2 => hP pv st2 β2 a2 w2 v h2 hn2 hs2 hr2)
    · exact h.elim
end
end Go.Pe
namespace Go.Pe
open Go.RowKit
mutual
def FrzR (H : Heap) : PV → PV → Prop
  | .lit v,q => q = .lit v ∨ (isNil v = true ∧ ∃ s,q = .im s [])
  | .im s rows,q => q = .im s rows
  | .own b ver,q => ∃ T s rows f,H b = some (.arr T s rows ver f) ∧ q = .im s rows
  | .agg cs,q => ∃ ds,q = .agg ds ∧ FrzRL H cs ds
  | .tup cs,q => ∃ ds,q = .tup ds ∧ FrzRL H cs ds
  | _,_ => False
def FrzRL (H : Heap) : List PV → List PV → Prop
  | [],q => q = []
  | x :: l,q => ∃ y m,q = y :: m ∧ FrzR H x y ∧ FrzRL H l m
end
mutual
def frzD (H : Heap) : PV → List (Nat × Blk)
  | .own b ver => frzOne H (.own b ver)
  | .agg cs => frzDL H cs
  | .tup cs => frzDL H cs
  | _ => []
def frzDL (H : Heap) : List PV → List (Nat × Blk)
  | [] => []
  | x :: l => frzD H x ++ frzDL H l
end
mutual
def noSl : PV → Bool
  | .lit _ => true
  | .agg cs => noSlL cs
  | .tup cs => noSlL cs
  | _ => false
def noSlL : List PV → Bool
  | [] => true
  | x :: l => noSl x && noSlL l
end
theorem noSlL_mem : ∀ {l : List PV} {x : PV},noSlL l = true → x ∈ l → noSl x = true
  | [],_,_,h => by simp at h
  | y :: l,x,h,hx => by
    simp only [noSlL,Bool.and_eq_true] at h
    rcases List.mem_cons.1 hx with rfl | hx
    · exact h.1
    · exact noSlL_mem h.2 hx
theorem IRep.anywhere {N N' : Nat → Prop} {w w' : World} {pv : PV} {v : Value} (h : IRep N w pv v) (hn : noSl pv = true) : IRep N' w' pv v := by
  induction h with
  | lit v => exact .lit v
  | imN => simp [noSl] at hn
  | im => simp [noSl] at hn
  | agg cs vs hl h ih => exact .agg cs vs hl (fun i pv hi => ih i pv hi (noSlL_mem hn (List.mem_of_getElem? hi)))
  | tup cs vs hl h ih => exact .tup cs vs hl (fun i pv hi => ih i pv hi (noSlL_mem hn (List.mem_of_getElem? hi)))
theorem FrzRL_get {H : Heap} : ∀ {l m : List PV},FrzRL H l m → m.length = l.length ∧ ∀ (i : Nat) (y : PV),m[i]? = some y → ∃ x,l[i]? = some x ∧ FrzR H x y
  | [],m,h => by
    simp only [FrzRL] at h
    subst h
    exact ⟨rfl,by simp⟩
  | x :: l,m,h => by
    simp only [FrzRL] at h
    obtain ⟨y,m',rfl,h1,h2⟩ := h
    obtain ⟨q1,q2⟩ := FrzRL_get h2
    refine ⟨by simp [q1],fun i z hz => ?_⟩
    cases i with
    | zero => cases hz; exact ⟨x,rfl,h1⟩
    | succ i => exact q2 i z (by simpa using hz)
theorem frzDL_mem {H : Heap} : ∀ {l : List PV} {x : PV} {e : Nat × Blk},x ∈ l → e ∈ frzD H x → e ∈ frzDL H l
  | [],_,_,h,_ => by simp at h
  | y :: l,x,e,h,he => by
    simp only [frzDL]
    rcases List.mem_cons.1 h with rfl | h
    · exact List.mem_append_left _ he
    · exact List.mem_append_right _ (frzDL_mem h he)
mutual
theorem frzD_list (H : Heap) : ∀ (x : PV),FrzList H (frzD H x)
  | .own b ver => by
    have := frzEff_list (H := H) [.own b ver]
    simpa [frzEff,frzD] using this
  | .agg cs => frzDL_list H cs
  | .tup cs => frzDL_list H cs
  | .any => by simp [frzD,FrzList]
  | .lit _ => by simp [frzD,FrzList]
  | .im _ _ => by simp [frzD,FrzList]
  | .ptr _ _ => by simp [frzD,FrzList]
  | .mapp _ => by simp [frzD,FrzList]
  | .aptr .. => by simp [frzD,FrzList]
  | .sub .. => by simp [frzD,FrzList]
  | .iptr _ => by simp [frzD,FrzList]
  | .fn .. => by simp [frzD,FrzList]
  | .iface .. => by simp [frzD,FrzList]
theorem frzDL_list (H : Heap) : ∀ (l : List PV),FrzList H (frzDL H l)
  | [] => by simp [frzDL,FrzList]
  | x :: l => by
    intro e he
    simp only [frzDL] at he
    rcases List.mem_append.1 he with he | he
    · exact frzD_list H x e he
    · exact frzDL_list H l e he
end
section
variable {P : Program} {T : Tab} {C : Ctx} {n : Nat} {E : Env} {H : Heap} {β : Ref} {a : Act} {w : World}
theorem Frz.data {H' : Heap} (hf : Frz C n E β a w H H') {pv : PV} {v : Value} (hr : Rep (NN C H β) w β pv v) : ∀ (q : PV),FrzR H pv q → (∀ e ∈ frzD H pv,H' e.1 = some e.2) → IRep (NN C H' β) w q v := by
  have hk := Keeps.refl (NN C H β) w
  have aux : ∀ {pv : PV} {v : Value},IRep (NN C H β) w pv v → ∀ (q : PV),FrzR H pv q → IRep (NN C H' β) w q v := by
    intro pv v h
    induction h with
    | lit v =>
      intro q hq
      simp only [FrzR] at hq
      rcases hq with rfl | ⟨hn,s,rfl⟩
      · exact .lit v
      · rw [isNil_eq hn]
        exact .imN _ _ _ rfl
    | imN size n c hn =>
      intro q hq
      simp only [FrzR] at hq
      subst hq
      exact .imN _ _ _ hn
    | im rows ad n' cap size vals hn hs hc h1 h2 ih =>
      intro q hq
      simp only [FrzR] at hq
      subst hq
      exact (IRep.im rows ad n' cap size vals hn hs hc h1 h2).mono hk (fun k _ => hf.nn k)
    | agg cs vs hl h ih =>
      intro q hq
      simp only [FrzR] at hq
      obtain ⟨ds,rfl,hds⟩ := hq
      obtain ⟨q1,q2⟩ := FrzRL_get hds
      exact .agg _ _ (by omega) (fun i y hy => by obtain ⟨x,hx,hxy⟩ := q2 i y hy; exact ih i x hx y hxy)
    | tup cs vs hl h ih =>
      intro q hq
      simp only [FrzR] at hq
      obtain ⟨ds,rfl,hds⟩ := hq
      obtain ⟨q1,q2⟩ := FrzRL_get hds
      exact .tup _ _ (by omega) (fun i y hy => by obtain ⟨x,hx,hxy⟩ := q2 i y hy; exact ih i x hx y hxy)
  induction hr with
  | i h => exact fun q hq _ => aux h q hq
  | any v => intro q hq; simp [FrzR] at hq
  | agg cs vs hl h ih =>
    intro q hq he
    simp only [FrzR] at hq
    obtain ⟨ds,rfl,hds⟩ := hq
    obtain ⟨q1,q2⟩ := FrzRL_get hds
    exact .agg _ _ (by omega) (fun i y hy => by
      obtain ⟨x,hx,hxy⟩ := q2 i y hy
      exact ih i x hx y hxy (fun e hm => he e (by simp only [frzD]; exact frzDL_mem (List.mem_of_getElem? hx) hm)))
  | tup cs vs hl h ih =>
    intro q hq he
    simp only [FrzR] at hq
    obtain ⟨ds,rfl,hds⟩ := hq
    obtain ⟨q1,q2⟩ := FrzRL_get hds
    exact .tup _ _ (by omega) (fun i y hy => by
      obtain ⟨x,hx,hxy⟩ := q2 i y hy
      exact ih i x hx y hxy (fun e hm => he e (by simp only [frzD]; exact frzDL_mem (List.mem_of_getElem? hx) hm)))
  | ptr => intro q hq; simp [FrzR] at hq
  | mapp => intro q hq; simp [FrzR] at hq
  | aptr => intro q hq; simp [FrzR] at hq
  | sub => intro q hq; simp [FrzR] at hq
  | iptr => intro q hq; simp [FrzR] at hq
  | fn => intro q hq; simp [FrzR] at hq
  | iface => intro q hq; simp [FrzR] at hq
  | own b ver ver' u v h1 h2 h3 h4 =>
    intro q hq he
    simp only [FrzR] at hq
    obtain ⟨T0,s,rows,f,hH,rfl⟩ := hq
    have hb := he (b,.arr T0 s rows ver true) (by simp [frzD,frzOne,hH])
    refine hf.sim.frozen_rep hb (fun u' hu => ?_)
    rw [h1] at hu
    cases hu
    exact h4 rfl
end
def PureCalls (P : Program) (f : FuncId) (args : List PV) (r : PV) : Prop :=
  Callable P f ∧ ∀ (N : Nat → Prop) (w : World) (vs : Array Value),(∀ k,N k → k < w.heap.size) → vs.size = args.length → (∀ i pv,args[i]? = some pv → IRep N w pv (vs.getD i undef)) →
    Calls P f vs w fun e w' => ∃ v,e = .returned v ∧ IRep N w' r v ∧ Below w.heap.size w w'
theorem CallA.pure {P : Program} {f : FuncId} {args args' : List PV} {r : PV} {hp : List (Nat × Blk)} {nx : Nat} {K KP : CK} (h : PureCalls P f args' r) (hf : FrzRL (hpF hp) args args')
    (hK : K r (if noSl r then hp else addL (frzDL (hpF hp) args) hp) nx) : CallA P f args hp nx K KP := by
  refine ⟨h.1,fun C β w vs hgb hs hl hv => ?_⟩
  obtain ⟨q1,q2⟩ := FrzRL_get hf
  have hfz := Frz.all (frzDL (hpF hp) args) (hpF hp) (frzDL_list _ args) ⟨hs,fun _ h => h,fun _ _ h => .inl h,fun _ h => h⟩
  have hN : ∀ k,NN C (applyEff (hpF hp) (frzDL (hpF hp) args)) β k → k < w.heap.size := by
    rintro k (hk | ⟨b,x,ver,u,p1,p2,p3,p4⟩)
    · have := hs.nxb k hk; have := hs.bs; omega
    · exact hs.lies b ver u k p3 p4
  refine (h.2 (NN C (applyEff (hpF hp) (frzDL (hpF hp) args)) β) w vs hN (by omega) (fun i y hy => ?_)).mono ?_
  · obtain ⟨x,hx,hxy⟩ := q2 i y hy
    exact hfz.data (hv i x hx) y hxy (fun e he => applyEff_mem _ _ _ (frzDL_list _ args) (frzDL_mem (List.mem_of_getElem? hx) he))
  · rintro e w' ⟨v,rfl,hr,hb⟩
    have hk : ∀ N,Keeps N w w' := fun N => ⟨hb.os,hb.tape,hb.output,hb.size,fun k hk _ => hb.block k hk⟩
    have move : ∀ {H : Heap},SimH C H β w → SimH C H β w' := fun {H} hs => hs.world (hk _) (hs.keeps_below (hk _)) (fun b x hx _ => (hs.blk b x hx).later (hk _) (fun _ _ h => h) (Later.refl _) (fun _ _ h => h) rfl
      (fun ver u k h1 h2 => hb.block k (hs.lies b ver u k h1 h2)))
    cases hn : noSl r with
    | true =>
      rw [hn,if_pos rfl] at hK
      exact ⟨v,r,hp,nx,β,.inl ⟨rfl,hK⟩,move hs,.i (hr.anywhere hn)⟩
    | false =>
      rw [hn] at hK
      simp only [Bool.false_eq_true,if_false] at hK
      refine ⟨v,r,_,nx,β,.inl ⟨rfl,hK⟩,?_,?_⟩
      · rw [hpF_addL]; exact move hfz.sim
      · rw [hpF_addL]; exact .i hr
end Go.Pe
