import Derived.Test.YtcdmhigmgpflbaaPe18
import Derived.RangeFuncLeaves
import Derived.RangeFuncRecord
import Derived.RangeFuncSeq
import Derived.OrdersIn
import Derived.Test.YtcdmhigmgpflbaaPe20
/- A range over a function: rounds,iterators that yield,functions that hold such a loop. -/
set_option linter.unusedVariables false
set_option linter.unusedSimpArgs false
namespace Go.Pe
open Go.RowKit

/-! ### from the plain calculus to the one within a round -/
def FW (ro : Option Nat) : Fence := { fn := fun _ => True,depth := none,alive := false,round := ro }
theorem FW_room (ro : Option Nat) (k : Nat) : (FW ro).room k := fun _ h => by cases h
def isDefer : Op → Bool
  | .defer _ => true
  | _ => false
theorem semAt_nd {ro : Option Nat} {ρ : Operand → Value} {o : Oper} (h : isDefer o.op = false) : Oper.semAt ro ρ o = execOp ρ o :=
  Oper.semAt_eq ro ρ o (fun c e => by rw [e] at h; cases h)
section
variable {P : Program} {T : Tab} {ro : Option Nat}
theorem calls_FW {f : FuncId} {args : Array Value} {w : World} {n : Nat} {R : Ending → World → Prop} (h : Calls P f args w R) : CallsIn (FW ro) n P f args w R :=
  (callsIn_wide (n := n)).2 h
theorem rows_FW {row : String} {args : Array Value} {w : World} {n : Nat} {R : Value → World → Prop} (h : Rows P row args w R) : RowsIn (FW ro) n P row args w R :=
  fun c cs _ => let ⟨v,w',r,s⟩ := h c cs; ⟨v,w',r,stepsIn_wide.2 s⟩
theorem wp_in {o : Oper} {a : Act} {w : World} {next next' : Act → World → Prop} {Q : Exit → Act → World → Prop} (hd : isDefer o.op = false) (hn : ∀ a w,next a w → next' a w) (h : o.wp P a w next Q) : o.wpIn (FW ro) 0 P a w next' Q := by
  refine ⟨fun _ _ => trivial,?_⟩
  rw [semAt_nd hd]
  unfold Oper.wp at h
  generalize (execOp a.eval o).run P w = r at h ⊢
  cases r with
  | ok x w' =>
    cases x with
    | value v => exact hn _ _ h
    | skip => exact hn _ _ h
    | defer d => exact hn _ _ h
    | enter f args =>
      refine ⟨fun hh => (by cases hh),?_⟩
      refine (calls_FW (n := 0 - 1) h).mono ?_
      rintro e w'' he
      cases e with
      | returned v => exact hn _ _ he
      | panicked chain => exact he
      | outgrown => exact he
    | row row args => exact ⟨fun hh => (by cases hh),(rows_FW (n := 0 - 1) h).mono fun v w'' hv => hn _ _ hv⟩
    | _ => exact h.elim
  | halt x w' =>
    cases x <;> first | exact h | exact h.elim
theorem any_in {ops : Array Oper} {Q : Exit → Act → World → Prop} {md : Region.Mode} (hd : ∀ (i : Nat) (o : Oper),ops[i]? = some o → isDefer o.op = false) (hQ : ¬ LetsOut Q) : ∀ (fuel : Nat) (listed : Array Bool) (a : Act) (w : World),wpAny P md ops Q fuel listed a w → wpAnyIn (FW ro) 0 P md ops Q fuel listed a w
  | 0,_,_,_,h => h
  | fuel + 1,listed,a,w,h => by
    refine ⟨h.1,fun i hi => ?_⟩
    have hop := h.2 i hi
    unfold wpOp at hop
    unfold wpOpIn
    cases ho : ops[i]? with
    | none => rw [ho] at hop; exact any_in hd hQ fuel _ a w hop
    | some o =>
      rw [ho] at hop
      simp only at hop ⊢
      split
      · rename_i hw
        rw [if_pos hw] at hop
        rcases hop with hop | hop
        · exact wp_in (hd i o ho) (fun a w => any_in hd hQ fuel _ a w) hop
        · exact absurd hop.2 hQ
      · rename_i hw
        rw [if_neg hw] at hop
        exact ⟨fun _ _ => trivial,any_in hd hQ fuel _ _ w hop⟩

theorem letsOut_postA {C : Ctx} {n bs : Nat} {Q : Cont} : ¬ LetsOut (postA C n bs Q) := by
  rintro ⟨a,w,o,st,β,hf,_⟩
  cases o with
  | normal => cases hf
  | ret => cases hf
  | exit i => cases hf
  | panic v => obtain ⟨u,hu,_⟩ := hf; cases hu

/-! ### code in which operations may yield -/
abbrev YS := Nat → List PV → List (Nat × Blk) → Nat → CK → Prop
def noY : YS := fun _ _ _ _ _ => False
def yieldOf (args : List PV) : PV → Option (Nat × Array Value × Array Value × List PV)
  | .lit (.func (.yield l) p q) => some (l,p,q,args)
  | _ => none
def isYield (E : Env) : Op → Option (Nat × Array Value × Array Value × List PV)
  | .call { callee := .value f,args,argTypes := _ } => yieldOf (args.toList.map (ev E)) (ev E f)
  | _ => none
def stepX (P : Program) (T : Tab) (Y : YS) (o : Oper) (st : St) (K : Cont) : Prop :=
  match isYield st.E o.op with
  | some (l,p,q,args) => (p = #[] ∧ q = #[]) ∧ (∀ x ∈ st.hp,x.1 < st.nx) ∧ st.bs ≤ st.nx ∧ Y l args st.hp st.nx (fun r hp nx => K .normal ⟨st.n,putL o.dst r st.env,hp,nx,st.bs⟩)
  | none => stepA P T o st K
def wpOpsY (P : Program) (T : Tab) (Y : YS) (all : List Oper) : List Oper → St → Cont → Prop
  | [],st,K => K .normal st
  | o :: os,st,K => dstOK o.dst st.n ∧ match wantA all st o with
    | some b => (b = true → stepX P T Y o st (restO K fun st' => wpOpsY P T Y all os st' K)) ∧ (b = false → wpOpsY P T Y all os ⟨st.n,putL o.dst (.lit (.tuple #[])) st.env,st.hp,st.nx,st.bs⟩ K)
    | none => False
def wpY (P : Program) (T : Tab) (Y : YS) : Code → St → Cont → Prop
  | .skip,st,Q => Q .normal st
  | .region _ ops draw,st,Q => match draw with
    | false => wpOpsY P T Y ops.toList ops.toList st Q
    | true => drawA P T ops st Q
  | .seq x y,st,Q => wpY P T Y x st (restO Q fun st' => wpY P T Y y st' Q)
  | .cond c x y,st,Q => match ev st.E c with
    | .lit (.bool t) => (t = true → wpY P T Y x st Q) ∧ (t = false → wpY P T Y y st Q)
    | _ => False
  | .block id body,st,Q => wpY P T Y body st (fun o st' => match o with
    | .normal => Q .normal st'
    | .ret => Q .ret st'
    | .panic v => Q (.panic v) st'
    | .exit i => if i = id then Q .normal st' else Q (.exit i) st')
  | .loop body,st,Q => ∃ R : St → St → Prop,(∀ x y,R x y → WeakS x y) ∧ ∃ I : Nat → St → Prop,(∃ m s,R st s ∧ I m s) ∧ ∀ m s,I m s → wpY P T Y body s (restO Q fun s' => ∃ m' s'',m' < m ∧ R s' s'' ∧ I m' s'')
  | .exit id,st,Q => Q (.exit id) st
  | .ret,st,Q => Q .ret st
  | _,_,_ => False
def codeY : Code → Bool
  | .region _ ops draw => ops.toList.all (fun o => !isDefer o.op) && (!draw || slotsOK ops)
  | .seq x y => codeY x && codeY y
  | .cond _ x y => codeY x && codeY y
  | .block _ b => codeY b
  | .loop b => codeY b
  | _ => true
theorem codeY_nd {ops : Array Oper} (h : ops.toList.all (fun o => !isDefer o.op) = true) : ∀ (i : Nat) (o : Oper),ops[i]? = some o → isDefer o.op = false := by
  intro i o ho
  rw [List.all_eq_true] at h
  have := h o (by rw [Array.mem_toList_iff]; exact Array.mem_of_getElem? ho)
  simpa using this
/-- What a yield does,told of the machine,wherever these values still stand. -/
def YOK (P : Program) (ro : Option Nat) (G : PV → Value → Prop) (Y : YS) : Prop := ∀ (C : Ctx) (β : Ref) (w : World) (vs : Array Value) (l : Nat) (args : List PV) (hp : List (Nat × Blk)) (nx : Nat) (K : CK),
  (∀ pv v,G pv v → C.gh pv v) → C.gb ≤ nx → SimH C (hpF hp) β w → vs.size = args.length → (∀ i pv,args[i]? = some pv → Rep (NN C (hpF hp) β) w β pv (vs.getD i undef)) → Y l args hp nx K →
  YieldAt (FW ro) 0 P l vs w fun e w' => ∃ v r hp' nx' β',e = .returned v ∧ K r hp' nx' ∧ SimH C (hpF hp') β' w' ∧ Rep (NN C (hpF hp') β') w' β' r v
theorem noY_ok (P : Program) (ro : Option Nat) (G : PV → Value → Prop) : YOK P ro G noY := fun _ _ _ _ _ _ _ _ _ _ _ _ _ _ h => h.elim

variable {C : Ctx} {β : Ref} {a : Act} {w : World} {G : PV → Value → Prop} {Y : YS}
theorem stepX_sound (hT : TabOK P T) (hY : YOK P ro G Y) (hG : ∀ pv v,G pv v → C.gh pv v) {o : Oper} {st : St} {K : Cont} {Q : Exit → Act → World → Prop} (hnd : isDefer o.op = false) (h : stepX P T Y o st K) (hd : dstOK o.dst st.n) (hQ : PanA C st K Q) (hgb : C.gb ≤ st.bs) (hs : Sim C st.n st.E st.H β a w) :
    o.wpIn (FW ro) 0 P a w (NextA C st K) Q := by
  unfold stepX at h
  split at h
  · rename_i l p q args hy
    obtain ⟨⟨rfl,rfl⟩,hx,hbs,h⟩ := h
    unfold isYield at hy
    split at hy
    · rename_i f fargs ats hop
      have hrf := hs.ev f
      unfold yieldOf at hy
      split at hy
      · rename_i l0 p q hev
        simp only [Option.some.injEq,Prod.mk.injEq] at hy
        obtain ⟨rfl,rfl,rfl,rfl⟩ := hy
        rw [hev] at hrf
        have hv := hrf.lit_eq
        have hargs : ∀ i pv,(fargs.toList.map (ev st.E))[i]? = some pv → Rep (NN C st.H β) w β pv ((fargs.map a.eval).getD i undef) := by
          intro i pv hi
          simp only [List.getElem?_map,Option.map_eq_some_iff] at hi
          obtain ⟨x,hx,rfl⟩ := hi
          have hx' : fargs[i]? = some x := by simpa using hx
          have : (fargs.map a.eval).getD i undef = a.eval x := by simp [Array.getD_eq_getD_getElem?,hx']
          rw [this]
          exact hs.ev x
        have hgr : SimH (C.with st.E a st.nx) (hpF st.hp) β w := hs.lend (by omega) (fun b x hb => hx (b,x) (lk_mem hb))
        have hy := hY (C.with st.E a st.nx) β w (fargs.map a.eval) l0 (fargs.toList.map (ev st.E)) st.hp st.nx _ (fun pv v hg => .inl (hG pv v hg)) (Nat.le_refl _) hgr (by simp) hargs h
        obtain ⟨fn,tmps,assign,body,hrun,hround⟩ := hy
        refine ⟨fun _ _ => trivial,?_⟩
        rw [semAt_nd hnd]
        have hexec : (execOp a.eval o).run P w = .ok (.round l0 fn tmps assign body) w := by
          simp [execOp,hop,resolve,Deferred.ofValue,hv,invoke,hrun]
        rw [hexec]
        refine ⟨fun hh => (by cases hh),RoundIn.mono hround ?_⟩
        rintro e w' ⟨v,r,hp',nx',β',rfl,hK,hs',hr⟩
        exact ⟨⟨st.n,putL o.dst r st.env,hp',nx',st.bs⟩,β',hK,⟨rfl,rfl⟩,Sim.putL (st := ⟨st.n,st.env,hp',nx',st.bs⟩) (hs.back hs') hd hr⟩
      · cases hy
    · cases hy
  · exact wp_in hnd (fun a w h => h) (stepA_sound hT h hd hQ hgb hs)

theorem wpOpsY_sound (hT : TabOK P T) (hY : YOK P ro G Y) (hG : ∀ pv v,G pv v → C.gh pv v) {ops : Array Oper} (hnd : ∀ (i : Nat) (o : Oper),ops[i]? = some o → isDefer o.op = false) {K : Cont} {Q : Exit → Act → World → Prop} : ∀ (l : List Oper) (k : Nat) (st : St) (β : Ref) (a : Act) (w : World),ops.toList.drop k = l → wpOpsY P T Y ops.toList l st K →
    C.gb ≤ st.bs → Sim C st.n st.E st.H β a w → (∀ st' β' a' w',K .normal st' → (st'.n = st.n ∧ st'.bs = st.bs) → Sim C st'.n st'.E st'.H β' a' w' → Q .normal a' w') → PanA C st K Q → wpOpsIn (FW ro) 0 P ops Q (List.range' k l.length) a w
  | [],k,st,β,a,w,hl,h,hgb,hs,hQ,hP => hQ st β a w h ⟨rfl,rfl⟩ hs
  | o :: l,k,st,β,a,w,hl,h,hgb,hs,hQ,hP => by
    have hk : ops[k]? = some o := by
      have := congrArg (·[0]?) hl
      simpa using this
    have hl' : ops.toList.drop (k + 1) = l := by
      have := congrArg List.tail hl
      simpa using this
    rw [List.length_cons,List.range'_succ]
    simp only [wpOpsIn,hk]
    unfold wpOpsY at h
    obtain ⟨hd,h⟩ := h
    split at h
    · rename_i b hb
      rw [wanted_eq hb hs]
      cases b with
      | true =>
        rw [if_pos rfl]
        refine Oper.wpIn_mono ?_ (stepX_sound (Q := Q) hT hY hG (hnd k o hk) (h.1 rfl) hd hP hgb hs)
        rintro a' w' ⟨st',β',hK,hn,hs'⟩
        exact wpOpsY_sound hT hY hG hnd l (k + 1) st' β' a' w' hl' hK (by rw [hn.2]; exact hgb) hs' (fun st2 β2 a2 w2 h2 hn2 hs2 => hQ st2 β2 a2 w2 h2 ⟨hn2.1.trans hn.1,hn2.2.trans hn.2⟩ hs2) (fun pv st2 β2 a2 w2 v h2 hn2 hs2 hr2 => hP pv st2 β2 a2 w2 v h2 ⟨hn2.1.trans hn.1,hn2.2.trans hn.2⟩ hs2 hr2)
      | false =>
        rw [if_neg (by decide)]
        exact ⟨fun _ _ => trivial,wpOpsY_sound hT hY hG hnd l (k + 1) _ β _ w hl' (h.2 rfl) hgb (Sim.putL hs hd (.i (.lit undef))) (fun st2 β2 a2 w2 h2 hn2 hs2 => hQ st2 β2 a2 w2 h2 hn2 hs2) (fun pv st2 β2 a2 w2 v h2 hn2 hs2 hr2 => hP pv st2 β2 a2 w2 v h2 hn2 hs2 hr2)⟩
    · exact h.elim
theorem wpY_sound (hT : TabOK P T) (hmix : P.follows .mixedOrders = true) (hY : YOK P ro G Y) (hG : ∀ pv v,G pv v → C.gh pv v) : ∀ (c : Code) (st : St) (Q : Cont) (β : Ref) (a : Act) (w : World),codeY c = true → wpY P T Y c st Q → C.gb ≤ st.bs → Sim C st.n st.E st.H β a w → c.wpIn (FW ro) 0 P (postA C st.n st.bs Q) a w
  | .skip,st,Q,β,a,w,hc,h,hgb,hs => wpIn_skip ⟨.normal,st,β,rfl,h,⟨rfl,rfl⟩,hs⟩
  | .region id ops false,st,Q,β,a,w,hc,h,hgb,hs => by
    simp only [codeY,Bool.and_eq_true] at hc
    refine wpIn_region ?_
    have := wpOpsY_sound hT hY hG (codeY_nd hc.1) (Q := postA C st.n st.bs Q) ops.toList 0 st β a w rfl h hgb hs (fun st' β' a' w' hK hn hs' => ⟨.normal,st',β',rfl,hK,hn,hs'⟩) panA_postA
    rw [List.range_eq_range']
    simpa using this
  | .region id ops true,st,Q,β,a,w,hc,h,hgb,hs => by
    simp only [codeY,Bool.and_eq_true,Bool.or_eq_true] at hc
    refine wpIn_region_any hmix (any_in (codeY_nd hc.1) letsOut_postA _ _ _ _ ?_)
    exact drawA_any hT (by simpa using hc.2) h hgb hs (fun st' β' a' w' hK hn hs' => ⟨.normal,st',β',rfl,hK,hn,hs'⟩) panA_postA
  | .seq x y,st,Q,β,a,w,hc,h,hgb,hs => by
    simp only [codeY,Bool.and_eq_true] at hc
    refine wpIn_seq (wpIn_mono (wpY_sound hT hmix hY hG x st _ β a w hc.1 h hgb hs) ?_)
    rintro e a' w' ⟨o,st',β',hf,hq,hn,hs'⟩
    cases o with
    | normal =>
      cases hf
      have := wpY_sound hT hmix hY hG y st' Q β' a' w' hc.2 hq (by rw [hn.2]; exact hgb) hs'
      rw [hn.1,hn.2] at this
      exact this
    | ret => cases hf; exact ⟨.ret,st',β',rfl,hq,hn,hs'⟩
    | exit i => cases hf; exact ⟨.exit i,st',β',rfl,hq,hn,hs'⟩
    | panic pv => obtain ⟨v,rfl,hr⟩ := hf; exact ⟨.panic pv,st',β',⟨v,rfl,hr⟩,hq,hn,hs'⟩
  | .cond c x y,st,Q,β,a,w,hok,h,hgb,hs => by
    simp only [codeY,Bool.and_eq_true] at hok
    simp only [wpY] at h
    split at h
    · rename_i t hc
      have hr := hs.ev c
      rw [hc] at hr
      exact wpIn_cond_split hr.lit_eq (fun ht => wpY_sound hT hmix hY hG x st Q β a w hok.1 (h.1 ht) hgb hs) (fun ht => wpY_sound hT hmix hY hG y st Q β a w hok.2 (h.2 ht) hgb hs)
    · exact h.elim
  | .block id body,st,Q,β,a,w,hc,h,hgb,hs => by
    refine wpIn_block (wpIn_mono (wpY_sound hT hmix hY hG body st _ β a w hc h hgb hs) ?_)
    rintro e a' w' ⟨o,st',β',hf,hq,hn,hs'⟩
    cases o with
    | normal => cases hf; exact ⟨.normal,st',β',rfl,hq,hn,hs'⟩
    | ret => cases hf; exact ⟨.ret,st',β',rfl,hq,hn,hs'⟩
    | panic pv => obtain ⟨v,rfl,hr⟩ := hf; exact ⟨.panic pv,st',β',⟨v,rfl,hr⟩,hq,hn,hs'⟩
    | exit i =>
      cases hf
      simp only [Exit.inBlock]
      simp only at hq
      split at hq
      · rename_i e
        rw [if_pos e]
        exact ⟨.normal,st',β',rfl,hq,hn,hs'⟩
      · rename_i e
        rw [if_neg e]
        exact ⟨.exit i,st',β',rfl,hq,hn,hs'⟩
  | .loop body,st,Q,β,a,w,hc,h,hgb,hs => by
    obtain ⟨R,hR,I,⟨m,s,hw,hI⟩,hstep⟩ := h
    intro b k cs hro hb hr
    have key : ∀ m s β a w,I m s → (s.n = st.n ∧ s.bs = st.bs) → Sim C s.n s.E s.H β a w → ∃ e a' w',postA C st.n st.bs Q e a' w' ∧ ArrivesIn (Machine.fenced P (FW ro)) P (lone (b.atR a (.code body :: .inLoop body :: k)) cs w) b k cs e a' w' := by
      intro m
      induction m using Nat.strongRecOn with
      | _ m ih =>
        intro s β a w hI hn hs
        obtain ⟨e,a1,w1,hp,harr⟩ := wpY_sound hT hmix hY hG body s _ β a w hc (hstep m s hI) (by rw [hn.2]; exact hgb) hs b (.inLoop body :: k) cs hro hb hr
        obtain ⟨o,s',β',hf,hq,hn',hs'⟩ := hp
        cases o with
        | normal =>
          cases hf
          obtain ⟨m',s'',hlt,hweak,hI'⟩ := hq
          obtain ⟨hn2,β2,hs2⟩ := Sim.weakS (hR _ _ hweak) hs' (by rw [hn'.2,hn.2]; exact hgb)
          obtain ⟨e2,a2,w2,hp2,harr2⟩ := ih m' hlt s'' β2 a1 w1 hI' ⟨by rw [← hn2.1,hn'.1,hn.1],by rw [← hn2.2,hn'.2,hn.2]⟩ hs2
          exact ⟨e2,a2,w2,hp2,.of_steps (StepsIn.trans harr (.one (fenced_calm hb hr rfl) stepR_inLoop)) harr2⟩
        | ret => cases hf; exact ⟨.ret,a1,w1,⟨.ret,s',β',rfl,hq,⟨by rw [hn'.1,hn.1],by rw [hn'.2,hn.2]⟩,hs'⟩,.pass (x := .inLoop body) rfl (fun _ _ => .inl (by simp)) harr⟩
        | exit i => cases hf; exact ⟨.exit i,a1,w1,⟨.exit i,s',β',rfl,hq,⟨by rw [hn'.1,hn.1],by rw [hn'.2,hn.2]⟩,hs'⟩,.pass (x := .inLoop body) rfl (fun _ _ => .inl (by simp)) harr⟩
        | panic pv => obtain ⟨v,rfl,hr'⟩ := hf; exact ⟨_,a1,w1,⟨.panic pv,s',β',⟨v,rfl,hr'⟩,hq,⟨by rw [hn'.1,hn.1],by rw [hn'.2,hn.2]⟩,hs'⟩,.pass (x := .inLoop body) rfl (fun _ _ => .inl (by simp)) harr⟩
    obtain ⟨hn2,β2,hs2⟩ := Sim.weakS (hR _ _ hw) hs hgb
    obtain ⟨e,a',w',hp,harr⟩ := key m s β2 a w hI ⟨hn2.1.symm,hn2.2.symm⟩ hs2
    exact ⟨e,a',w',hp,.of_steps (.one (fenced_calm hb hr rfl) stepR_loop) harr⟩
  | .exit id,st,Q,β,a,w,hc,h,hgb,hs => wpIn_exit ⟨.exit id,st,β,rfl,h,⟨rfl,rfl⟩,hs⟩
  | .ret,st,Q,β,a,w,hc,h,hgb,hs => wpIn_ret ⟨.ret,st,β,rfl,h,⟨rfl,rfl⟩,hs⟩
  | .scope body,_,_,_,_,_,_,h,_,_ => h.elim
  | .rangeFunc ..,_,_,_,_,_,_,h,_,_ => h.elim
  | .label _,_,_,_,_,_,_,h,_,_ => h.elim
  | .goto _,_,_,_,_,_,_,h,_,_ => h.elim
  | .refuse _,_,_,_,_,_,_,h,_,_ => h.elim

/-! ### objects that are no cells -/
theorem Sim.setObj {n : Nat} {E : Env} {H : Heap} (h : Sim C n E H β a w) {b k : Nat} {o : Obj} (hb : H b = some (.obj k o)) (o' : Obj) : Sim C n E (upd H b (.obj k o')) β a (w.putObj k o') := by
  obtain ⟨h1,h2,h3⟩ := h.blk b _ hb
  have hlt : k < w.heap.size := (Array.getElem?_eq_some_iff.1 h3).1
  have hβ : upd β b (0,.pointer (some ⟨k,0,none⟩)) = β := by
    funext c
    unfold upd
    split
    · rename_i e; rw [e,h1]
    · rfl
  have := h.change (x' := .obj k o') hb rfl (w' := w.putObj k o') (ver' := 0) (u' := .pointer (some ⟨k,0,none⟩)) h1 (.inl ⟨rfl,rfl⟩) (fun c hc hne => World.putObj_heap_other (fun e => hne (by rw [e]; rfl))) rfl rfl rfl (by rw [World.putObj_size]; exact Nat.le_refl _) (fun c hc => .inl hc) (fun _ _ _ _ => ⟨upd_same _ _ _,h2,World.putObj_heap_same hlt⟩)
  rwa [hβ] at this
theorem Sim.newObj {n : Nat} {E : Env} {H : Heap} (h : Sim C n E H β a w) {b : Nat} (hb : H b = none) (o : Obj) : Sim C n E (upd H b (.obj w.heap.size o)) (upd β b (0,.pointer (some ⟨w.heap.size,0,none⟩))) a (w.alloc o) :=
  h.new hb (Keeps.alloc _ _ _) (fun k hk => Below.heap_alloc w o k hk) (fun k hk => by simp [refBlock] at hk; subst hk; simp) (fun _ _ _ _ => ⟨upd_same _ _ _,h.bs,World.alloc_heap_new w o⟩)

/-! ### rounds -/
def lpOf (R0 : Loop) (s : Option Code) : Loop := { R0 with state := if s.isNone then .ready else .done,pending := s }
def busyOf (R0 : Loop) : Loop := { lpOf R0 none with state := .busy }
def roundK (b l : Nat) (R0 : Loop) (K : CK) : Cont := fun o s => lk b s.hp = some (.obj l (.loop (busyOf R0))) ∧ match o with
  | .normal => K (.lit (.bool true)) ((b,.obj l (.loop (lpOf R0 none))) :: s.hp) s.nx
  | .ret => K (.lit (.bool false)) ((b,.obj l (.loop (lpOf R0 (some .ret)))) :: s.hp) s.nx
  | .exit i => K (.lit (.bool false)) ((b,.obj l (.loop (lpOf R0 (some (.exit i))))) :: s.hp) s.nx
  | .panic _ => False
def begK (P : Program) (T : Tab) (body : Code) (b l : Nat) (R0 : Loop) (K : CK) : Cont := fun o s => match o with
  | .normal => lk b s.hp = some (.obj l (.loop (lpOf R0 none))) ∧ wpY P T noY body ⟨s.n,s.env,(b,.obj l (.loop (busyOf R0))) :: s.hp,s.nx,s.bs⟩ (roundK b l R0 K)
  | _ => False
def loopY (P : Program) (T : Tab) (n p : Nat) (env : List (Nat × PV)) (assign body : Code) (b l : Nat) (R0 : Loop) : YS := fun l' args hp nx K =>
  l' = l ∧ lk b hp = some (.obj l (.loop (lpOf R0 none))) ∧ ∃ arg,args = [arg] ∧ wpY P T noY assign ⟨n,(p,arg) :: env,hp,nx,nx⟩ (begK P T body b l R0 K)
/-- The values of an activation's slots. -/
def slotsG (env : List (Nat × PV)) (tmps : Array Value) : PV → Value → Prop := fun pv v => ∃ t,t < tmps.size ∧ lk t env = some pv ∧ v = tmps.getD t undef
theorem loopY_ok (hT : TabOK P T) (hmix : P.follows .mixedOrders = true) {n p : Nat} {env : List (Nat × PV)} {assign body : Code} {b l : Nat} {R0 : Loop} (ha : codeY assign = true) (hb : codeY body = true) (hp : R0.params = #[p]) (hn : R0.tmps.size = n) (hpn : p < n) (hra : R0.assign = assign) (hrb : R0.body = body)
    (henv : ∀ t pv,lk t env = some pv → t < n) : YOK P none (slotsG env R0.tmps) (loopY P T n p env assign body b l R0) := by
  intro C β w vs l' args hp0 nx K hG hgb hs hl hv hy
  obtain ⟨rfl,hrec,arg,rfl,hasg⟩ := hy
  obtain ⟨v,rfl⟩ : ∃ v,vs = #[v] := by
    cases vs with
    | mk l =>
      match l,hl with
      | [v],_ => exact ⟨v,rfl⟩
  obtain ⟨_,_,hheap⟩ := hs.blk b _ hrec
  have hrun := run_yield (P := P) (args := #[v]) hheap (by show 1 = R0.params.size; rw [hp]; rfl)
  refine ⟨_,_,_,_,hrun,?_⟩
  have htm : ((lpOf R0 none).params.zip #[v]).foldl (fun tmps (x : Nat × Value) => tmps.setIfInBounds x.1 x.2) (lpOf R0 none).tmps = R0.tmps.setIfInBounds p v := by
    show (R0.params.zip #[v]).foldl (fun tmps (x : Nat × Value) => tmps.setIfInBounds x.1 x.2) R0.tmps = _
    rw [hp]
    simp
  have htm' : ((lpOf R0 none).params.zip #[v]).foldl (fun tmps x => match x with | (t,a) => tmps.setIfInBounds t a) (lpOf R0 none).tmps = R0.tmps.setIfInBounds p v := htm
  rw [htm']
  have hfa : (lpOf R0 none).assign = assign := hra
  have hfb : (lpOf R0 none).body = body := hrb
  rw [hfa,hfb]
  have harg := hv 0 arg rfl
  have hsim : Sim { C with df := [] } n (fun t => lk t ((p,arg) :: env)) (hpF hp0) β { tmps := R0.tmps.setIfInBounds p v,defers := [] } w := by
    refine ⟨by simp [hn],rfl,fun t pv ht => ?_,hs.blk,hs.sep,hs.lies,hs.fr,hs.below,hs.nxb,hs.bs,hs.gh,hs.gr⟩
    simp only [lk] at ht
    split at ht
    · rename_i e
      simp only [Option.some.injEq] at ht
      subst ht e
      refine ⟨hpn,?_⟩
      have : (R0.tmps.setIfInBounds t v).getD t undef = v := by simp [Array.getD_eq_getD_getElem?,hn,hpn]
      rw [this]
      exact harg
    · rename_i e
      refine ⟨henv t pv ht,?_⟩
      have : (R0.tmps.setIfInBounds p v).getD t undef = R0.tmps.getD t undef := by simp [Array.getD_eq_getD_getElem?,Array.getElem?_setIfInBounds_ne (Ne.symm e)]
      rw [this]
      exact hs.gh pv _ (hG pv _ ⟨t,by rw [hn]; exact henv t pv ht,ht,rfl⟩)
  refine roundIn_of_wpIn (F := FW none) trivial ?_
  have h1 := wpY_sound (ro := some l') (C := { C with df := [] }) hT hmix (noY_ok P (some l') (fun _ _ => False)) (fun _ _ h => h.elim) assign ⟨n,(p,arg) :: env,hp0,nx,nx⟩ _ β _ w ha hasg hgb hsim
  refine wpIn_mono (F := FW (some l')) h1 ?_
  rintro e a1 w1 ⟨o,s,β1,hf,hq,hn1,hs1⟩
  cases o with
  | normal =>
    cases hf
    obtain ⟨hrec1,hbody⟩ := hq
    obtain ⟨_,_,hheap1⟩ := hs1.blk b _ hrec1
    refine ⟨_,run_beginRound hheap1 rfl,?_⟩
    have hs2 := hs1.setObj hrec1 (.loop (busyOf R0))
    have h2 := wpY_sound (ro := some l') (C := { C with df := [] }) hT hmix (noY_ok P (some l') (fun _ _ => False)) (fun _ _ h => h.elim) body ⟨s.n,s.env,(b,.obj l' (.loop (busyOf R0))) :: s.hp,s.nx,s.bs⟩ _ β1 a1 _ hb hbody (by show C.gb ≤ s.bs; rw [hn1.2]; exact hgb) hs2
    refine wpIn_mono (F := FW (some l')) h2 ?_
    rintro e a2 w2 ⟨o,s2,β2,hf,⟨hrec2,hq⟩,hn2,hs3⟩
    obtain ⟨_,_,hheap2⟩ := hs3.blk b _ hrec2
    have fin : ∀ j : Option Code,K (.lit (.bool j.isNone)) ((b,.obj l' (.loop (lpOf R0 j))) :: s2.hp) s2.nx → ∃ v w',(Instr.endRound l' j).run P w2 = .ok v w' ∧ (∃ v_1 r hp' nx' β',Ending.returned v = .returned v_1 ∧ K r hp' nx' ∧ SimH C (hpF hp') β' w' ∧ Rep (NN C (hpF hp') β') w' β' r v_1) := by
      intro j hK
      refine ⟨_,_,run_endRound j hheap2,_,_,_,_,β2,rfl,hK,?_,.i (.lit _)⟩
      have hs4 := hs3.setObj hrec2 (.loop (lpOf R0 j))
      exact hs4.heap.rdf C.df
    cases o with
    | normal => cases hf; exact fin none hq
    | ret => cases hf; exact fin (some .ret) hq
    | exit i => cases hf; exact fin (some (.exit i)) hq
    | panic pv => exact hq.elim
  | ret => exact hq.elim
  | exit i => exact hq.elim
  | panic pv => exact hq.elim

/-! ### an iterator's contract -/
def CallY (P : Program) (G : PV → Value → Prop) (f : FuncId) (args : List PV) (hp : List (Nat × Blk)) (nx : Nat) (K : CK) : Prop :=
  Callable P f ∧ ∀ (C : Ctx) (β : Ref) (w : World) (vs : Array Value),(∀ pv v,G pv v → C.gh pv v) → C.gb ≤ nx → SimH C (hpF hp) β w → vs.size = args.length → (∀ i pv,args[i]? = some pv → Rep (NN C (hpF hp) β) w β pv (vs.getD i undef)) →
    Calls P f vs w fun e w' => ∃ v r hp' nx' β',e = .returned v ∧ K r hp' nx' ∧ SimH C (hpF hp') β' w' ∧ Rep (NN C (hpF hp') β') w' β' r v
theorem CallY.into (hT : TabOK P T) (hmix : P.follows .mixedOrders = true) {G : PV → Value → Prop} {Y : YS} (hY : YOK P none G Y) {f : FuncId} {fn : Func} {c : Code} (hf : P.funcs[f]? = some fn) (hb : fn.body = some c) (hnm : (fn.name == "runtime.NumGoroutine") = false) (hok : codeY c = true)
    {args : List PV} {hp : List (Nat × Blk)} {nx : Nat} {K : CK} (hn : args.length ≤ fn.ntmps) (h : wpY P T Y c ⟨fn.ntmps,enumFrom 0 args,hp,nx,nx⟩ (bodyA T fn K noP)) : CallY P G f args hp nx K := by
  refine ⟨⟨fn,hf,hnm,by rw [hb]; rfl⟩,fun C β w vs hG hgb hs hl hv => ?_⟩
  have hs0 : SimH { C with df := [] } (hpF hp) β w := hs.rdf []
  refine CallsIn.calls (F := FW none) (n := 0) (callsIn_of_wp hf hb trivial (wpIn_mono (wpY_sound (ro := none) hT hmix hY (C := { C with df := [] }) hG c _ _ β _ w hok h hgb (enter_sim (nx := nx) rfl hs0 hl hn hv)) ?_)) (FW_room none)
  rintro e a' w' ⟨o,st',β',hfit,hq,hn',hs'⟩
  have key : ∀ {o : Out},(o = .normal ∨ o = .ret) → bodyA T fn K noP o st' → a'.defers = [] ∧ ∃ v,(results fn a'.tmps).run P w' = .ok v w' ∧ ∃ v_1 r hp' nx' β',Ending.returned v = .returned v_1 ∧ K r hp' nx' ∧ SimH C (hpF hp') β' w' ∧ Rep (NN C (hpF hp') β') w' β' r v_1 := by
    intro o ho hq
    have hq' : match resListA T st' fn.results.toList with
      | some (ok,rs) => ok ∧ K (oneOf rs) st'.hp st'.nx
      | none => False := by rcases ho with rfl | rfl <;> exact hq
    split at hq'
    · rename_i ok rs hres
      obtain ⟨v,v1,v2⟩ := results_sound hT hs' hres hq'.1
      exact ⟨hs'.df,v,v1,v,_,_,_,β',rfl,hq'.2,hs'.heap.rdf C.df,v2⟩
    · exact hq'.elim
  cases o with
  | normal => cases hfit; exact key (.inl rfl) hq
  | ret => cases hfit; exact key (.inr rfl) hq
  | exit i => exact hq.elim
  | panic pv => exact hq.elim

/-! ### functions that hold such a loop -/
abbrev FCont := Out → St → List (Nat × Nat) → Prop
def mkD (d : Nat × Nat) : Deferred := { target := .collected d.2,args := #[] }
def itK (st : St) (D l : Nat) (R0 : Loop) (ds : List (Nat × Nat)) (Q : FCont) : CK := fun _ hp' nx' => ∃ s,lk (st.nx + 1) hp' = some (.obj l (.loop (lpOf R0 s))) ∧ match s with
  | none => Q .normal ⟨st.n,st.env,(st.nx + 1,.obj l (.loop { lpOf R0 none with state := .exhausted })) :: hp',nx',st.bs⟩ ((st.nx,D) :: ds)
  | some .ret => Q .ret ⟨st.n,st.env,(st.nx + 1,.obj l (.loop { lpOf R0 (some .ret) with state := .exhausted })) :: hp',nx',st.bs⟩ ((st.nx,D) :: ds)
  | some (.exit i) => Q (.exit i) ⟨st.n,st.env,(st.nx + 1,.obj l (.loop { lpOf R0 (some (.exit i)) with state := .exhausted })) :: hp',nx',st.bs⟩ ((st.nx,D) :: ds)
  | some _ => False
def rangeHp (st : St) (D l : Nat) (R0 : Loop) : List (Nat × Blk) := (st.nx + 1,.obj l (.loop (lpOf R0 none))) :: (st.nx,.obj D (.deferred (some []))) :: st.hp
/-- What is asked where a function is ranged over. -/
structure RangeA (P : Program) (T : Tab) (g : Operand) (ps : Array Tmp) (assign body : Code) (st : St) (ds : List (Nat × Nat)) (Q : FCont) (gf : FuncId) (fn : Func) (c : Code) (cap : List PV) (p : Nat) : Prop where
  g : ev st.E g = .fn (.func gf) [] cap
  ps : ps = #[p]
  pn : p < st.n
  f : P.funcs[gf]? = some fn
  b : fn.body = some c
  nm : (fn.name == "runtime.NumGoroutine") = false
  okc : codeY c = true
  oka : codeY assign = true
  okb : codeY body = true
  n : cap.length + 1 ≤ fn.ntmps
  fresh : ∀ x ∈ st.hp,x.1 < st.nx
  bs : st.bs ≤ st.nx
  it : ∀ (D l : Nat) (R0 : Loop),wpY P T (loopY P T st.n p st.env assign body (st.nx + 1) l R0) c ⟨fn.ntmps,enumFrom 0 (.lit (.func (.yield l) #[] #[]) :: cap),rangeHp st D l R0,st.nx + 2,st.nx + 2⟩ (bodyA T fn (itK st D l R0 ds Q) noP)
def codeF : Code → Bool
  | .seq x y => codeF x && codeF y
  | .block _ b => codeF b
  | .rangeFunc .. => true
  | .scope _ => false
  | .loop b => codeOK b || codeF b
  | c => codeOK c
def wpF (P : Program) (T : Tab) : Code → St → List (Nat × Nat) → FCont → Prop
  | .seq x y,st,ds,Q => wpF P T x st ds (fun o st' ds' => match o with
    | .normal => wpF P T y st' ds' Q
    | o => Q o st' ds')
  | .block id body,st,ds,Q => wpF P T body st ds (fun o st' ds' => match o with
    | .normal => Q .normal st' ds'
    | .ret => Q .ret st' ds'
    | .panic v => Q (.panic v) st' ds'
    | .exit i => if i = id then Q .normal st' ds' else Q (.exit i) st' ds')
  | .rangeFunc g ps assign body,st,ds,Q => ∃ gf fn c cap p,RangeA P T g ps assign body st ds Q gf fn c cap p
  | .scope b,st,ds,Q => wpF P T b st ds Q
  | .loop body,st,ds,Q => (codeOK body = true ∧ wpA P T (.loop body) st (fun o st' => Q o st' ds)) ∨ (codeF body = true ∧ ∃ I : Nat → St → List (Nat × Nat) → Prop,(∃ m s,WeakS st s ∧ I m s ds) ∧
      ∀ m s ds',I m s ds' → wpF P T body s ds' (fun o s' ds'' => match o with
        | .normal => ∃ m' s'',m' < m ∧ WeakS s' s'' ∧ I m' s'' ds''
        | o => Q o s' ds''))
  | c,st,ds,Q => wpA P T c st (fun o st' => Q o st' ds)
def postF (C : Ctx) (n bs : Nat) (Q : FCont) : Exit → Act → World → Prop := fun e a w => ∃ o st β ds,Fits C st.H β w o e ∧ Q o st ds ∧ (st.n = n ∧ st.bs = bs) ∧ Sim { C with df := ds.map mkD } st.n st.E st.H β a w
theorem rangeF_sound (hT : TabOK P T) (hmix : P.follows .mixedOrders = true) {g : Operand} {ps : Array Tmp} {assign body : Code} {st : St} {ds : List (Nat × Nat)} {Q : FCont} {gf : FuncId} {fn : Func} {c : Code} {cap : List PV} {p : Nat} (h : RangeA P T g ps assign body st ds Q gf fn c cap p)
    (hgb : C.gb ≤ st.bs) (hs : Sim { C with df := ds.map mkD } st.n st.E st.H β a w) : (Code.rangeFunc g ps assign body).wpIn (FW none) 0 P (postF C st.n st.bs Q) a w := by
  refine wpIn_rangeFunc (F := FW none) fun fn0 _ => ?_
  have hfr1 : st.H st.nx = none := by
    cases hx : st.H st.nx with
    | none => rfl
    | some x => have := h.fresh _ (lk_mem hx); simp at this
  have hfr2 : st.H (st.nx + 1) = none := by
    cases hx : st.H (st.nx + 1) with
    | none => rfl
    | some x => have := h.fresh _ (lk_mem hx); exact absurd this (by show ¬ st.nx + 1 < st.nx; omega)
  obtain ⟨R0,hR0⟩ : ∃ R0 : Loop,R0 = { state := .ready,pending := none,fn := fn0,tmps := a.tmps,params := ps,assign,body,defers := w.heap.size } := ⟨_,rfl⟩
  have hrec : lpOf R0 none = R0 := by rw [hR0]; rfl
  obtain ⟨w1,hw1⟩ : ∃ w1,(w.alloc (.deferred (some []))).alloc (.loop R0) = w1 := ⟨_,rfl⟩
  -- the state with the two new blocks
  have hs1 := hs.newObj hfr1 (.deferred (some []))
  have hs2 := hs1.newObj (b := st.nx + 1) (by rw [upd_other _ _ (by omega)]; exact hfr2) (.loop R0)
  rw [hw1,World.size_alloc] at hs2
  have hH : upd (upd st.H st.nx (.obj w.heap.size (.deferred (some [])))) (st.nx + 1) (.obj (w.heap.size + 1) (.loop R0)) = hpF (rangeHp st w.heap.size (w.heap.size + 1) R0) := by
    rw [rangeHp,hrec]
    rfl
  rw [hH] at hs2
  obtain ⟨a1,ha1⟩ : ∃ a1 : Act,a1 = { a with defers := mkD (st.nx,w.heap.size) :: a.defers } := ⟨_,rfl⟩
  have hs3 := hs2.rdf (mkD (st.nx,w.heap.size) :: ds.map mkD)
  have hdf : { a with defers := mkD (st.nx,w.heap.size) :: ds.map mkD } = a1 := by rw [ha1,show a.defers = ds.map mkD from hs.df]
  rw [hdf] at hs3
  have hrf := hs3.ev g
  have hev : ev st.E g = .fn (.func gf) [] cap := h.g
  have hae : a1.eval g = a.eval g := by rw [ha1]; rfl
  rw [hae] at hrf
  have hrf' : Rep (NN { C with df := mkD (st.nx,w.heap.size) :: ds.map mkD } (hpF (rangeHp st w.heap.size (w.heap.size + 1) R0)) (upd (upd β st.nx (0,.pointer (some ⟨w.heap.size,0,none⟩))) (st.nx + 1) (0,.pointer (some ⟨w.heap.size + 1,0,none⟩)))) w1 (upd (upd β st.nx (0,.pointer (some ⟨w.heap.size,0,none⟩))) (st.nx + 1) (0,.pointer (some ⟨w.heap.size + 1,0,none⟩))) (.fn (.func gf) [] cap) (a.eval g) := by
    rw [← hev]
    exact hrf
  generalize hvg : a.eval g = vg at hrf'
  clear hrf
  cases hrf' with
  | i hi => cases hi
  | fn _ _ _ vs us hl hl' hfirst hcap =>
  have hvs : vs = #[] := by
    cases vs with
    | mk l => cases l with
      | nil => rfl
      | cons x l => simp at hl
  subst hvs
  refine ⟨w.heap.size + 1,[mkD (st.nx,w.heap.size)],w1,{ target := .fn (.func gf) us,args := #[.func (.yield (w.heap.size + 1)) #[] #[]] },w1,gf,#[.func (.yield (w.heap.size + 1)) #[] #[]] ++ us,w1,?_,?_,fun _ _ => trivial,?_,fun hh => (by cases hh),?_⟩
  · have := run_enterLoop_outer (P := P) (w := w) fn0 a.tmps ps assign body
    rw [← hR0,hw1] at this
    exact this
  · simp [resolve,hvg,Deferred.ofValue]
    rfl
  · have hcal : Callable P gf := ⟨fn,h.f,h.nm,by rw [h.b]; rfl⟩
    simp [invoke,callFunc_run hcal]
  · have hYok : YOK P none (slotsG st.env R0.tmps) (loopY P T st.n p st.env assign body (st.nx + 1) (w.heap.size + 1) R0) := by
      refine loopY_ok hT hmix h.oka h.okb (by rw [hR0]; exact h.ps) (by rw [hR0]; exact hs.nt) h.pn (by rw [hR0]) (by rw [hR0]) (fun t pv ht => (hs.env t pv ht).1)
    have hcall := CallY.into (G := slotsG st.env R0.tmps) hT hmix hYok h.f h.b h.nm h.okc (args := .lit (.func (.yield (w.heap.size + 1)) #[] #[]) :: cap) (hp := rangeHp st w.heap.size (w.heap.size + 1) R0) (nx := st.nx + 2) (by simpa using h.n) (h.it w.heap.size (w.heap.size + 1) R0)
    have hlt : ∀ b x,hpF (rangeHp st w.heap.size (w.heap.size + 1) R0) b = some x → b < st.nx + 2 := by
      intro b x hb
      have := lk_mem hb
      simp only [rangeHp,List.mem_cons,Prod.mk.injEq] at this
      rcases this with ⟨rfl,_⟩ | ⟨rfl,_⟩ | hm
      · omega
      · omega
      · have := h.fresh _ hm; simp at this; omega
    have hbs := h.bs
    have hlend := hs3.lend (gb := st.nx + 2) (by show C.gb ≤ st.nx + 2; omega) hlt
    obtain ⟨C1,hC1⟩ : ∃ C1 : Ctx,C1 = Ctx.with { C with df := mkD (st.nx,w.heap.size) :: ds.map mkD } st.E a1 (st.nx + 2) := ⟨_,rfl⟩
    obtain ⟨β1,hβ1⟩ : ∃ β1 : Ref,β1 = upd (upd β st.nx (0,.pointer (some ⟨w.heap.size,0,none⟩))) (st.nx + 1) (0,.pointer (some ⟨w.heap.size + 1,0,none⟩)) := ⟨_,rfl⟩
    have hl1 : SimH C1 (hpF (rangeHp st w.heap.size (w.heap.size + 1) R0)) β1 w1 := by rw [hC1,hβ1]; exact hlend
    have hG1 : ∀ pv v,slotsG st.env R0.tmps pv v → C1.gh pv v := by
      rintro pv v ⟨t,q1,q2,rfl⟩
      rw [hC1]
      refine .inr ⟨t,?_,q2,?_⟩
      · rw [ha1]; rw [hR0] at q1; exact q1
      · rw [ha1,hR0]
    have hgb1 : C1.gb ≤ st.nx + 2 := by rw [hC1]; exact Nat.le_refl _
    have hsz1 : (#[Value.func (.yield (w.heap.size + 1)) #[] #[]] ++ us).size = (PV.lit (.func (.yield (w.heap.size + 1)) #[] #[]) :: cap).length := by simp; omega
    have hrep1 : ∀ i pv,(PV.lit (.func (.yield (w.heap.size + 1)) #[] #[]) :: cap)[i]? = some pv → Rep (NN C1 (hpF (rangeHp st w.heap.size (w.heap.size + 1) R0)) β1) w1 β1 pv ((#[Value.func (.yield (w.heap.size + 1)) #[] #[]] ++ us).getD i undef) := by
      intro i pv hi
      cases i with
      | zero =>
        simp only [List.getElem?_cons_zero,Option.some.injEq] at hi
        subst hi
        have e0 : (#[Value.func (.yield (w.heap.size + 1)) #[] #[]] ++ us).getD 0 undef = .func (.yield (w.heap.size + 1)) #[] #[] := by
          simp only [Array.getD_eq_getD_getElem?]
          rw [Array.getElem?_append_left (by simp)]
          rfl
        rw [e0]
        exact .i (.lit _)
      | succ i =>
        simp only [List.getElem?_cons_succ] at hi
        have := hcap i pv hi
        have e : (#[Value.func (.yield (w.heap.size + 1)) #[] #[]] ++ us).getD (i + 1) undef = us.getD i undef := by
          simp only [Array.getD_eq_getD_getElem?]
          rw [Array.getElem?_append_right (by simp)]
          simp
        rw [e,hC1,hβ1]
        exact this
    have hc := hcall.2 C1 β1 w1 _ hG1 hgb1 hl1 hsz1 hrep1
    refine CallsIn.mono (calls_FW hc) ?_
    rintro e w3 ⟨v,r,hp',nx',β',rfl,⟨s,hrec',hq⟩,hs4,_⟩
    rw [hC1] at hs4
    have hs5 := hs3.back hs4
    obtain ⟨_,_,hheap⟩ := hs5.blk _ _ hrec'
    have hend := run_endLoop (P := P) hheap (by
      cases s with
      | none => show LoopState.ready ≠ LoopState.busy; decide
      | some c => show LoopState.done ≠ LoopState.busy; decide)
    refine ⟨_,_,hend,?_⟩
    have hs6 := hs5.setObj hrec' (.loop { lpOf R0 s with state := .exhausted })
    rw [ha1] at hs6
    match s,hq with
    | none,hq => exact ⟨.normal,_,_,(st.nx,w.heap.size) :: ds,rfl,hq,⟨rfl,rfl⟩,hs6⟩
    | some .ret,hq => exact wpIn_ret ⟨.ret,_,_,(st.nx,w.heap.size) :: ds,rfl,hq,⟨rfl,rfl⟩,hs6⟩
    | some (.exit i),hq => exact wpIn_exit ⟨.exit i,_,_,(st.nx,w.heap.size) :: ds,rfl,hq,⟨rfl,rfl⟩,hs6⟩

theorem wpF_leaf (hT : TabOK P T) (hmix : P.follows .mixedOrders = true) {c : Code} {st : St} {ds : List (Nat × Nat)} {Q : FCont} (hc : codeOK c = true) (h : wpA P T c st (fun o st' => Q o st' ds)) (hgb : C.gb ≤ st.bs) (hs : Sim { C with df := ds.map mkD } st.n st.E st.H β a w) :
    c.wpIn (FW none) 0 P (postF C st.n st.bs Q) a w := by
  refine wpIn_mono ((wpIn_wide (n := 0)).2 (wpA_sound (C := { C with df := ds.map mkD }) hT hmix c st _ β a w hc h hgb hs)) ?_
  rintro e a' w' ⟨o,st',β',hf,hq,hn,hs'⟩
  exact ⟨o,st',β',ds,hf,hq,hn,hs'⟩
theorem wpF_sound (hT : TabOK P T) (hmix : P.follows .mixedOrders = true) : ∀ (c : Code) (st : St) (ds : List (Nat × Nat)) (Q : FCont) (β : Ref) (a : Act) (w : World),codeF c = true → wpF P T c st ds Q → C.gb ≤ st.bs → Sim { C with df := ds.map mkD } st.n st.E st.H β a w → c.wpIn (FW none) 0 P (postF C st.n st.bs Q) a w
  | .seq x y,st,ds,Q,β,a,w,hc,h,hgb,hs => by
    simp only [codeF,Bool.and_eq_true] at hc
    refine wpIn_seq (wpIn_mono (wpF_sound hT hmix x st ds _ β a w hc.1 h hgb hs) ?_)
    rintro e a' w' ⟨o,st',β',ds',hf,hq,hn,hs'⟩
    cases o with
    | normal =>
      cases hf
      have := wpF_sound hT hmix y st' ds' Q β' a' w' hc.2 hq (by rw [hn.2]; exact hgb) hs'
      rw [hn.1,hn.2] at this
      exact this
    | ret => cases hf; exact ⟨.ret,st',β',ds',rfl,hq,hn,hs'⟩
    | exit i => cases hf; exact ⟨.exit i,st',β',ds',rfl,hq,hn,hs'⟩
    | panic pv => obtain ⟨v,rfl,hr⟩ := hf; exact ⟨.panic pv,st',β',ds',⟨v,rfl,hr⟩,hq,hn,hs'⟩
  | .block id body,st,ds,Q,β,a,w,hc,h,hgb,hs => by
    refine wpIn_block (wpIn_mono (wpF_sound hT hmix body st ds _ β a w hc h hgb hs) ?_)
    rintro e a' w' ⟨o,st',β',ds',hf,hq,hn,hs'⟩
    cases o with
    | normal => cases hf; exact ⟨.normal,st',β',ds',rfl,hq,hn,hs'⟩
    | ret => cases hf; exact ⟨.ret,st',β',ds',rfl,hq,hn,hs'⟩
    | panic pv => obtain ⟨v,rfl,hr⟩ := hf; exact ⟨.panic pv,st',β',ds',⟨v,rfl,hr⟩,hq,hn,hs'⟩
    | exit i =>
      cases hf
      simp only [Exit.inBlock]
      simp only at hq
      split at hq
      · rename_i e
        rw [if_pos e]
        exact ⟨.normal,st',β',ds',rfl,hq,hn,hs'⟩
      · rename_i e
        rw [if_neg e]
        exact ⟨.exit i,st',β',ds',rfl,hq,hn,hs'⟩
  | .rangeFunc g ps assign body,st,ds,Q,β,a,w,hc,h,hgb,hs => by
    obtain ⟨gf,fn,c,cap,p,h⟩ := h
    exact rangeF_sound hT hmix h hgb hs
  | .scope b,_,_,_,_,_,_,hc,_,_,_ => by cases hc
  | .skip,st,ds,Q,β,a,w,hc,h,hgb,hs => wpF_leaf hT hmix hc h hgb hs
  | .region _ _ _,st,ds,Q,β,a,w,hc,h,hgb,hs => wpF_leaf hT hmix hc h hgb hs
  | .cond _ _ _,st,ds,Q,β,a,w,hc,h,hgb,hs => wpF_leaf hT hmix hc h hgb hs
  | .loop body,st,ds,Q,β,a,w,hc,h,hgb,hs => by
    rcases h with ⟨hok,h⟩ | ⟨hok,I,⟨m,s,hw,hI⟩,hstep⟩
    · exact wpF_leaf hT hmix hok h hgb hs
    intro b k cs hro hb hr
    have key : ∀ m s ds β a w,I m s ds → (s.n = st.n ∧ s.bs = st.bs) → Sim { C with df := ds.map mkD } s.n s.E s.H β a w → ∃ e a' w',postF C st.n st.bs Q e a' w' ∧ ArrivesIn (Machine.fenced P (FW none)) P (lone (b.atR a (.code body :: .inLoop body :: k)) cs w) b k cs e a' w' := by
      intro m
      induction m using Nat.strongRecOn with
      | _ m ih =>
        intro s ds β a w hI hn hs
        obtain ⟨e,a1,w1,hp,harr⟩ := wpF_sound hT hmix body s ds _ β a w hok (hstep m s ds hI) (by rw [hn.2]; exact hgb) hs b (.inLoop body :: k) cs hro hb hr
        obtain ⟨o,s',β',ds',hf,hq,hn',hs'⟩ := hp
        cases o with
        | normal =>
          cases hf
          obtain ⟨m',s'',hlt,hweak,hI'⟩ := hq
          obtain ⟨hn2,β2,hs2⟩ := Sim.weakS hweak hs' (by show C.gb ≤ _; rw [hn'.2,hn.2]; exact hgb)
          obtain ⟨e2,a2,w2,hp2,harr2⟩ := ih m' hlt s'' ds' β2 a1 w1 hI' ⟨by rw [← hn2.1,hn'.1,hn.1],by rw [← hn2.2,hn'.2,hn.2]⟩ hs2
          exact ⟨e2,a2,w2,hp2,.of_steps (StepsIn.trans harr (.one (fenced_calm hb hr rfl) stepR_inLoop)) harr2⟩
        | ret => cases hf; exact ⟨.ret,a1,w1,⟨.ret,s',β',ds',rfl,hq,⟨by rw [hn'.1,hn.1],by rw [hn'.2,hn.2]⟩,hs'⟩,.pass (x := .inLoop body) rfl (fun _ _ => .inl (by simp)) harr⟩
        | exit i => cases hf; exact ⟨.exit i,a1,w1,⟨.exit i,s',β',ds',rfl,hq,⟨by rw [hn'.1,hn.1],by rw [hn'.2,hn.2]⟩,hs'⟩,.pass (x := .inLoop body) rfl (fun _ _ => .inl (by simp)) harr⟩
        | panic pv => obtain ⟨v,rfl,hr'⟩ := hf; exact ⟨_,a1,w1,⟨.panic pv,s',β',ds',⟨v,rfl,hr'⟩,hq,⟨by rw [hn'.1,hn.1],by rw [hn'.2,hn.2]⟩,hs'⟩,.pass (x := .inLoop body) rfl (fun _ _ => .inl (by simp)) harr⟩
    obtain ⟨hn2,β2,hs2⟩ := Sim.weakS hw hs hgb
    obtain ⟨e,a',w',hp,harr⟩ := key m s ds β2 a w hI ⟨hn2.1.symm,hn2.2.symm⟩ hs2
    exact ⟨e,a',w',hp,.of_steps (.one (fenced_calm hb hr rfl) stepR_loop) harr⟩
  | .exit _,st,ds,Q,β,a,w,hc,h,hgb,hs => wpF_leaf hT hmix hc h hgb hs
  | .ret,st,ds,Q,β,a,w,hc,h,hgb,hs => wpF_leaf hT hmix hc h hgb hs
  | .label _,st,ds,Q,β,a,w,hc,h,hgb,hs => wpF_leaf hT hmix hc h hgb hs
  | .goto _,st,ds,Q,β,a,w,hc,h,hgb,hs => wpF_leaf hT hmix hc h hgb hs
  | .refuse _,st,ds,Q,β,a,w,hc,h,hgb,hs => wpF_leaf hT hmix hc h hgb hs

/-- What the body of such a function must meet: at most one range over a function on the way. -/
def endF (T : Tab) (fn : Func) (K : CK) (st : St) : Prop :=
  match resListA T st fn.results.toList with
  | some (ok,rs) => ok ∧ K (oneOf rs) st.hp st.nx
  | none => False
def shutF (T : Tab) (fn : Func) (K : CK) : St → List (Nat × Nat) → Prop
  | st,[] => endF T fn K st
  | st,(b,D) :: ds => lk b st.hp = some (.obj D (.deferred (some []))) ∧ shutF T fn K ⟨st.n,st.env,(b,.obj D (.deferred none)) :: st.hp,st.nx,st.bs⟩ ds
def bodyF (T : Tab) (fn : Func) (K : CK) : FCont
  | .normal,st,ds => shutF T fn K st ds
  | .ret,st,ds => shutF T fn K st ds
  | _,_,_ => False
theorem endF_sound (hT : TabOK P T) {fn : Func} {K : CK} {st : St} (h : endF T fn K st) {ds : List Deferred} (hs : Sim { C with df := ds } st.n st.E st.H β a w) :
    ∃ v,(results fn a.tmps).run P w = .ok v w ∧ ∃ v_1 r hp' nx' β',((Ending.returned v = .returned v_1 ∧ K r hp' nx') ∨ (Ending.returned v = .panicked [{ v := v_1,recovered := false }] ∧ noP r hp' nx')) ∧ SimH C (hpF hp') β' w ∧ Rep (NN C (hpF hp') β') w β' r v_1 := by
  unfold endF at h
  split at h
  · rename_i ok rs hres
    obtain ⟨v,v1,v2⟩ := results_sound hT hs hres h.1
    exact ⟨v,v1,v,_,_,_,β,.inl ⟨rfl,h.2⟩,hs.heap.rdf C.df,v2⟩
  · exact h.elim
theorem shutF_sound (hT : TabOK P T) {fn : Func} {K : CK} : ∀ (ds : List (Nat × Nat)) {st : St} {β : Ref} {a : Act} {w : World},shutF T fn K st ds → Sim { C with df := ds.map mkD } st.n st.E st.H β a w →
    LeavesInM (FW none) 0 P fn a.tmps (fun e w' => ∃ v r hp' nx' β',((e = .returned v ∧ K r hp' nx') ∨ (e = .panicked [{ v,recovered := false }] ∧ noP r hp' nx')) ∧ SimH C (hpF hp') β' w' ∧ Rep (NN C (hpF hp') β') w' β' r v) (ds.map mkD) .returning w
  | [],st,β,a,w,hq,hs => endF_sound hT hq hs
  | (b,D) :: ds,st,β,a,w,⟨hD,hK⟩,hs => by
    obtain ⟨_,_,hheap⟩ := hs.blk b _ hD
    refine ⟨fun h => (by cases h),.inl ⟨D,_,rfl,run_takeDeferred hheap,?_⟩⟩
    have hs2 := (hs.setObj hD (.deferred none)).rdf (ds.map mkD)
    exact shutF_sound hT ds (st := ⟨st.n,st.env,(b,.obj D (.deferred none)) :: st.hp,st.nx,st.bs⟩) (a := { a with defers := ds.map mkD }) hK hs2
theorem CallA.intoF (hT : TabOK P T) (hmix : P.follows .mixedOrders = true) {f : FuncId} {fn : Func} {c : Code} (hf : P.funcs[f]? = some fn) (hb : fn.body = some c) (hnm : (fn.name == "runtime.NumGoroutine") = false) (hok : codeF c = true)
    {args : List PV} {hp : List (Nat × Blk)} {nx : Nat} {K : CK} (hn : args.length ≤ fn.ntmps)
    (h : wpF P T c ⟨fn.ntmps,enumFrom 0 args,hp,nx,nx⟩ [] (bodyF T fn K)) : CallA P f args hp nx K noP := by
  refine ⟨⟨fn,hf,hnm,by rw [hb]; rfl⟩,fun C β w vs hgb hs hl hv => ?_⟩
  have hs0 : SimH { C with df := [] } (hpF hp) β w := hs.rdf []
  refine CallsIn.calls (F := FW none) (n := 0) (callsIn_of_wp_marks hf hb trivial (wpIn_mono (wpF_sound (C := C) hT hmix c _ [] _ β _ w hok h hgb (enter_sim (nx := nx) rfl hs0 hl hn hv)) ?_)) (FW_room none)
  rintro e a' w' ⟨o,st',β',ds',hfit,hq,hn',hs'⟩
  have key : shutF T fn K st' ds' → LeavesInM (FW none) 0 P fn a'.tmps (fun e w' => ∃ v r hp' nx' β',((e = .returned v ∧ K r hp' nx') ∨ (e = .panicked [{ v,recovered := false }] ∧ noP r hp' nx')) ∧ SimH C (hpF hp') β' w' ∧ Rep (NN C (hpF hp') β') w' β' r v) a'.defers .returning w' := by
    intro hq
    have hdf : a'.defers = ds'.map mkD := hs'.df
    rw [hdf]
    exact shutF_sound hT ds' hq hs'
  cases o with
  | normal => cases hfit; exact key hq
  | ret => cases hfit; exact key hq
  | exit i => exact hq.elim
  | panic pv => exact hq.elim
/-- Such a function's contract over plain data. -/
theorem PureCalls.ofF (hT : TabOK P T) (hmix : P.follows .mixedOrders = true) {f : FuncId} {fn : Func} {c : Code} (hf : P.funcs[f]? = some fn) (hb : fn.body = some c) (hnm : (fn.name == "runtime.NumGoroutine") = false) (hok : codeF c = true)
    {args : List PV} {r : PV} (hn : args.length ≤ fn.ntmps) (h : wpF P T c ⟨fn.ntmps,enumFrom 0 args,[],0,0⟩ [] (bodyF T fn (fun rv hp _ => FrzR (hpF hp) rv r))) : PureCalls P f args r := by
  refine ⟨⟨fn,hf,hnm,by rw [hb]; rfl⟩,fun N w vs hN hl hv => ?_⟩
  have hs0 : SimH ⟨N,w.heap.size,w,fun _ _ => False,0,[]⟩ (hpF []) (fun _ => none) w := by
    refine ⟨rfl,rfl,fun t pv ht => by simp at ht,fun b x hx => by simp [hpF,lk] at hx,fun b b' x x' _ hx => by simp [hpF,lk] at hx,fun b ver u k hb => by simp at hb,fun _ _ => rfl,Below.refl _ _,hN,Nat.le_refl _,fun _ _ h => h.elim,fun _ _ h => h.elim⟩
  have hNN : ∀ k,NN ⟨N,w.heap.size,w,fun _ _ => False,0,[]⟩ (hpF []) (fun _ => none) k → N k := by
    rintro k (hk | ⟨b,x,ver,u,q1,_⟩)
    · exact hk
    · simp [hpF,lk] at q1
  refine ((CallA.intoF hT hmix hf hb hnm hok (hp := []) (nx := 0) hn h).2 ⟨N,w.heap.size,w,fun _ _ => False,0,[]⟩ (fun _ => none) w vs (Nat.le_refl _) hs0 hl (fun i pv hi => .i ((hv i pv hi).mono (Keeps.refl _ _) (fun k _ hk => hNN k hk)))).mono ?_
  rintro e w' ⟨v,rv,hp',nx',β',⟨rfl,hK⟩ | ⟨_,hK⟩,hs',hr⟩
  · exact ⟨v,rfl,FrzR_data hs' hr hK,hs'.below⟩
  · exact hK.elim

end
end Go.Pe


/- Equations for simp: code that yields,functions that range over a function. -/
set_option linter.unusedVariables false
set_option linter.unusedSimpArgs false
namespace Go.Pe
open Go.RowKit

section
variable (P : Program) (T : Tab) (Y : YS)
def restY (all os : List Oper) (K : Cont) : Cont := restO K fun st => wpOpsY P T Y all os st K
def seqKY (y : Code) (Q : Cont) : Cont := restO Q fun st' => wpY P T Y y st' Q
def condKY (x y : Code) (st : St) (Q : Cont) : PV → Prop
  | .lit (.bool t) => (t = true → wpY P T Y x st Q) ∧ (t = false → wpY P T Y y st Q)
  | _ => False
def wantKY (all os : List Oper) (o : Oper) (st : St) (K : Cont) : Option Bool → Prop
  | some b => (b = true → stepX P T Y o st (restY P T Y all os K)) ∧ (b = false → wpOpsY P T Y all os ⟨st.n,putL o.dst (.lit (.tuple #[])) st.env,st.hp,st.nx,st.bs⟩ K)
  | none => False
def stepXK (o : Oper) (st : St) (K : Cont) : Option (Nat × Array Value × Array Value × List PV) → Prop
  | some (l,p,q,args) => (p = #[] ∧ q = #[]) ∧ (∀ x ∈ st.hp,x.1 < st.nx) ∧ st.bs ≤ st.nx ∧ Y l args st.hp st.nx (fun r hp nx => K .normal ⟨st.n,putL o.dst r st.env,hp,nx,st.bs⟩)
  | none => stepA P T o st K
def seqF (y : Code) (Q : FCont) : FCont := fun o st' ds' => match o with
  | .normal => wpF P T y st' ds' Q
  | o => Q o st' ds'
variable {P T Y}
theorem wpY_skip {st : St} {Q : Cont} : wpY P T Y .skip st Q = Q .normal st := (rfl)
theorem wpY_region {id : Nat} {ops : Array Oper} {st : St} {Q : Cont} : wpY P T Y (.region id ops false) st Q = wpOpsY P T Y ops.toList ops.toList st Q := (rfl)
theorem wpY_draw {id : Nat} {ops : Array Oper} {st : St} {Q : Cont} : wpY P T Y (.region id ops true) st Q = drawA P T ops st Q := (rfl)
theorem wpY_seq {x y : Code} {st : St} {Q : Cont} : wpY P T Y (.seq x y) st Q = wpY P T Y x st (seqKY P T Y y Q) := (rfl)
theorem wpY_cond {c : Operand} {x y : Code} {st : St} {Q : Cont} : wpY P T Y (.cond c x y) st Q = condKY P T Y x y st Q (ev st.E c) := by
  simp only [wpY]
  generalize ev st.E c = q
  unfold condKY
  rfl
theorem wpY_block {id : Nat} {x : Code} {st : St} {Q : Cont} : wpY P T Y (.block id x) st Q = wpY P T Y x st (blkK id Q) := (rfl)
theorem wpY_exit {id : Nat} {st : St} {Q : Cont} : wpY P T Y (.exit id) st Q = Q (.exit id) st := (rfl)
theorem wpY_ret {st : St} {Q : Cont} : wpY P T Y .ret st Q = Q .ret st := (rfl)
theorem wpY_loop {x : Code} {st : St} {Q : Cont} (I : Nat → St → Prop) (h0 : ∃ m s,Weak st s ∧ I m s) (h1 : ∀ m s,I m s → wpY P T Y x s (loopK I m Q)) : wpY P T Y (.loop x) st Q := ⟨Weak,fun _ _ h => .weak h,I,h0,h1⟩
theorem wpY_loopS {x : Code} {st : St} {Q : Cont} (I : Nat → St → Prop) (h0 : ∃ m s,WeakS st s ∧ I m s) (h1 : ∀ m s,I m s → wpY P T Y x s (loopKS I m Q)) : wpY P T Y (.loop x) st Q := ⟨WeakS,fun _ _ h => h,I,h0,h1⟩
theorem seqKY_normal {y : Code} {st : St} {Q : Cont} : seqKY P T Y y Q .normal st = wpY P T Y y st Q := (rfl)
theorem seqKY_ret {y : Code} {st : St} {Q : Cont} : seqKY P T Y y Q .ret st = Q .ret st := (rfl)
theorem seqKY_exit {y : Code} {st : St} {Q : Cont} {i : Nat} : seqKY P T Y y Q (.exit i) st = Q (.exit i) st := (rfl)
theorem seqKY_panic {y : Code} {st : St} {Q : Cont} {v : PV} : seqKY P T Y y Q (.panic v) st = Q (.panic v) st := (rfl)
theorem condKY_true {x y : Code} {st : St} {Q : Cont} : condKY P T Y x y st Q (.lit (.bool true)) = wpY P T Y x st Q := by simp [condKY]
theorem condKY_false {x y : Code} {st : St} {Q : Cont} : condKY P T Y x y st Q (.lit (.bool false)) = wpY P T Y y st Q := by simp [condKY]
theorem wpOpsY_nil {all : List Oper} {st : St} {K : Cont} : wpOpsY P T Y all [] st K = K .normal st := (rfl)
theorem wpOpsY_cons {all os : List Oper} {o : Oper} {st : St} {K : Cont} : wpOpsY P T Y all (o :: os) st K = (dstOK o.dst st.n ∧ wantKY P T Y all os o st K (wantA all st o)) := by
  simp only [wpOpsY,wantKY]
  congr 1
theorem wantKY_true {all os : List Oper} {o : Oper} {st : St} {K : Cont} : wantKY P T Y all os o st K (some true) = stepX P T Y o st (restY P T Y all os K) := by simp [wantKY]
theorem wantKY_false {all os : List Oper} {o : Oper} {st : St} {K : Cont} : wantKY P T Y all os o st K (some false) = wpOpsY P T Y all os ⟨st.n,putL o.dst (.lit (.tuple #[])) st.env,st.hp,st.nx,st.bs⟩ K := by simp [wantKY]
theorem restY_normal {all os : List Oper} {K : Cont} {st : St} : restY P T Y all os K .normal st = wpOpsY P T Y all os st K := (rfl)
theorem restY_panic {all os : List Oper} {K : Cont} {st : St} {v : PV} : restY P T Y all os K (.panic v) st = K (.panic v) st := (rfl)
theorem stepX_eq {d : Option Nat} {op : Op} {t : TypeId} {p : String} {af : Array Edge} {g : Option (Nat × Bool)} {st : St} {K : Cont} : stepX P T Y ⟨d,op,t,p,af,g⟩ st K = stepXK P T Y ⟨d,op,t,p,af,g⟩ st K (isYield st.E op) := by
  simp only [stepX]
  generalize isYield st.E op = q
  unfold stepXK
  rfl
theorem stepXK_none {o : Oper} {st : St} {K : Cont} : stepXK P T Y o st K none = stepA P T o st K := (rfl)
theorem stepXK_some {o : Oper} {st : St} {K : Cont} {l : Nat} {args : List PV} : stepXK P T Y o st K (some (l,#[],#[],args)) = ((∀ x ∈ st.hp,x.1 < st.nx) ∧ st.bs ≤ st.nx ∧ Y l args st.hp st.nx (callK #[] o.dst st K)) := by
  simp only [stepXK,and_self,true_and]
  rfl
theorem yieldOf_yield {args : List PV} {l : Nat} {p q : Array Value} : yieldOf args (.lit (.func (.yield l) p q)) = some (l,p,q,args) := (rfl)
theorem yieldOf_func {args : List PV} {f : Nat} {p q : Array Value} : yieldOf args (.lit (.func (.func f) p q)) = none := (rfl)
theorem yieldOf_fn {args p q : List PV} {f : Fn} : yieldOf args (.fn f p q) = none := (rfl)
theorem isYield_call {E : Env} {f : Operand} {args : Array Operand} {ats : Array TypeId} : isYield E (.call ⟨.value f,args,ats⟩) = yieldOf (args.toList.map (ev E)) (ev E f) := (rfl)
theorem isYield_builtin {E : Env} {b : Builtin} {args : Array Operand} {ats : Array TypeId} : isYield E (.call ⟨.builtin b,args,ats⟩) = none := (rfl)
theorem isYield_move {E : Env} {x : Operand} : isYield E (.move x) = none := (rfl)
theorem isYield_assign {E : Env} {x : Operand} : isYield E (.assign x) = none := (rfl)
theorem isYield_pick {E : Env} {c x y : Operand} : isYield E (.pick c x y) = none := (rfl)
theorem isYield_load {E : Env} {t : TypeId} {x : Operand} : isYield E (.load t x) = none := (rfl)
theorem isYield_binOp {E : Env} {o : BinOp} {t t' : TypeId} {x y : Operand} : isYield E (.binOp o t x y t') = none := (rfl)
theorem isYield_unOp {E : Env} {o : UnOp} {t : TypeId} {x : Operand} : isYield E (.unOp o t x) = none := (rfl)
theorem isYield_convert {E : Env} {t t' : TypeId} {x : Operand} : isYield E (.convert t t' x) = none := (rfl)
theorem isYield_slice {E : Env} {t : TypeId} {x : Operand} {l h m : Option Operand} : isYield E (.slice t x l h m) = none := (rfl)
theorem isYield_fieldAddr {E : Env} {t : TypeId} {x : Operand} {f : Nat} : isYield E (.fieldAddr t x f) = none := (rfl)
theorem isYield_field {E : Env} {t : TypeId} {x : Operand} {f : Nat} : isYield E (.field t x f) = none := (rfl)
theorem isYield_indexAddr {E : Env} {t : TypeId} {x i : Operand} : isYield E (.indexAddr t x i) = none := (rfl)
theorem isYield_index {E : Env} {t : TypeId} {x i : Operand} : isYield E (.index t x i) = none := (rfl)
theorem isYield_extract {E : Env} {x : Operand} {i : Nat} : isYield E (.extract x i) = none := (rfl)
theorem isYield_build {E : Env} {t : TypeId} {ps : Array (Nat × Operand)} : isYield E (.build t ps) = none := (rfl)
theorem isYield_makeFunc {E : Env} {f : Fn} {x y : Array Operand} : isYield E (.makeFunc f x y) = none := (rfl)
theorem isYield_alloc {E : Env} {t : TypeId} : isYield E (.alloc t) = none := (rfl)
theorem isYield_box {E : Env} {t : TypeId} {x : Operand} : isYield E (.box t x) = none := (rfl)
theorem isYield_store {E : Env} {t : TypeId} {x y : Operand} : isYield E (.store t x y) = none := (rfl)
theorem isYield_buildSlice {E : Env} {t : TypeId} {m : Nat} {ps : Array (Nat × Operand)} : isYield E (.buildSlice t m ps) = none := (rfl)
theorem isYield_makeSlice {E : Env} {t : TypeId} {x y : Operand} : isYield E (.makeSlice t x y) = none := (rfl)
theorem wpF_seq {x y : Code} {st : St} {ds : List (Nat × Nat)} {Q : FCont} : wpF P T (.seq x y) st ds Q = wpF P T x st ds (seqF P T y Q) := (rfl)
def blkF (id : Nat) (Q : FCont) : FCont := fun o st' ds' => match o with
    | .normal => Q .normal st' ds'
    | .ret => Q .ret st' ds'
    | .panic v => Q (.panic v) st' ds'
    | .exit i => if i = id then Q .normal st' ds' else Q (.exit i) st' ds'
def leafK (Q : FCont) (ds : List (Nat × Nat)) : Cont := fun o st' => Q o st' ds
theorem leafK_eq {Q : FCont} {ds : List (Nat × Nat)} {o : Out} {st : St} : leafK Q ds o st = Q o st ds := (rfl)
theorem wpF_block {id : Nat} {x : Code} {st : St} {ds : List (Nat × Nat)} {Q : FCont} : wpF P T (.block id x) st ds Q = wpF P T x st ds (blkF id Q) := (rfl)
theorem wpF_skip {st : St} {ds : List (Nat × Nat)} {Q : FCont} : wpF P T .skip st ds Q = Q .normal st ds := (rfl)
theorem wpF_region {id : Nat} {ops : Array Oper} {d : Bool} {st : St} {ds : List (Nat × Nat)} {Q : FCont} : wpF P T (.region id ops d) st ds Q = wpA P T (.region id ops d) st (leafK Q ds) := (rfl)
theorem wpF_cond {c : Operand} {x y : Code} {st : St} {ds : List (Nat × Nat)} {Q : FCont} : wpF P T (.cond c x y) st ds Q = wpA P T (.cond c x y) st (leafK Q ds) := (rfl)
def loopF (P : Program) (T : Tab) (I : Nat → St → List (Nat × Nat) → Prop) (m : Nat) (Q : FCont) : FCont := fun o s ds => match o with
    | .normal => ∃ m' s'',m' < m ∧ WeakS s s'' ∧ I m' s'' ds
    | o => Q o s ds
theorem wpF_loop {x : Code} {st : St} {ds : List (Nat × Nat)} {Q : FCont} (hc : codeF x = true) (I : Nat → St → List (Nat × Nat) → Prop) (h0 : ∃ m s,WeakS st s ∧ I m s ds) (h1 : ∀ m s ds',I m s ds' → wpF P T x s ds' (loopF P T I m Q)) : wpF P T (.loop x) st ds Q := by
  rw [wpF]
  exact .inr ⟨hc,I,h0,h1⟩
theorem loopF_normal {I : Nat → St → List (Nat × Nat) → Prop} {m : Nat} {Q : FCont} {s : St} {ds : List (Nat × Nat)} : loopF P T I m Q .normal s ds = ∃ m' s'',m' < m ∧ WeakS s s'' ∧ I m' s'' ds := (rfl)
theorem loopF_ret {I : Nat → St → List (Nat × Nat) → Prop} {m : Nat} {Q : FCont} {s : St} {ds : List (Nat × Nat)} : loopF P T I m Q .ret s ds = Q .ret s ds := (rfl)
theorem loopF_exit {I : Nat → St → List (Nat × Nat) → Prop} {m i : Nat} {Q : FCont} {s : St} {ds : List (Nat × Nat)} : loopF P T I m Q (.exit i) s ds = Q (.exit i) s ds := (rfl)
theorem wpF_exit {id : Nat} {st : St} {ds : List (Nat × Nat)} {Q : FCont} : wpF P T (.exit id) st ds Q = Q (.exit id) st ds := (rfl)
theorem wpF_ret {st : St} {ds : List (Nat × Nat)} {Q : FCont} : wpF P T .ret st ds Q = Q .ret st ds := (rfl)
theorem seqF_normal {y : Code} {st : St} {ds : List (Nat × Nat)} {Q : FCont} : seqF P T y Q .normal st ds = wpF P T y st ds Q := (rfl)
theorem seqF_ret {y : Code} {st : St} {ds : List (Nat × Nat)} {Q : FCont} : seqF P T y Q .ret st ds = Q .ret st ds := (rfl)
theorem seqF_exit {y : Code} {st : St} {ds : List (Nat × Nat)} {Q : FCont} {i : Nat} : seqF P T y Q (.exit i) st ds = Q (.exit i) st ds := (rfl)
theorem seqF_panic {y : Code} {st : St} {ds : List (Nat × Nat)} {Q : FCont} {v : PV} : seqF P T y Q (.panic v) st ds = Q (.panic v) st ds := (rfl)
theorem blkF_normal {id : Nat} {st : St} {ds : List (Nat × Nat)} {Q : FCont} : blkF id Q .normal st ds = Q .normal st ds := (rfl)
theorem blkF_ret {id : Nat} {st : St} {ds : List (Nat × Nat)} {Q : FCont} : blkF id Q .ret st ds = Q .ret st ds := (rfl)
theorem blkF_panic {id : Nat} {st : St} {ds : List (Nat × Nat)} {Q : FCont} {v : PV} : blkF id Q (.panic v) st ds = Q (.panic v) st ds := (rfl)
theorem blkF_exit {id : Nat} {st : St} {ds : List (Nat × Nat)} {Q : FCont} {i : Nat} : blkF id Q (.exit i) st ds = if i = id then Q .normal st ds else Q (.exit i) st ds := (rfl)
theorem bodyF_normal {fn : Func} {K : CK} {st : St} {ds : List (Nat × Nat)} : bodyF T fn K .normal st ds = shutF T fn K st ds := (rfl)
theorem bodyF_ret {fn : Func} {K : CK} {st : St} {ds : List (Nat × Nat)} : bodyF T fn K .ret st ds = shutF T fn K st ds := (rfl)
theorem shutF_nil {fn : Func} {K : CK} {st : St} : shutF T fn K st [] = endF T fn K st := (rfl)
theorem shutF_cons {fn : Func} {K : CK} {st : St} {b D : Nat} {ds : List (Nat × Nat)} : shutF T fn K st ((b,D) :: ds) = (lk b st.hp = some (.obj D (.deferred (some []))) ∧ shutF T fn K ⟨st.n,st.env,(b,.obj D (.deferred none)) :: st.hp,st.nx,st.bs⟩ ds) := (rfl)
theorem endF_eq {fn : Func} {K : CK} {st : St} : endF T fn K st = endK K st.hp st.nx (resListA T st fn.results.toList) := by
  simp only [endF]
  generalize resListA T st fn.results.toList = q
  cases q <;> rfl
theorem begK_normal {body : Code} {b l : Nat} {R0 : Loop} {K : CK} {s : St} : begK P T body b l R0 K .normal s = (lk b s.hp = some (.obj l (.loop (lpOf R0 none))) ∧ wpY P T noY body ⟨s.n,s.env,(b,.obj l (.loop (busyOf R0))) :: s.hp,s.nx,s.bs⟩ (roundK b l R0 K)) := (rfl)
theorem roundK_normal {b l : Nat} {R0 : Loop} {K : CK} {s : St} : roundK b l R0 K .normal s = (lk b s.hp = some (.obj l (.loop (busyOf R0))) ∧ K (.lit (.bool true)) ((b,.obj l (.loop (lpOf R0 none))) :: s.hp) s.nx) := (rfl)
theorem roundK_ret {b l : Nat} {R0 : Loop} {K : CK} {s : St} : roundK b l R0 K .ret s = (lk b s.hp = some (.obj l (.loop (busyOf R0))) ∧ K (.lit (.bool false)) ((b,.obj l (.loop (lpOf R0 (some .ret)))) :: s.hp) s.nx) := (rfl)
theorem roundK_exit {b l : Nat} {R0 : Loop} {K : CK} {s : St} {i : Nat} : roundK b l R0 K (.exit i) s = (lk b s.hp = some (.obj l (.loop (busyOf R0))) ∧ K (.lit (.bool false)) ((b,.obj l (.loop (lpOf R0 (some (.exit i))))) :: s.hp) s.nx) := (rfl)
end
attribute [go_sem] begK_normal roundK_normal roundK_ret roundK_exit
attribute [go_sem] wpY_skip wpY_region wpY_draw wpY_seq wpY_cond wpY_block wpY_exit wpY_ret seqKY_normal seqKY_ret seqKY_exit seqKY_panic condKY_true condKY_false wpOpsY_nil wpOpsY_cons wantKY_true wantKY_false restY_normal restY_panic stepX_eq stepXK_none stepXK_some
  yieldOf_yield yieldOf_func yieldOf_fn isYield_call isYield_builtin isYield_move isYield_assign isYield_pick isYield_load isYield_binOp isYield_unOp isYield_convert isYield_slice isYield_fieldAddr isYield_field isYield_indexAddr isYield_index isYield_extract isYield_build isYield_makeFunc isYield_alloc isYield_box isYield_store isYield_buildSlice isYield_makeSlice
  wpF_seq leafK_eq wpF_block wpF_skip wpF_region wpF_cond loopF_normal loopF_ret loopF_exit wpF_exit wpF_ret seqF_normal seqF_ret seqF_exit seqF_panic blkF_normal blkF_ret blkF_panic blkF_exit bodyF_normal bodyF_ret shutF_nil shutF_cons endF_eq
end Go.Pe

