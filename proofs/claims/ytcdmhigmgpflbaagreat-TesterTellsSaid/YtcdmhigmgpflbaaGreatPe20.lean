import Derived.Test.YtcdmhigmgpflbaaGreatPe18
set_option linter.unusedVariables false
set_option linter.unusedSimpArgs false
namespace Go.Pe
open Go.RowKit
section
variable (P : Program) (T : Tab)
def restK (all os : List Oper) (K : Cont) : Cont := restO K fun st => wpOpsA P T all os st K
def seqK (y : Code) (Q : Cont) : Cont := restO Q fun st' => wpA P T y st' Q
def blkK (id : Nat) (Q : Cont) : Cont := fun o st' => match o with
    | .normal => Q .normal st'
    | .ret => Q .ret st'
    | .panic v => Q (.panic v) st'
    | .exit i => if i = id then Q .normal st' else Q (.exit i) st'
def condK (x y : Code) (st : St) (Q : Cont) : PV → Prop
  | .lit (.bool t) => (t = true → wpA P T x st Q) ∧ (t = false → wpA P T y st Q)
  | _ => False
def loopK (I : Nat → St → Prop) (m : Nat) (Q : Cont) : Cont := restO Q fun s' => ∃ m' s'',m' < m ∧ Weak s' s'' ∧ I m' s''
def loopKS (I : Nat → St → Prop) (m : Nat) (Q : Cont) : Cont := restO Q fun s' => ∃ m' s'',m' < m ∧ WeakS s' s'' ∧ I m' s''
def wantK (all os : List Oper) (o : Oper) (st : St) (K : Cont) : Option Bool → Prop
  | some b => (b = true → stepA P T o st (restK P T all os K)) ∧ (b = false → wpOpsA P T all os ⟨st.n,putL o.dst (.lit (.tuple #[])) st.env,st.hp,st.nx,st.bs⟩ K)
  | none => False
def wantB (b w : Bool) : Bool := b == w
def wantP (w : Bool) : Option PV → Option Bool
  | some (.lit (.bool b)) => some (wantB b w)
  | some (.lit (.tuple _)) => some false
  | _ => none
def wantD (st : St) (w : Bool) : Option Nat → Option Bool
  | some d => wantP w (lk d st.env)
  | none => none
def afterM (d : Option Nat) (st : St) (K : Cont) : Option (Prop × PV × List (Nat × Blk)) → Prop
  | some (ok,pv,eff) => lk st.nx st.hp = none ∧ ok ∧ K .normal ⟨st.n,putL d pv st.env,addL eff st.hp,st.nx + 1,st.bs⟩
  | none => False
def afterV (op : Op) (d : Option Nat) (st : St) (K : Cont) : Option (Prop × PV) → Prop
  | some (ok,pv) => ok ∧ K .normal ⟨st.n,putL d pv st.env,st.hp,st.nx,st.bs⟩
  | none => afterM d st K (evMem T st.nx st.E st.H op)
def callK (args : Array Operand) (d : Option Nat) (st : St) (K : Cont) (r : PV) (hp : List (Nat × Blk)) (nx : Nat) : Prop := K .normal ⟨st.n,putL d r st.env,hp,nx,st.bs⟩
def callP (st : St) (K : Cont) (r : PV) (hp : List (Nat × Blk)) (nx : Nat) : Prop := K (.panic r) ⟨st.n,st.env,hp,nx,st.bs⟩
def callE (args : Array Operand) (d : Option Nat) (st : St) (K : Cont) : PV → Prop
  | .lit (.func (.func g) p q) => (p = #[] ∧ q = #[]) ∧ (∀ x ∈ st.hp,x.1 < st.nx) ∧ st.bs ≤ st.nx ∧ CallA P g (args.toList.map (ev st.E)) st.hp st.nx (callK args d st K) (callP st K)
  | .fn (.func g) first cap => (∀ x ∈ st.hp,x.1 < st.nx) ∧ st.bs ≤ st.nx ∧ CallA P g (first ++ args.toList.map (ev st.E) ++ cap) st.hp st.nx (callK args d st K) (callP st K)
  | _ => False
def binK (op : BinOp) (ty : TypeId) (x y : Operand) (ty' : TypeId) (d : Option Nat) (st : St) (K : Cont) : Option (Bool → Prop) → Prop
  | some R => binN T op ty d st K R
  | none => afterV T (.binOp op ty x y ty') d st K (evVal T st.E st.H (.binOp op ty x y ty'))
variable {P T}
theorem binK_none {op : BinOp} {ty ty' : TypeId} {x y : Operand} {d : Option Nat} {st : St} {K : Cont} : binK T op ty x y ty' d st K none = afterV T (.binOp op ty x y ty') d st K (evVal T st.E st.H (.binOp op ty x y ty')) := (rfl)
theorem binK_eql {ty ty' : TypeId} {x y : Operand} {d : Option Nat} {st : St} {K : Cont} {R : Bool → Prop} : binK T .eql ty x y ty' d st K (some R) = (isSl T ty ∧ ∀ b : Bool,R b → K .normal ⟨st.n,putL d (.lit (.bool b)) st.env,st.hp,st.nx,st.bs⟩) := by
  simp [binK,binN,nilB]
theorem binK_neq {ty ty' : TypeId} {x y : Operand} {d : Option Nat} {st : St} {K : Cont} {R : Bool → Prop} : binK T .neq ty x y ty' d st K (some R) = (isSl T ty ∧ ∀ b : Bool,R b → K .normal ⟨st.n,putL d (.lit (.bool (!b))) st.env,st.hp,st.nx,st.bs⟩) := by
  simp [binK,binN,nilB]
theorem wpA_skip {st : St} {Q : Cont} : wpA P T .skip st Q = Q .normal st := (rfl)
theorem wpA_region {id : Nat} {ops : Array Oper} {st : St} {Q : Cont} : wpA P T (.region id ops false) st Q = wpOpsA P T ops.toList ops.toList st Q := (rfl)
theorem wpA_draw {id : Nat} {ops : Array Oper} {st : St} {Q : Cont} : wpA P T (.region id ops true) st Q = drawA P T ops st Q := (rfl)
theorem wpA_seq {x y : Code} {st : St} {Q : Cont} : wpA P T (.seq x y) st Q = wpA P T x st (seqK P T y Q) := (rfl)
theorem wpA_cond {c : Operand} {x y : Code} {st : St} {Q : Cont} : wpA P T (.cond c x y) st Q = condK P T x y st Q (ev st.E c) := by
  simp only [wpA]
  generalize ev st.E c = q
  unfold condK
  rfl
theorem wpA_block {id : Nat} {x : Code} {st : St} {Q : Cont} : wpA P T (.block id x) st Q = wpA P T x st (blkK id Q) := (rfl)
theorem wpA_exit {id : Nat} {st : St} {Q : Cont} : wpA P T (.exit id) st Q = Q (.exit id) st := (rfl)
theorem wpA_ret {st : St} {Q : Cont} : wpA P T .ret st Q = Q .ret st := (rfl)
theorem wpA_scope {x : Code} {st : St} {Q : Cont} : wpA P T (.scope x) st Q = wpA P T x st Q := (rfl)
theorem wpA_loop {x : Code} {st : St} {Q : Cont} (I : Nat → St → Prop) (h0 : ∃ m s,Weak st s ∧ I m s) (h1 : ∀ m s,I m s → wpA P T x s (loopK I m Q)) : wpA P T (.loop x) st Q := ⟨Weak,fun _ _ h => .weak h,I,h0,h1⟩
theorem wpA_loopS {x : Code} {st : St} {Q : Cont} (I : Nat → St → Prop) (h0 : ∃ m s,WeakS st s ∧ I m s) (h1 : ∀ m s,I m s → wpA P T x s (loopKS I m Q)) : wpA P T (.loop x) st Q := ⟨WeakS,fun _ _ h => h,I,h0,h1⟩
theorem loopKS_ret {I : Nat → St → Prop} {m : Nat} {st : St} {Q : Cont} : loopKS I m Q .ret st = Q .ret st := (rfl)
theorem loopKS_exit {I : Nat → St → Prop} {m : Nat} {st : St} {Q : Cont} {i : Nat} : loopKS I m Q (.exit i) st = Q (.exit i) st := (rfl)
theorem loopKS_panic {I : Nat → St → Prop} {m : Nat} {st : St} {Q : Cont} {v : PV} : loopKS I m Q (.panic v) st = Q (.panic v) st := (rfl)
theorem loopKS_normal {I : Nat → St → Prop} {m : Nat} {st : St} {Q : Cont} : loopKS I m Q .normal st = ∃ m' s'',m' < m ∧ WeakS st s'' ∧ I m' s'' := (rfl)
theorem seqK_normal {y : Code} {st : St} {Q : Cont} : seqK P T y Q .normal st = wpA P T y st Q := (rfl)
theorem seqK_ret {y : Code} {st : St} {Q : Cont} : seqK P T y Q .ret st = Q .ret st := (rfl)
theorem seqK_exit {y : Code} {st : St} {Q : Cont} {i : Nat} : seqK P T y Q (.exit i) st = Q (.exit i) st := (rfl)
theorem blkK_normal {id : Nat} {st : St} {Q : Cont} : blkK id Q .normal st = Q .normal st := (rfl)
theorem blkK_ret {id : Nat} {st : St} {Q : Cont} : blkK id Q .ret st = Q .ret st := (rfl)
theorem blkK_exit {id : Nat} {st : St} {Q : Cont} {i : Nat} : blkK id Q (.exit i) st = if i = id then Q .normal st else Q (.exit i) st := (rfl)
theorem loopK_ret {I : Nat → St → Prop} {m : Nat} {st : St} {Q : Cont} : loopK I m Q .ret st = Q .ret st := (rfl)
theorem loopK_exit {I : Nat → St → Prop} {m : Nat} {st : St} {Q : Cont} {i : Nat} : loopK I m Q (.exit i) st = Q (.exit i) st := (rfl)
theorem restK_eq {all os : List Oper} {K : Cont} {st : St} : restK P T all os K .normal st = wpOpsA P T all os st K := (rfl)
theorem restK_panic {all os : List Oper} {K : Cont} {st : St} {v : PV} : restK P T all os K (.panic v) st = K (.panic v) st := (rfl)
theorem seqK_panic {y : Code} {st : St} {Q : Cont} {v : PV} : seqK P T y Q (.panic v) st = Q (.panic v) st := (rfl)
theorem blkK_panic {id : Nat} {st : St} {Q : Cont} {v : PV} : blkK id Q (.panic v) st = Q (.panic v) st := (rfl)
theorem loopK_panic {I : Nat → St → Prop} {m : Nat} {st : St} {Q : Cont} {v : PV} : loopK I m Q (.panic v) st = Q (.panic v) st := (rfl)
theorem condK_true {x y : Code} {st : St} {Q : Cont} : condK P T x y st Q (.lit (.bool true)) = wpA P T x st Q := by simp [condK]
theorem condK_false {x y : Code} {st : St} {Q : Cont} : condK P T x y st Q (.lit (.bool false)) = wpA P T y st Q := by simp [condK]
theorem condK_split {x y : Code} {st : St} {Q : Cont} {b : Bool} (ht : b = true → wpA P T x st Q) (hf : b = false → wpA P T y st Q) : condK P T x y st Q (.lit (.bool b)) := ⟨ht,hf⟩
theorem wpOpsA_nil {all : List Oper} {st : St} {K : Cont} : wpOpsA P T all [] st K = K .normal st := (rfl)
theorem wpOpsA_cons {all os : List Oper} {o : Oper} {st : St} {K : Cont} : wpOpsA P T all (o :: os) st K = (dstOK o.dst st.n ∧ wantK P T all os o st K (wantA all st o)) := by
  simp only [wpOpsA,wantK]
  congr 1
theorem wantK_true {all os : List Oper} {o : Oper} {st : St} {K : Cont} : wantK P T all os o st K (some true) = stepA P T o st (restK P T all os K) := by simp [wantK]
theorem wantK_false {all os : List Oper} {o : Oper} {st : St} {K : Cont} : wantK P T all os o st K (some false) = wpOpsA P T all os ⟨st.n,putL o.dst (.lit (.tuple #[])) st.env,st.hp,st.nx,st.bs⟩ K := by simp [wantK]
theorem wantK_split {all os : List Oper} {o : Oper} {st : St} {K : Cont} {b : Bool} (ht : b = true → stepA P T o st (restK P T all os K)) (hf : b = false → wpOpsA P T all os ⟨st.n,putL o.dst (.lit (.tuple #[])) st.env,st.hp,st.nx,st.bs⟩ K) :
    wantK P T all os o st K (some b) := ⟨ht,hf⟩
theorem wantA_none {all : List Oper} {st : St} {d : Option Nat} {op : Op} {t : TypeId} {p : String} {af : Array Edge} : wantA all st ⟨d,op,t,p,af,none⟩ = some true := (rfl)
theorem wantA_some {all : List Oper} {st : St} {d : Option Nat} {op : Op} {t : TypeId} {p : String} {af : Array Edge} {j : Nat} {w : Bool} : wantA all st ⟨d,op,t,p,af,some (j,w)⟩ = wantD st w ((all[j]?).bind (·.dst)) := by
  simp only [wantA,wantD]
  split <;> simp only [wantP, *]
  split <;> simp_all [wantB]
theorem wantB_true {b : Bool} : wantB b true = b := by cases b <;> rfl
theorem wantB_false {b : Bool} : wantB b false = !b := by cases b <;> rfl
theorem dstOK_none {n : Nat} : dstOK none n = True := (rfl)
theorem dstOK_some {d n : Nat} : dstOK (some d) n = (d < n) := (rfl)
theorem putL_none {pv : PV} {env : List (Nat × PV)} : putL none pv env = env := (rfl)
theorem putL_some {d : Nat} {pv : PV} {env : List (Nat × PV)} : putL (some d) pv env = (d,pv) :: env := (rfl)
theorem ev_tmp {st : St} {t : Nat} : ev st.E (.tmp t) = (lk t st.env).getD .any := (rfl)
theorem ev_const {E : Env} {v : Value} : ev E (.const v) = .lit v := (rfl)
theorem ev_func {E : Env} {f : Nat} : ev E (.func f) = .lit (.func (.func f) #[] #[]) := (rfl)
theorem genA_eq {o : Oper} {st : St} {K : Cont} : genA T o st K = afterV T o.op o.dst st K (evVal T st.E st.H o.op) := by
  unfold genA
  generalize evVal T st.E st.H o.op = q
  cases q with
  | some r => rfl
  | none =>
    simp only [afterV]
    generalize evMem T st.nx st.E st.H o.op = q
    cases q <;> rfl
theorem stepA_call {f : Operand} {args : Array Operand} {ats : Array TypeId} {d : Option Nat} {t : TypeId} {p : String} {af : Array Edge} {g : Option (Nat × Bool)} {st : St} {K : Cont} :
    stepA P T ⟨d,.call ⟨.value f,args,ats⟩,t,p,af,g⟩ st K = callE P args d st K (ev st.E f) := by
  simp only [stepA]
  generalize ev st.E f = q
  unfold callE callV
  rfl
theorem stepA_builtin {b : Builtin} {args : Array Operand} {ats : Array TypeId} {d : Option Nat} {t : TypeId} {p : String} {af : Array Edge} {g : Option (Nat × Bool)} {st : St} {K : Cont} :
    stepA P T ⟨d,.call ⟨.builtin b,args,ats⟩,t,p,af,g⟩ st K = afterV T (.call ⟨.builtin b,args,ats⟩) d st K (callA T st.E st.H ⟨.builtin b,args,ats⟩) := genA_eq
section
variable {d : Option Nat} {t : TypeId} {p : String} {af : Array Edge} {g : Option (Nat × Bool)} {st : St} {K : Cont}
theorem panicA_iface {t' : TypeId} {v : PV} : panicA st K (.iface t' v) = K (.panic (.iface t' v)) st := (rfl)
theorem stepA_panic {x : Operand} : stepA P T ⟨d,.panic x,t,p,af,g⟩ st K = panicA st K (ev st.E x) := (rfl)
theorem stepA_move {x : Operand} : stepA P T ⟨d,.move x,t,p,af,g⟩ st K = K .normal ⟨st.n,putL d (ev st.E x) st.env,st.hp,st.nx,st.bs⟩ := by rw [show stepA P T ⟨d,.move x,t,p,af,g⟩ st K = genA T ⟨d,.move x,t,p,af,g⟩ st K from rfl,genA_eq]; simp [evVal,afterV]
theorem stepA_assign {x : Operand} : stepA P T ⟨d,.assign x,t,p,af,g⟩ st K = K .normal ⟨st.n,putL d (ev st.E x) st.env,st.hp,st.nx,st.bs⟩ := by rw [show stepA P T ⟨d,.assign x,t,p,af,g⟩ st K = genA T ⟨d,.assign x,t,p,af,g⟩ st K from rfl,genA_eq]; simp [evVal,afterV]
theorem stepA_pick {c x y : Operand} : stepA P T ⟨d,.pick c x y,t,p,af,g⟩ st K = afterV T (.pick c x y) d st K (evVal T st.E st.H (.pick c x y)) := genA_eq
theorem stepA_load {ty : TypeId} {x : Operand} : stepA P T ⟨d,.load ty x,t,p,af,g⟩ st K = afterV T (.load ty x) d st K (evVal T st.E st.H (.load ty x)) := genA_eq
theorem stepA_nilCheck {x : Operand} : stepA P T ⟨d,.nilCheck x,t,p,af,g⟩ st K = afterV T (.nilCheck x) d st K (evVal T st.E st.H (.nilCheck x)) := genA_eq
theorem stepA_binOp {o : BinOp} {ty ty' : TypeId} {x y : Operand} : stepA P T ⟨d,.binOp o ty x y ty',t,p,af,g⟩ st K = binK T o ty x y ty' d st K (nilQ st.H (ev st.E x) (ev st.E y)) := by
  simp only [stepA]
  generalize nilQ st.H (ev st.E x) (ev st.E y) = q
  cases q with
  | none => exact genA_eq
  | some rows => rfl
theorem stepA_unOp {o : UnOp} {ty : TypeId} {x : Operand} : stepA P T ⟨d,.unOp o ty x,t,p,af,g⟩ st K = afterV T (.unOp o ty x) d st K (evVal T st.E st.H (.unOp o ty x)) := genA_eq
theorem stepA_convert {ty ty' : TypeId} {x : Operand} : stepA P T ⟨d,.convert ty ty' x,t,p,af,g⟩ st K = afterV T (.convert ty ty' x) d st K (evVal T st.E st.H (.convert ty ty' x)) := genA_eq
theorem stepA_slice {ty : TypeId} {x : Operand} {lo hi mx : Option Operand} : stepA P T ⟨d,.slice ty x lo hi mx,t,p,af,g⟩ st K = afterV T (.slice ty x lo hi mx) d st K (evVal T st.E st.H (.slice ty x lo hi mx)) := genA_eq
theorem stepA_fieldAddr {ty : TypeId} {x : Operand} {f : Nat} : stepA P T ⟨d,.fieldAddr ty x f,t,p,af,g⟩ st K = afterV T (.fieldAddr ty x f) d st K (evVal T st.E st.H (.fieldAddr ty x f)) := genA_eq
theorem stepA_field {ty : TypeId} {x : Operand} {f : Nat} : stepA P T ⟨d,.field ty x f,t,p,af,g⟩ st K = afterV T (.field ty x f) d st K (evVal T st.E st.H (.field ty x f)) := genA_eq
theorem stepA_indexAddr {ty : TypeId} {x i : Operand} : stepA P T ⟨d,.indexAddr ty x i,t,p,af,g⟩ st K = afterV T (.indexAddr ty x i) d st K (evVal T st.E st.H (.indexAddr ty x i)) := genA_eq
theorem stepA_index {ty : TypeId} {x i : Operand} : stepA P T ⟨d,.index ty x i,t,p,af,g⟩ st K = afterV T (.index ty x i) d st K (evVal T st.E st.H (.index ty x i)) := genA_eq
theorem stepA_extract {x : Operand} {i : Nat} : stepA P T ⟨d,.extract x i,t,p,af,g⟩ st K = afterV T (.extract x i) d st K (evVal T st.E st.H (.extract x i)) := genA_eq
theorem stepA_build {ty : TypeId} {ps : Array (Nat × Operand)} : stepA P T ⟨d,.build ty ps,t,p,af,g⟩ st K = afterV T (.build ty ps) d st K (evVal T st.E st.H (.build ty ps)) := genA_eq
theorem stepA_makeFunc {f : Fn} {x y : Array Operand} : stepA P T ⟨d,.makeFunc f x y,t,p,af,g⟩ st K = afterV T (.makeFunc f x y) d st K (evVal T st.E st.H (.makeFunc f x y)) := by
  rw [show stepA P T ⟨d,.makeFunc f x y,t,p,af,g⟩ st K = genA T ⟨d,.makeFunc f x y,t,p,af,g⟩ st K from rfl,genA_eq]
theorem stepA_makeInterface {ty : TypeId} {x : Operand} : stepA P T ⟨d,.makeInterface ty x,t,p,af,g⟩ st K = afterV T (.makeInterface ty x) d st K (evVal T st.E st.H (.makeInterface ty x)) := genA_eq
theorem stepA_lookup {ty : TypeId} {x i : Operand} {c : Bool} : stepA P T ⟨d,.lookup ty x i c,t,p,af,g⟩ st K = afterV T (.lookup ty x i c) d st K (evVal T st.E st.H (.lookup ty x i c)) := genA_eq
theorem stepA_insert {ty : TypeId} {m k x : Operand} : stepA P T ⟨d,.insert ty m k x,t,p,af,g⟩ st K = afterM d st K (evMem T st.nx st.E st.H (.insert ty m k x)) := by
  rw [show stepA P T ⟨d,.insert ty m k x,t,p,af,g⟩ st K = genA T ⟨d,.insert ty m k x,t,p,af,g⟩ st K from rfl,genA_eq]
  rfl
theorem stepA_makeMap {ty : TypeId} {r : Option Operand} : stepA P T ⟨d,.makeMap ty r,t,p,af,g⟩ st K = afterM d st K (evMem T st.nx st.E st.H (.makeMap ty r)) := by
  rw [show stepA P T ⟨d,.makeMap ty r,t,p,af,g⟩ st K = genA T ⟨d,.makeMap ty r,t,p,af,g⟩ st K from rfl,genA_eq]
  rfl
theorem stepA_alloc {ty : TypeId} : stepA P T ⟨d,.alloc ty,t,p,af,g⟩ st K = afterM d st K (evMem T st.nx st.E st.H (.alloc ty)) := by
  rw [show stepA P T ⟨d,.alloc ty,t,p,af,g⟩ st K = genA T ⟨d,.alloc ty,t,p,af,g⟩ st K from rfl,genA_eq]
  rfl
theorem stepA_box {ty : TypeId} {x : Operand} : stepA P T ⟨d,.box ty x,t,p,af,g⟩ st K = afterM d st K (evMem T st.nx st.E st.H (.box ty x)) := by
  rw [show stepA P T ⟨d,.box ty x,t,p,af,g⟩ st K = genA T ⟨d,.box ty x,t,p,af,g⟩ st K from rfl,genA_eq]
  rfl
theorem stepA_store {ty : TypeId} {x y : Operand} : stepA P T ⟨d,.store ty x y,t,p,af,g⟩ st K = afterM d st K (evMem T st.nx st.E st.H (.store ty x y)) := by
  rw [show stepA P T ⟨d,.store ty x y,t,p,af,g⟩ st K = genA T ⟨d,.store ty x y,t,p,af,g⟩ st K from rfl,genA_eq]
  rfl
theorem stepA_buildSlice {ty : TypeId} {m : Nat} {ps : Array (Nat × Operand)} : stepA P T ⟨d,.buildSlice ty m ps,t,p,af,g⟩ st K = afterM d st K (evMem T st.nx st.E st.H (.buildSlice ty m ps)) := by
  rw [show stepA P T ⟨d,.buildSlice ty m ps,t,p,af,g⟩ st K = genA T ⟨d,.buildSlice ty m ps,t,p,af,g⟩ st K from rfl,genA_eq]
  rfl
theorem stepA_makeSlice {ty : TypeId} {x y : Operand} : stepA P T ⟨d,.makeSlice ty x y,t,p,af,g⟩ st K = afterM d st K (evMem T st.nx st.E st.H (.makeSlice ty x y)) := by
  rw [show stepA P T ⟨d,.makeSlice ty x y,t,p,af,g⟩ st K = genA T ⟨d,.makeSlice ty x y,t,p,af,g⟩ st K from rfl,genA_eq]
  rfl
end
theorem afterV_some {op : Op} {d : Option Nat} {st : St} {K : Cont} {ok : Prop} {pv : PV} : afterV T op d st K (some (ok,pv)) = (ok ∧ K .normal ⟨st.n,putL d pv st.env,st.hp,st.nx,st.bs⟩) := (rfl)
theorem afterV_none {op : Op} {d : Option Nat} {st : St} {K : Cont} : afterV T op d st K none = afterM d st K (evMem T st.nx st.E st.H op) := (rfl)
theorem afterM_some {d : Option Nat} {st : St} {K : Cont} {ok : Prop} {pv : PV} {eff : List (Nat × Blk)} : afterM d st K (some (ok,pv,eff)) = (lk st.nx st.hp = none ∧ ok ∧ K .normal ⟨st.n,putL d pv st.env,addL eff st.hp,st.nx + 1,st.bs⟩) := (rfl)
theorem callE_func {args : Array Operand} {d : Option Nat} {st : St} {K : Cont} {g : Nat} : callE P args d st K (.lit (.func (.func g) #[] #[])) = ((∀ x ∈ st.hp,x.1 < st.nx) ∧ st.bs ≤ st.nx ∧ CallA P g (args.toList.map (ev st.E)) st.hp st.nx (callK args d st K) (callP st K)) := by
  simp [callE]
theorem callE_fn {args : Array Operand} {d : Option Nat} {st : St} {K : Cont} {g : Nat} {first cap : List PV} : callE P args d st K (.fn (.func g) first cap) = ((∀ x ∈ st.hp,x.1 < st.nx) ∧ st.bs ≤ st.nx ∧ CallA P g (first ++ args.toList.map (ev st.E) ++ cap) st.hp st.nx (callK args d st K) (callP st K)) := (rfl)
theorem callP_eq {st : St} {K : Cont} {r : PV} {hp : List (Nat × Blk)} {nx : Nat} : callP st K r hp nx = K (.panic r) ⟨st.n,st.env,hp,nx,st.bs⟩ := (rfl)
theorem callK_eq {args : Array Operand} {d : Option Nat} {st : St} {K : Cont} {r : PV} {hp : List (Nat × Blk)} {nx : Nat} : callK args d st K r hp nx = K .normal ⟨st.n,putL d r st.env,hp,nx,st.bs⟩ := (rfl)
def endK (K : PV → List (Nat × Blk) → Nat → Prop) (hp : List (Nat × Blk)) (nx : Nat) : Option (Prop × List PV) → Prop
  | some (ok,rs) => ok ∧ K (oneOf rs) hp nx
  | none => False
theorem bodyA_panic {fn : Func} {K KP : CK} {st : St} {v : PV} : bodyA T fn K KP (.panic v) st = KP v st.hp st.nx := (rfl)
theorem bodyA_normal {fn : Func} {K KP : CK} {st : St} : bodyA T fn K KP .normal st = endK K st.hp st.nx (resListA T st fn.results.toList) := by
  simp only [bodyA]
  generalize resListA T st fn.results.toList = q
  cases q <;> rfl
theorem bodyA_ret {fn : Func} {K KP : CK} {st : St} : bodyA T fn K KP .ret st = endK K st.hp st.nx (resListA T st fn.results.toList) := by
  simp only [bodyA]
  generalize resListA T st fn.results.toList = q
  cases q <;> rfl
theorem endK_some {K : PV → List (Nat × Blk) → Nat → Prop} {hp : List (Nat × Blk)} {nx : Nat} {ok : Prop} {rs : List PV} : endK K hp nx (some (ok,rs)) = (ok ∧ K (oneOf rs) hp nx) := (rfl)
end
end Go.Pe
namespace Go.Pe
open Go.RowKit
section
variable (P : Program) (T : Tab)
def endD (ops : Array Oper) (log : Log) (st : St) (K : Cont) : Prop := logsOK ops log = true ∧ K .normal st
def altD (ops : Array Oper) (i : Nat) (os : List Oper) (o : Oper) (log : Log) (st : St) (K : Cont) : Prop := (tailB ops i = true ∧ logsOK ops log = true ∧ stepA P T o st (restK P T ops.toList os K)) ∨ panP P ops i o log st K
def nextD (ops : Array Oper) (i : Nat) (os : List Oper) (d : Option Nat) (log : Log) (st : St) (K : Cont) (pv : PV) (eff : List (Nat × Blk)) (rd : List Nat) : Prop :=
  drawGo P T ops (i + 1) os ((i,rd,eff.map (·.1)) :: log) ⟨st.n,putL d pv st.env,addL eff st.hp,st.nx + 1,st.bs⟩ K
def drawK (ops : Array Oper) (i : Nat) (os : List Oper) (o : Oper) (log : Log) (st : St) (K : Cont) : Option Bool → Prop
  | some b => (b = true → stepD P T st.E st.H st.nx o.op (altD P T ops i os o log st K) (nextD P T ops i os o.dst log st K)) ∧ (b = false → drawGo P T ops (i + 1) os log ⟨st.n,putL o.dst (.lit (.tuple #[])) st.env,st.hp,st.nx + 1,st.bs⟩ K)
  | none => False
variable {P T}
theorem drawA_eq {ops : Array Oper} {st : St} {K : Cont} : drawA P T ops st K = drawGo P T ops 0 ops.toList [] st K := (rfl)
theorem drawGo_nil {ops : Array Oper} {i : Nat} {log : Log} {st : St} {K : Cont} : drawGo P T ops i [] log st K = endD ops log st K := by simp only [drawGo,endD]
theorem drawGo_cons {ops : Array Oper} {i : Nat} {o : Oper} {os : List Oper} {log : Log} {st : St} {K : Cont} : drawGo P T ops i (o :: os) log st K = (dstOK o.dst st.n ∧ drawK P T ops i os o log st K (wantA ops.toList st o)) := by
  simp only [drawGo]
  congr 1
theorem drawK_true {ops : Array Oper} {i : Nat} {o : Oper} {os : List Oper} {log : Log} {st : St} {K : Cont} : drawK P T ops i os o log st K (some true) = stepD P T st.E st.H st.nx o.op (altD P T ops i os o log st K) (nextD P T ops i os o.dst log st K) := by simp [drawK]
theorem drawK_false {ops : Array Oper} {i : Nat} {o : Oper} {os : List Oper} {log : Log} {st : St} {K : Cont} : drawK P T ops i os o log st K (some false) = drawGo P T ops (i + 1) os log ⟨st.n,putL o.dst (.lit (.tuple #[])) st.env,st.hp,st.nx + 1,st.bs⟩ K := by simp [drawK]
theorem drawK_split {ops : Array Oper} {i : Nat} {o : Oper} {os : List Oper} {log : Log} {st : St} {K : Cont} {b : Bool} (ht : b = true → stepD P T st.E st.H st.nx o.op (altD P T ops i os o log st K) (nextD P T ops i os o.dst log st K)) (hf : b = false → drawGo P T ops (i + 1) os log ⟨st.n,putL o.dst (.lit (.tuple #[])) st.env,st.hp,st.nx + 1,st.bs⟩ K) : drawK P T ops i os o log st K (some b) := ⟨ht,hf⟩
theorem nextD_eq {ops : Array Oper} {i : Nat} {os : List Oper} {d : Option Nat} {log : Log} {st : St} {K : Cont} {pv : PV} {eff : List (Nat × Blk)} {rd : List Nat} : nextD P T ops i os d log st K pv eff rd = drawGo P T ops (i + 1) os ((i,rd,eff.map (·.1)) :: log) ⟨st.n,putL d pv st.env,addL eff st.hp,st.nx + 1,st.bs⟩ K := (rfl)
theorem endD_intro {ops : Array Oper} {log : Log} {st : St} {K : Cont} (h : logsOK ops log = true) (hK : K .normal st) : endD ops log st K := ⟨h,hK⟩
theorem valD_some {E : Env} {H : Heap} {fresh : Nat} {op : Op} {k : PV → List (Nat × Blk) → List Nat → Prop} {ok : Prop} {pv : PV} : valD T E H fresh op k (some (ok,pv)) = (ok ∧ k pv [] (rdA E op)) := (rfl)
theorem valD_none {E : Env} {H : Heap} {fresh : Nat} {op : Op} {k : PV → List (Nat × Blk) → List Nat → Prop} : valD T E H fresh op k none = memD T E H fresh op k (evMem T fresh E H op) := (rfl)
theorem memD_some {E : Env} {H : Heap} {fresh : Nat} {op : Op} {k : PV → List (Nat × Blk) → List Nat → Prop} {ok : Prop} {pv : PV} {eff : List (Nat × Blk)} : memD T E H fresh op k (some (ok,pv,eff)) = (H fresh = none ∧ ok ∧ k pv eff (fresh :: rdA E op)) := (rfl)
theorem callD_pure {H : Heap} {alt : Prop} {k : PV → List (Nat × Blk) → List Nat → Prop} {g : FuncId} {args args' : List PV} {pv : PV} (h : PureCalls P g args' pv) (hf : FrzRL H args args') (hk : k pv (if noSl pv then [] else frzDL H args) (deepL args)) : callD P H alt k (some (g,args)) := .inl ⟨args',pv,⟨h,hf⟩,hk⟩
theorem callD_tail {H : Heap} {k : PV → List (Nat × Blk) → List Nat → Prop} {c : Option (FuncId × List PV)} {ops : Array Oper} {i : Nat} {os : List Oper} {o : Oper} {log : Log} {st : St} {K : Cont} (h1 : tailB ops i = true) (h2 : logsOK ops log = true) (h3 : stepA P T o st (restK P T ops.toList os K)) : callD P H (altD P T ops i os o log st K) k c := .inr (.inr (.inl ⟨h1,h2,h3⟩))
theorem callD_pan {H : Heap} {k : PV → List (Nat × Blk) → List Nat → Prop} {c : Option (FuncId × List PV)} {ops : Array Oper} {i : Nat} {os : List Oper} {o : Oper} {log : Log} {st : St} {K : Cont} {g : FuncId} {args : List PV} {pv : PV} {eff : List (Nat × Blk)} (s : St)
    (h : PanCalls P g args st.H pv eff) (hc : callOf st.E o.op = some (g,args)) (h1 : tailP ops i = true) (h2 : logsOK ops ((i,footL args,eff.map (·.1)) :: log) = true) (h3 : PanW ops st log eff pv s) (h4 : K (.panic pv) s) : callD P H (altD P T ops i os o log st K) k c :=
  .inr (.inr (.inr ⟨g,args,pv,eff,s,hc,h,h1,h2,h3,h4⟩))
theorem callD_eff {H : Heap} {alt : Prop} {k : PV → List (Nat × Blk) → List Nat → Prop} {g : FuncId} {args : List PV} {pv : PV} {eff : List (Nat × Blk)} (h : EffCalls P g args H pv eff) (hk : k pv eff (footL args)) : callD P H alt k (some (g,args)) := .inr (.inl ⟨pv,eff,h,hk⟩)
section
variable {E : Env} {H : Heap} {fresh : Nat} {alt : Prop} {k : PV → List (Nat × Blk) → List Nat → Prop}
theorem stepD_call {f : Operand} {args : Array Operand} {ats : Array TypeId} : stepD P T E H fresh (.call ⟨.value f,args,ats⟩) alt k = callD P H alt k (calleeA (ev E f) (args.toList.map (ev E))) := (rfl)
theorem stepD_builtin {b : Builtin} {args : Array Operand} {ats : Array TypeId} : stepD P T E H fresh (.call ⟨.builtin b,args,ats⟩) alt k = valD T E H fresh (.call ⟨.builtin b,args,ats⟩) k (callA T E H ⟨.builtin b,args,ats⟩) := (rfl)
theorem stepD_move {x : Operand} : stepD P T E H fresh (.move x) alt k = k (ev E x) [] [] := by
  rw [show stepD P T E H fresh (.move x) alt k = valD T E H fresh (.move x) k (some (True,ev E x)) from rfl,valD_some]
  simp [rdA]
theorem stepD_assign {x : Operand} : stepD P T E H fresh (.assign x) alt k = k (ev E x) [] [] := by
  rw [show stepD P T E H fresh (.assign x) alt k = valD T E H fresh (.assign x) k (some (True,ev E x)) from rfl,valD_some]
  simp [rdA]
theorem stepD_pick {c x y : Operand} : stepD P T E H fresh (.pick c x y) alt k = valD T E H fresh (.pick c x y) k (evVal T E H (.pick c x y)) := (rfl)
theorem stepD_load {ty : TypeId} {x : Operand} : stepD P T E H fresh (.load ty x) alt k = valD T E H fresh (.load ty x) k (evVal T E H (.load ty x)) := (rfl)
theorem stepD_nilCheck {x : Operand} : stepD P T E H fresh (.nilCheck x) alt k = valD T E H fresh (.nilCheck x) k (evVal T E H (.nilCheck x)) := (rfl)
theorem stepD_binOp {o : BinOp} {ty ty' : TypeId} {x y : Operand} : stepD P T E H fresh (.binOp o ty x y ty') alt k = valD T E H fresh (.binOp o ty x y ty') k (evVal T E H (.binOp o ty x y ty')) := (rfl)
theorem stepD_unOp {o : UnOp} {ty : TypeId} {x : Operand} : stepD P T E H fresh (.unOp o ty x) alt k = valD T E H fresh (.unOp o ty x) k (evVal T E H (.unOp o ty x)) := (rfl)
theorem stepD_convert {ty ty' : TypeId} {x : Operand} : stepD P T E H fresh (.convert ty ty' x) alt k = valD T E H fresh (.convert ty ty' x) k (evVal T E H (.convert ty ty' x)) := (rfl)
theorem stepD_slice {ty : TypeId} {x : Operand} {lo hi mx : Option Operand} : stepD P T E H fresh (.slice ty x lo hi mx) alt k = valD T E H fresh (.slice ty x lo hi mx) k (evVal T E H (.slice ty x lo hi mx)) := (rfl)
theorem stepD_fieldAddr {ty : TypeId} {x : Operand} {f : Nat} : stepD P T E H fresh (.fieldAddr ty x f) alt k = valD T E H fresh (.fieldAddr ty x f) k (evVal T E H (.fieldAddr ty x f)) := (rfl)
theorem stepD_field {ty : TypeId} {x : Operand} {f : Nat} : stepD P T E H fresh (.field ty x f) alt k = valD T E H fresh (.field ty x f) k (evVal T E H (.field ty x f)) := (rfl)
theorem stepD_indexAddr {ty : TypeId} {x i : Operand} : stepD P T E H fresh (.indexAddr ty x i) alt k = valD T E H fresh (.indexAddr ty x i) k (evVal T E H (.indexAddr ty x i)) := (rfl)
theorem stepD_index {ty : TypeId} {x i : Operand} : stepD P T E H fresh (.index ty x i) alt k = valD T E H fresh (.index ty x i) k (evVal T E H (.index ty x i)) := (rfl)
theorem stepD_extract {x : Operand} {i : Nat} : stepD P T E H fresh (.extract x i) alt k = valD T E H fresh (.extract x i) k (evVal T E H (.extract x i)) := (rfl)
theorem stepD_build {ty : TypeId} {ps : Array (Nat × Operand)} : stepD P T E H fresh (.build ty ps) alt k = valD T E H fresh (.build ty ps) k (evVal T E H (.build ty ps)) := (rfl)
theorem stepD_makeFunc {f : Fn} {x y : Array Operand} : stepD P T E H fresh (.makeFunc f x y) alt k = valD T E H fresh (.makeFunc f x y) k (evVal T E H (.makeFunc f x y)) := (rfl)
theorem stepD_alloc {ty : TypeId} : stepD P T E H fresh (.alloc ty) alt k = memD T E H fresh (.alloc ty) k (evMem T fresh E H (.alloc ty)) := (rfl)
theorem stepD_box {ty : TypeId} {x : Operand} : stepD P T E H fresh (.box ty x) alt k = memD T E H fresh (.box ty x) k (evMem T fresh E H (.box ty x)) := (rfl)
theorem stepD_store {ty : TypeId} {x y : Operand} : stepD P T E H fresh (.store ty x y) alt k = memD T E H fresh (.store ty x y) k (evMem T fresh E H (.store ty x y)) := (rfl)
theorem stepD_buildSlice {ty : TypeId} {m : Nat} {ps : Array (Nat × Operand)} : stepD P T E H fresh (.buildSlice ty m ps) alt k = memD T E H fresh (.buildSlice ty m ps) k (evMem T fresh E H (.buildSlice ty m ps)) := (rfl)
theorem stepD_makeSlice {ty : TypeId} {x y : Operand} : stepD P T E H fresh (.makeSlice ty x y) alt k = memD T E H fresh (.makeSlice ty x y) k (evMem T fresh E H (.makeSlice ty x y)) := (rfl)
theorem stepD_makeInterface {ty : TypeId} {x : Operand} : stepD P T E H fresh (.makeInterface ty x) alt k = valD T E H fresh (.makeInterface ty x) k (evVal T E H (.makeInterface ty x)) := (rfl)
theorem stepD_lookup {ty : TypeId} {x i : Operand} {c : Bool} : stepD P T E H fresh (.lookup ty x i c) alt k = valD T E H fresh (.lookup ty x i c) k (evVal T E H (.lookup ty x i c)) := (rfl)
theorem stepD_insert {ty : TypeId} {m k' x : Operand} : stepD P T E H fresh (.insert ty m k' x) alt k = memD T E H fresh (.insert ty m k' x) k (evMem T fresh E H (.insert ty m k' x)) := (rfl)
theorem stepD_makeMap {ty : TypeId} {r : Option Operand} : stepD P T E H fresh (.makeMap ty r) alt k = memD T E H fresh (.makeMap ty r) k (evMem T fresh E H (.makeMap ty r)) := (rfl)
theorem calleeA_func {g : Nat} {args : List PV} : calleeA (.lit (.func (.func g) #[] #[])) args = some (g,args) := by simp [calleeA]
theorem calleeA_fn {g : Nat} {first cap args : List PV} : calleeA (.fn (.func g) first cap) args = some (g,first ++ args ++ cap) := (rfl)
end
end
attribute [go_sem] loopKS_ret loopKS_exit loopKS_panic wpA_skip wpA_region wpA_draw wpA_seq wpA_cond wpA_block wpA_exit wpA_ret wpA_scope seqK_normal seqK_ret seqK_exit blkK_normal blkK_ret blkK_exit loopK_ret loopK_exit restK_eq restK_panic seqK_panic blkK_panic loopK_panic bodyA_panic stepA_panic panicA_iface stepA_makeInterface stepA_lookup stepA_insert stepA_makeMap binK_none binK_eql binK_neq nilQ nilO nilR nilT isSl stepD_makeInterface stepD_lookup stepD_insert stepD_makeMap sliceNil keysOK lookB lookV zeroPV capNil zeroLen appendZ insA sliceOwn eqA aggEq clearA Option.isSome_some Option.isSome_none Option.isNone_none Option.isNone_some callP_eq condK_true condK_false
  wpOpsA_nil wpOpsA_cons wantK_true wantK_false wantA_none wantA_some wantB_true wantB_false wantP wantD dstOK_none dstOK_some putL_none putL_some ev_tmp ev_const ev_func
  stepA_call stepA_builtin stepA_move stepA_assign stepA_pick stepA_load stepA_nilCheck stepA_binOp stepA_unOp stepA_convert stepA_slice stepA_fieldAddr stepA_field stepA_indexAddr stepA_index stepA_extract stepA_build stepA_makeFunc
  stepA_alloc stepA_box stepA_store stepA_buildSlice stepA_makeSlice afterV_some afterV_none afterM_some callE_func callE_fn callK_eq bodyA_normal bodyA_ret endK_some
attribute [go_sem] drawA_eq drawGo_nil drawGo_cons drawK_true drawK_false nextD_eq valD_some valD_none memD_some stepD_call stepD_builtin stepD_move stepD_assign stepD_pick stepD_load stepD_nilCheck stepD_binOp stepD_unOp stepD_convert stepD_slice
  stepD_fieldAddr stepD_field stepD_indexAddr stepD_index stepD_extract stepD_build stepD_makeFunc stepD_alloc stepD_box stepD_store stepD_buildSlice stepD_makeSlice calleeA_func calleeA_fn
theorem H_eq {st : St} {b : Nat} : st.H b = lk b st.hp := (rfl)
theorem E_eq {st : St} {b : Nat} : st.E b = lk b st.env := (rfl)
theorem hpF_eq {hp : List (Nat × Blk)} {b : Nat} : hpF hp b = lk b hp := (rfl)
theorem wantK_splitN {P : Program} {T : Tab} {all os : List Oper} {o : Oper} {st : St} {K : Cont} {b : Bool} (ht : b = false → stepA P T o st (restK P T all os K)) (hf : b = true → wpOpsA P T all os ⟨st.n,putL o.dst (.lit (.tuple #[])) st.env,st.hp,st.nx,st.bs⟩ K) :
    wantK P T all os o st K (some (!b)) := ⟨fun h => ht (by simpa using h),fun h => hf (by simpa using h)⟩
theorem condK_splitN {P : Program} {T : Tab} {x y : Code} {st : St} {Q : Cont} {b : Bool} (ht : b = false → wpA P T x st Q) (hf : b = true → wpA P T y st Q) : condK P T x y st Q (.lit (.bool (!b))) := ⟨fun h => ht (by simpa using h),fun h => hf (by simpa using h)⟩
theorem drawK_splitN {P : Program} {T : Tab} {ops : Array Oper} {i : Nat} {o : Oper} {os : List Oper} {log : Log} {st : St} {K : Cont} {b : Bool} (ht : b = false → stepD P T st.E st.H st.nx o.op (altD P T ops i os o log st K) (nextD P T ops i os o.dst log st K)) (hf : b = true → drawGo P T ops (i + 1) os log ⟨st.n,putL o.dst (.lit (.tuple #[])) st.env,st.hp,st.nx + 1,st.bs⟩ K) : drawK P T ops i os o log st K (some (!b)) := ⟨fun h => ht (by simpa using h),fun h => hf (by simpa using h)⟩
theorem frzEff_nil {H : Heap} : frzEff H [] = [] := (rfl)
theorem frzEff_cons {H : Heap} {x : PV} {l : List PV} : frzEff H (x :: l) = frzOne H x ++ frzEff H l := (rfl)
attribute [go_sem] frzEff_nil frzEff_cons frzOne List.range_zero List.range_succ List.nil_append
attribute [go_sem] Bool.false_or Bool.or_false Bool.true_or Bool.or_true Bool.or_self List.append_eq List.toList_toArray Bool.not_not Int.cast_ofNat_Int
attribute [go_sem] H_eq E_eq hpF_eq
attribute [go_sem] Nat.zero_add Nat.add_zero Option.getD_some Option.getD_none Option.map_some Option.map_none Option.bind_some Option.bind_none Option.isSome_some Option.isSome_none List.getElem?_cons_zero List.getElem?_cons_succ List.getElem?_nil List.drop_zero List.drop_succ_cons List.drop_nil List.headD_cons
  List.map_cons List.map_nil List.all_cons List.all_nil Bool.and_self Bool.and_true Bool.true_and Bool.and_false Bool.false_and Bool.not_true Bool.not_false and_true true_and and_self or_true true_or or_self isCell Value.oneCell' List.length_cons List.length_nil ne_eq not_false_eq_true not_true_eq_false or_false false_or
  Nat.le_refl Nat.succ_ne_zero List.take_zero List.take_succ_cons List.take_nil Bool.false_eq_true List.nil_append List.cons_append List.append_nil List.forall_mem_cons List.not_mem_nil forall_const eq_self decide_true decide_false List.cons.injEq Prod.mk.injEq forall_eq imp_self implies_true false_imp_iff true_imp_iff
  List.getD_cons_zero List.getD_cons_succ List.flatMap_cons List.flatMap_nil
attribute [go_sem] exists_false PV.lit.injEq Value.int.injEq Value.bool.injEq Value.string.injEq PV.agg.injEq PV.im.injEq PV.tup.injEq
attribute [go_sem] litRowsA litCells srcA srcB appendA isNil
attribute [go_sem] footL ptrsOf lk evMem evVal buildA fillA cellsA splice addL resListA resOneA ld ldOK oneOf enumFrom rdA topB rdOps rdSt deepB deepL binA intA unA boundA mxOK sliceA stepIn nilA nilLit nilFn lenA litLen callA convA convB asIm litRows noSl noSlL frzC frzCs
end Go.Pe
