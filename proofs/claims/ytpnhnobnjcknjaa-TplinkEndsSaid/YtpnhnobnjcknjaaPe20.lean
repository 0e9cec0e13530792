/- Regions that draw, in equations; what simp is to follow. -/
import Derived.Test.YtpnhnobnjcknjaaPe19
set_option linter.unusedVariables false
set_option linter.unusedSimpArgs false
namespace Go.Pe
open Go.RowKit

section
variable (P : Program) (T : Tab)
def endD (ops : Array Oper) (log : Log) (st : St) (K : Cont) : Prop := logsOK ops log = true ∧ K .normal st
def altD (ops : Array Oper) (i : Nat) (os : List Oper) (o : Oper) (log : Log) (st : St) (K : Cont) : Prop := tailB ops i = true ∧ logsOK ops log = true ∧ stepA P T o st (restK P T ops.toList os K)
def nextD (ops : Array Oper) (i : Nat) (os : List Oper) (d : Option Nat) (log : Log) (st : St) (K : Cont) (pv : PV) (eff : List (Nat × Blk)) (rd : List Nat) : Prop :=
  drawGo P T ops (i + 1) os ((i, rd, eff.map (·.1)) :: log) ⟨st.n, putL d pv st.env, addL eff st.hp, st.nx + 1, st.bs⟩ K
def drawK (ops : Array Oper) (i : Nat) (os : List Oper) (o : Oper) (log : Log) (st : St) (K : Cont) : Option Bool → Prop
  | some b => (b = true → stepD P T st.E st.H st.nx o.op (altD P T ops i os o log st K) (nextD P T ops i os o.dst log st K)) ∧ (b = false → drawGo P T ops (i + 1) os log ⟨st.n, putL o.dst (.lit (.tuple #[])) st.env, st.hp, st.nx + 1, st.bs⟩ K)
  | none => False
variable {P T}
theorem drawA_eq {ops : Array Oper} {st : St} {K : Cont} : drawA P T ops st K = drawGo P T ops 0 ops.toList [] st K := (rfl)
theorem drawGo_nil {ops : Array Oper} {i : Nat} {log : Log} {st : St} {K : Cont} : drawGo P T ops i [] log st K = endD ops log st K := by simp only [drawGo, endD]
theorem drawGo_cons {ops : Array Oper} {i : Nat} {o : Oper} {os : List Oper} {log : Log} {st : St} {K : Cont} : drawGo P T ops i (o :: os) log st K = (dstOK o.dst st.n ∧ drawK P T ops i os o log st K (wantA ops.toList st o)) := by
  simp only [drawGo]
  congr 1
theorem drawK_true {ops : Array Oper} {i : Nat} {o : Oper} {os : List Oper} {log : Log} {st : St} {K : Cont} : drawK P T ops i os o log st K (some true) = stepD P T st.E st.H st.nx o.op (altD P T ops i os o log st K) (nextD P T ops i os o.dst log st K) := by simp [drawK]
theorem drawK_false {ops : Array Oper} {i : Nat} {o : Oper} {os : List Oper} {log : Log} {st : St} {K : Cont} : drawK P T ops i os o log st K (some false) = drawGo P T ops (i + 1) os log ⟨st.n, putL o.dst (.lit (.tuple #[])) st.env, st.hp, st.nx + 1, st.bs⟩ K := by simp [drawK]
theorem drawK_split {ops : Array Oper} {i : Nat} {o : Oper} {os : List Oper} {log : Log} {st : St} {K : Cont} {b : Bool} (ht : b = true → stepD P T st.E st.H st.nx o.op (altD P T ops i os o log st K) (nextD P T ops i os o.dst log st K)) (hf : b = false → drawGo P T ops (i + 1) os log ⟨st.n, putL o.dst (.lit (.tuple #[])) st.env, st.hp, st.nx + 1, st.bs⟩ K) : drawK P T ops i os o log st K (some b) := ⟨ht, hf⟩
theorem nextD_eq {ops : Array Oper} {i : Nat} {os : List Oper} {d : Option Nat} {log : Log} {st : St} {K : Cont} {pv : PV} {eff : List (Nat × Blk)} {rd : List Nat} : nextD P T ops i os d log st K pv eff rd = drawGo P T ops (i + 1) os ((i, rd, eff.map (·.1)) :: log) ⟨st.n, putL d pv st.env, addL eff st.hp, st.nx + 1, st.bs⟩ K := (rfl)
theorem endD_intro {ops : Array Oper} {log : Log} {st : St} {K : Cont} (h : logsOK ops log = true) (hK : K .normal st) : endD ops log st K := ⟨h, hK⟩
theorem valD_some {E : Env} {H : Heap} {fresh : Nat} {op : Op} {k : PV → List (Nat × Blk) → List Nat → Prop} {ok : Prop} {pv : PV} : valD T E H fresh op k (some (ok, pv)) = (ok ∧ k pv [] (rdA E op)) := (rfl)
theorem valD_none {E : Env} {H : Heap} {fresh : Nat} {op : Op} {k : PV → List (Nat × Blk) → List Nat → Prop} : valD T E H fresh op k none = memD T E H fresh op k (evMem T fresh E H op) := (rfl)
theorem memD_some {E : Env} {H : Heap} {fresh : Nat} {op : Op} {k : PV → List (Nat × Blk) → List Nat → Prop} {ok : Prop} {pv : PV} {eff : List (Nat × Blk)} : memD T E H fresh op k (some (ok, pv, eff)) = (H fresh = none ∧ ok ∧ k pv eff (fresh :: rdA E op)) := (rfl)
/-- A call by its contract, in a region that draws. -/
theorem callD_pure {H : Heap} {alt : Prop} {k : PV → List (Nat × Blk) → List Nat → Prop} {g : FuncId} {args args' : List PV} {pv : PV} (h : PureCalls P g args' pv) (hf : FrzRL H args args') (hk : k pv (if noSl pv then [] else frzDL H args) (deepL args)) : callD P H alt k (some (g, args)) := .inl ⟨args', pv, ⟨h, hf⟩, hk⟩
theorem callD_tail {H : Heap} {k : PV → List (Nat × Blk) → List Nat → Prop} {c : Option (FuncId × List PV)} {ops : Array Oper} {i : Nat} {os : List Oper} {o : Oper} {log : Log} {st : St} {K : Cont} (h1 : tailB ops i = true) (h2 : logsOK ops log = true) (h3 : stepA P T o st (restK P T ops.toList os K)) : callD P H (altD P T ops i os o log st K) k c := .inr (.inr ⟨h1, h2, h3⟩)
theorem callD_eff {H : Heap} {alt : Prop} {k : PV → List (Nat × Blk) → List Nat → Prop} {g : FuncId} {args : List PV} {pv : PV} {eff : List (Nat × Blk)} (h : EffCalls P g args H pv eff) (hk : k pv eff (footL args)) : callD P H alt k (some (g, args)) := .inr (.inl ⟨pv, eff, h, hk⟩)
section
variable {E : Env} {H : Heap} {fresh : Nat} {alt : Prop} {k : PV → List (Nat × Blk) → List Nat → Prop}
theorem stepD_call {f : Operand} {args : Array Operand} {ats : Array TypeId} : stepD P T E H fresh (.call ⟨.value f, args, ats⟩) alt k = callD P H alt k (calleeA (ev E f) (args.toList.map (ev E))) := (rfl)
theorem stepD_builtin {b : Builtin} {args : Array Operand} {ats : Array TypeId} : stepD P T E H fresh (.call ⟨.builtin b, args, ats⟩) alt k = valD T E H fresh (.call ⟨.builtin b, args, ats⟩) k (callA T E H ⟨.builtin b, args, ats⟩) := (rfl)
theorem stepD_move {x : Operand} : stepD P T E H fresh (.move x) alt k = k (ev E x) [] [] := by
  rw [show stepD P T E H fresh (.move x) alt k = valD T E H fresh (.move x) k (some (True, ev E x)) from rfl, valD_some]
  simp [rdA]
theorem stepD_assign {x : Operand} : stepD P T E H fresh (.assign x) alt k = k (ev E x) [] [] := by
  rw [show stepD P T E H fresh (.assign x) alt k = valD T E H fresh (.assign x) k (some (True, ev E x)) from rfl, valD_some]
  simp [rdA]
theorem stepD_pick {c x y : Operand} : stepD P T E H fresh (.pick c x y) alt k = valD T E H fresh (.pick c x y) k (evVal T E H (.pick c x y)) := (rfl)
theorem stepD_load {ty : TypeId} {x : Operand} : stepD P T E H fresh (.load ty x) alt k = valD T E H fresh (.load ty x) k (evVal T E H (.load ty x)) := (rfl)
theorem stepD_nilCheck {x : Operand} : stepD P T E H fresh (.nilCheck x) alt k = valD T E H fresh (.nilCheck x) k (evVal T E H (.nilCheck x)) := (rfl)
theorem stepD_binOp {o : BinOp} {ty ty' : TypeId} {x y : Operand} : stepD P T E H fresh (.binOp o ty x y ty') alt k = valD T E H fresh (.binOp o ty x y ty') k (evVal T E H (.binOp o ty x y ty')) := (rfl)
theorem stepD_unOp {o : UnOp} {ty : TypeId} {x : Operand} : stepD P T E H fresh (.unOp o ty x) alt k = valD T E H fresh (.unOp o ty x) k (evVal T E H (.unOp o ty x)) := (rfl)
theorem stepD_convert {ty ty' : TypeId} {x : Operand} : stepD P T E H fresh (.convert ty ty' x) alt k = valD T E H fresh (.convert ty ty' x) k (evVal T E H (.convert ty ty' x)) := (rfl)
theorem stepD_slice {ty : TypeId} {x : Operand} {lo hi mx : Option Operand} : stepD P T E H fresh (.slice ty x lo hi mx) alt k = valD T E H fresh (.slice ty x lo hi mx) k (evVal T E H (.slice ty x lo hi mx)) := (rfl)
theorem stepD_fieldAddr {ty : TypeId} {x : Operand} {f : Nat} : stepD P T E H fresh (.fieldAddr ty x f) alt k = valD T E H fresh (.fieldAddr ty x f) k (evVal T E H (.fieldAddr ty x f)) := (rfl)
theorem stepD_field {ty : TypeId} {x : Operand} {f : Nat} : stepD P T E H fresh (.field ty x f) alt k = valD T E H fresh (.field ty x f) k (evVal T E H (.field ty x f)) := (rfl)
theorem stepD_indexAddr {ty : TypeId} {x i : Operand} : stepD P T E H fresh (.indexAddr ty x i) alt k = valD T E H fresh (.indexAddr ty x i) k (evVal T E H (.indexAddr ty x i)) := (rfl)
theorem stepD_index {ty : TypeId} {x i : Operand} : stepD P T E H fresh (.index ty x i) alt k = valD T E H fresh (.index ty x i) k (evVal T E H (.index ty x i)) := (rfl)
theorem stepD_extract {x : Operand} {i : Nat} : stepD P T E H fresh (.extract x i) alt k = valD T E H fresh (.extract x i) k (evVal T E H (.extract x i)) := (rfl)
theorem stepD_build {ty : TypeId} {ps : Array (Nat × Operand)} : stepD P T E H fresh (.build ty ps) alt k = valD T E H fresh (.build ty ps) k (evVal T E H (.build ty ps)) := (rfl)
theorem stepD_makeFunc {f : Fn} {x y : Array Operand} : stepD P T E H fresh (.makeFunc f x y) alt k = valD T E H fresh (.makeFunc f x y) k (evVal T E H (.makeFunc f x y)) := (rfl)
theorem stepD_alloc {ty : TypeId} : stepD P T E H fresh (.alloc ty) alt k = memD T E H fresh (.alloc ty) k (evMem T fresh E H (.alloc ty)) := (rfl)
theorem stepD_box {ty : TypeId} {x : Operand} : stepD P T E H fresh (.box ty x) alt k = memD T E H fresh (.box ty x) k (evMem T fresh E H (.box ty x)) := (rfl)
theorem stepD_store {ty : TypeId} {x y : Operand} : stepD P T E H fresh (.store ty x y) alt k = memD T E H fresh (.store ty x y) k (evMem T fresh E H (.store ty x y)) := (rfl)
theorem stepD_buildSlice {ty : TypeId} {m : Nat} {ps : Array (Nat × Operand)} : stepD P T E H fresh (.buildSlice ty m ps) alt k = memD T E H fresh (.buildSlice ty m ps) k (evMem T fresh E H (.buildSlice ty m ps)) := (rfl)
theorem stepD_makeSlice {ty : TypeId} {x y : Operand} : stepD P T E H fresh (.makeSlice ty x y) alt k = memD T E H fresh (.makeSlice ty x y) k (evMem T fresh E H (.makeSlice ty x y)) := (rfl)
theorem stepD_makeInterface {ty : TypeId} {x : Operand} : stepD P T E H fresh (.makeInterface ty x) alt k = valD T E H fresh (.makeInterface ty x) k (evVal T E H (.makeInterface ty x)) := (rfl)
theorem stepD_lookup {ty : TypeId} {x i : Operand} {c : Bool} : stepD P T E H fresh (.lookup ty x i c) alt k = valD T E H fresh (.lookup ty x i c) k (evVal T E H (.lookup ty x i c)) := (rfl)
theorem stepD_insert {ty : TypeId} {m k' x : Operand} : stepD P T E H fresh (.insert ty m k' x) alt k = memD T E H fresh (.insert ty m k' x) k (evMem T fresh E H (.insert ty m k' x)) := (rfl)
theorem stepD_makeMap {ty : TypeId} {r : Option Operand} : stepD P T E H fresh (.makeMap ty r) alt k = memD T E H fresh (.makeMap ty r) k (evMem T fresh E H (.makeMap ty r)) := (rfl)
theorem calleeA_func {g : Nat} {args : List PV} : calleeA (.lit (.func (.func g) #[] #[])) args = some (g, args) := by simp [calleeA]
theorem calleeA_fn {g : Nat} {first cap args : List PV} : calleeA (.fn (.func g) first cap) args = some (g, first ++ args ++ cap) := (rfl)
end
end

attribute [go_sem] loopKS_ret loopKS_exit loopKS_panic wpA_skip wpA_region wpA_draw wpA_seq wpA_cond wpA_block wpA_exit wpA_ret wpA_scope seqK_normal seqK_ret seqK_exit blkK_normal blkK_ret blkK_exit loopK_ret loopK_exit restK_eq restK_panic seqK_panic blkK_panic loopK_panic bodyA_panic stepA_panic panicA_iface stepA_makeInterface stepA_lookup stepA_insert stepA_makeMap binK_none binK_eql binK_neq nilQ nilO nilR nilT isSl stepD_makeInterface stepD_lookup stepD_insert stepD_makeMap sliceNil keysOK lookB lookV capNil zeroLen appendZ insA sliceOwn callP_eq condK_true condK_false
  wpOpsA_nil wpOpsA_cons wantK_true wantK_false wantA_none wantA_some wantB_true wantB_false wantP wantD dstOK_none dstOK_some putL_none putL_some ev_tmp ev_const ev_func
  stepA_call stepA_builtin stepA_move stepA_assign stepA_pick stepA_load stepA_nilCheck stepA_binOp stepA_unOp stepA_convert stepA_slice stepA_fieldAddr stepA_field stepA_indexAddr stepA_index stepA_extract stepA_build stepA_makeFunc
  stepA_alloc stepA_box stepA_store stepA_buildSlice stepA_makeSlice afterV_some afterV_none afterM_some callE_func callE_fn callK_eq bodyA_normal bodyA_ret endK_some
attribute [go_sem] drawA_eq drawGo_nil drawGo_cons drawK_true drawK_false nextD_eq valD_some valD_none memD_some stepD_call stepD_builtin stepD_move stepD_assign stepD_pick stepD_load stepD_nilCheck stepD_binOp stepD_unOp stepD_convert stepD_slice
  stepD_fieldAddr stepD_field stepD_indexAddr stepD_index stepD_extract stepD_build stepD_makeFunc stepD_alloc stepD_box stepD_store stepD_buildSlice stepD_makeSlice calleeA_func calleeA_fn
theorem H_eq {st : St} {b : Nat} : st.H b = lk b st.hp := (rfl)
theorem E_eq {st : St} {b : Nat} : st.E b = lk b st.env := (rfl)
theorem hpF_eq {hp : List (Nat × Blk)} {b : Nat} : hpF hp b = lk b hp := (rfl)
theorem wantK_splitN {P : Program} {T : Tab} {all os : List Oper} {o : Oper} {st : St} {K : Cont} {b : Bool} (ht : b = false → stepA P T o st (restK P T all os K)) (hf : b = true → wpOpsA P T all os ⟨st.n, putL o.dst (.lit (.tuple #[])) st.env, st.hp, st.nx, st.bs⟩ K) :
    wantK P T all os o st K (some (!b)) := ⟨fun h => ht (by simpa using h), fun h => hf (by simpa using h)⟩
theorem condK_splitN {P : Program} {T : Tab} {x y : Code} {st : St} {Q : Cont} {b : Bool} (ht : b = false → wpA P T x st Q) (hf : b = true → wpA P T y st Q) : condK P T x y st Q (.lit (.bool (!b))) := ⟨fun h => ht (by simpa using h), fun h => hf (by simpa using h)⟩
theorem drawK_splitN {P : Program} {T : Tab} {ops : Array Oper} {i : Nat} {o : Oper} {os : List Oper} {log : Log} {st : St} {K : Cont} {b : Bool} (ht : b = false → stepD P T st.E st.H st.nx o.op (altD P T ops i os o log st K) (nextD P T ops i os o.dst log st K)) (hf : b = true → drawGo P T ops (i + 1) os log ⟨st.n, putL o.dst (.lit (.tuple #[])) st.env, st.hp, st.nx + 1, st.bs⟩ K) : drawK P T ops i os o log st K (some (!b)) := ⟨fun h => ht (by simpa using h), fun h => hf (by simpa using h)⟩
theorem frzEff_nil {H : Heap} : frzEff H [] = [] := (rfl)
theorem frzEff_cons {H : Heap} {x : PV} {l : List PV} : frzEff H (x :: l) = frzOne H x ++ frzEff H l := (rfl)
attribute [go_sem] frzEff_nil frzEff_cons frzOne List.range_zero List.range_succ List.nil_append
attribute [go_sem] Bool.false_or Bool.or_false Bool.true_or Bool.or_true Bool.or_self List.append_eq List.toList_toArray Bool.not_not Int.cast_ofNat_Int
attribute [go_sem] H_eq E_eq hpF_eq
attribute [go_sem] Nat.zero_add Nat.add_zero Option.getD_some Option.getD_none Option.map_some Option.map_none Option.bind_some Option.bind_none Option.isSome_some Option.isSome_none List.getElem?_cons_zero List.getElem?_cons_succ List.getElem?_nil List.drop_zero List.drop_succ_cons List.drop_nil List.headD_cons
  List.map_cons List.map_nil List.all_cons List.all_nil Bool.and_self Bool.and_true Bool.true_and Bool.and_false Bool.false_and Bool.not_true Bool.not_false and_true true_and and_self or_true true_or or_self isCell Value.oneCell' List.length_cons List.length_nil ne_eq not_false_eq_true not_true_eq_false or_false false_or
  Nat.le_refl Nat.succ_ne_zero List.take_zero List.take_succ_cons List.take_nil Bool.false_eq_true List.nil_append List.cons_append List.append_nil List.forall_mem_cons List.not_mem_nil forall_const eq_self decide_true decide_false List.cons.injEq Prod.mk.injEq forall_eq imp_self implies_true false_imp_iff true_imp_iff
  List.getD_cons_zero List.getD_cons_succ List.flatMap_cons List.flatMap_nil
attribute [go_sem] exists_false PV.lit.injEq Value.int.injEq Value.bool.injEq Value.string.injEq PV.agg.injEq PV.im.injEq PV.tup.injEq
attribute [go_sem] litRowsA litCells srcA srcB appendA isNil
attribute [go_sem] footL ptrsOf lk evMem evVal buildA fillA cellsA splice addL resListA resOneA ld ldOK oneOf enumFrom rdA topB rdOps rdSt deepB deepL binA intA unA boundA mxOK sliceA stepIn nilA nilLit nilFn lenA litLen callA convA convB asIm litRows noSl noSlL frzC frzCs
end Go.Pe
