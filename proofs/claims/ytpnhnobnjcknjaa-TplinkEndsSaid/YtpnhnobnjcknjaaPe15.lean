/- A region that draws its order: run in the text's order, with a log of who reads and writes what. -/
import Derived.Test.YtpnhnobnjcknjaaPeD3
set_option linter.unusedVariables false
set_option linter.unusedSimpArgs false
namespace Go.Pe
open Go.RowKit

/-- The operation's log: its number, what it reads, what it writes. -/
abbrev Log := List (Nat × List Nat × List Nat)
def apartB (rd wr rd' wr' : List Nat) : Bool := wr.all (fun b => !rd'.contains b && !wr'.contains b) && rd.all (fun b => !wr'.contains b)
def logOK (n : Nat) (ms : List Nat) (i : Nat) (rd wr : List Nat) : Log → Bool
  | [] => true
  | e :: l => (apartB e.2.1 e.2.2 rd wr || bef n ms e.1 i) && logOK n ms i rd wr l
def logsOKm (n : Nat) (ms : List Nat) : Log → Bool
  | [] => true
  | e :: l => logOK n ms e.1 e.2.1 e.2.2 l && logsOKm n ms l
def logsOK (ops : Array Oper) (log : Log) : Bool := withMasks ops fun ms => logsOKm ops.size ms log
/-- From i on every operation is behind all that stand ahead of it. -/
def tailB (ops : Array Oper) (m : Nat) : Bool := withMasks ops fun ms => (List.range ops.size).all fun k => decide (k < m) || (List.range k).all fun j => bef ops.size ms j k

def memD (T : Tab) (E : Env) (H : Heap) (fresh : Nat) (op : Op) (k : PV → List (Nat × Blk) → List Nat → Prop) : Option (Prop × PV × List (Nat × Blk)) → Prop
  | some (ok, pv, eff) => H fresh = none ∧ ok ∧ k pv eff (fresh :: rdA E op)
  | none => False
def valD (T : Tab) (E : Env) (H : Heap) (fresh : Nat) (op : Op) (k : PV → List (Nat × Blk) → List Nat → Prop) : Option (Prop × PV) → Prop
  | some (ok, pv) => ok ∧ k pv [] (rdA E op)
  | none => memD T E H fresh op k (evMem T fresh E H op)
def pureD (P : Program) (H : Heap) (k : PV → List (Nat × Blk) → List Nat → Prop) : Option (FuncId × List PV) → Prop
  | some (g, args) => ∃ args' pv, (PureCalls P g args' pv ∧ FrzRL H args args') ∧ k pv (if noSl pv then [] else frzDL H args) (deepL args)
  | none => False
def effD (P : Program) (H : Heap) (k : PV → List (Nat × Blk) → List Nat → Prop) : Option (FuncId × List PV) → Prop
  | some (g, args) => ∃ pv eff, EffCalls P g args H pv eff ∧ k pv eff (footL args)
  | none => False
def callD (P : Program) (H : Heap) (alt : Prop) (k : PV → List (Nat × Blk) → List Nat → Prop) (c : Option (FuncId × List PV)) : Prop := pureD P H k c ∨ effD P H k c ∨ alt
def stepD (P : Program) (T : Tab) (E : Env) (H : Heap) (fresh : Nat) (op : Op) (alt : Prop) (k : PV → List (Nat × Blk) → List Nat → Prop) : Prop :=
  match isCallV op with
  | true => callD P H alt k (callOf E op)
  | false => valD T E H fresh op k (evVal T E H op)

def drawGo (P : Program) (T : Tab) (ops : Array Oper) : Nat → List Oper → Log → St → Cont → Prop
  | _, [], log, st, K => logsOK ops log = true ∧ K .normal st
  | i, o :: os, log, st, K => dstOK o.dst st.n ∧ match wantA ops.toList st o with
    | some b => (b = true → stepD P T st.E st.H st.nx o.op (tailB ops i = true ∧ logsOK ops log = true ∧ stepA P T o st (restO K fun st' => wpOpsA P T ops.toList os st' K))
          (fun pv eff rd => drawGo P T ops (i + 1) os ((i, rd, eff.map (·.1)) :: log) ⟨st.n, putL o.dst pv st.env, addL eff st.hp, st.nx + 1, st.bs⟩ K)) ∧
        (b = false → drawGo P T ops (i + 1) os log ⟨st.n, putL o.dst (.lit (.tuple #[])) st.env, st.hp, st.nx + 1, st.bs⟩ K)
    | none => False
def drawA (P : Program) (T : Tab) (ops : Array Oper) (st : St) (K : Cont) : Prop := drawGo P T ops 0 ops.toList [] st K

section
variable {P : Program} {T : Tab}

theorem FrzRL_ptrs {H : Heap} : ∀ {l q : List PV}, FrzRL H l q → ptrsOf l = []
  | [], _, _ => rfl
  | x :: l, q, h => by
    simp only [FrzRL] at h
    obtain ⟨y, m, _, h2, h3⟩ := h
    have := FrzRL_ptrs h3
    cases x <;> first | (simp only [ptrsOf]; exact this) | (simp [FrzR] at h2)
theorem stepD_spec {E : Env} {H : Heap} {fresh : Nat} {op : Op} {alt : Prop} {k : PV → List (Nat × Blk) → List Nat → Prop} (h : stepD P T E H fresh op alt k) :
    (∃ pv eff rd, k pv eff rd ∧ OpOK P T E H fresh op pv eff ∧ (∀ b ∈ rdOp E op, b ∈ rd) ∧ (isCallV op = false → evVal T E H op = none → fresh ∈ rd)) ∨ alt := by
  unfold stepD at h
  cases hc : isCallV op with
  | true =>
    rw [hc] at h
    simp only at h
    rcases h with h | h | h
    case inr.inr => exact .inr h
    case inr.inl =>
      left
      generalize hco : callOf E op = q at h
      cases q with
      | none => exact h.elim
      | some q =>
        obtain ⟨g, args⟩ := q
        obtain ⟨pv, eff, h1, h2⟩ := h
        refine ⟨pv, _, _, h2, .inr (.inr (.inr ⟨g, args, hco, h1⟩)), fun b hb => ?_, fun h => by cases h⟩
        unfold callOf at hco
        split at hco
        · simp only [rdOp, hco] at hb
          exact hb
        · cases hco
    left
    generalize hco : callOf E op = q at h
    cases q with
    | none => exact h.elim
    | some q =>
      obtain ⟨g, args⟩ := q
      obtain ⟨args', pv, ⟨h1, h2⟩, h3⟩ := h
      refine ⟨pv, _, _, h3, .inr (.inr (.inl ⟨g, args, args', hco, h1, h2, rfl⟩)), fun b hb => ?_, fun h => by cases h⟩
      unfold callOf at hco
      split at hco
      · simp only [rdOp, hco, footL, FrzRL_ptrs h2, List.append_nil] at hb
        exact hb
      · cases hco
  | false =>
    left
    rw [hc] at h
    simp only at h
    have hrd : rdOp E op = rdA E op := by
      unfold rdOp
      split
      · simp [isCallV] at hc
      · rfl
    cases hv : evVal T E H op with
    | some q =>
      obtain ⟨ok, pv⟩ := q
      rw [hv] at h
      exact ⟨pv, [], _, h.2, .inl ⟨hc, ok, hv, h.1, rfl⟩, fun b hb => by rw [hrd] at hb; exact hb, fun _ h => by cases h⟩
    | none =>
      rw [hv] at h
      simp only [valD] at h
      cases hm : evMem T fresh E H op with
      | none => rw [hm] at h; exact h.elim
      | some q =>
        obtain ⟨ok, pv, eff⟩ := q
        rw [hm] at h
        exact ⟨pv, eff, _, h.2.2, .inr (.inl ⟨hc, hv, h.1, ok, hm, h.2.1⟩), fun b hb => by rw [hrd] at hb; exact List.mem_cons_of_mem _ hb, fun _ _ => List.mem_cons_self⟩

theorem pref_ext {V : Type} {W W' : Nat → Nat → Option V} {D : Nat → Bool} {σ : Nat → Option V} : ∀ {n : Nat}, (∀ j, j < n → W j = W' j) → pref W D σ n = pref W' D σ n
  | 0, _ => rfl
  | n + 1, h => by
    simp only [pref]
    rw [pref_ext (fun j hj => h j (by omega)), h n (by omega)]
theorem pref_none {V : Type} {W : Nat → Nat → Option V} {D : Nat → Bool} {σ : Nat → Option V} (h : ∀ j, D j = false) : ∀ {n : Nat}, pref W D σ n = σ
  | 0 => rfl
  | n + 1 => by
    simp only [pref, h, Bool.false_eq_true, if_false]
    exact pref_none h

def WEr (ops : Array Oper) (rs : List Rc) : Nat → Nat → Option PV := fun i => WE ((ops[i]?).bind (·.dst)) ((rs[i]?.map (·.pv)).getD .any)
def WHr (rs : List Rc) : Nat → Nat → Option Blk := fun i => WH ((rs[i]?.map (·.eff)).getD [])

structure DInv (P : Program) (T : Tab) (ops : Array Oper) (n nx0 : Nat) (E0 : Env) (H0 : Heap) (rs : List Rc) (st : St) (log : Log) : Prop where
  sn : st.n = n
  snx : st.nx = nx0 + rs.length
  envE : pref (WEr ops rs) (fun _ => true) E0 rs.length = st.E
  heapE : pref (WHr rs) (fun _ => true) H0 rs.length = st.H
  rc : ∀ i o r, ops[i]? = some o → rs[i]? = some r → RcOK P T ops n (pref (WEr ops rs) (fun _ => true) E0 i) (pref (WHr rs) (fun _ => true) H0 i) (nx0 + i) o r
  lg : ∀ j r, rs[j]? = some r → (j, r.rd, r.eff.map (·.1)) ∈ log ∨ (r.rd = [] ∧ r.eff = [])
  sorted : log.Pairwise (fun e e' => e'.1 < e.1)
  lt : ∀ e ∈ log, e.1 < rs.length

theorem logOK_mem {ops : Array Oper} {i : Nat} {rd wr : List Nat} : ∀ {log : Log}, logOK ops.size (masks ops) i rd wr log = true → ∀ e ∈ log, okPair ops e.1 e.2.1 e.2.2 i rd wr
  | [], _, _, h => by simp at h
  | x :: l, h, e, he => by
    simp only [logOK, Bool.and_eq_true, Bool.or_eq_true] at h
    rcases List.mem_cons.1 he with rfl | he
    · exact h.1
    · exact logOK_mem h.2 e he
theorem logsOK_mem {ops : Array Oper} : ∀ {log : Log}, logsOKm ops.size (masks ops) log = true → log.Pairwise (fun e e' => e'.1 < e.1) → ∀ e ∈ log, ∀ e' ∈ log, e'.1 < e.1 → okPair ops e'.1 e'.2.1 e'.2.2 e.1 e.2.1 e.2.2
  | [], _, _, _, h, _, _, _ => by simp at h
  | x :: l, h, hp, e, he, e', he', hlt => by
    simp only [logsOKm, Bool.and_eq_true] at h
    have hx := List.pairwise_cons.1 hp
    rcases List.mem_cons.1 he with rfl | he
    · rcases List.mem_cons.1 he' with rfl | he'
      · omega
      · exact logOK_mem h.1 e' he'
    · rcases List.mem_cons.1 he' with heq | he'
      · have := hx.1 e he; rw [heq] at hlt; omega
      · exact logsOK_mem h.2 hx.2 e he e' he' hlt

theorem okPair_nilL {ops : Array Oper} {j i : Nat} {rd wr : List Nat} : okPair ops j [] [] i rd wr := .inl (by simp)
theorem okPair_nilR {ops : Array Oper} {j i : Nat} {rd wr : List Nat} : okPair ops j rd wr i [] [] := .inl (by simp)

theorem DInv.step {ops : Array Oper} {n nx0 : Nat} {E0 : Env} {H0 : Heap} {rs : List Rc} {st : St} {log log' : Log} (h : DInv P T ops n nx0 E0 H0 rs st log) {o : Oper} (ho : ops[rs.length]? = some o) {r : Rc}
    (hr : RcOK P T ops n st.E st.H st.nx o r) (hl : log' = (rs.length, r.rd, r.eff.map (·.1)) :: log ∨ (log' = log ∧ r.rd = [] ∧ r.eff = [])) :
    DInv P T ops n nx0 E0 H0 (rs ++ [r]) ⟨st.n, putL o.dst r.pv st.env, addL r.eff st.hp, st.nx + 1, st.bs⟩ log' := by
  have hlog : ∀ e ∈ log, e ∈ log' := by
    rcases hl with rfl | ⟨rfl, _, _⟩
    · exact fun e he => List.mem_cons_of_mem _ he
    · exact fun e he => he
  have get : ∀ j, j < rs.length → (rs ++ [r])[j]? = rs[j]? := fun j hj => List.getElem?_append_left hj
  have last : (rs ++ [r])[rs.length]? = some r := by simp
  have hE : ∀ m, m ≤ rs.length → pref (WEr ops (rs ++ [r])) (fun _ => true) E0 m = pref (WEr ops rs) (fun _ => true) E0 m := fun m hm => pref_ext fun j hj => by simp only [WEr, get j (by omega)]
  have hH : ∀ m, m ≤ rs.length → pref (WHr (rs ++ [r])) (fun _ => true) H0 m = pref (WHr rs) (fun _ => true) H0 m := fun m hm => pref_ext fun j hj => by simp only [WHr, get j (by omega)]
  have cases' : ∀ {j q}, (rs ++ [r])[j]? = some q → (j < rs.length ∧ rs[j]? = some q) ∨ (j = rs.length ∧ q = r) := by
    intro j q hq
    by_cases hj : j < rs.length
    · rw [get j hj] at hq; exact .inl ⟨hj, hq⟩
    · have hlt := (List.getElem?_eq_some_iff.1 hq).1
      simp at hlt
      have : j = rs.length := by omega
      subst this
      rw [last] at hq
      cases hq
      exact .inr ⟨rfl, rfl⟩
  refine ⟨h.sn, by simp [h.snx]; omega, ?_, ?_, ?_, ?_, ?_, ?_⟩
  · rw [show (rs ++ [r]).length = rs.length + 1 by simp]
    simp only [pref, if_true]
    rw [hE _ (Nat.le_refl _), h.envE]
    funext t
    have := updO_eq st.E o.dst r.pv t
    simp only [WEr, ho, last, Option.bind_some, Option.map_some, Option.getD_some]
    refine Eq.trans ?_ (this.symm.trans ?_)
    · cases WE o.dst r.pv t <;> rfl
    · cases o.dst <;> rfl
  · rw [show (rs ++ [r]).length = rs.length + 1 by simp]
    simp only [pref, if_true]
    rw [hH _ (Nat.le_refl _), h.heapE]
    show _ = hpF (addL r.eff st.hp)
    rw [hpF_addL]
    funext b
    rw [applyEff_eq]
    simp only [WHr, last, Option.map_some, Option.getD_some]
    cases WH r.eff b <;> rfl
  · intro i o' q ho' hq
    rcases cases' hq with ⟨hi, hq⟩ | ⟨rfl, rfl⟩
    · rw [hE i (by omega), hH i (by omega)]
      exact h.rc i o' q ho' hq
    · rw [hE _ (Nat.le_refl _), hH _ (Nat.le_refl _), h.envE, h.heapE, ← h.snx]
      rw [ho] at ho'
      cases ho'
      exact hr
  · intro j q hq
    rcases cases' hq with ⟨hj, hq⟩ | ⟨rfl, rfl⟩
    · exact (h.lg j q hq).imp (hlog _) id
    · rcases hl with rfl | ⟨rfl, e⟩
      · exact .inl List.mem_cons_self
      · exact .inr e
  · rcases hl with rfl | ⟨rfl, e⟩
    · exact List.pairwise_cons.2 ⟨fun e he => h.lt e he, h.sorted⟩
    · exact h.sorted
  · intro e he
    rw [show (rs ++ [r]).length = rs.length + 1 by simp]
    rcases hl with rfl | ⟨rfl, e⟩
    · rcases List.mem_cons.1 he with rfl | he
      · simp
      · have := h.lt e he; omega
    · have := h.lt _ he; omega

theorem DInv.pair {ops : Array Oper} {n nx0 : Nat} {E0 : Env} {H0 : Heap} {rs : List Rc} {st : St} {log : Log} (h : DInv P T ops n nx0 E0 H0 rs st log) (hl : logsOK ops log = true) : ∀ j i r r', j < i → rs[j]? = some r → rs[i]? = some r' → okPair ops j r.rd (r.eff.map (·.1)) i r'.rd (r'.eff.map (·.1)) := by
  intro j i r r' hji hr hr'
  rcases h.lg j r hr with h1 | ⟨e1, e2⟩
  · rcases h.lg i r' hr' with h2 | ⟨e1, e2⟩
    · unfold logsOK at hl
      rw [withMasks_eq] at hl
      exact logsOK_mem hl h.sorted _ h2 _ h1 hji
    · rw [e1, e2]; exact okPair_nilR
  · rw [e1, e2]; exact okPair_nilL

theorem drawGo_spec {ops : Array Oper} {n nx0 : Nat} {E0 : Env} {H0 : Heap} {K : Cont} : ∀ (l : List Oper) (rs : List Rc) (st : St) (log : Log), ops.toList.drop rs.length = l → rs.length + l.length = ops.size → drawGo P T ops rs.length l log st K → DInv P T ops n nx0 E0 H0 rs st log →
    ∃ rs' st' log', rs'.length ≤ ops.size ∧ DInv P T ops n nx0 E0 H0 rs' st' log' ∧ st'.bs = st.bs ∧ logsOK ops log' = true ∧ tailB ops rs'.length = true ∧ wpOpsA P T ops.toList (ops.toList.drop rs'.length) st' K
  | [], rs, st, log, hl, hsz, h, hi => by
    refine ⟨rs, st, log, by simp at hsz; omega, hi, rfl, h.1, ?_, by rw [hl]; exact h.2⟩
    simp at hsz
    unfold tailB
    rw [withMasks_eq, List.all_eq_true]
    intro k hk
    simp at hk
    simp [hsz, hk]
  | o :: l, rs, st, log, hl, hsz, h, hi => by
    have hk : ops[rs.length]? = some o := by
      have := congrArg (·[0]?) hl
      simpa using this
    have hl' : ∀ r : Rc, ops.toList.drop (rs ++ [r]).length = l := by
      intro r
      have := congrArg List.tail hl
      simpa using this
    have hsz' : ∀ r : Rc, (rs ++ [r]).length + l.length = ops.size := by
      intro r
      simp at hsz ⊢
      omega
    have elen : ∀ r : Rc, (rs ++ [r]).length = rs.length + 1 := fun r => by simp
    unfold drawGo at h
    obtain ⟨hd, h⟩ := h
    have hdst : ∀ d, o.dst = some d → d < n := by
      intro d e
      rw [e] at hd
      rw [← hi.sn]
      exact hd
    cases hw : wantA ops.toList st o with
    | none => rw [hw] at h; exact h.elim
    | some b =>
      rw [hw] at h
      simp only at h
      have hwF : wantF ops.toList st.E o = some b := hw
      cases b with
      | true =>
        rcases stepD_spec (h.1 rfl) with ⟨pv, eff, rd, hgo, hop, hrd, hfr⟩ | ⟨ht, hlg, hst⟩
        · have hrc : RcOK P T ops n st.E st.H st.nx o ⟨pv, eff, rd, true⟩ := ⟨hdst, hwF, fun _ => ⟨hop, hrd, hfr⟩, fun h => by cases h⟩
          obtain ⟨rs', st', log', q1, q2, q3, q4⟩ := drawGo_spec l (rs ++ [⟨pv, eff, rd, true⟩]) _ ((rs.length, rd, eff.map (·.1)) :: log) (hl' _) (hsz' _) (by rw [elen]; exact hgo) (hi.step hk hrc (.inl rfl))
          exact ⟨rs', st', log', q1, q2, q3, q4⟩
        · refine ⟨rs, st, log, by simp at hsz; omega, hi, rfl, hlg, ht, ?_⟩
          rw [hl]
          unfold wpOpsA
          refine ⟨hd, ?_⟩
          rw [hw]
          exact ⟨fun _ => hst, fun h => by cases h⟩
      | false =>
        have hrc : RcOK P T ops n st.E st.H st.nx o ⟨.lit (.tuple #[]), [], [], false⟩ := ⟨hdst, hwF, fun h => (by cases h), fun _ => ⟨rfl, rfl⟩⟩
        obtain ⟨rs', st', log', q1, q2, q3, q4⟩ := drawGo_spec l (rs ++ [⟨.lit (.tuple #[]), [], [], false⟩]) _ log (hl' _) (hsz' _) (by rw [elen]; exact h.2 rfl) (hi.step hk hrc (.inr ⟨rfl, rfl, rfl⟩))
        exact ⟨rs', st', log', q1, q2, q3, q4⟩

theorem tailB_spec {ops : Array Oper} {m : Nat} (h : tailB ops m = true) : ∀ k, m ≤ k → k < ops.size → ∀ j, j < k → before ops j k = true := by
  intro k hk hlt j hj
  unfold tailB at h
  rw [withMasks_eq] at h
  have := List.all_eq_true.1 h k (by simp [hlt])
  simp only [Bool.or_eq_true, decide_eq_true_eq, List.all_eq_true] at this
  rcases this with h | h
  · omega
  · exact h j (by simp [hj])

/-- The tail, in the text's order, whatever order is drawn. -/
theorem wpTail (hT : TabOK P T) {ops : Array Oper} (hsl : slotsOK ops = true) {m : Nat} (htail : ∀ k, m ≤ k → k < ops.size → ∀ j, j < k → before ops j k = true) {C : Ctx} {K : Cont} {Q : Exit → Act → World → Prop} : ∀ (l : List Oper) (k : Nat) (st : St) (β : Ref) (a : Act) (w : World) (fuel : Nat) (listed : Array Bool),
    ops.toList.drop k = l → m ≤ k → k ≤ ops.size → listed.size = ops.size → listed.toList.count false = fuel → (∀ i, i < ops.size → listed.getD i false = decide (i < k)) → Closed ops (fun i => listed.getD i false) → wpOpsA P T ops.toList l st K →
    C.gb ≤ st.bs → Sim C st.n st.E st.H β a w → (∀ st' β' a' w', K .normal st' → (st'.n = st.n ∧ st'.bs = st.bs) → Sim C st'.n st'.E st'.H β' a' w' → Q .normal a' w') → PanA C st K Q → wpAny P .any ops Q fuel listed a w := by
  intro l
  induction l with
  | nil =>
    intro k st β a w fuel listed hl hmk hkn hsz hc hlist hcl h hgb hs hQ hP
    have hkn' : ops.size ≤ k := by
      have := List.drop_eq_nil_iff.1 hl
      simpa using this
    have hall : ∀ i, i < ops.size → listed.getD i false = true := fun i hi => by rw [hlist i hi]; simp; omega
    have hr : Region.ready .any ops listed = [] := by
      cases hr : Region.ready .any ops listed with
      | nil => rfl
      | cons i l =>
        exfalso
        have hi : i ∈ Region.ready .any ops listed := by rw [hr]; exact List.mem_cons_self
        unfold Region.ready at hi
        rw [List.mem_filter] at hi
        obtain ⟨h1, h2⟩ := hi
        have h1' : i < ops.size := by simpa using h1
        have h3 := hall i h1'
        have hlt : i < listed.size := by omega
        simp [Array.getD, hlt] at h3
        simp [Array.getD, hlt, h3] at h2
    cases fuel with
    | zero => exact ⟨hr, hQ st β a w h ⟨rfl, rfl⟩ hs⟩
    | succ fuel =>
      refine ⟨fun _ => hQ st β a w h ⟨rfl, rfl⟩ hs, fun i hi => ?_⟩
      rw [hr] at hi
      cases hi
  | cons o l ih =>
    intro k st β a w fuel listed hl hmk hkn hsz hc hlist hcl h hgb hs hQ hP
    have hk : ops[k]? = some o := by
      have := congrArg (·[0]?) hl
      simpa using this
    have hkl := (Array.getElem?_eq_some_iff.1 hk).1
    have hl' : ops.toList.drop (k + 1) = l := by
      have := congrArg List.tail hl
      simpa using this
    have hlk : k < listed.size := by omega
    have hlkf : listed.getD k false = false := by rw [hlist k hkl]; simp
    have hpre : ∀ e ∈ o.after, Region.binds .any e = true → listed.getD e.on false = true := by
      intro e he hb
      have := slotsOK_edges hsl hk he hb
      rw [hlist e.on (by omega)]
      simp [this]
    cases fuel with
    | zero =>
      exfalso
      have hm : false ∈ listed.toList := by
        simp [Array.getD, hlk] at hlkf
        rw [← hlkf]
        simp
      have := List.count_pos_iff.2 hm
      omega
    | succ fuel =>
      refine ⟨fun hr => ?_, fun i hi => ?_⟩
      · exfalso
        have : k ∈ Region.ready .any ops listed := by
          unfold Region.ready
          rw [List.mem_filter]
          refine ⟨by simp [hkl], ?_⟩
          have hl2 : listed.getD k true = false := by
            simp [Array.getD, hlk] at hlkf ⊢
            exact hlkf
          rw [hl2, hk]
          simp only [Bool.not_false, Bool.true_and, Option.map_some, Option.getD_some, Array.all_eq_true']
          intro e he
          cases hb : Region.binds .any e with
          | false => rfl
          | true => simp [hpre e he hb]
        rw [hr] at this
        cases this
      · unfold Region.ready at hi
        rw [List.mem_filter] at hi
        obtain ⟨h1, h2⟩ := hi
        have hin : i < ops.size := by simpa using h1
        have hlt : i < listed.size := by omega
        have ho : ops[i]? = some ops[i] := Array.getElem?_eq_getElem hin
        simp only [ho, Option.map_some, Option.getD_some, Bool.and_eq_true, Array.all_eq_true'] at h2
        have hDi : listed.getD i false = false := by
          have := h2.1
          simp [Array.getD, hlt] at this ⊢
          exact this
        have hki : k ≤ i := by
          rw [hlist i hin] at hDi
          simpa using hDi
        have hik : i = k := by
          apply Classical.byContradiction
          intro hne
          have hb := htail i (by omega) hin k (by omega)
          have := before_closed hcl hb ho (fun e he hb => by have := h2.2 e he; simpa [hb] using this)
          simp only [hlkf] at this
          cases this
        subst hik
        have hD' : ∀ j, (listed.setIfInBounds i true).getD j false = (j == i || listed.getD j false) := by
          intro j
          simp only [Array.getD_eq_getD_getElem?, Array.getElem?_setIfInBounds]
          by_cases hj : i = j
          · subst hj; simp [hlt]
          · have : (j == i) = false := by simp; omega
            simp [hj, this]
        have hcnt : (listed.setIfInBounds i true).toList.count false = fuel := by
          rw [Array.toList_setIfInBounds, List.count_set (by simpa using hlt)]
          have : listed.toList[i]'(by simpa using hlt) = false := by
            simp [Array.getD, hlt] at hDi
            simpa using hDi
          have hc' : Array.count false listed = fuel + 1 := by simpa using hc
          simp [this]
          omega
        have hlist' : ∀ j, j < ops.size → (listed.setIfInBounds i true).getD j false = decide (j < i + 1) := by
          intro j hj
          rw [hD', hlist j hj]
          by_cases h : j = i
          · subst h; simp
          · have e1 : (j == i) = false := by simp [h]
            rw [e1]
            simp
            omega
        have hcl' : Closed ops (fun k => (listed.setIfInBounds i true).getD k false) := by
          intro k o' hk' hl e he hb
          simp only [hD', Bool.or_eq_true, beq_iff_eq] at hl ⊢
          rcases hl with rfl | hl
          · rw [hk] at hk'
            cases hk'
            exact .inr (hpre e he hb)
          · exact .inr (hcl k o' hk' hl e he hb)
        unfold wpOpsA at h
        obtain ⟨hd, h⟩ := h
        unfold wpOp
        rw [hk]
        simp only
        split at h
        · rename_i b hb
          rw [wanted_eq hb hs]
          cases b with
          | true =>
            refine .inl ?_
            refine Oper.wp_mono ?_ (stepA_sound (Q := Q) hT (h.1 rfl) hd hP hgb hs)
            rintro a' w' ⟨st', β', hK, hn, hs'⟩
            exact ih (i + 1) st' β' a' w' fuel _ hl' (by omega) (by omega) (by simpa using hsz) hcnt hlist' hcl' hK (by rw [hn.2]; exact hgb) hs' (fun st2 β2 a2 w2 h2 hn2 hs2 => hQ st2 β2 a2 w2 h2 ⟨hn2.1.trans hn.1, hn2.2.trans hn.2⟩ hs2) (fun pv st2 β2 a2 w2 v h2 hn2 hs2 hr2 => hP pv st2 β2 a2 w2 v h2 ⟨hn2.1.trans hn.1, hn2.2.trans hn.2⟩ hs2 hr2)
          | false =>
            exact ih (i + 1) _ β _ w fuel _ hl' (by omega) (by omega) (by simpa using hsz) hcnt hlist' hcl' (h.2 rfl) hgb (Sim.putL hs hd (.i (.lit undef))) (fun st2 β2 a2 w2 h2 hn2 hs2 => hQ st2 β2 a2 w2 h2 hn2 hs2) (fun pv st2 β2 a2 w2 v h2 hn2 hs2 hr2 => hP pv st2 β2 a2 w2 v h2 hn2 hs2 hr2)
        · exact h.elim

theorem drawA_sound (hT : TabOK P T) (hmix : P.follows .mixedOrders = true) {C : Ctx} {id : Nat} {ops : Array Oper} (hsl : slotsOK ops = true) {st : St} {K : Cont} {Q : Exit → Act → World → Prop} {β : Ref} {a : Act} {w : World} (h : drawA P T ops st K)
    (hgb : C.gb ≤ st.bs) (hs : Sim C st.n st.E st.H β a w) (hQ : ∀ st' β' a' w', K .normal st' → (st'.n = st.n ∧ st'.bs = st.bs) → Sim C st'.n st'.E st'.H β' a' w' → Q .normal a' w') (hP : PanA C st K Q) : (Code.region id ops true).wp P Q a w := by
  obtain ⟨rs, st', log, q1, q2, q4, q5, q6, q7⟩ := drawGo_spec (n := st.n) (nx0 := st.nx) (E0 := st.E) (H0 := st.H) ops.toList [] st [] rfl (by simp) h ⟨rfl, rfl, rfl, rfl, fun i o r _ hr => by simp at hr, fun j r hr => by simp at hr, List.Pairwise.nil, fun e he => by cases he⟩
  have hd : DrawOK P T ops st.n st.nx rs.length st.E st.H rs := ⟨rfl, q1, tailB_spec q6, hsl, q2.rc, q2.pair q5⟩
  have hE := q2.envE
  have hH := q2.heapE
  refine wp_region_any hmix ?_
  have hdrew : Sim C st.n st.E st.H β a { w with drawn := w.drawn + 1 } := by
    have hk := Keeps.drew (NN C st.H β) w
    have hkb := Keeps.drew (fun k => Owns st.H β k) w
    exact hs.world hk (hs.keeps_below hkb) (fun b x hx _ => (hs.blk b x hx).later hk (fun _ _ h => h) (Later.refl _) (fun _ _ h => h) rfl (fun ver u k h1 h2 => rfl))
  have hrep : ∀ j, (Array.replicate ops.size false).getD j false = false := by
    intro j
    simp only [Array.getD_eq_getD_getElem?, Array.getElem?_replicate]
    split <;> rfl
  refine draw_any (C := C) hT ⟨_, rfl⟩ hd ?_ ops.size (Array.replicate ops.size false) β a _ (by simp) (by simp) (fun k _ => hrep k) (fun i o _ hi => by simp only [hrep] at hi; cases hi) ?_
  · intro fuel listed β' a' w' c1 c2 c3 c4 hs'
    refine wpTail hT hsl (tailB_spec q6) (ops.toList.drop rs.length) rs.length st' β' a' w' fuel listed rfl (Nat.le_refl _) q1 c1 c2 c3 c4 q7 (by rw [q4]; exact hgb) (by rw [q2.sn, ← hE, ← hH]; exact hs') (fun st2 β2 a2 w2 h2 hn2 hs2 => hQ st2 β2 a2 w2 h2 ⟨hn2.1.trans q2.sn, hn2.2.trans q4⟩ hs2) (fun pv st2 β2 a2 w2 v h2 hn2 hs2 hr2 => hP pv st2 β2 a2 w2 v h2 ⟨hn2.1.trans q2.sn, hn2.2.trans q4⟩ hs2 hr2)
  · rw [pref_none hrep, pref_none hrep]
    exact hdrew
end

/-! ### the regions of a function that draw, looked at once -/
def codeOK : Code → Bool
  | .region _ ops true => slotsOK ops
  | .seq x y => codeOK x && codeOK y
  | .cond _ x y => codeOK x && codeOK y
  | .block _ b => codeOK b
  | .loop b => codeOK b
  | .scope b => codeOK b
  | _ => true
end Go.Pe
