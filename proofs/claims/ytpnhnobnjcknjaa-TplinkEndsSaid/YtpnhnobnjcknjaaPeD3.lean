/- A region that draws its order: the theorem. -/
import Derived.Test.YtpnhnobnjcknjaaPeD2
set_option linter.unusedVariables false
set_option linter.unusedSimpArgs false
namespace Go.Pe
open Go.RowKit

/-! ### states made by some of the writers -/
section
variable {V : Type}
def pref (W : Nat → Nat → Option V) (D : Nat → Bool) (σ : Nat → Option V) : Nat → Nat → Option V
  | 0 => σ
  | i + 1 => fun t => if D i then (match W i t with | some v => some v | none => pref W D σ i t) else pref W D σ i t

theorem pref_agree {W : Nat → Nat → Option V} {D : Nat → Bool} {σ : Nat → Option V} {t i : Nat} : ∀ {n : Nat}, (∀ j, j < n → (W j t).isSome = true → (D j = true ↔ j < i)) → pref W D σ n t = pref W (fun _ => true) σ (min n i) t
  | 0, _ => by simp [pref]
  | n + 1, h => by
    have ih := pref_agree (W := W) (D := D) (σ := σ) (t := t) (i := i) (n := n) (fun j hj => h j (by omega))
    simp only [pref]
    by_cases hlt : n < i
    · have e : min (n + 1) i = n + 1 := by omega
      have e' : min n i = n := by omega
      rw [e]
      rw [e'] at ih
      simp only [pref, if_true]
      cases hw : W n t with
      | none => simp only [ih]; split <;> rfl
      | some v =>
        have := (h n (by omega) (by simp [hw])).2 hlt
        simp [this]
    · have e : min (n + 1) i = min n i := by omega
      rw [e, ← ih]
      cases hw : W n t with
      | none => simp
      | some v =>
        have := (h n (by omega) (by simp [hw])).1
        have hD : D n = false := by
          cases hd : D n with
          | false => rfl
          | true => exact absurd (this hd) hlt
        simp [hD]

theorem pref_add {W : Nat → Nat → Option V} {D D' : Nat → Bool} {σ : Nat → Option V} {i : Nat} (hi : D i = false) (hD' : ∀ k, D' k = (k == i || D k)) : ∀ {n : Nat}, (∀ j, i < j → j < n → D j = true → ∀ t, (W i t).isSome = true → W j t = none) →
    ∀ t, pref W D' σ n t = if i < n then (match W i t with | some v => some v | none => pref W D σ n t) else pref W D σ n t
  | 0, _, t => by simp [pref]
  | n + 1, h, t => by
    have ih := pref_add hi hD' (σ := σ) (n := n) (fun j h1 h2 => h j h1 (by omega)) t
    simp only [pref, hD', ih]
    by_cases hni : n = i
    · subst hni
      simp only [beq_self_eq_true, Bool.true_or, if_true, hi, Nat.lt_irrefl, if_false, Bool.false_eq_true, Nat.lt_succ_self]
    · have e : (n == i) = false := by simp [hni]
      simp only [e, Bool.false_or]
      by_cases hlt : i < n
      · have h1 : i < n + 1 := by omega
        simp only [hlt, h1, if_true]
        cases hd : D n with
        | false => simp
        | true =>
          simp only [if_true]
          cases hw : W i t with
          | none => rfl
          | some v => simp only [h n hlt (by omega) hd t (by simp [hw])]
      · have h1 : ¬ i < n + 1 := by omega
        simp only [hlt, h1, if_false]
end

def WE (dst : Option Nat) (pv : PV) : Nat → Option PV := fun t => if dst = some t then some pv else none
theorem updO_eq (E : Env) (d : Option Nat) (pv : PV) (t : Nat) : updO E d pv t = match WE d pv t with | some v => some v | none => E t := by
  cases d with
  | none => simp [updO, WE]
  | some d =>
    by_cases h : t = d
    · subst h; simp [updO, WE, upd]
    · have : ¬ (some d = some t) := by simp; omega
      simp [updO, WE, upd, h, this]
def WH : List (Nat × Blk) → Nat → Option Blk
  | [], _ => none
  | x :: l, b => match WH l b with
    | some y => some y
    | none => if b = x.1 then some x.2 else none
theorem applyEff_eq : ∀ (l : List (Nat × Blk)) (H : Heap) (b : Nat), applyEff H l b = match WH l b with | some x => some x | none => H b
  | [], _, _ => rfl
  | x :: l, H, b => by
    show applyEff (upd H x.1 x.2) l b = _
    rw [applyEff_eq l]
    simp only [WH]
    cases WH l b with
    | some y => rfl
    | none => simp only [upd]; split <;> rfl
theorem WH_mem : ∀ {l : List (Nat × Blk)} {b : Nat}, (WH l b).isSome = true → b ∈ l.map (·.1)
  | [], _, h => by simp [WH] at h
  | x :: l, b, h => by
    simp only [WH] at h
    cases hw : WH l b with
    | some y => exact List.mem_cons_of_mem _ (WH_mem (by simp [hw]))
    | none =>
      rw [hw] at h
      simp only at h
      split at h
      · rename_i e; subst e; exact List.mem_cons_self
      · simp at h

/-! ### what must come first -/
/-- The masks stand the last one first; n is how many there are. -/
def maskOf (acc : List Nat) (n : Nat) (o : Oper) : Nat := o.after.toList.foldl (fun m e => if Region.binds .any e then m ||| (1 <<< e.on) ||| (if e.on < n then acc.getD (n - 1 - e.on) 0 else 0) else m) 0
def masksGo : List Oper → Nat → List Nat → List Nat
  | [], _, acc => acc
  | o :: os, n, acc => masksGo os (n + 1) (maskOf acc n o :: acc)
def masks (ops : Array Oper) : List Nat := masksGo ops.toList 0 []
def bef (n : Nat) (ms : List Nat) (j i : Nat) : Bool := decide (i < n) && (ms.getD (n - 1 - i) 0).testBit j
def before (ops : Array Oper) (j i : Nat) : Bool := bef ops.size (masks ops) j i
/-! The same, for the kernel: each number is worked out before it is handed on. -/
def force (n : Nat) (k : Nat → Bool) : Bool := match n with
  | 0 => k 0
  | m + 1 => k (m + 1)
theorem force_eq (n : Nat) (k : Nat → Bool) : force n k = k n := by cases n <;> rfl
def maskS (acc : List Nat) (n : Nat) : List Edge → Nat → (Nat → Bool) → Bool
  | [], m, k => k m
  | e :: l, m, k => force (if Region.binds .any e then m ||| (1 <<< e.on) ||| (if e.on < n then acc.getD (n - 1 - e.on) 0 else 0) else m) fun m' => maskS acc n l m' k
def masksS : List Oper → Nat → List Nat → (List Nat → Bool) → Bool
  | [], _, acc, k => k acc
  | o :: os, n, acc, k => maskS acc n o.after.toList 0 fun m => force (n + 1) fun n' => masksS os n' (m :: acc) k
def withMasks (ops : Array Oper) (k : List Nat → Bool) : Bool := masksS ops.toList 0 [] k
theorem maskS_eq (acc : List Nat) (n : Nat) : ∀ (l : List Edge) (m : Nat) (k : Nat → Bool), maskS acc n l m k = k (l.foldl (fun m e => if Region.binds .any e then m ||| (1 <<< e.on) ||| (if e.on < n then acc.getD (n - 1 - e.on) 0 else 0) else m) m)
  | [], m, k => rfl
  | e :: l, m, k => by
    rw [maskS, force_eq, maskS_eq acc n l]
    rfl
theorem masksS_eq : ∀ (l : List Oper) (n : Nat) (acc : List Nat) (k : List Nat → Bool), masksS l n acc k = k (masksGo l n acc)
  | [], _, _, _ => rfl
  | o :: l, n, acc, k => by
    rw [masksS, maskS_eq, force_eq, masksS_eq l]
    rfl
theorem withMasks_eq (ops : Array Oper) (k : List Nat → Bool) : withMasks ops k = k (masks ops) := masksS_eq _ _ _ _

def Closed (ops : Array Oper) (D : Nat → Bool) : Prop := ∀ i o, ops[i]? = some o → D i = true → ∀ e ∈ o.after, Region.binds .any e = true → D e.on = true

theorem fold_mask (acc : List Nat) (n j : Nat) : ∀ (l : List Edge) (m : Nat), (l.foldl (fun m e => if Region.binds .any e then m ||| (1 <<< e.on) ||| (if e.on < n then acc.getD (n - 1 - e.on) 0 else 0) else m) m).testBit j = true →
    m.testBit j = true ∨ ∃ e ∈ l, Region.binds .any e = true ∧ (e.on = j ∨ (e.on < n ∧ (acc.getD (n - 1 - e.on) 0).testBit j = true))
  | [], m, h => .inl h
  | e :: l, m, h => by
    rw [List.foldl_cons] at h
    rcases fold_mask acc n j l _ h with h | ⟨e', he', h'⟩
    · split at h
      · rename_i hb
        rw [Nat.testBit_or, Nat.testBit_or, Nat.shiftLeft_eq, Nat.one_mul, Nat.testBit_two_pow] at h
        simp only [Bool.or_eq_true, decide_eq_true_eq] at h
        rcases h with (h | h) | h
        · exact .inl h
        · exact .inr ⟨e, List.mem_cons_self, hb, .inl h⟩
        · split at h
          · rename_i hn
            exact .inr ⟨e, List.mem_cons_self, hb, .inr ⟨hn, h⟩⟩
          · simp at h
      · exact .inl h
    · exact .inr ⟨e', List.mem_cons_of_mem _ he', h'⟩

def MaskOK (ops : Array Oper) (n : Nat) (acc : List Nat) : Prop := ∀ (i : Nat), i < n → ∀ (j : Nat), (acc.getD (n - 1 - i) 0).testBit j = true → ∀ (D : Nat → Bool), Closed ops D → ∀ (o : Oper), ops[i]? = some o → (∀ e ∈ o.after, Region.binds .any e = true → D e.on = true) → D j = true

theorem masksGo_ok {ops : Array Oper} : ∀ (l : List Oper) (n : Nat) (acc : List Nat), ops.toList.drop n = l → n ≤ ops.size → MaskOK ops n acc → MaskOK ops (n + l.length) (masksGo l n acc)
  | [], n, acc, _, _, h => h
  | o :: l, n, acc, hl, hsz, h => by
    have hk : ops[n]? = some o := by
      have := congrArg (·[0]?) hl
      simpa using this
    have hlt := (Array.getElem?_eq_some_iff.1 hk).1
    have := masksGo_ok (ops := ops) l (n + 1) (maskOf acc n o :: acc) (by have := congrArg List.tail hl; simpa using this) (by omega) ?_
    · rw [show n + (o :: l).length = n + 1 + l.length by simp; omega]
      exact this
    · intro i hi j hj D hD o' ho' hp
      by_cases hin : i < n
      · refine h i hin j ?_ D hD o' ho' hp
        rw [show n + 1 - 1 - i = (n - 1 - i) + 1 by omega, List.getD_cons_succ] at hj
        exact hj
      · have : i = n := by omega
        subst this
        rw [hk] at ho'
        cases ho'
        rw [show i + 1 - 1 - i = 0 by omega, List.getD_cons_zero] at hj
        rcases fold_mask acc i j _ _ hj with h0 | ⟨e, he, hb, rfl | ⟨hen, hr⟩⟩
        · simp at h0
        · exact hp e (by simpa using he) hb
        · have hDe := hp e (by simpa using he) hb
          have ho2 : ops[e.on]? = some ops[e.on] := Array.getElem?_eq_getElem (by omega)
          exact h e.on hen j hr D hD _ ho2 (hD _ _ ho2 hDe)

theorem before_closed {ops : Array Oper} {D : Nat → Bool} (hD : Closed ops D) {j i : Nat} (h : before ops j i = true) {o : Oper} (ho : ops[i]? = some o) (hp : ∀ e ∈ o.after, Region.binds .any e = true → D e.on = true) : D j = true := by
  have hm := masksGo_ok (ops := ops) ops.toList 0 [] rfl (by simp) (fun i hi => by omega)
  unfold before bef at h
  simp only [Bool.and_eq_true, decide_eq_true_eq] at h
  have hsz : 0 + ops.toList.length = ops.size := by simp
  rw [hsz] at hm
  exact hm i h.1 j h.2 D hD o ho hp

structure Rc where
  pv : PV
  eff : List (Nat × Blk)
  rd : List Nat
  run : Bool

def okPair (ops : Array Oper) (j : Nat) (rd wr : List Nat) (i : Nat) (rd' wr' : List Nat) : Prop :=
  (wr.all (fun b => !rd'.contains b && !wr'.contains b) && rd.all (fun b => !wr'.contains b)) = true ∨ before ops j i = true

/-- The slots of operations that are not ordered are others; what must come first stands ahead. -/
def slotsOKm (ops : Array Oper) (ms : List Nat) : Bool :=
  (List.range ops.size).all fun i => match ops[i]? with
    | none => true
    | some o => o.after.toList.all (fun e => !Region.binds .any e || decide (e.on < i)) && (List.range i).all fun j => match ops[j]? with
      | none => true
      | some o' => Oper.apart ops o' o || bef ops.size ms j i
def slotsOK (ops : Array Oper) : Bool := withMasks ops (slotsOKm ops)

def wantF (all : List Oper) (E : Env) (o : Oper) : Option Bool :=
  match o.guard with
  | none => some true
  | some (j, want) => match (all[j]?).bind (·.dst) with
    | none => none
    | some d => match E d with
      | some (.lit (.bool b)) => some (b == want)
      | some (.lit (.tuple _)) => some false
      | _ => none

/-- One operation's record is right. -/
structure RcOK (P : Program) (T : Tab) (ops : Array Oper) (n : Nat) (E : Env) (H : Heap) (fresh : Nat) (o : Oper) (r : Rc) : Prop where
  dst : ∀ d, o.dst = some d → d < n
  want : wantF ops.toList E o = some r.run
  op : r.run = true → OpOK P T E H fresh o.op r.pv r.eff ∧ (∀ b ∈ rdOp E o.op, b ∈ r.rd) ∧ (isCallV o.op = false → evVal T E H o.op = none → fresh ∈ r.rd)
  skip : r.run = false → r.pv = .lit (.tuple #[]) ∧ r.eff = []

section
variable {P : Program} {T : Tab} {C : Ctx} {n : Nat} {E : Env} {H : Heap} {β : Ref} {a : Act} {w : World}

theorem wantedF {ops : Array Oper} {o : Oper} {b : Bool} (h : wantF ops.toList E o = some b) (hs : Sim C n E H β a w) : Region.wanted o (yielded ops a.tmps) = b := by
  unfold wantF at h
  unfold Region.wanted
  split at h
  · rename_i hg
    cases h
    rw [hg]
  · rename_i j want hg
    rw [hg]
    split at h
    · cases h
    · rename_i d hd
      split at h
      · rename_i bb hlk
        cases h
        obtain ⟨hlt, hr⟩ := hs.env d _ hlk
        have hv := hr.lit_eq
        have hd' : (ops[j]?).bind (·.dst) = some d := by simpa using hd
        have hlt' : d < a.tmps.size := by rw [hs.nt]; exact hlt
        have hget : a.tmps[d]? = some (.bool bb) := by
          rw [Array.getElem?_eq_getElem hlt']
          simp only [Array.getD, hlt', dif_pos] at hv
          rw [← hv]
          rfl
        simp [yielded, hd', hget]
      · rename_i p hlk
        cases h
        obtain ⟨hlt, hr⟩ := hs.env d _ hlk
        have hv := hr.lit_eq
        have hd' : (ops[j]?).bind (·.dst) = some d := by simpa using hd
        have hlt' : d < a.tmps.size := by rw [hs.nt]; exact hlt
        have hget : a.tmps[d]? = some (.tuple p) := by
          rw [Array.getElem?_eq_getElem hlt']
          simp only [Array.getD, hlt', dif_pos] at hv
          rw [← hv]
          rfl
        simp [yielded, hd', hget]
      · cases h

theorem wantF_congr {ops : Array Oper} {E E' : Env} {o : Oper} (h : ∀ t ∈ o.looksAt ops, E' t = E t) : wantF ops.toList E' o = wantF ops.toList E o := by
  unfold wantF
  cases hg : o.guard with
  | none => rfl
  | some g =>
    obtain ⟨j, want⟩ := g
    simp only
    cases hd : (ops.toList[j]?).bind (·.dst) with
    | none => rfl
    | some d =>
      simp only
      have hd' : (ops[j]?).bind (·.dst) = some d := by simpa using hd
      rw [h d (by simp [Oper.looksAt, hg, hd'])]

theorem ev_congr {ops : Array Oper} {E E' : Env} {o : Oper} (h : ∀ t ∈ o.looksAt ops, E' t = E t) : ∀ x ∈ o.op.operands.toList, ev E' x = ev E x := by
  intro x hx
  cases x with
  | tmp t =>
    simp only [ev]
    rw [h t (by
      simp only [Oper.looksAt, List.mem_append, List.mem_filterMap]
      exact .inl ⟨.tmp t, hx, rfl⟩)]
  | const v => rfl
  | global g => rfl
  | func f => rfl

/-- All that is asked of a region, told in the text's order. -/
structure DrawOK (P : Program) (T : Tab) (ops : Array Oper) (n nx0 m : Nat) (E : Env) (H : Heap) (rs : List Rc) : Prop where
  len : rs.length = m
  hm : m ≤ ops.size
  tail : ∀ k, m ≤ k → k < ops.size → ∀ j, j < k → before ops j k = true
  slots : slotsOK ops = true
  rc : ∀ i o r, ops[i]? = some o → rs[i]? = some r → RcOK P T ops n (pref (fun i => WE ((ops[i]?).bind (·.dst)) ((rs[i]?.map (·.pv)).getD .any)) (fun _ => true) E i) (pref (fun i => WH ((rs[i]?.map (·.eff)).getD [])) (fun _ => true) H i) (nx0 + i) o r
  pair : ∀ j i r r', j < i → rs[j]? = some r → rs[i]? = some r' → okPair ops j r.rd (r.eff.map (·.1)) i r'.rd (r'.eff.map (·.1))

theorem slotsOK_edges {ops : Array Oper} (h : slotsOK ops = true) {i : Nat} {o : Oper} (ho : ops[i]? = some o) {e : Edge} (he : e ∈ o.after) (hb : Region.binds .any e = true) : e.on < i := by
  unfold slotsOK at h
  rw [withMasks_eq] at h
  unfold slotsOKm at h
  have hi : i < ops.size := (Array.getElem?_eq_some_iff.1 ho).1
  have := List.all_eq_true.1 h i (by simp [hi])
  simp only [ho, Bool.and_eq_true] at this
  have := List.all_eq_true.1 this.1 e (by simpa using he)
  simpa [hb] using this
theorem slotsOK_pair {ops : Array Oper} (h : slotsOK ops = true) {i j : Nat} {o o' : Oper} (hj : j < i) (ho : ops[i]? = some o) (ho' : ops[j]? = some o') : Oper.apart ops o' o = true ∨ before ops j i = true := by
  unfold slotsOK at h
  rw [withMasks_eq] at h
  unfold slotsOKm at h
  have hi : i < ops.size := (Array.getElem?_eq_some_iff.1 ho).1
  have := List.all_eq_true.1 h i (by simp [hi])
  simp only [ho, Bool.and_eq_true] at this
  have := List.all_eq_true.1 this.2 j (by simp [hj])
  simpa [ho', before] using this

theorem okPair_spec {ops : Array Oper} {j i : Nat} {rd wr rd' wr' : List Nat} (h : okPair ops j rd wr i rd' wr') (hb : before ops j i = false) : (∀ b ∈ wr, b ∉ rd' ∧ b ∉ wr') ∧ ∀ b ∈ rd, b ∉ wr' := by
  rcases h with h | h
  · simp only [Bool.and_eq_true, List.all_eq_true, Bool.not_eq_true', List.contains_eq_mem, decide_eq_false_iff_not] at h
    exact h
  · rw [hb] at h; cases h

theorem fin_pref {rs : List Rc} {D : Nat → Bool} {H0 : Heap} (h : FinH H0) : ∀ m, FinH (pref (fun i => WH ((rs[i]?.map (·.eff)).getD [])) D H0 m)
  | 0 => h
  | m + 1 => by
    obtain ⟨hp, e⟩ := fin_pref (rs := rs) (D := D) h m
    cases hD : D m with
    | false => refine ⟨hp, ?_⟩; funext t; simp only [pref, hD]; exact congrFun e t
    | true =>
      refine ⟨addL ((rs[m]?.map (·.eff)).getD []) hp, ?_⟩
      rw [hpF_addL, ← e]
      funext t
      rw [applyEff_eq]
      simp only [pref, hD, if_true]
      cases WH ((rs[m]?.map (·.eff)).getD []) t <;> rfl
theorem draw_any (hT : TabOK P T) {ops : Array Oper} {nx0 m : Nat} {E0 : Env} {H0 : Heap} (hfin : FinH H0) {rs : List Rc} (hd : DrawOK P T ops n nx0 m E0 H0 rs) {Q : Exit → Act → World → Prop}
    (hQ : ∀ fuel (listed : Array Bool) β a w, listed.size = ops.size → listed.toList.count false = fuel → (∀ i, i < ops.size → listed.getD i false = decide (i < m)) → Closed ops (fun i => listed.getD i false) → Sim C n (pref (fun i => WE ((ops[i]?).bind (·.dst)) ((rs[i]?.map (·.pv)).getD .any)) (fun _ => true) E0 m) (pref (fun i => WH ((rs[i]?.map (·.eff)).getD [])) (fun _ => true) H0 m) β a w → wpAny P .any ops Q fuel listed a w) :
    ∀ (fuel : Nat) (listed : Array Bool) (β : Ref) (a : Act) (w : World), listed.size = ops.size → listed.toList.count false = fuel → (∀ k, m ≤ k → listed.getD k false = false) → Closed ops (fun i => listed.getD i false) →
      Sim C n (pref (fun i => WE ((ops[i]?).bind (·.dst)) ((rs[i]?.map (·.pv)).getD .any)) (fun i => listed.getD i false) E0 m) (pref (fun i => WH ((rs[i]?.map (·.eff)).getD [])) (fun i => listed.getD i false) H0 m) β a w →
      wpAny P .any ops Q fuel listed a w := by
  have hfull : ∀ (listed : Array Bool), (∀ i, i < m → listed.getD i false = true) → ∀ {V : Type} (W : Nat → Nat → Option V) (σ : Nat → Option V), pref W (fun i => listed.getD i false) σ m = pref W (fun _ => true) σ m := by
    intro listed hall V W σ
    funext t
    have := pref_agree (W := W) (D := fun i => listed.getD i false) (σ := σ) (t := t) (i := m) (n := m) (fun j hj _ => ⟨fun _ => hj, fun _ => hall j hj⟩)
    simpa using this
  have hmn := hd.hm
  have hdone : ∀ (listed : Array Bool), listed.size = ops.size → Region.ready .any ops listed = [] → ∀ i, i < ops.size → listed.getD i false = true := by
    intro listed hsz hr i
    induction i using Nat.strongRecOn with
    | _ i ih =>
      intro hi
      cases hl : listed.getD i false with
      | true => rfl
      | false =>
        exfalso
        have ho : ops[i]? = some ops[i] := Array.getElem?_eq_getElem hi
        have : i ∈ Region.ready .any ops listed := by
          unfold Region.ready
          rw [List.mem_filter]
          refine ⟨by simp [hi], ?_⟩
          have hl' : listed.getD i true = false := by
            have hlt : i < listed.size := by omega
            simp [Array.getD, hlt] at hl ⊢
            exact hl
          rw [hl', ho]
          simp only [Bool.not_false, Bool.true_and, Option.map_some, Option.getD_some, Array.all_eq_true']
          intro e he
          cases hb : Region.binds .any e with
          | false => rfl
          | true =>
            have hlt := slotsOK_edges hd.slots ho he hb
            simp [ih e.on hlt (by omega)]
        rw [hr] at this
        cases this
  intro fuel
  induction fuel with
  | zero =>
    intro listed β a w hsz hc hno hcl hs
    have hall : ∀ i, i < ops.size → listed.getD i false = true := by
      intro i hi
      cases hl : listed.getD i false with
      | true => rfl
      | false =>
        exfalso
        have hlt : i < listed.size := by omega
        have hm : false ∈ listed.toList := by
          simp [Array.getD, hlt] at hl
          rw [← hl]
          simp
        have := List.count_pos_iff.2 hm
        omega
    refine hQ 0 listed β a w hsz hc (fun i hi => ?_) hcl (by rw [hfull listed (fun i hi => hall i (by omega)), hfull listed (fun i hi => hall i (by omega))] at hs; exact hs)
    rw [hall i hi]
    by_cases him : i < m
    · simp [him]
    · have := hno i (by omega)
      rw [hall i hi] at this
      cases this
  | succ fuel ih =>
    intro listed β a w hsz hc hno hcl hs
    by_cases hpre0 : ∀ i, i < m → listed.getD i false = true
    · refine hQ _ listed β a w hsz hc (fun i hi => ?_) hcl (by rw [hfull listed hpre0, hfull listed hpre0] at hs; exact hs)
      by_cases him : i < m
      · rw [hpre0 i him]; simp [him]
      · rw [hno i (by omega)]; simp [him]
    have hex : ∃ i0, i0 < m ∧ listed.getD i0 false = false := by
      apply Classical.byContradiction
      intro hne
      refine hpre0 fun i hi => ?_
      cases hl : listed.getD i false with
      | true => rfl
      | false => exact absurd ⟨i, hi, hl⟩ hne
    obtain ⟨i0, hi0, hl0⟩ := hex
    refine ⟨fun hr => ?_, fun i hi => ?_⟩
    · have := hdone listed hsz hr i0 (by omega)
      rw [hl0] at this
      cases this
    · unfold Region.ready at hi
      rw [List.mem_filter] at hi
      obtain ⟨h1, h2⟩ := hi
      have hin : i < ops.size := by simpa using h1
      have hlt : i < listed.size := by omega
      have ho : ops[i]? = some ops[i] := Array.getElem?_eq_getElem hin
      simp only [ho, Option.map_some, Option.getD_some, Bool.and_eq_true, Array.all_eq_true'] at h2
      have hDi : listed.getD i false = false := by
        have := h2.1
        simp [Array.getD, hlt] at this ⊢
        exact this
      have hpre : ∀ e ∈ ops[i].after, Region.binds .any e = true → listed.getD e.on false = true := by
        intro e he hb
        have := h2.2 e he
        simpa [hb] using this
      have him : i < m := by
        apply Classical.byContradiction
        intro hge
        have hb := hd.tail i (by omega) hin i0 (by omega)
        have := before_closed hcl hb ho hpre
        rw [hl0] at this
        cases this
      have hri : ∃ r, rs[i]? = some r := ⟨_, List.getElem?_eq_getElem (by rw [hd.len]; exact him)⟩
      obtain ⟨r, hr⟩ := hri
      have hrc := hd.rc i _ r ho hr
      -- who comes ahead has been; who comes behind has not
      have hbef : ∀ j, before ops j i = true → listed.getD j false = true := fun j hj => before_closed hcl hj ho hpre
      have haft : ∀ j, before ops i j = true → j < ops.size → listed.getD j false = false := by
        intro j hj hjn
        cases hl : listed.getD j false with
        | false => rfl
        | true =>
          have hoj : ops[j]? = some ops[j] := Array.getElem?_eq_getElem hjn
          have := before_closed hcl hj hoj (hcl j _ hoj hl)
          rw [hDi] at this
          cases this
      have rget : ∀ j, j < m → ∃ q, rs[j]? = some q := fun j hj => ⟨_, List.getElem?_eq_getElem (by rw [hd.len]; exact hj)⟩
      have hEa : ∀ t ∈ ops[i].looksAt ops, pref (fun i => WE ((ops[i]?).bind (·.dst)) ((rs[i]?.map (·.pv)).getD .any)) (fun i => listed.getD i false) E0 m t = pref (fun i => WE ((ops[i]?).bind (·.dst)) ((rs[i]?.map (·.pv)).getD .any)) (fun _ => true) E0 i t := by
        intro t ht
        rw [pref_agree (i := i) (n := m) (fun j hj hw => ?_)]
        · rw [Nat.min_eq_right (by omega)]
        · have hoj : ops[j]? = some ops[j] := Array.getElem?_eq_getElem (show j < ops.size by omega)
          have hdj : ops[j].dst = some t := by
            simp only [WE, hoj, Option.bind_some] at hw
            split at hw
            · assumption
            · simp at hw
          rcases Nat.lt_trichotomy j i with hji | rfl | hji
          · refine ⟨fun _ => hji, fun _ => ?_⟩
            rcases slotsOK_pair hd.slots hji ho hoj with hap | hb
            · exact absurd ht ((Oper.apart_spec hap).1 t hdj)
            · exact hbef j hb
          · exact ⟨fun h => (by rw [hDi] at h; cases h), fun h => by omega⟩
          · refine ⟨fun h => ?_, fun h => by omega⟩
            rcases slotsOK_pair hd.slots hji hoj ho with hap | hb
            · exact absurd ht ((Oper.apart_spec hap).2.2 t hdj)
            · rw [haft j hb (by omega)] at h; cases h
      have hHa : r.run = true → ∀ b ∈ r.rd, pref (fun i => WH ((rs[i]?.map (·.eff)).getD [])) (fun i => listed.getD i false) H0 m b = pref (fun i => WH ((rs[i]?.map (·.eff)).getD [])) (fun _ => true) H0 i b := by
        intro hrun b hb
        rw [pref_agree (i := i) (n := m) (fun j hj hw => ?_)]
        · rw [Nat.min_eq_right (by omega)]
        · obtain ⟨q, hq⟩ := rget j hj
          simp only [hq, Option.map_some, Option.getD_some] at hw
          have hbq := WH_mem hw
          rcases Nat.lt_trichotomy j i with hji | rfl | hji
          · refine ⟨fun _ => hji, fun _ => ?_⟩
            cases hbo : before ops j i with
            | true => exact hbef j hbo
            | false => exact absurd hb ((okPair_spec (hd.pair j i q r hji hq hr) hbo).1 b hbq).1
          · exact ⟨fun h => (by rw [hDi] at h; cases h), fun h => by omega⟩
          · refine ⟨fun h => ?_, fun h => by omega⟩
            cases hbo : before ops i j with
            | true => rw [haft j hbo (by omega)] at h; cases h
            | false => exact absurd hbq ((okPair_spec (hd.pair i j r q hji hr hq) hbo).2 b hb)
      have hD' : ∀ k, (listed.setIfInBounds i true).getD k false = (k == i || listed.getD k false) := by
        intro k
        simp only [Array.getD_eq_getD_getElem?, Array.getElem?_setIfInBounds]
        by_cases hk : i = k
        · subst hk; simp [hlt]
        · have : (k == i) = false := by simp; omega
          simp [hk, this]
      have hEadd : ∀ {β' a' w'} {H' : Heap}, Sim C n (updO (pref (fun i => WE ((ops[i]?).bind (·.dst)) ((rs[i]?.map (·.pv)).getD .any)) (fun i => listed.getD i false) E0 m) ops[i].dst r.pv) H' β' a' w' →
          Sim C n (pref (fun i => WE ((ops[i]?).bind (·.dst)) ((rs[i]?.map (·.pv)).getD .any)) (fun k => (listed.setIfInBounds i true).getD k false) E0 m) H' β' a' w' := by
        intro β' a' w' H' h
        have : pref (fun i => WE ((ops[i]?).bind (·.dst)) ((rs[i]?.map (·.pv)).getD .any)) (fun k => (listed.setIfInBounds i true).getD k false) E0 m = updO (pref (fun i => WE ((ops[i]?).bind (·.dst)) ((rs[i]?.map (·.pv)).getD .any)) (fun i => listed.getD i false) E0 m) ops[i].dst r.pv := by
          funext t
          rw [pref_add (i := i) hDi hD' (fun j hij hj hl t hw => ?_), if_pos him, updO_eq]
          · simp only [ho, Option.bind_some, hr, Option.map_some, Option.getD_some]
            cases WE ops[i].dst r.pv t <;> rfl
          · have hoj : ops[j]? = some ops[j] := Array.getElem?_eq_getElem (show j < ops.size by omega)
            simp only [WE, ho, Option.bind_some] at hw
            simp only [WE, hoj, Option.bind_some]
            split at hw
            · rename_i hdi
              rcases slotsOK_pair hd.slots hij hoj ho with hap | hb
              · rw [if_neg ((Oper.apart_spec hap).2.1 t hdi)]
              · rw [haft j hb (by omega)] at hl; cases hl
            · simp at hw
        rw [this]
        exact h
      have hHadd : pref (fun i => WH ((rs[i]?.map (·.eff)).getD [])) (fun k => (listed.setIfInBounds i true).getD k false) H0 m = applyEff (pref (fun i => WH ((rs[i]?.map (·.eff)).getD [])) (fun i => listed.getD i false) H0 m) r.eff := by
        funext b
        rw [pref_add (i := i) hDi hD' (fun j hij hj hl t hw => ?_), if_pos him, applyEff_eq]
        · simp only [hr, Option.map_some, Option.getD_some]
          cases WH r.eff b <;> rfl
        · obtain ⟨q, hq⟩ := rget j hj
          simp only [hr, Option.map_some, Option.getD_some] at hw
          have hbw := WH_mem hw
          simp only [hq, Option.map_some, Option.getD_some]
          cases hwj : WH q.eff t with
          | none => rfl
          | some y =>
            exfalso
            have hbq := WH_mem (l := q.eff) (b := t) (by simp [hwj])
            cases hbo : before ops i j with
            | true => rw [haft j hbo (by omega)] at hl; cases hl
            | false => exact ((okPair_spec (hd.pair i j r q hij hr hq) hbo).1 t hbw).2 hbq
      have hno' : ∀ k, m ≤ k → (listed.setIfInBounds i true).getD k false = false := by
        intro k hk
        rw [hD']
        have : (k == i) = false := by simp; omega
        rw [this, hno k hk]
        rfl
      have hcl' : Closed ops (fun k => (listed.setIfInBounds i true).getD k false) := by
        intro k o hk hl e he hb
        simp only [hD', Bool.or_eq_true, beq_iff_eq] at hl ⊢
        rcases hl with rfl | hl
        · rw [ho] at hk
          cases hk
          exact .inr (hpre e he hb)
        · exact .inr (hcl k o hk hl e he hb)
      have hcnt : (listed.setIfInBounds i true).toList.count false = fuel := by
        rw [Array.toList_setIfInBounds, List.count_set (by simpa using hlt)]
        have : listed.toList[i]'(by simpa using hlt) = false := by
          simp [Array.getD, hlt] at hDi
          simpa using hDi
        have hc' : Array.count false listed = fuel + 1 := by simpa using hc
        simp [this]
        omega
      have hwant : Region.wanted ops[i] (yielded ops a.tmps) = r.run := by
        refine wantedF (E := pref (fun i => WE ((ops[i]?).bind (·.dst)) ((rs[i]?.map (·.pv)).getD .any)) (fun i => listed.getD i false) E0 m) ?_ hs
        rw [wantF_congr hEa]
        exact hrc.want
      unfold wpOp
      rw [ho]
      simp only
      cases hrun : r.run with
      | true =>
        rw [hwant, hrun, if_pos rfl]
        obtain ⟨q1, q2, q3⟩ := hrc.op hrun
        have hop := q1.congr (ev_congr hEa) (fun b hb => hHa hrun b (q2 b hb)) (fun h3 h4 => hHa hrun _ (q3 h3 h4))
        refine .inl (Oper.wp_mono ?_ (hop.wp hT (fin_pref hfin m) hrc.dst hs))
        rintro a' w' ⟨β', hs'⟩
        exact ih _ β' a' w' (by simpa using hsz) hcnt hno' hcl' (hEadd (by rw [hHadd]; exact hs'))
      | false =>
        rw [hwant, hrun, if_neg (by simp)]
        obtain ⟨q1, q2⟩ := hrc.skip hrun
        refine ih _ β _ w (by simpa using hsz) hcnt hno' hcl' (hEadd ?_)
        rw [hHadd, q1, q2]
        exact hs.putO hrc.dst (.i (.lit undef))
end

end Go.Pe
