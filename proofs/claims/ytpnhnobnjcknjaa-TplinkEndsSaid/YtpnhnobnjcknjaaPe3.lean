/- What an operation that gives a value, and writes no memory, gives on abstract values; and that the model's operation gives a value that stands for it. -/
import Derived.Test.YtpnhnobnjcknjaaPe2
import Derived.Laws.Entries
import Derived.Laws.Small
set_option linter.unusedVariables false
set_option linter.unusedSimpArgs false
namespace Go.Pe
open Go.RowKit

/-! ### types -/
inductive TD : Type where
  | other | bool | int (k : IntKind) | str | slice (e : TypeId) | map (k e : TypeId) | struct (fs : List (Nat × TypeId)) | array (len : Nat) (e : TypeId)
structure TI where
  size : Nat
  agg : Bool
  bytes : Nat
  zero : List Value
  zpv : List PV
  desc : TD
  trunc : Bool
abbrev Tab := TypeId → Option TI

def TD.fits : TD → TypeDesc → Prop
  | .other, _ => True
  | .bool, d => d = .bool
  | .int k, d => d = .int k
  | .str, d => d = .string
  | .slice e, d => d = .slice e
  | .map k e, d => d = .map k e
  | .struct fs, d => ∃ gs, d = .struct gs ∧ gs.toList.map (fun f => (f.offset, f.type)) = fs
  | .array n e, d => d = .array n e
def isAggD : TypeDesc → Bool
  | .struct _ | .array _ _ => true
  | _ => false
/-- The zero value's cells as abstract values. -/
def ZRep (zs : List PV) (vs : List Value) : Prop := zs.length = vs.length ∧ ∀ j x, zs[j]? = some x → x = .lit (vs.getD j undef) ∨ ((∃ s, x = .im s []) ∧ vs.getD j undef = .slice none 0 0)
structure TypeOK (P : Program) (t : TypeId) (ti : TI) : Prop where
  d : ∃ d, P.underlying t = some d ∧ ti.desc.fits d ∧ isAggD d = ti.agg
  i : ∃ i z, P.info? t = some i ∧ i.size = ti.size ∧ i.bytes = ti.bytes ∧ i.zero = some z ∧ z.cells.toList = ti.zero ∧ ti.zero.length = ti.size ∧ ∀ v ∈ ti.zero, v.oneCell' = true
  z : ZRep ti.zpv ti.zero
def TabOK (P : Program) (T : Tab) : Prop := ∀ t ti, T t = some ti → TypeOK P t ti

section types
variable {P : Program} {t : TypeId} {ti : TI}
theorem TypeOK.run_sizeOf (h : TypeOK P t ti) (w : World) : (sizeOf t).run P w = .ok ti.size w := by
  obtain ⟨i, z, h1, h2, _⟩ := h.i
  simp [sizeOf, typeInfo, h1, h2]
theorem TypeOK.run_isAgg (h : TypeOK P t ti) (w : World) : (isAgg t).run P w = .ok ti.agg w := by
  obtain ⟨d, h1, _, h3⟩ := h.d
  simp only [isAgg, Sem.run_bind, run_underlying h1, Result.andThen_ok]
  cases d <;> simp [isAggD] at h3 <;> simp [h3]
theorem TypeOK.run_zero (h : TypeOK P t ti) (w : World) : ∃ z, (zeroValue t).run P w = .ok z w ∧ z.cells.toList = ti.zero := by
  obtain ⟨i, z, h1, h2, h3, h4, h5, _⟩ := h.i
  exact ⟨z, by simp [zeroValue, typeInfo, h1, h4], h5⟩
end types

/-! ### operands -/
def ev (E : Env) : Operand → PV
  | .tmp t => (E t).getD .any
  | .const v => .lit v
  | .global g => .lit (.pointer (some ⟨g, 0, none⟩))
  | .func f => .lit (.func (.func f) #[] #[])

def isCell : PV → Bool
  | .lit v => v.oneCell'
  | .any | .agg _ | .tup _ => false
  | _ => true

section
variable {N : Nat → Prop} {w : World} {β : Ref}
theorem Rep.cell {pv : PV} {v : Value} (h : Rep N w β pv v) (hc : isCell pv = true) : v.oneCell' = true := by
  cases h with
  | i h => cases h <;> first | exact hc | rfl | (simp [isCell] at hc)
  | any v => simp [isCell] at hc
  | agg => simp [isCell] at hc
  | tup => simp [isCell] at hc
  | ptr => rfl
  | mapp => rfl
  | aptr _ _ _ _ _ _ _ _ _ _ ho _ => exact ho
  | iptr => rfl
  | own _ _ _ _ _ _ _ ho _ => exact ho
  | fn => rfl
  | iface => rfl
theorem IRep.cell {pv : PV} {v : Value} (h : IRep N w pv v) (hc : isCell pv = true) : v.oneCell' = true := (Rep.i (β := fun _ => none) h).cell hc
theorem Rep.lit_eq {x v : Value} (h : Rep N w β (.lit x) v) : v = x := by
  cases h with
  | i h => cases h; rfl
theorem Rep.ptr_eq {b off : Nat} {v : Value} (h : Rep N w β (.ptr b off) v) : ∃ k, v = .pointer (some ⟨k, off, none⟩) ∧ β b = some (0, .pointer (some ⟨k, 0, none⟩)) := by
  cases h with
  | i h => cases h
  | ptr b off k h => exact ⟨k, rfl, h⟩
theorem Rep.mapp_eq {b : Nat} {v : Value} (h : Rep N w β (.mapp b) v) : ∃ k, v = .map (some k) ∧ β b = some (0, .pointer (some ⟨k, 0, none⟩)) := by
  cases h with
  | i h => cases h
  | mapp b k h => exact ⟨k, rfl, h⟩
theorem Rep.iptr_eq {cs : List PV} {v : Value} (h : Rep N w β (.iptr cs) v) :
    ∃ (a : Addr) (vals : Nat → Value), v = .pointer (some a) ∧ ∀ j pv, cs[j]? = some pv → w.cell? (a.add j) = some (vals j) ∧ ¬ N a.block ∧ IRep N w pv (vals j) ∧ (vals j).oneCell' = true := by
  cases h with
  | i h => cases h
  | iptr cs a vals h1 => exact ⟨a, vals, rfl, h1⟩
theorem Rep.aptr_eq {b ver row off size : Nat} {v : Value} (h : Rep N w β (.aptr b ver row off size) v) {u : Value} (hβ : β b = some (ver, u)) :
    ∀ g n c, u = .slice (some ⟨g, 0, none⟩) n c → v = .pointer (some ⟨g, row * size + off, none⟩) := by
  cases h with
  | i h => cases h
  | aptr _ _ _ _ _ ver' u' _ h1 h2 h3 h4 =>
    rw [hβ] at h1
    cases h1
    exact h4 rfl
theorem Rep.own_eq {b ver : Nat} {v : Value} (h : Rep N w β (.own b ver) v) {u : Value} (hβ : β b = some (ver, u)) : v = u := by
  cases h with
  | i h => cases h
  | own _ _ ver' u' _ h1 h2 h3 h4 =>
    rw [hβ] at h1
    cases h1
    exact h4 rfl
theorem Rep.im_eq {size : Nat} {rows : List (List PV)} {v : Value} (h : Rep N w β (.im size rows) v) : IRep N w (.im size rows) v := by
  cases h with
  | i h => exact h
theorem Rep.agg_eq {cs : List PV} {v : Value} (h : Rep N w β (.agg cs) v) : ∃ vs : Array Value, v = .agg vs ∧ vs.size = cs.length ∧ ∀ i pv, cs[i]? = some pv → Rep N w β pv (vs.getD i undef) := by
  cases h with
  | i h => cases h with | agg cs vs hl h => exact ⟨vs, rfl, hl, fun i pv hi => .i (h i pv hi)⟩
  | agg cs vs hl h => exact ⟨vs, rfl, hl, h⟩
theorem Rep.tup_eq {cs : List PV} {v : Value} (h : Rep N w β (.tup cs) v) : ∃ vs : Array Value, v = .tuple vs ∧ vs.size = cs.length ∧ ∀ i pv, cs[i]? = some pv → Rep N w β pv (vs.getD i undef) := by
  cases h with
  | i h => cases h with | tup cs vs hl h => exact ⟨vs, rfl, hl, fun i pv hi => .i (h i pv hi)⟩
  | tup cs vs hl h => exact ⟨vs, rfl, hl, h⟩
end

section
variable {C : Ctx} {n : Nat} {E : Env} {H : Heap} {β : Ref} {a : Act} {w : World}
theorem Sim.ev (h : Sim C n E H β a w) (x : Operand) : Rep (NN C H β) w β (ev E x) (a.eval x) := by
  cases x with
  | tmp t =>
    simp only [Pe.ev, Act.eval]
    cases he : E t with
    | none => exact .any _
    | some pv => exact (h.env t pv he).2
  | const v => exact .i (.lit v)
  | global g => exact .i (.lit _)
  | func f => exact .i (.lit _)
end

/-! ### numbers, bools, strings -/
def bitsA (op : BinOp) (k : IntKind) (x y : Int) : Int :=
  let a := BitVec.ofInt k.bits x
  let b := BitVec.ofInt k.bits y
  match op with
  | .and => k.wrap (a &&& b).toNat
  | .or => k.wrap (a ||| b).toNat
  | .xor => k.wrap (a ^^^ b).toNat
  | _ => k.wrap (a &&& ~~~b).toNat

def intA (op : BinOp) (k : IntKind) (a b : Int) : Option (Prop × Value) :=
  match op with
  | .add => some (True, .int k (k.wrap (a + b)))
  | .sub => some (True, .int k (k.wrap (a - b)))
  | .mul => some (True, .int k (k.wrap (a * b)))
  | .quo => some (b ≠ 0, .int k (k.wrap (a.tdiv b)))
  | .rem => some (b ≠ 0, .int k (a.tmod b))
  | .and | .or | .xor | .andNot => some (True, .int k (bitsA op k a b))
  | .eql => some (True, .bool (decide (a = b)))
  | .neq => some (True, .bool (!decide (a = b)))
  | .lss => some (True, .bool (decide (a < b)))
  | .leq => some (True, .bool (decide (a ≤ b)))
  | .gtr => some (True, .bool (decide (a > b)))
  | .geq => some (True, .bool (decide (a ≥ b)))
  | _ => none

def binA (T : Tab) (op : BinOp) (t : TypeId) (x y : Value) : Option (Prop × Value) :=
  match x, y with
  | .int k a, .int k' b =>
    match op with
    | .shl => some (0 ≤ b, .int k (k.wrap (a * 2 ^ (min b.toNat k.bits))))
    | .shr => some (0 ≤ b, .int k (a.fdiv (2 ^ (min b.toNat k.bits))))
    | _ => if k = k' then intA op k a b else none
  | .bool a, .bool b =>
    match T t with
    | some { desc := .bool, .. } =>
      match op with
      | .eql => some (True, .bool (a == b))
      | .neq => some (True, .bool (a != b))
      | _ => none
    | _ => none
  | .string a, .string b =>
    match op with
    | .eql => some (True, .bool (a.toList == b.toList))
    | .neq => some (True, .bool (!(a.toList == b.toList)))
    | .add => some ((a.size : Int) + (b.size : Int) ≤ 9223372036854775807, .string (a ++ b))
    | _ => none
  | _, _ => none

theorem binOp_bool {P : Program} {t : TypeId} (a b : Bool) (h : P.underlying t = some .bool) (w : World) :
    (binOp .eql t (.bool a) (.bool b)).run P w = .ok (.bool (a == b)) w ∧ (binOp .neq t (.bool a) (.bool b)).run P w = .ok (.bool (a != b)) w := by
  have h1 : binOp .eql t (.bool a) (.bool b) = (do pure (.bool (← Op.equal t (.bool a) (.bool b)))) := rfl
  have h2 : binOp .neq t (.bool a) (.bool b) = (do pure (.bool (!(← Op.equal t (.bool a) (.bool b))))) := rfl
  rw [h1, h2]
  simp only [Sem.run_bind, run_equal_bool (P := P) w t a b h, Result.andThen_ok, Sem.run_pure]
  exact ⟨trivial, rfl⟩
theorem eqGuard_plain {P : Program} {op : BinOp} {t : TypeId} {x y : Operand} {p q : Value} (hp : ¬ p matches .nilIface | .agg _) (w : World) : (eqGuard op t x y p q).run P w = .ok () w := by
  cases p <;> first | (simp at hp; done) | (cases op <;> rfl)
theorem binOp_string {P : Program} {op : BinOp} {t : TypeId} {a b : ByteArray} (w : World) : (binOp op t (.string a) (.string b)).run P w = (Op.stringOp op a b).run P w := by cases op <;> rfl
theorem binOp_int {P : Program} {op : BinOp} {t : TypeId} {k : IntKind} {a b : Int} {r : Value} {ok : Prop} (h : intA op k a b = some (ok, r)) (hok : ok) (w : World) :
    (binOp op t (.int k a) (.int k b)).run P w = .ok r w := by
  cases op <;> simp only [intA, Option.some.injEq, Prod.mk.injEq, reduceCtorEq] at h <;> obtain ⟨rfl, rfl⟩ := h
  case add => simp [binOp, Op.intArith]
  case sub => simp [binOp, Op.intArith]
  case mul => simp [binOp, Op.intArith]
  case quo => simp only [ne_eq] at hok; simp [binOp, Op.intDiv, hok]
  case rem => simp only [ne_eq] at hok; simp [binOp, Op.intDiv, hok]
  case and => simp [binOp, Op.intBits, bitsA]
  case or => simp [binOp, Op.intBits, bitsA]
  case xor => simp [binOp, Op.intBits, bitsA]
  case andNot => simp [binOp, Op.intBits, bitsA]
  case eql => simp [binOp, Op.intCmp]; rfl
  case neq => simp [binOp, Op.intCmp]; rfl
  case lss => simp [binOp, Op.intCmp]
  case leq => simp [binOp, Op.intCmp]
  case gtr => simp [binOp, Op.intCmp]
  case geq => simp [binOp, Op.intCmp]

theorem run_equal_slice {P : Program} {t e : TypeId} {x : Option Addr} {n c n' c' : Nat} (h : P.underlying t = some (.slice e)) (w : World) : (Op.equal t (.slice x n c) (.slice none n' c')).run P w = .ok x.isNone w := by
  have key : ∀ d, (Op.equalIn (d + 1) t (.slice x n c) (.slice none n' c')).run P w = .ok x.isNone w := by
    intro d
    cases x <;> simp [Op.equalIn, run_underlying h]
  exact key 9999
theorem binOp_slice {P : Program} {t e : TypeId} {x : Option Addr} {n c n' c' : Nat} (h : P.underlying t = some (.slice e)) (w : World) :
    (binOp .eql t (.slice x n c) (.slice none n' c')).run P w = .ok (.bool x.isNone) w ∧ (binOp .neq t (.slice x n c) (.slice none n' c')).run P w = .ok (.bool (!x.isNone)) w := by
  have h1 : binOp .eql t (.slice x n c) (.slice none n' c') = (do pure (.bool (← Op.equal t (.slice x n c) (.slice none n' c')))) := rfl
  have h2 : binOp .neq t (.slice x n c) (.slice none n' c') = (do pure (.bool (!(← Op.equal t (.slice x n c) (.slice none n' c'))))) := rfl
  rw [h1, h2]
  simp only [Sem.run_bind, run_equal_slice (P := P) h w, Result.andThen_ok, Sem.run_pure]
  exact ⟨trivial, trivial⟩

theorem binA_run {P : Program} {T : Tab} (hT : TabOK P T) {op : BinOp} {t : TypeId} {x y : Operand} {p q r : Value} {ok : Prop} (h : binA T op t p q = some (ok, r)) (hok : ok) (w : World) :
    (do eqGuard op t x y p q; binOp op t p q : Sem Value).run P w = .ok r w := by
  have hg : (eqGuard op t x y p q).run P w = .ok () w := eqGuard_plain (by cases p <;> cases q <;> simp [binA] at h ⊢) w
  rw [Sem.run_bind, hg, Result.andThen_ok]
  cases p <;> cases q <;> simp only [binA, reduceCtorEq] at h
  · rename_i a b
    split at h
    · rename_i heq
      obtain ⟨d, hd, hf, _⟩ := (hT t _ heq).d
      simp only [TD.fits] at hf
      subst hf
      cases op <;> simp only [Option.some.injEq, Prod.mk.injEq, reduceCtorEq] at h
      · obtain ⟨_, rfl⟩ := h
        exact (binOp_bool a b hd w).1
      · obtain ⟨_, rfl⟩ := h
        exact (binOp_bool a b hd w).2
    · cases h
  · rename_i k a k' b
    by_cases hs : op = .shl
    · subst hs
      simp only [Option.some.injEq, Prod.mk.injEq] at h
      obtain ⟨rfl, rfl⟩ := h
      have : ¬ b < 0 := by omega
      simp [binOp, Op.shift, this]
    · by_cases hs' : op = .shr
      · subst hs'
        simp only [Option.some.injEq, Prod.mk.injEq] at h
        obtain ⟨rfl, rfl⟩ := h
        have : ¬ b < 0 := by omega
        simp [binOp, Op.shift, this]
      · have h' : (if k = k' then intA op k a b else none) = some (ok, r) := by cases op <;> first | exact h | exact absurd rfl hs | exact absurd rfl hs'
        split at h'
        · rename_i hk
          subst hk
          exact binOp_int h' hok w
        · cases h'
  · rename_i a b
    rw [binOp_string]
    cases op <;> simp only [Option.some.injEq, Prod.mk.injEq, reduceCtorEq] at h <;> obtain ⟨rfl, rfl⟩ := h
    · have h' : ¬ (9223372036854775807 < (a.size : Int) + (b.size : Int)) := by omega
      simp [Op.stringOp, IntKind.max, IntKind.signed, IntKind.bits, h']
    · simp [Op.stringOp]
    · simp [Op.stringOp]

def unA (op : UnOp) (x : Value) : Option Value :=
  match op, x with
  | .not, .bool b => some (.bool (!b))
  | .neg, .int k n => some (.int k (k.wrap (0 - n)))
  | .xor, .int k n => some (.int k (bitsA .xor k (if k.signed then -1 else k.max) n))
  | _, _ => none
theorem unA_run {P : Program} {op : UnOp} {x r : Value} (h : unA op x = some r) (w : World) : (Op.unary op x).run P w = .ok r w := by
  cases op <;> cases x <;> simp [unA] at h <;> subst h <;> simp [Op.unary, Op.intArith, Op.intBits, bitsA]

end Go.Pe
