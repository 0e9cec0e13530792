/- Operations that make or write memory: the theorem. -/
import Derived.Test.YtefcpcepgflhdaaPe9
set_option linter.unusedVariables false
set_option linter.unusedSimpArgs false
namespace Go.Pe
open Go.RowKit

/-- The rows of a slice literal: each element's cells, frozen. -/
def litRowsA (H : Heap) (size : Nat) : List PV → Option (List (List PV))
  | [] => some []
  | x :: l => match cellsA x with
    | none => none
    | some vs => match frzCs H vs, litRowsA H size l with
      | some us, some m => if us.length = size then some (us :: m) else none
      | _, _ => none
def litCells (l : List PV) : List PV := l.flatMap fun x => (cellsA x).getD []

def isNil : Value → Bool
  | .slice none 0 0 => true
  | _ => false
theorem isNil_eq {v : Value} (h : isNil v = true) : v = .slice none 0 0 := by
  unfold isNil at h
  split at h
  · rfl
  · cases h

def srcB (T : Tab) (size : Nat) (t' : TypeId) (pv : PV) (im : Option (List (List PV))) : Option (List (List PV)) :=
  match T t' with
  | none => none
  | some ti => match ti.desc, pv with
    | .slice _, _ => im
    | .str, .lit (.string s) => if size = 1 then some (strRows s) else none
    | _, _ => none

def srcA (T : Tab) (H : Heap) (size : Nat) (t' : TypeId) (pv : PV) : Option (List (List PV)) := srcB T size t' pv (asIm H size pv)

def appendA (T : Tab) (fresh : Nat) (E : Env) (H : Heap) (t t' : TypeId) (x y : Operand) : Option (Prop × PV × List (Nat × Blk)) :=
  match T t with
  | none => none
  | some ti => match ti.desc with
    | .slice e => match T e with
      | none => none
      | some te => match srcA T H te.size t' (ev E y) with
        | none => none
        | some new => match ev E x with
          | .own b ver => match H b with
            | some (.arr T0 s rows ver' f) => some (f = false ∧ s = te.size ∧ T0 = e ∧ ver' = ver ∧ (rows.length + new.length) * te.bytes ≤ 140737488355328 ∧ rows.length + new.length ≤ 9223372036854775807,
                .own b (ver + 1), [(b, .arr e s (rows ++ new) (ver + 1) false)])
            | _ => none
          | .lit v => if isNil v then some (new.length * te.bytes ≤ 140737488355328 ∧ new.length ≤ 9223372036854775807, .own fresh 0, [(fresh, .arr e te.size new 0 false)]) else none
          | _ => none
    | _ => none

def evMem (T : Tab) (fresh : Nat) (E : Env) (H : Heap) : Op → Option (Prop × PV × List (Nat × Blk))
  | .alloc t => match T t with
    | some ti => some (True, .ptr fresh 0, [(fresh, .box t ti.zpv)])
    | none => none
  | .box t x => match cellsA (ev E x) with
    | some cs => some (cs.all isCell = true, .ptr fresh 0, [(fresh, .box t cs)])
    | none => none
  | .store t x y => match T t, cellsA (ev E y) with
    | some ti, some vs => match ev E x with
      | .ptr b off => match H b with
        | some (.box T0 cs) => some (vs.length = ti.size ∧ off + vs.length ≤ cs.length ∧ vs.all isCell = true, .any, [(b, .box T0 (splice cs off vs))])
        | _ => none
      | .aptr b ver row off size => match H b, frzCs H vs with
        | some (.arr T0 s rows ver' f), some us => some (f = false ∧ s = size ∧ ver' = ver ∧ row < rows.length ∧ us.length = ti.size ∧ off + us.length ≤ s ∧ (∀ x ∈ frzEff H vs, x.1 ≠ b), .any,
            frzEff H vs ++ [(b, .arr T0 s (rows.set row (splice (rows.getD row []) off us)) ver false)])
        | _, _ => none
      | _ => none
    | _, _ => none
  | .buildSlice t len ps => match T t with
    | some ti => match ti.desc with
      | .slice e => match T e with
        | some te => match litRowsA H te.size (ps.toList.map fun p => ev E p.2) with
          | some rows => some (ps.toList.map (·.1) = List.range len ∧ te.size ≠ 0 ∧ len * te.size ≤ 16777216 ∧ (∀ x ∈ frzEff H (litCells (ps.toList.map fun p => ev E p.2)), x.1 ≠ fresh), .own fresh 0,
              frzEff H (litCells (ps.toList.map fun p => ev E p.2)) ++ [(fresh, .arr e te.size rows 0 false)])
          | none => none
        | none => none
      | _ => none
    | none => none
  | .makeSlice t l c => match T t, ev E l, ev E c with
    | some ti, .lit (.int _ m), .lit (.int _ m') => match ti.desc with
      | .slice e => match T e with
        | some te => some (m' = m ∧ 0 ≤ m ∧ te.bytes * m ≤ 140737488355328 ∧ m ≤ 9223372036854775807 ∧ te.size ≠ 0, .own fresh 0, [(fresh, .arr e te.size (List.replicate m.toNat te.zpv) 0 false)])
        | none => none
      | _ => none
    | _, _, _ => none
  | .slice t x lo hi mx => match T t with
    | none => none
    | some ti => match ti.desc, ev E x with
      | .slice e, .own b ver => match T e, H b with
        | some te, some (.arr T0 s rows ver' f) => match boundA E lo 0, boundA E hi rows.length with
          | some l, some h => some (s = te.size ∧ ver' = ver ∧ 0 ≤ l ∧ l ≤ h ∧ h ≤ rows.length ∧ mxOK E hi mx h rows.length, .im s ((rows.take h.toNat).drop l.toNat), [(b, .arr T0 s rows ver true)])
          | _, _ => none
        | _, _ => none
      | _, _ => none
  | .convert s d x => match T s, T d, ev E x with
    | some ts, some td, .lit (.string v) => match td.desc with
      | .slice e => match T e with
        | some te => (match te.desc with
          | .int .u8 => some (v.size ≤ 9223372036854775807, .im 1 (strRows v), [])
          | _ => none)
        | none => none
      | _ => none
    | _, _, _ => none
  | .call c => match c.callee, c.args.toList, c.argTypes.toList with
    | .builtin .append, [x, y], [t, t'] => appendA T fresh E H t t' x y
    | _, _, _ => none
  | _ => none

section
variable {P : Program} {T : Tab} {C : Ctx} {n : Nat} {E : Env} {H : Heap} {β : Ref} {a : Act} {w : World}

/-- What an operation with an effect gives. -/
def Gives (P : Program) (C : Ctx) (n : Nat) (E : Env) (H' : Heap) (a : Act) (w : World) (o : Oper) (r : PV) : Prop :=
  ∃ nx w' β', (execOp a.eval o).run P w = .ok nx w' ∧ Sim C n E H' β' a w' ∧ ((∃ u, nx = .value u ∧ Rep (NN C H' β') w' β' r u) ∨ (nx = .skip ∧ r = .any))

theorem frzCs_spec (hs : Sim C n E H β a w) {H' : Heap} (hf : Frz C n E β a w H H') : ∀ (l us : List PV), frzCs H l = some us → (∀ x ∈ frzEff H l, H' x.1 = some x.2) → us.length = l.length ∧
    ∀ (j : Nat) (pv : PV) (u : Value), us[j]? = some pv → ∃ q, l[j]? = some q ∧ (Rep (NN C H β) w β q u → IRep (NN C H' β) w pv u ∧ u.oneCell' = true)
  | [], us, h, _ => by
    simp only [frzCs, Option.some.injEq] at h
    subst h
    exact ⟨rfl, by simp⟩
  | x :: l, us, h, hx => by
    simp only [frzCs] at h
    split at h
    · rename_i y m hy hm
      cases h
      have ih := frzCs_spec hs hf l m hm (fun z hz => hx z (by simp only [frzEff, List.flatMap_cons]; exact List.mem_append_right _ hz))
      refine ⟨by simp [ih.1], fun j pv u hj => ?_⟩
      cases j with
      | zero =>
        cases hj
        exact ⟨x, rfl, fun hr => ⟨hf.cell hs hy (fun z hz => hx z (by simp only [frzEff, List.flatMap_cons]; exact List.mem_append_left _ hz)) hr, hr.cell (frzC_cell hy).1⟩⟩
      | succ j => exact ih.2 j pv u (by simpa using hj)
    · cases h

theorem append_sound (hT : TabOK P T) (hs : Sim C n E H β a w) {fresh : Nat} (hfr : H fresh = none) {x y : Operand} {t t' : TypeId} {r : PV} {ok : Prop} {eff : List (Nat × Blk)} (h : appendA T fresh E H t t' x y = some (ok, r, eff)) (hok : ok) (ty : TypeId) :
    ∃ u w' β', (Builtin.append_ #[t, t'] ty #[a.eval x, a.eval y]).run P w = .ok u w' ∧ Sim C n E (applyEff H eff) β' a w' ∧ Rep (NN C (applyEff H eff) β') w' β' r u := by
  unfold appendA at h
  split at h
  · cases h
  rename_i ti hti
  split at h
  · rename_i e hde
    split at h
    · cases h
    rename_i te hte
    split at h
    · cases h
    rename_i new hnew
    obtain ⟨d, hu, hf, _⟩ := (hT t ti hti).d
    rw [hde] at hf
    simp only [TD.fits] at hf
    subst hf
    obtain ⟨i, z, i1, i2, i3, i4, i5, i6, _⟩ := (hT e te hte).i
    have hzs : z.cells.size = i.size := by rw [i2, ← i6, ← i5]; simp
    -- the source
    have hsrc : ∃ d' news, P.underlying t' = some d' ∧ (∀ k, d' ≠ .int k) ∧ Src P w te.size (a.eval y) new.length news ∧ news.length = new.length * te.size ∧ (∀ u ∈ news, u.oneCell' = true) ∧ (∀ r ∈ new, r.length = te.size) ∧
        ∀ i r j pv, new[i]? = some r → r[j]? = some pv → IRep (NN C H β) w pv (news.getD (i * te.size + j) undef) := by
      unfold srcA srcB at hnew
      split at hnew
      · cases hnew
      rename_i ti' hti'
      obtain ⟨d', hu', hf', _⟩ := (hT t' ti' hti').d
      split at hnew
      · rename_i e' hd'
        rw [hd'] at hf'
        simp only [TD.fits] at hf'
        subst hf'
        obtain ⟨news, q⟩ := Src.rows (P := P) (hs.asIm hnew (hs.ev y))
        exact ⟨_, news, hu', by simp, q⟩
      · rename_i s hd' hy
        rw [hd'] at hf'
        simp only [TD.fits] at hf'
        subst hf'
        split at hnew
        · rename_i h1
          cases hnew
          have hr := hs.ev y
          rw [hy] at hr
          rw [hr.lit_eq, h1]
          obtain ⟨news, q⟩ := Src.string (P := P) (N := NN C H β) (w := w) s
          exact ⟨_, news, hu', by simp, q⟩
        · cases hnew
      · cases hnew
    obtain ⟨d', news, hu', hd', src, nl, n1, nsz, nrep⟩ := hsrc
    rw [← i2] at src
    split at h
    · -- a slice of its own
      rename_i b ver hx
      split at h
      · rename_i T0 s rows ver' f hH
        simp only [Option.some.injEq, Prod.mk.injEq] at h
        obtain ⟨rfl, rfl, rfl⟩ := h
        obtain ⟨rfl, rfl, rfl, rfl, hb1, hb2⟩ := hok
        obtain ⟨u, xs, q1, q2, q3, q4⟩ := hs.blk b _ hH
        have hr := hs.ev x
        rw [hx] at hr
        have hv := hr.own_eq q1
        rw [hv]
        rw [← i2] at q2
        obtain ⟨v', w', hrun, hown, ho1, ho2, ho3, ho4, ho5, ho6, ho7, ho8⟩ := run_append (P := P) w C.base t t' ty T0 d' i z hu hu' hd' i1 i4 hzs u rows.length xs q2 (a.eval y) new.length news src (by rw [i2]; exact nl) n1 (by simp only [maxLen]; omega) (by rw [i3]; exact hb1) hs.bs
        rw [i2] at hown
        have hup : ∀ p, u ≠ .pointer p := by
          rintro p rfl
          rcases q2.2 with ⟨h', _⟩ | ⟨g, cap, cur, h', _⟩ <;> cases h'
        have hsim := hs.change (x' := .arr T0 te.size (rows ++ new) (ver' + 1) false) (ver' := ver' + 1) (u' := v') hH rfl q1 (.inr ⟨by omega, hup⟩) ho5 ho1 ho2 ho3 ho4 ho6 (fun hk hN hl hbox => by
          refine ⟨v', xs ++ news, upd_same _ _ _, by rw [List.length_append]; exact hown, fun r hr' => ?_, fun i' r j pv hi hj => ?_⟩
          · rcases List.mem_append.1 hr' with hr' | hr'
            · exact q3 r hr'
            · exact nsz r hr'
          · have hxl : xs.length = rows.length * te.size := by rw [← i2]; exact q2.1
            by_cases hlt : i' < rows.length
            · rw [List.getElem?_append_left hlt] at hi
              have hjl : j < te.size := by have := (List.getElem?_eq_some_iff.1 hj).1; rw [q3 r (List.mem_of_getElem? hi)] at this; exact this
              have hlx : i' * te.size + j < xs.length := by rw [hxl]; exact flat_lt hlt hjl
              have e1 : (xs ++ news).getD (i' * te.size + j) undef = xs.getD (i' * te.size + j) undef := by simp only [List.getD_eq_getElem?_getD]; rw [List.getElem?_append_left hlx]
              rw [e1]
              exact ⟨((q4 i' r j pv hi hj).1).mono hk hN, (q4 i' r j pv hi hj).2⟩
            · rw [List.getElem?_append_right (by omega)] at hi
              have hil : i' - rows.length < new.length := (List.getElem?_eq_some_iff.1 hi).1
              have hjl : j < te.size := by have := (List.getElem?_eq_some_iff.1 hj).1; rw [nsz r (List.mem_of_getElem? hi)] at this; exact this
              have hln : (i' - rows.length) * te.size + j < news.length := by rw [nl]; exact flat_lt hil hjl
              have e0 : i' * te.size + j = xs.length + ((i' - rows.length) * te.size + j) := by
                rw [hxl]
                obtain ⟨m, rfl⟩ : ∃ m, i' = rows.length + m := ⟨i' - rows.length, by omega⟩
                rw [Nat.add_sub_cancel_left, Nat.add_mul]
                omega
              have e1 : (xs ++ news).getD (i' * te.size + j) undef = news.getD ((i' - rows.length) * te.size + j) undef := by
                rw [e0]
                simp only [List.getD_eq_getElem?_getD]
                rw [List.getElem?_append_right (by omega), Nat.add_sub_cancel_left]
              rw [e1]
              refine ⟨(nrep _ r j pv hi hj).mono hk hN, ?_⟩
              rw [List.getD_eq_getElem?_getD, List.getElem?_eq_getElem hln]
              exact n1 _ (List.getElem_mem hln))
        exact ⟨v', w', _, hrun, hsim, .own _ _ _ v' _ (upd_same _ _ _) (Nat.le_refl _) ho7 (fun _ => rfl)⟩
      · cases h
    · -- nil
      rename_i v hx
      split at h
      · rename_i hlit
        simp only [Option.some.injEq, Prod.mk.injEq] at h
        obtain ⟨rfl, rfl, rfl⟩ := h
        obtain ⟨hb1, hb2⟩ := hok
        have hv0 := isNil_eq hlit
        subst hv0
        have hr := hs.ev x
        rw [hx] at hr
        have hv := hr.lit_eq
        rw [hv]
        obtain ⟨v', w', hrun, hown, ho1, ho2, ho3, ho4, ho5, ho6, ho7, ho8⟩ := run_append (P := P) w C.base t t' ty e d' i z hu hu' hd' i1 i4 hzs _ 0 [] (World.ownsRow_nil _ _ _ _) (a.eval y) new.length news src (by rw [i2]; exact nl) n1 (by simp only [maxLen]; omega) (by rw [i3, Nat.zero_add]; exact hb1) hs.bs
        rw [i2, Nat.zero_add, List.nil_append] at hown
        have hsim := hs.new (x := .arr e te.size new 0 false) (ver := 0) (u := v') (w' := w') hfr ⟨ho1, ho2, ho3, ho4, fun k hk _ => ho5 k hk (by simp [refBlock])⟩ (fun k hk => ho5 k hk (by simp [refBlock])) (fun k hk => by
            rcases ho6 k hk with h' | h'
            · simp [refBlock] at h'
            · exact h') (fun hk hN hl hbox => by
          refine ⟨v', news, upd_same _ _ _, hown, nsz, fun i' r j pv hi hj => ⟨(nrep i' r j pv hi hj).mono hk hN, ?_⟩⟩
          have hil : i' < new.length := (List.getElem?_eq_some_iff.1 hi).1
          have hjl : j < te.size := by have := (List.getElem?_eq_some_iff.1 hj).1; rw [nsz r (List.mem_of_getElem? hi)] at this; exact this
          have hln : i' * te.size + j < news.length := by rw [nl]; exact flat_lt hil hjl
          rw [List.getD_eq_getElem?_getD, List.getElem?_eq_getElem hln]
          exact n1 _ (List.getElem_mem hln))
        exact ⟨v', w', _, hrun, hsim, .own _ _ _ v' _ (upd_same _ _ _) (Nat.le_refl _) ho7 (fun _ => rfl)⟩
      · cases h
    · cases h
  · cases h
end

end Go.Pe
