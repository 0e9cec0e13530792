/- Reading memory, slices, structs: the helpers of operations that give a value. -/
import Derived.Test.YtpnhnobnjcknjaaPe3
import Derived.Laws.BytesArg
set_option linter.unusedVariables false
set_option linter.unusedSimpArgs false
namespace Go.Pe
open Go.RowKit

/-- A slice value reads as these rows. -/
def RowsAt (N : Nat → Prop) (w : World) (size : Nat) (rows : List (List PV)) (v : Value) : Prop :=
  (rows = [] ∧ ∃ c, v = .slice none 0 c) ∨
  ∃ a cap, v = .slice (some a) rows.length cap ∧ rows.length ≤ cap ∧ (∀ r ∈ rows, r.length = size) ∧
    ∀ i r j pv, rows[i]? = some r → r[j]? = some pv → ∃ u, w.cell? (a.add (i * size + j)) = some u ∧ IRep N w pv u ∧ u.oneCell' = true

def litRows : Value → Option (List (List PV))
  | .slice none 0 _ => some []
  | _ => none
theorem litRows_eq {x : Value} {rows : List (List PV)} (h : litRows x = some rows) : rows = [] ∧ ∃ c, x = .slice none 0 c := by
  unfold litRows at h
  split at h
  · cases h; exact ⟨rfl, _, rfl⟩
  · cases h

def asIm (H : Heap) (size : Nat) : PV → Option (List (List PV))
  | .im s rows => if s = size then some rows else none
  | .own b ver => match H b with
    | some (.arr _ s rows ver' _) => if s = size ∧ ver = ver' then some rows else none
    | _ => none
  | .lit x => litRows x
  | _ => none

theorem IRep.rowsAt {N : Nat → Prop} {w : World} {size : Nat} {rows : List (List PV)} {v : Value} (h : IRep N w (.im size rows) v) : RowsAt N w size rows v := by
  cases h with
  | imN _ n c hn => subst hn; exact .inl ⟨rfl, c, rfl⟩
  | im _ a n cap _ vals hn hs hc h1 h2 =>
    subst hn
    exact .inr ⟨a, cap, rfl, hc, hs, fun i r j pv hi hj => ⟨vals i j, (h1 i r j pv hi hj).1, h2 i r j pv hi hj, (h1 i r j pv hi hj).2.2⟩⟩

section
variable {C : Ctx} {n : Nat} {E : Env} {H : Heap} {β : Ref} {a : Act} {w : World}

theorem flat_lt {i size j m : Nat} (hi : i < m) (hj : j < size) : i * size + j < m * size := by
  have h1 : (i + 1) * size ≤ m * size := Nat.mul_le_mul_right _ hi
  rw [Nat.add_mul, Nat.one_mul] at h1
  omega

theorem ArrOK.rowsAt {b T size ver : Nat} {rows : List (List PV)} {N : Nat → Prop} (h : ArrOK C N w β b T size rows ver) : ∃ u, β b = some (ver, u) ∧ RowsAt N w size rows u := by
  obtain ⟨u, xs, h1, h2, h3, h4⟩ := h
  refine ⟨u, h1, ?_⟩
  rcases h2.2 with ⟨rfl, hn⟩ | ⟨g, cap, cur, rfl, hbg, hg, hle, hcm, hcs, htk⟩
  · exact .inl ⟨List.eq_nil_of_length_eq_zero hn, 0, rfl⟩
  · refine .inr ⟨⟨g, 0, none⟩, cap, rfl, hle, h3, fun i r j pv hi hj => ?_⟩
    obtain ⟨q1, q2⟩ := h4 i r j pv hi hj
    have hil : i < rows.length := (List.getElem?_eq_some_iff.1 hi).1
    have hjl : j < size := by have := (List.getElem?_eq_some_iff.1 hj).1; rw [h3 r (List.mem_of_getElem? hi)] at this; exact this
    have hlt : i * size + j < xs.length := by rw [h2.1]; exact flat_lt hil hjl
    refine ⟨xs.getD (i * size + j) undef, ?_, q1, q2⟩
    exact h2.cells (g := g) rfl _ _ (by rw [List.getD_eq_getElem?_getD, List.getElem?_eq_getElem hlt]; rfl)

theorem Sim.asIm (h : Sim C n E H β a w) {size : Nat} {pv : PV} {v : Value} {rows : List (List PV)} (hp : asIm H size pv = some rows) (hr : Rep (NN C H β) w β pv v) : RowsAt (NN C H β) w size rows v := by
  cases pv <;> simp only [Pe.asIm, reduceCtorEq] at hp
  · rename_i x
    have hv := hr.lit_eq
    subst hv
    exact .inl (litRows_eq hp)
  · rename_i s rws
    split at hp
    · rename_i hs
      subst hs
      cases hp
      exact hr.im_eq.rowsAt
    · cases hp
  · rename_i b ver
    split at hp
    · rename_i T s rws ver' f heq
      split at hp
      · rename_i hs
        obtain ⟨rfl, rfl⟩ := hs
        cases hp
        obtain ⟨u, hu, hrows⟩ := ArrOK.rowsAt (h.blk b _ heq)
        rw [hr.own_eq hu]
        exact hrows
      · cases hp
    · cases hp
end

/-! ### loads -/
def ld (ti : TI) (cs : List PV) : PV := if ti.agg then .agg (cs.take ti.size) else cs.headD .any
def ldOK (ti : TI) (cs : List PV) : Prop := ti.size ≤ cs.length ∧ (ti.agg = true ∨ ti.size = 1)

theorem add_block (a : Addr) (j : Nat) : (a.add j).block = a.block := by unfold Addr.add; split <;> rfl

theorem load_run {P : Program} {t : TypeId} {ti : TI} (ht : TypeOK P t ti) {N : Nat → Prop} {β : Ref} {w : World} {ad : Addr} {cs : List PV} (hok : ldOK ti cs) (vals : Nat → Value)
    (hc : ∀ j pv, cs[j]? = some pv → w.cell? (ad.add j) = some (vals j) ∧ Rep N w β pv (vals j)) :
    ∃ v, (loadVar t ad).run P w = .ok v w ∧ Rep N w β (ld ti cs) v := by
  obtain ⟨hlen, hsz⟩ := hok
  unfold loadVar ld
  cases hg : ti.agg with
  | true =>
    have hl := run_loadCells (P := P) w ad ti.size vals (fun j hj => (hc j cs[j] (List.getElem?_eq_getElem (by omega))).1)
    refine ⟨.agg ((List.range ti.size).map vals).toArray, by simp [ht.run_isAgg, hg, ht.run_sizeOf, hl], ?_⟩
    simp only [if_true]
    refine .agg _ _ (by simp; omega) fun i pv hi => ?_
    have hlt : i < ti.size ∧ i < cs.length := by have := (List.getElem?_eq_some_iff.1 hi).1; simp at this; omega
    rw [List.getElem?_take_of_lt hlt.1] at hi
    have : ((List.range ti.size).map vals).toArray.getD i undef = vals i := by simp [Array.getD, hlt.1]
    rw [this]
    exact (hc i pv hi).2
  | false =>
    have h1 : ti.size = 1 := by simpa [hg] using hsz
    cases cs with
    | nil => simp at hlen; omega
    | cons c cs =>
      have h0 := hc 0 c rfl
      simp only [Addr.add_zero'] at h0
      refine ⟨vals 0, by simp [ht.run_isAgg, hg, h0.1], ?_⟩
      simpa using h0.2

/-! ### slices -/
def boundA (E : Env) (o : Option Operand) (dflt : Int) : Option Int :=
  match o with
  | none => some dflt
  | some x => match ev E x with
    | .lit (.int _ i) => some i
    | _ => none

theorem sliceBound_run {P : Program} {k : IntKind} {i : Int} {y : Nat} {code : BoundsCode} (h : 0 ≤ i ∧ i ≤ y) (w : World) : (Instr.sliceBound (.int k i) y code).run P w = .ok i.toNat w := by
  simp [Instr.sliceBound, asIntOf, h]

theorem bound_eq {N : Nat → Prop} {w : World} {β : Ref} {E : Env} {o : Operand} {v : Value} {i dflt : Int} (h : boundA E (some o) dflt = some i) (hr : Rep N w β (ev E o) v) : ∃ k, v = .int k i := by
  simp only [boundA] at h
  split at h
  · rename_i k j heq
    cases h
    rw [heq] at hr
    exact ⟨k, hr.lit_eq⟩
  · cases h

/-- Cutting a slice: what the model's operation gives. -/
theorem slice_run_cap {P : Program} {t e : TypeId} {ti te : TI} (ht : TypeOK P t ti) (hd : ti.desc = .slice e) (he : TypeOK P e te) {ad : Option Addr} {len cap : Nat} {lo hi : Option Value} {l h : Int} (w : World)
    (hlo : (lo = none ∧ l = 0) ∨ ∃ k, lo = some (.int k l)) (hhi : (hi = none ∧ h = len) ∨ ∃ k, hi = some (.int k h)) (h0 : 0 ≤ l) (h1 : l ≤ h) (h2 : h ≤ cap) (hc : len ≤ cap) :
    (Instr.sliceAt t (.slice ad len cap) lo hi none).run P w = .ok (.slice (if cap = l.toNat then ad else ad.map (·.add (l.toNat * te.size))) (h.toNat - l.toNat) (cap - l.toNat)) w := by
  obtain ⟨d, hu, hf, _⟩ := ht.d
  rw [hd] at hf
  simp only [TD.fits] at hf
  subst hf
  rcases hhi with ⟨rfl, rfl⟩ | ⟨kh, rfl⟩
  · rcases hlo with ⟨rfl, rfl⟩ | ⟨kl, rfl⟩
    · simp [Instr.sliceAt, Instr.slice, run_underlying hu, Instr.sliceBounds, he.run_sizeOf]
    · have hb := sliceBound_run (P := P) (k := kl) (i := l) (y := len) (code := .sliceB) ⟨h0, h1⟩ w
      simp [Instr.sliceAt, Instr.slice, run_underlying hu, Instr.sliceBounds, he.run_sizeOf, hb]
  · have hbh := sliceBound_run (P := P) (k := kh) (i := h) (y := cap) (code := .sliceAcap) ⟨by omega, by omega⟩ w
    rcases hlo with ⟨rfl, rfl⟩ | ⟨kl, rfl⟩
    · simp [Instr.sliceAt, Instr.slice, run_underlying hu, Instr.sliceBounds, he.run_sizeOf, hbh]
    · have hb := sliceBound_run (P := P) (k := kl) (i := l) (y := h.toNat) (code := .sliceB) ⟨h0, by omega⟩ w
      simp [Instr.sliceAt, Instr.slice, run_underlying hu, Instr.sliceBounds, he.run_sizeOf, hbh, hb]
theorem slice_run {P : Program} {t e : TypeId} {ti te : TI} (ht : TypeOK P t ti) (hd : ti.desc = .slice e) (he : TypeOK P e te) {ad : Option Addr} {len cap : Nat} {lo hi mx : Option Value} {l h : Int} (w : World)
    (hlo : (lo = none ∧ l = 0) ∨ ∃ k, lo = some (.int k l)) (hhi : (hi = none ∧ h = len) ∨ ∃ k, hi = some (.int k h)) (hmx : mx = none ∨ ∃ k m, mx = some (.int k m) ∧ 0 ≤ m ∧ m ≤ cap ∧ h ≤ m ∧ hi ≠ none)
    (h0 : 0 ≤ l) (h1 : l ≤ h) (h2 : h ≤ len) (hc : len ≤ cap) :
    ∃ m : Nat, h ≤ m ∧ m ≤ cap ∧ (Instr.sliceAt t (.slice ad len cap) lo hi mx).run P w = .ok (.slice (if m = l.toNat then ad else ad.map (·.add (l.toNat * te.size))) (h.toNat - l.toNat) (m - l.toNat)) w := by
  obtain ⟨d, hu, hf, _⟩ := ht.d
  rw [hd] at hf
  simp only [TD.fits] at hf
  subst hf
  have hsl : ∀ (x : Option Value), (hlo' : (lo = none ∧ l = 0) ∨ ∃ k, lo = some (.int k l)) → True := fun _ _ => trivial
  rcases hmx with rfl | ⟨km, m, rfl, hm0, hm1, hm2, hm3⟩
  · refine ⟨cap, by omega, Nat.le_refl _, ?_⟩
    rcases hhi with ⟨rfl, rfl⟩ | ⟨kh, rfl⟩
    · rcases hlo with ⟨rfl, rfl⟩ | ⟨kl, rfl⟩
      · simp [Instr.sliceAt, Instr.slice, run_underlying hu, Instr.sliceBounds, he.run_sizeOf]
      · have hb := sliceBound_run (P := P) (k := kl) (i := l) (y := len) (code := .sliceB) ⟨h0, h1⟩ w
        simp [Instr.sliceAt, Instr.slice, run_underlying hu, Instr.sliceBounds, he.run_sizeOf, hb]
    · have hbh := sliceBound_run (P := P) (k := kh) (i := h) (y := cap) (code := .sliceAcap) ⟨by omega, by omega⟩ w
      rcases hlo with ⟨rfl, rfl⟩ | ⟨kl, rfl⟩
      · simp [Instr.sliceAt, Instr.slice, run_underlying hu, Instr.sliceBounds, he.run_sizeOf, hbh]
      · have hb := sliceBound_run (P := P) (k := kl) (i := l) (y := h.toNat) (code := .sliceB) ⟨h0, by omega⟩ w
        simp [Instr.sliceAt, Instr.slice, run_underlying hu, Instr.sliceBounds, he.run_sizeOf, hbh, hb]
  · rcases hhi with ⟨rfl, _⟩ | ⟨kh, rfl⟩
    · exact absurd rfl hm3
    · refine ⟨m.toNat, by omega, by omega, ?_⟩
      have hbm := sliceBound_run (P := P) (k := km) (i := m) (y := cap) (code := .slice3Acap) ⟨hm0, hm1⟩ w
      have hbh := sliceBound_run (P := P) (k := kh) (i := h) (y := m.toNat) (code := .slice3B) ⟨by omega, by omega⟩ w
      rcases hlo with ⟨rfl, rfl⟩ | ⟨kl, rfl⟩
      · simp [Instr.sliceAt, Instr.slice, run_underlying hu, Instr.sliceBounds, he.run_sizeOf, hbm, hbh]
      · have hb := sliceBound_run (P := P) (k := kl) (i := l) (y := h.toNat) (code := .slice3C) ⟨h0, by omega⟩ w
        simp [Instr.sliceAt, Instr.slice, run_underlying hu, Instr.sliceBounds, he.run_sizeOf, hbm, hbh, hb]

/-- A part of rows that stay. -/
theorem IRep.cut {N : Nat → Prop} {w : World} {size : Nat} {rows : List (List PV)} {ad : Option Addr} {len cap : Nat} (hr : IRep N w (.im size rows) (.slice ad len cap)) {l h m : Nat} (h1 : l ≤ h) (h2 : h ≤ rows.length) (h3 : h ≤ m) :
    IRep N w (.im size ((rows.take h).drop l)) (.slice (if m = l then ad else ad.map (·.add (l * size))) (h - l) (m - l)) := by
  cases hr with
  | imN _ _ c hn =>
    have : h = 0 := by simpa using h2
    subst this
    have : l = 0 := by omega
    subst this
    simp only [List.take_nil, List.drop_nil, Option.map_none]
    split <;> exact .imN _ _ _ (by omega)
  | im _ a _ cap _ vals hn hs hc hq1 hq2 =>
    have key : ∀ (a' : Addr), (l < h → a' = a.add (l * size)) → IRep N w (.im size ((rows.take h).drop l)) (.slice (some a') (h - l) (m - l)) := by
      intro a' ha'
      have hget : ∀ i r, ((rows.take h).drop l)[i]? = some r → rows[l + i]? = some r ∧ l + i < h := by
        intro i r hi
        rw [List.getElem?_drop] at hi
        have hlt : l + i < (rows.take h).length := (List.getElem?_eq_some_iff.1 hi).1
        simp at hlt
        rw [List.getElem?_take_of_lt (by omega)] at hi
        exact ⟨hi, by omega⟩
      refine .im _ a' _ _ _ (fun i j => vals (l + i) j) (by simp; omega) (fun r hr => hs r (List.mem_of_mem_take (List.mem_of_mem_drop hr))) (by simp; omega) (fun i r j pv hi hj => ?_) (fun i r j pv hi hj => hq2 _ r j pv (hget i r hi).1 hj)
      obtain ⟨q1, q2, q3⟩ := hq1 _ r j pv (hget i r hi).1 hj
      have := (hget i r hi).2
      rw [ha' (by omega), Addr.add_add, add_block]
      have e : l * size + (i * size + j) = (l + i) * size + j := by rw [Nat.add_mul]; omega
      rw [e]
      exact ⟨q1, q2, q3⟩
    split
    · exact key a (fun hlt => by omega)
    · exact key _ (fun _ => rfl)

end Go.Pe
