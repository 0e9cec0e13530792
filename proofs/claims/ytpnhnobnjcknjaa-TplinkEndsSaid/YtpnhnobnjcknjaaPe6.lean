/- Operations that give a value, and write no memory. -/
import Derived.Test.YtpnhnobnjcknjaaPe5
import Derived.Laws.Tables
import Derived.Laws.Build
set_option linter.unusedVariables false
set_option linter.unusedSimpArgs false
namespace Go.Pe
open Go.RowKit

def byteOfRow : List PV → Int
  | [.lit (.int _ n)] => n
  | _ => 0
def bytesOf (rows : List (List PV)) : ByteArray := strOfNums (rows.map byteOfRow)
def ByteRows (rows : List (List PV)) : Prop := ∀ r ∈ rows, ∃ n, r = [.lit (.int .u8 n)]

def convB (T : Tab) (s d : TypeId) (pv : PV) (im : Option (List (List PV))) : Option (Prop × PV) :=
  match T s, T d with
  | some ts, some td => match td.desc, pv with
    | .int k, .lit (.int _ n) => some (True, .lit (.int k (k.wrap n)))
    | .str, .lit (.string x) => (match ts.desc with
      | .str => some (True, .lit (.string x))
      | _ => none)
    | .str, pv => (match ts.desc with
      | .slice e => match T e with
        | some te => (match te.desc with
          | .int .u8 => (match im with
            | some rows => some (ByteRows rows, .lit (.string (bytesOf rows)))
            | none => none)
          | _ => none)
        | none => none
      | _ => none)
    | _, _ => none
  | _, _ => none

def convA (T : Tab) (H : Heap) (s d : TypeId) (pv : PV) : Option (Prop × PV) := convB T s d pv (asIm H 1 pv)

def mxOK (E : Env) (hi mx : Option Operand) (h len : Int) : Prop :=
  match mx with
  | none => True
  | some m => match ev E m with
    | .lit (.int _ i) => h ≤ i ∧ i ≤ len ∧ 0 ≤ i ∧ hi ≠ none
    | _ => False

def sliceNil (v : Value) (lo hi : Option Int) (mx : Option Operand) : Option (Prop × PV) :=
  match v, lo, hi with
  | .slice none 0 0, some l, some h => some (l = 0 ∧ h = 0 ∧ mx = none, .lit (.slice none 0 0))
  | _, _, _ => none
def keysOK (k : IntKind) : List (Value × PV) → Bool
  | [] => true
  | (.int k' _, _) :: l => decide (k' = k) && keysOK k l
  | _ => false
def lookB (n : Int) : List (Value × PV) → Bool
  | [] => false
  | (.int _ m, _) :: l => decide (n = m) || lookB n l
  | _ :: l => lookB n l
def lookV (n : Int) : List (Value × PV) → PV
  | [] => .any
  | (.int _ m, v) :: l => if n = m then v else lookV n l
  | _ :: _ => .any
def capNil : PV → Option (Prop × PV)
  | .lit (.slice none 0 0) => some (True, .lit (.int .i64 0))
  | _ => none

def sliceA (T : Tab) (E : Env) (H : Heap) (t : TypeId) (x : Operand) (lo hi mx : Option Operand) : Option (Prop × PV) :=
  match T t with
  | none => none
  | some ti => match ti.desc with
    | .slice e => match T e with
      | none => none
      | some te => match ev E x with
        | .im s rows => match boundA E lo 0, boundA E hi rows.length with
          | some l, some h => some (s = te.size ∧ 0 ≤ l ∧ l ≤ h ∧ h ≤ rows.length ∧ mxOK E hi mx h rows.length, .im s ((rows.take h.toNat).drop l.toNat))
          | _, _ => none
        | .lit v => sliceNil v (boundA E lo 0) (boundA E hi 0) mx
        | _ => none
    | .str => match ev E x, mx with
      | .lit (.string s), none => match boundA E lo 0, boundA E hi s.size with
        | some l, some h => some (0 ≤ l ∧ l ≤ h ∧ h ≤ s.size, .lit (.string (s.extract l.toNat h.toNat)))
        | _, _ => none
      | _, _ => none
    | _ => none

/-- Is the version of an array the one that stands? -/
def arrNow (H : Heap) (b ver size row : Nat) : Prop := ∃ T rows f, H b = some (.arr T size rows ver f) ∧ row < rows.length

def stepIn (H : Heap) (off : Nat) : PV → Option (Prop × PV)
  | .ptr b o => some (True, .ptr b (o + off))
  | .iptr cs => some (True, .iptr (cs.drop off))
  | .aptr b ver row o size => match H b with
    | some (.arr _ s rows ver' _) => some (s = size ∧ ver' = ver ∧ row < rows.length, .aptr b ver row (o + off) size)
    | _ => none
  | _ => none

def litLen : Value → Option Int
  | .slice none 0 _ => some 0
  | .string s => some s.size
  | _ => none
def nilLit : Value → Option (Prop × PV)
  | .func (.func f) p q => some (True, .lit (.func (.func f) p q))
  | _ => none
def nilFn : Fn → List PV → List PV → Option (Prop × PV)
  | .func f, p, q => some (True, .fn (.func f) p q)
  | _, _, _ => none
def nilA (H : Heap) : PV → Option (Prop × PV)
  | .fn f p q => nilFn f p q
  | .lit v => nilLit v
  | pv => stepIn H 0 pv
def lenA (H : Heap) : PV → Option Int
  | .im _ rows => some rows.length
  | .lit v => litLen v
  | .own b ver => match H b with
    | some (.arr _ _ rows ver' _) => if ver = ver' then some rows.length else none
    | _ => none
  | _ => none

def callA (T : Tab) (E : Env) (H : Heap) (c : Call) : Option (Prop × PV) :=
  match c.callee, c.args.toList, c.argTypes.toList with
  | .builtin .len, [x], [t] => match T t with
    | some ti => match ti.desc with
      | .slice _ => (lenA H (ev E x)).map fun n => ((¬ ∃ s, ev E x = .lit (.string s)), .lit (.int .i64 n))
      | .str => (match ev E x with
        | .lit (.string s) => some (True, .lit (.int .i64 s.size))
        | _ => none)
      | _ => none
    | none => none
  | .builtin .cap, [x], [t] => match T t with
    | some ti => match ti.desc with
      | .slice _ => capNil (ev E x)
      | _ => none
    | none => none
  | .builtin .min, [x, y], _ => match ev E x, ev E y with
    | .lit (.int k p), .lit (.int k' q) => some (True, .lit (.int k (if q < p then q else p)))
    | _, _ => none
  | .builtin .max, [x, y], _ => match ev E x, ev E y with
    | .lit (.int k p), .lit (.int k' q) => some (True, .lit (.int k (if q > p then q else p)))
    | _, _ => none
  | _, _, _ => none

def buildA (T : Tab) (E : Env) (t : TypeId) (ps : Array (Nat × Operand)) : Option (Prop × PV) :=
  match T t with
  | none => none
  | some ti => match ti.desc with
    | .struct fs => if fs.all (fun f => (T f.2).isSome) then
        (fillA T (fun i => fs[i]?) ti.zpv (ps.toList.map fun p => (p.1, ev E p.2))).map fun cs => (True, .agg cs)
      else none
    | .array n e => match T e with
      | some te => (fillA T (fun i => some (i * te.size, e)) ti.zpv (ps.toList.map fun p => (p.1, ev E p.2))).map fun cs => (True, .agg cs)
      | none => none
    | _ => none

def evVal (T : Tab) (E : Env) (H : Heap) : Op → Option (Prop × PV)
  | .move x => some (True, ev E x)
  | .assign x => some (True, ev E x)
  | .pick c x y => match ev E c with
    | .lit (.bool t) => some (True, if t then ev E x else ev E y)
    | _ => none
  | .load t x => match T t with
    | none => none
    | some ti => match ev E x with
      | .ptr b off => match H b with
        | some (.box _ cs) => some (ldOK ti (cs.drop off), ld ti (cs.drop off))
        | _ => none
      | .aptr b ver row off size => match H b with
        | some (.arr _ s rows ver' _) => some (s = size ∧ ver' = ver ∧ row < rows.length ∧ ldOK ti ((rows.getD row []).drop off), ld ti ((rows.getD row []).drop off))
        | _ => none
      | .iptr cs => some (ldOK ti cs, ld ti cs)
      | _ => none
  | .nilCheck x => nilA H (ev E x)
  | .binOp op t x y _ => match ev E x, ev E y with
    | .lit p, .lit q => (binA T op t p q).map fun r => (r.1, .lit r.2)
    | _, _ => none
  | .unOp op _ x => match ev E x with
    | .lit p => (unA op p).map fun v => (True, .lit v)
    | _ => none
  | .convert s d x => convA T H s d (ev E x)
  | .slice t x lo hi mx => sliceA T E H t x lo hi mx
  | .fieldAddr s x f => match T s with
    | some ti => match ti.desc with
      | .struct fs => match fs[f]? with
        | some (off, ft) => match T ft with
          | some fi => (stepIn H off (ev E x)).map fun r => (r.1 ∧ fi.size ≠ 0, r.2)
          | none => none
        | none => none
      | _ => none
    | none => none
  | .indexAddr t x i => match ev E i, T t with
    | .lit (.int _ i), some ti => match ti.desc with
      | .slice e => match T e with
        | some te => match ev E x with
          | .im s rows => some (s = te.size ∧ 0 ≤ i ∧ i < rows.length, .iptr (rows.getD i.toNat []))
          | .own b ver => match H b with
            | some (.arr _ s rows ver' _) => some (s = te.size ∧ ver' = ver ∧ 0 ≤ i ∧ i < rows.length, .aptr b ver i.toNat 0 s)
            | _ => none
          | _ => none
        | none => none
      | .array n e => match T e with
        | some te => match ev E x with
          | .ptr b o => some (0 ≤ i ∧ i < n, .ptr b (o + i.toNat * te.size))
          | .iptr cs => some (0 ≤ i ∧ i < n, .iptr (cs.drop (i.toNat * te.size)))
          | _ => none
        | none => none
      | _ => none
    | _, _ => none
  | .index t x i => match ev E i, T t with
    | .lit (.int _ i), some ti => match ti.desc, ev E x with
      | .array n e, .agg cs => match T e with
        | some te => some (0 ≤ i ∧ i < n ∧ ldOK te (cs.drop (i.toNat * te.size)), ld te (cs.drop (i.toNat * te.size)))
        | none => none
      | .str, .lit (.string s) => some (0 ≤ i ∧ i < s.size, .lit (.int .u8 (s.data.toList.getD i.toNat 0).toNat))
      | _, _ => none
    | _, _ => none
  | .field t x f => match T t, ev E x with
    | some ti, .agg cs => match ti.desc with
      | .struct fs => match fs[f]? with
        | some (off, ft) => match T ft with
          | some fi => some (ldOK fi (cs.drop off), ld fi (cs.drop off))
          | none => none
        | none => none
      | _ => none
    | _, _ => none
  | .extract x i => match ev E x with
    | .tup cs => match cs[i]? with
      | some c => some (True, c)
      | none => none
    | _ => none
  | .build t ps => buildA T E t ps
  | .makeInterface t x => match T t with
    | some ti => match ti.desc with
      | .int _ => some (True, .iface t (ev E x))
      | .str => some (True, .iface t (ev E x))
      | _ => none
    | none => none
  | .lookup t x i ok => match T t, ev E x, ev E i with
    | some ti, .mapp b, .lit (.int k n) => match ti.desc, H b with
      | .map kt et, some (.map es) => match T kt with
        | some ki => match ki.desc with
          | .int k' => some (k' = k ∧ keysOK k es = true ∧ (ok = true ∨ lookB n es = true) ∧ (T et).isSome = true, if ok then .tup [lookV n es, .lit (.bool (lookB n es))] else lookV n es)
          | _ => none
        | none => none
      | _, _ => none
    | _, _, _ => none
  | .makeFunc f first cap => some (True, .fn f (first.toList.map (ev E)) (cap.toList.map (ev E)))
  | .call c => callA T E H c
  | _ => none

section
variable {P : Program} {T : Tab} {C : Ctx} {n : Nat} {E : Env} {H : Heap} {β : Ref} {a : Act} {w : World}

theorem conv_sound (hT : TabOK P T) (hs : Sim C n E H β a w) {s d : TypeId} {pv r : PV} {v : Value} {ok : Prop} (h : convA T H s d pv = some (ok, r)) (hok : ok) (hr : Rep (NN C H β) w β pv v) :
    ∃ u, (convert s d v).run P w = .ok u w ∧ Rep (NN C H β) w β r u := by
  unfold convA convB at h
  split at h
  · rename_i ts td hts htd
    obtain ⟨ds, hus, hfs, _⟩ := (hT s ts hts).d
    obtain ⟨dd, hud, hfd, _⟩ := (hT d td htd).d
    split at h
    · rename_i k k0 m hdesc
      simp only [Option.some.injEq, Prod.mk.injEq] at h
      obtain ⟨_, rfl⟩ := h
      have hv := hr.lit_eq
      subst hv
      rw [hdesc] at hfd
      simp only [TD.fits] at hfd
      subst hfd
      exact ⟨_, by simp [convert, run_underlying hus, run_underlying hud, Conv.intToInt], .i (.lit _)⟩
    · rename_i x hdesc
      rw [hdesc] at hfd
      simp only [TD.fits] at hfd
      subst hfd
      split at h
      · rename_i hds
        simp only [Option.some.injEq, Prod.mk.injEq] at h
        obtain ⟨_, rfl⟩ := h
        have hv := hr.lit_eq
        subst hv
        exact ⟨.string x, by simp [convert, run_underlying hus, run_underlying hud], .i (.lit _)⟩
      · cases h
    · rename_i hdesc _
      rw [hdesc] at hfd
      simp only [TD.fits] at hfd
      subst hfd
      split at h
      · rename_i e hds
        split at h
        · rename_i te hte
          split at h
          · rename_i hu8
            split at h
            · rename_i rows hrows
              simp only [Option.some.injEq, Prod.mk.injEq] at h
              obtain ⟨rfl, rfl⟩ := h
              obtain ⟨de, hue, hfe, _⟩ := (hT e te hte).d
              rw [hu8] at hfe
              rw [hds] at hfs
              simp only [TD.fits] at hfe hfs
              subst hfe
              subst hfs
              have hat := hs.asIm hrows hr
              rcases hat with ⟨rfl, c, rfl⟩ | ⟨ad, cap, rfl, hc, hsz, hcell⟩
              · exact ⟨.string ByteArray.empty, run_convert_bytes_nil w s e hus hue 0 c d hud, .i (.lit _)⟩
              · have hb : (loadCells ad rows.length).run P w = .ok ((rows.map byteOfRow).map (Value.int .u8)).toArray w := by
                  have := run_loadCells_list (P := P) w ad ((rows.map byteOfRow).map (Value.int .u8)) (fun j u hj => by
                    simp only [List.getElem?_map, Option.map_eq_some_iff] at hj
                    obtain ⟨z, ⟨rw_, h1, rfl⟩, rfl⟩ := hj
                    obtain ⟨m, rfl⟩ := hok rw_ (List.mem_of_getElem? h1)
                    obtain ⟨u, q1, q2, q3⟩ := hcell j _ 0 _ h1 rfl
                    rw [Nat.mul_one, Nat.add_zero] at q1
                    rw [q1]
                    cases q2
                    rfl)
                  simpa using this
                refine ⟨.string (bytesOf rows), ?_, .i (.lit _)⟩
                rw [run_convert_bytes_string w s d e _ _ cap hus hue hud, run_bytesToString w _ _ cap _ hb, foldl_push_bytes]
                simp [bytesOf, strOfNums, ByteArray.empty, ByteArray.emptyWithCapacity]
                rfl
            · cases h
          · cases h
        · cases h
      · cases h
    · cases h
  · cases h

theorem slice_sound (hT : TabOK P T) (hs : Sim C n E H β a w) {t : TypeId} {x : Operand} {lo hi mx : Option Operand} {r : PV} {ok : Prop} (h : sliceA T E H t x lo hi mx = some (ok, r)) (hok : ok) :
    ∃ u, (Instr.sliceAt t (a.eval x) (lo.map a.eval) (hi.map a.eval) (mx.map a.eval)).run P w = .ok u w ∧ Rep (NN C H β) w β r u := by
  have hb : ∀ {o : Option Operand} {d i : Int}, boundA E o d = some i → (o.map a.eval = none ∧ i = d) ∨ ∃ k, o.map a.eval = some (.int k i) := by
    intro o d i ho
    cases o with
    | none => simp [boundA] at ho; exact .inl ⟨rfl, ho.symm⟩
    | some y =>
      obtain ⟨k, hk⟩ := bound_eq ho (hs.ev y)
      exact .inr ⟨k, by simp [hk]⟩
  unfold sliceA at h
  split at h
  · cases h
  · rename_i ti hti
    split at h
    · rename_i e hde
      split at h
      · cases h
      · rename_i te hte
        split at h
        · rename_i s rows hx
          split at h
          · rename_i l hh hl hhi
            simp only [Option.some.injEq, Prod.mk.injEq] at h
            obtain ⟨rfl, rfl⟩ := h
            obtain ⟨rfl, h0, h1, h2, h3⟩ := hok
            have hrep := hs.ev x
            rw [hx] at hrep
            have him := hrep.im_eq
            have hform : ∃ ad cap, a.eval x = .slice ad rows.length cap ∧ rows.length ≤ cap := by
              generalize a.eval x = vx at him
              cases him with
              | imN _ _ c hn => subst hn; exact ⟨none, c, rfl, by simp⟩
              | im _ ad _ cap _ vals hn _ hc _ _ => subst hn; exact ⟨some ad, cap, rfl, hc⟩
            obtain ⟨ad, cap, hvx, hcap⟩ := hform
            rw [hvx] at him ⊢
            have hmx : mx.map a.eval = none ∨ ∃ k m, mx.map a.eval = some (.int k m) ∧ 0 ≤ m ∧ m ≤ cap ∧ hh ≤ m ∧ hi.map a.eval ≠ none := by
              cases mx with
              | none => exact .inl rfl
              | some m =>
                simp only [mxOK] at h3
                split at h3
                · rename_i k i hm
                  have hrm := hs.ev m
                  rw [hm] at hrm
                  refine .inr ⟨k, i, by simp [hrm.lit_eq], h3.2.2.1, by omega, h3.1, ?_⟩
                  cases hi with
                  | none => exact absurd rfl h3.2.2.2
                  | some y => simp
                · exact h3.elim
            obtain ⟨m, hm1, hm2, hrun⟩ := slice_run (P := P) (hT t ti hti) hde (hT e te hte) (ad := ad) (len := rows.length) (cap := cap) w (hb hl) (hb hhi) hmx h0 h1 h2 hcap
            exact ⟨_, hrun, .i (him.cut (l := l.toNat) (h := hh.toNat) (m := m) (by omega) (by omega) (by omega))⟩
          · cases h
        · rename_i v hx
          unfold sliceNil at h
          split at h
          · rename_i l hh hl hhi
            simp only [Option.some.injEq, Prod.mk.injEq] at h
            obtain ⟨rfl, rfl⟩ := h
            obtain ⟨rfl, rfl, rfl⟩ := hok
            have hrep := hs.ev x
            rw [hx] at hrep
            rw [hrep.lit_eq]
            obtain ⟨m, hm1, hm2, hrun⟩ := slice_run (P := P) (hT t ti hti) hde (hT e te hte) (ad := none) (len := 0) (cap := 0) w (hb hl) (hb hhi) (.inl rfl) (Int.le_refl _) (Int.le_refl _) (Int.le_refl _) (Nat.le_refl _)
            refine ⟨_, hrun, ?_⟩
            have : m = 0 := by omega
            subst this
            exact .i (.lit _)
          · cases h
        · cases h
    · rename_i hde
      split at h
      · rename_i s hx
        split at h
        · rename_i l hh hl hhi
          simp only [Option.some.injEq, Prod.mk.injEq] at h
          obtain ⟨rfl, rfl⟩ := h
          obtain ⟨h0, h1, h2⟩ := hok
          have hrep := hs.ev x
          rw [hx] at hrep
          rw [hrep.lit_eq]
          obtain ⟨d, hu, hf, _⟩ := (hT t ti hti).d
          rw [hde] at hf
          simp only [TD.fits] at hf
          subst hf
          refine ⟨.string (s.extract l.toNat hh.toNat), ?_, .i (.lit _)⟩
          rcases hb hhi with ⟨e1, rfl⟩ | ⟨kh, e1⟩ <;> rcases hb hl with ⟨e2, rfl⟩ | ⟨kl, e2⟩ <;> rw [e1, e2]
          · simp [Instr.sliceAt, Instr.slice, run_underlying hu, Instr.sliceBounds]
          · have hbl := sliceBound_run (P := P) (k := kl) (i := l) (y := s.size) (code := .sliceB) ⟨h0, h1⟩ w
            simp [Instr.sliceAt, Instr.slice, run_underlying hu, Instr.sliceBounds, hbl]
          · have hbh := sliceBound_run (P := P) (k := kh) (i := hh) (y := s.size) (code := .sliceAlen) ⟨by omega, h2⟩ w
            simp [Instr.sliceAt, Instr.slice, run_underlying hu, Instr.sliceBounds, hbh]
          · have hbh := sliceBound_run (P := P) (k := kh) (i := hh) (y := s.size) (code := .sliceAlen) ⟨by omega, h2⟩ w
            have hbl := sliceBound_run (P := P) (k := kl) (i := l) (y := hh.toNat) (code := .sliceB) ⟨h0, by omega⟩ w
            simp [Instr.sliceAt, Instr.slice, run_underlying hu, Instr.sliceBounds, hbh, hbl]
        · cases h
      · cases h
    · cases h

theorem arr_ptr (hs : Sim C n E H β a w) {b T0 size ver row off : Nat} {rows : List (List PV)} {f : Bool} {v : Value} (hH : H b = some (.arr T0 size rows ver f)) (hrow : row < rows.length)
    (hr : Rep (NN C H β) w β (.aptr b ver row off size) v) :
    ∃ g nn c xs, β b = some (ver, .slice (some ⟨g, 0, none⟩) nn c) ∧ v = .pointer (some ⟨g, row * size + off, none⟩) ∧ w.ownsRow C.base T0 size (.slice (some ⟨g, 0, none⟩) nn c) rows.length xs ∧
      ∀ i r j pv, rows[i]? = some r → r[j]? = some pv → IRep (NN C H β) w pv (xs.getD (i * size + j) undef) ∧ (xs.getD (i * size + j) undef).oneCell' = true := by
  obtain ⟨u, xs, h1, h2, h3, h4⟩ := hs.blk b _ hH
  rcases h2.2 with ⟨rfl, hn⟩ | ⟨g, cap, cur, rfl, hrest⟩
  · omega
  · exact ⟨g, _, cap, xs, h1, hr.aptr_eq h1 g _ cap rfl, h2, h4⟩

theorem stepIn_sound (hs : Sim C n E H β a w) {off : Nat} {pv r : PV} {v : Value} {ok : Prop} (h : stepIn H off pv = some (ok, r)) (hok : ok) (hr : Rep (NN C H β) w β pv v) :
    ∃ ad, v = .pointer (some ad) ∧ Rep (NN C H β) w β r (.pointer (some (ad.add off))) := by
  cases pv <;> simp only [stepIn, reduceCtorEq] at h
  · rename_i b o
    simp only [Option.some.injEq, Prod.mk.injEq] at h
    obtain ⟨_, rfl⟩ := h
    obtain ⟨k, rfl, hk⟩ := hr.ptr_eq
    exact ⟨_, rfl, by rw [Addr.add_lit]; exact .ptr _ _ _ hk⟩
  · rename_i b ver row o size
    split at h
    · rename_i T0 s rows ver' f hH
      simp only [Option.some.injEq, Prod.mk.injEq] at h
      obtain ⟨rfl, rfl⟩ := h
      obtain ⟨rfl, rfl, hrow⟩ := hok
      obtain ⟨g, nn, c, xs, h1, rfl, _, _⟩ := arr_ptr hs hH hrow hr
      refine ⟨_, rfl, ?_⟩
      rw [Addr.add_lit]
      refine .aptr _ _ _ _ _ _ _ _ h1 (Nat.le_refl _) rfl (fun _ g' n' c' e => ?_)
      cases e
      rw [Nat.add_assoc]
    · cases h
  · rename_i cs
    simp only [Option.some.injEq, Prod.mk.injEq] at h
    obtain ⟨_, rfl⟩ := h
    obtain ⟨ad, vals, rfl, hv⟩ := hr.iptr_eq
    refine ⟨ad, rfl, .iptr _ _ (fun j => vals (off + j)) fun j pv hj => ?_⟩
    rw [List.getElem?_drop] at hj
    have := hv _ _ hj
    rw [Addr.add_add, add_block]
    exact this

theorem len_sound (hT : TabOK P T) (hs : Sim C n E H β a w) {c : Call} {t : TypeId} {r : PV} {ok : Prop} (h : callA T E H c = some (ok, r)) (hok : ok) (ty : TypeId) :
    ∃ u, (do let d ← resolve a.eval c ty; invoke d.target d.args : Sem Next).run P w = .ok (.value u) w ∧ Rep (NN C H β) w β r u := by
  obtain ⟨callee, args, argTypes⟩ := c
  unfold callA at h
  simp only at h
  split at h
  · rename_i x t heq1 heq2
    have e1 : args = #[x] := by apply Array.ext'; simpa using heq1
    have e2 : argTypes = #[t] := by apply Array.ext'; simpa using heq2
    subst e1 e2
    split at h
    · rename_i ti hti
      obtain ⟨d, hu, hf, _⟩ := (hT t ti hti).d
      split at h
      · rename_i e hd
        rw [hd] at hf
        simp only [TD.fits] at hf
        subst hf
        simp only [Option.map_eq_some_iff, Prod.mk.injEq] at h
        obtain ⟨m, hm, rfl, rfl⟩ := h
        have hrep := hs.ev x
        have hform : ∃ ad c, a.eval x = .slice ad m.toNat c ∧ (m.toNat : Int) = m := by
          generalize hvx : a.eval x = vx at hrep
          generalize hpx : ev E x = px at hm hrep hok
          unfold lenA at hm
          split at hm
          · rename_i s rows
            cases hm
            have him := hrep.im_eq
            cases him with
            | imN _ _ c hn => subst hn; exact ⟨none, c, rfl, by simp⟩
            | im _ ad _ cap _ vals hn _ hc _ _ => subst hn; exact ⟨some ad, cap, rfl, by simp⟩
          · rename_i v
            unfold litLen at hm
            split at hm
            · rename_i c
              cases hm
              exact ⟨none, c, hrep.lit_eq, rfl⟩
            · exact absurd ⟨_, rfl⟩ hok
            · cases hm
          · rename_i b ver
            split at hm
            · rename_i T0 s rows ver' f hH
              split at hm
              · rename_i hv
                subst hv
                cases hm
                obtain ⟨u, hβ, hrows⟩ := ArrOK.rowsAt (hs.blk b _ hH)
                rw [hrep.own_eq hβ]
                rcases hrows with ⟨rfl, c, rfl⟩ | ⟨ad, cap, rfl, _⟩
                · exact ⟨none, c, rfl, by simp⟩
                · exact ⟨some ad, cap, rfl, by simp⟩
              · cases hm
            · cases hm
          · cases hm
        obtain ⟨ad, cap, hx, hmn⟩ := hform
        refine ⟨.int .i64 m, ?_, .i (.lit _)⟩
        simp [resolve, invoke, builtin, Builtin.len_, hx, run_underlying hu, goInt, hmn]
      · rename_i hd
        rw [hd] at hf
        simp only [TD.fits] at hf
        subst hf
        split at h
        · rename_i s hx
          simp only [Option.some.injEq, Prod.mk.injEq] at h
          obtain ⟨_, rfl⟩ := h
          have hrep := hs.ev x
          rw [hx] at hrep
          refine ⟨.int .i64 s.size, ?_, .i (.lit _)⟩
          simp [resolve, invoke, builtin, Builtin.len_, hrep.lit_eq, run_underlying hu, goInt]
        · cases h
      · cases h
    · cases h
  · rename_i x t heq1 heq2
    have e1 : args = #[x] := by apply Array.ext'; simpa using heq1
    have e2 : argTypes = #[t] := by apply Array.ext'; simpa using heq2
    subst e1 e2
    split at h
    · rename_i ti hti
      obtain ⟨d, hu, hf, _⟩ := (hT t ti hti).d
      split at h
      · rename_i e hd
        rw [hd] at hf
        simp only [TD.fits] at hf
        subst hf
        generalize hpx : ev E x = px at h
        unfold capNil at h
        split at h
        · simp only [Option.some.injEq, Prod.mk.injEq] at h
          obtain ⟨_, rfl⟩ := h
          have hrep := hs.ev x
          rw [hpx] at hrep
          refine ⟨.int .i64 0, ?_, .i (.lit _)⟩
          simp [resolve, invoke, builtin, Builtin.cap_, hrep.lit_eq, run_underlying hu, goInt]
        · cases h
      · cases h
    · cases h
  · rename_i x y heq1
    have e1 : args = #[x, y] := by apply Array.ext'; simpa using heq1
    subst e1
    split at h
    · rename_i k p k' q hx hy
      simp only [Option.some.injEq, Prod.mk.injEq] at h
      obtain ⟨_, rfl⟩ := h
      have hrx := hs.ev x
      have hry := hs.ev y
      rw [hx] at hrx
      rw [hy] at hry
      refine ⟨_, ?_, .i (.lit _)⟩
      simp [resolve, invoke, builtin, Builtin.min_, Builtin.min2, hrx.lit_eq, hry.lit_eq]
    · cases h
  · rename_i x y heq1
    have e1 : args = #[x, y] := by apply Array.ext'; simpa using heq1
    subst e1
    split at h
    · rename_i k p k' q hx hy
      simp only [Option.some.injEq, Prod.mk.injEq] at h
      obtain ⟨_, rfl⟩ := h
      have hrx := hs.ev x
      have hry := hs.ev y
      rw [hx] at hrx
      rw [hy] at hry
      refine ⟨_, ?_, .i (.lit _)⟩
      simp [resolve, invoke, builtin, Builtin.max_, Builtin.max2, hrx.lit_eq, hry.lit_eq]
    · cases h
  · cases h
end

end Go.Pe
