import Derived.Test.YtcdmhigmgpflbaaGreatPe4
import Derived.Laws.Tables
import Derived.Laws.Build
import Derived.Laws.Append
import Derived.Lib.ConvBytes
set_option linter.unusedVariables false
set_option linter.unusedSimpArgs false
open List renaming getElem?_eq_getElem → yBh,map_cons → yBi
namespace Go.Pe
open Go.RowKit
def cellsA : PV → Option (List PV)
  | .agg cs => some cs
  | .lit v => if v.oneCell' then some [.lit v] else none
  | .any | .tup _ => none
  | pv => some [pv]
def splice {α : Type} (cs : List α) (off : Nat) (vs : List α) : List α := cs.take off ++ vs ++ cs.drop (off + vs.length)
theorem cells_one {v : Value} (h : v.oneCell' = true) : v.cells = #[v] := by cases v <;> first | rfl | (simp [Value.oneCell'] at h)
theorem Rep.cells {N : Nat → Prop} {w : World} {β : Ref} {pv : PV} {v : Value} {vs : List PV} (h : Rep N w β pv v) (hc : cellsA pv = some vs) :
    v.cells.size = vs.length ∧ ∀ j x,vs[j]? = some x → Rep N w β x (v.cells.getD j undef) := by
  have one : isCell pv = true → some [pv] = some vs → v.cells.size = vs.length ∧ ∀ j x,vs[j]? = some x → Rep N w β x (v.cells.getD j undef) := by
    intro h1 h2
    cases h2
    have hv := h.cell h1
    rw [cells_one hv]
    refine ⟨rfl,fun j x hj => ?_⟩
    cases j with
    | zero => cases hj; exact h
    | succ j => simp at hj
  cases pv <;> simp only [cellsA,reduceCtorEq] at hc <;> try exact one rfl hc
  · rename_i x
    split at hc
    · rename_i hx
      exact one hx hc
    · cases hc
  · cases hc
    obtain ⟨us,rfl,hl,he⟩ := h.agg_eq
    exact ⟨hl,he⟩
def fillA (T : Tab) (place : Nat → Option (Nat × TypeId)) (cs : List PV) : List (Nat × PV) → Option (List PV)
  | [] => some cs
  | (i,v) :: rest => match place i with
    | none => none
    | some (off,ft) => match T ft with
      | none => none
      | some fi => match cellsA v with
        | none => none
        | some vs => if vs.length = fi.size ∧ off + vs.length ≤ cs.length then fillA T place (splice cs off vs) rest else none
theorem fold_set (off : Nat) : ∀ (l : List Value) (s : Nat) (cells : Array Value),off + s + l.length ≤ cells.size →
    ∀ k,((l.zipIdx s).foldl (fun cs (x : Value × Nat) => cs.setIfInBounds (off + x.2) x.1) cells).getD k undef = if off + s ≤ k ∧ k < off + s + l.length then l.getD (k - (off + s)) undef else cells.getD k undef
  | [],s,cells,_,k => by
    have : ¬ (off + s ≤ k ∧ k < off + s) := by omega
    simp [this]
  | x :: l,s,cells,hl,k => by
    simp only [List.length_cons] at hl
    rw [List.zipIdx_cons,List.foldl_cons,fold_set off l (s + 1) _ (by simp; omega)]
    by_cases h1 : off + (s + 1) ≤ k ∧ k < off + (s + 1) + l.length
    · rw [if_pos h1,if_pos (by simp; omega)]
      obtain ⟨m,rfl⟩ : ∃ m,k = off + s + 1 + m := ⟨k - (off + s + 1),by omega⟩
      have e1 : off + s + 1 + m - (off + (s + 1)) = m := by omega
      have e2 : off + s + 1 + m - (off + s) = m + 1 := by omega
      rw [e1,e2]
      simp
    · rw [if_neg h1]
      by_cases h2 : k = off + s
      · subst h2
        rw [if_pos (by simp)]
        simp [Array.getD,show off + s < cells.size by omega]
      · rw [if_neg (by simp; omega)]
        simp only [Array.getD_eq_getD_getElem?]
        rw [Array.getElem?_setIfInBounds_ne (Ne.symm h2)]
theorem fold_set_size (off : Nat) : ∀ (l : List Value) (s : Nat) (cells : Array Value),((l.zipIdx s).foldl (fun cs (x : Value × Nat) => cs.setIfInBounds (off + x.2) x.1) cells).size = cells.size
  | [],s,cells => rfl
  | x :: l,s,cells => by rw [List.zipIdx_cons,List.foldl_cons,fold_set_size off l]; simp
theorem splice_get {α : Type} {cs vs : List α} {off : Nat} (h : off + vs.length ≤ cs.length) (k : Nat) : (splice cs off vs)[k]? = if off ≤ k ∧ k < off + vs.length then vs[k - off]? else cs[k]? := by
  unfold splice
  by_cases h1 : k < off
  · rw [List.append_assoc,List.getElem?_append_left (by simp; omega),List.getElem?_take_of_lt h1,if_neg (by omega)]
  · by_cases h2 : k < off + vs.length
    · rw [List.append_assoc,List.getElem?_append_right (by simp; omega),List.getElem?_append_left (by simp; omega),if_pos (by omega)]
      congr 1
      simp
      omega
    · rw [List.getElem?_append_right (by simp; omega),List.getElem?_drop,if_neg (by omega)]
      congr 1
      simp
      omega
theorem splice_length {α : Type} {cs vs : List α} {off : Nat} (h : off + vs.length ≤ cs.length) : (splice cs off vs).length = cs.length := by
  unfold splice
  simp
  omega
theorem fill_run {P : Program} {T : Tab} (hT : TabOK P T) {N : Nat → Prop} {w : World} {β : Ref} {place : Nat → Option (Nat × TypeId)} {place' : Nat → Option (Nat × Nat)}
    (hp : ∀ i off ft fi,place i = some (off,ft) → T ft = some fi → place' i = some (off,fi.size)) :
    ∀ (ps : List (Nat × PV)) (qs : List (Nat × Value)) (cs : List PV) (cells : Array Value) (out : List PV),fillA T place cs ps = some out → ps.length = qs.length →
      (∀ (i : Nat) (p : Nat × PV) (q : Nat × Value),ps[i]? = some p → qs[i]? = some q → p.1 = q.1 ∧ Rep N w β p.2 q.2) → cells.size = cs.length → (∀ j x,cs[j]? = some x → Rep N w β x (cells.getD j undef)) →
      ∃ r,Instr.fill place' cells qs = some r ∧ r.size = out.length ∧ ∀ j x,out[j]? = some x → Rep N w β x (r.getD j undef)
  | [],[],cs,cells,out,h,_,_,hs,hc => by
    simp only [fillA,Option.some.injEq] at h
    subst h
    exact ⟨cells,rfl,hs,hc⟩
  | [],_ :: _,_,_,_,_,hl,_,_,_ => by simp at hl
  | _ :: _,[],_,_,_,_,hl,_,_,_ => by simp at hl
  | (i,pv) :: ps,(i',v) :: qs,cs,cells,out,h,hl,hr,hs,hc => by
    have h0 := hr 0 _ _ rfl rfl
    obtain ⟨he,hrep⟩ := h0
    simp only at he hrep
    subst he
    simp only [fillA] at h
    split at h
    · cases h
    · rename_i off ft hpl
      split at h
      · cases h
      · rename_i fi hti
        split at h
        · cases h
        · rename_i vs hvs
          split at h
          · rename_i hsz
            obtain ⟨hsz1,hsz2⟩ := hsz
            obtain ⟨hcs,hcr⟩ := hrep.cells hvs
            have hgood : ¬ (v.cells.size ≠ fi.size || off + v.cells.size > cells.size) = true := by
              simp
              omega
            simp only [Instr.fill,hp i off ft fi hpl hti]
            rw [if_neg hgood]
            have hfold : (v.cells.zipIdx.foldl (fun cs (x : Value × Nat) => cs.setIfInBounds (off + x.2) x.1) cells) = ((v.cells.toList.zipIdx 0).foldl (fun cs (x : Value × Nat) => cs.setIfInBounds (off + x.2) x.1) cells) := by
              rw [← Array.foldl_toList,Array.toList_zipIdx]
            have hlen : off + 0 + v.cells.toList.length ≤ cells.size := by simp; omega
            refine fill_run hT hp ps qs _ _ out h (by simpa using hl) (fun k p q hk hq => hr (k + 1) p q (by simpa using hk) (by simpa using hq)) ?_ ?_
            · rw [splice_length (by omega)]
              have := fold_set_size off v.cells.toList 0 cells
              rw [← hfold] at this
              rw [← hs]
              exact this
            · intro j x hj
              rw [splice_get (by omega)] at hj
              have hg := fold_set off v.cells.toList 0 cells hlen j
              rw [← hfold] at hg
              refine (?_ : Rep N w β x ((v.cells.zipIdx.foldl (fun cs (x : Value × Nat) => cs.setIfInBounds (off + x.2) x.1) cells).getD j undef))
              rw [hg]
              by_cases hjr : off ≤ j ∧ j < off + vs.length
              · rw [if_pos hjr] at hj
                rw [if_pos (by simp; omega)]
                have := hcr (j - off) x hj
                simpa [Array.getD_eq_getD_getElem?,List.getD_eq_getElem?_getD] using this
              · rw [if_neg hjr] at hj
                rw [if_neg (by simp; omega)]
                exact hc j x hj
          · cases h
end Go.Pe
namespace Go.Pe
open Go.RowKit
def byteOfRow : List PV → Int
  | [.lit (.int _ n)] => n
  | _ => 0
def bytesOf (rows : List (List PV)) : ByteArray := strOfNums (rows.map byteOfRow)
def ByteRows (rows : List (List PV)) : Prop := ∀ r ∈ rows,∃ n,r = [.lit (.int .u8 n)]
def convB (T : Tab) (s d : TypeId) (pv : PV) (im : Option (List (List PV))) : Option (Prop × PV) :=
  match T s,T d with
  | some ts,some td => match td.desc,pv with
    | .int k,.lit (.int _ n) => some (True,.lit (.int k (k.wrap n)))
    | .str,.lit (.string x) => (match ts.desc with
      | .str => some (True,.lit (.string x))
      | _ => none)
    | .str,pv => (match ts.desc with
      | .slice e => match T e with
        | some te => (match te.desc with
          | .int .u8 => (match im with
            | some rows => some (ByteRows rows,.lit (.string (bytesOf rows)))
            | none => none)
          | _ => none)
        | none => none
      | _ => none)
    | _,_ => none
  | _,_ => none
def convA (T : Tab) (H : Heap) (s d : TypeId) (pv : PV) : Option (Prop × PV) := convB T s d pv (asIm H 1 pv)
def mxOK (E : Env) (hi mx : Option Operand) (h len : Int) : Prop :=
  match mx with
  | none => True
  | some m => match ev E m with
    | .lit (.int _ i) => h ≤ i ∧ i ≤ len ∧ 0 ≤ i ∧ hi ≠ none
    | _ => False
def sliceNil (v : Value) (lo hi : Option Int) (mx : Option Operand) : Option (Prop × PV) :=
  match v,lo,hi with
  | .slice none 0 0,some l,some h => some (l = 0 ∧ h = 0 ∧ mx = none,.lit (.slice none 0 0))
  | _,_,_ => none
def keysOK (k : IntKind) : List (Value × PV) → Bool
  | [] => true
  | (.int k' _,_) :: l => decide (k' = k) && keysOK k l
  | _ => false
def lookB (n : Int) : List (Value × PV) → Bool
  | [] => false
  | (.int _ m,_) :: l => decide (n = m) || lookB n l
  | _ :: l => lookB n l
def lookV (d : PV) (n : Int) : List (Value × PV) → PV
  | [] => d
  | (.int _ m,v) :: l => if n = m then v else lookV d n l
  | _ :: _ => d
def zeroPV : Option TI → PV
  | some ti => if ti.size = 1 then .any else .agg ti.zpv
  | none => .any
def capNil : PV → Option (Prop × PV)
  | .lit (.slice none 0 0) => some (True,.lit (.int .i64 0))
  | _ => none
def sliceA (T : Tab) (E : Env) (H : Heap) (t : TypeId) (x : Operand) (lo hi mx : Option Operand) : Option (Prop × PV) :=
  match T t with
  | none => none
  | some ti => match ti.desc with
    | .slice e => match T e with
      | none => none
      | some te => match ev E x with
        | .im s rows => match boundA E lo 0,boundA E hi rows.length with
          | some l,some h => some (s = te.size ∧ 0 ≤ l ∧ l ≤ h ∧ h ≤ rows.length ∧ mxOK E hi mx h rows.length,.im s ((rows.take h.toNat).drop l.toNat))
          | _,_ => none
        | .lit v => sliceNil v (boundA E lo 0) (boundA E hi 0) mx
        | _ => none
    | .str => match ev E x,mx with
      | .lit (.string s),none => match boundA E lo 0,boundA E hi s.size with
        | some l,some h => some (0 ≤ l ∧ l ≤ h ∧ h ≤ s.size,.lit (.string (s.extract l.toNat h.toNat)))
        | _,_ => none
      | _,_ => none
    | _ => none
def arrNow (H : Heap) (b ver size row : Nat) : Prop := ∃ T rows f,H b = some (.arr T size rows ver f) ∧ row < rows.length
def stepIn (H : Heap) (off : Nat) : PV → Option (Prop × PV)
  | .ptr b o => some (True,.ptr b (o + off))
  | .iptr cs => some (True,.iptr (cs.drop off))
  | .aptr b ver row o size => match H b with
    | some (.arr _ s rows ver' _) => some (s = size ∧ ver' = ver ∧ row < rows.length,.aptr b ver row (o + off) size)
    | _ => none
  | _ => none
def litLen : Value → Option Int
  | .slice none 0 _ => some 0
  | .string s => some s.size
  | _ => none
def nilLit : Value → Option (Prop × PV)
  | .func (.func f) p q => some (True,.lit (.func (.func f) p q))
  | _ => none
def nilFn : Fn → List PV → List PV → Option (Prop × PV)
  | .func f,p,q => some (True,.fn (.func f) p q)
  | _,_,_ => none
def nilA (H : Heap) : PV → Option (Prop × PV)
  | .fn f p q => nilFn f p q
  | .lit v => nilLit v
  | pv => stepIn H 0 pv
def lenA (H : Heap) : PV → Option Int
  | .im _ rows => some rows.length
  | .lit v => litLen v
  | .own b ver => match H b with
    | some (.arr _ _ rows ver' _) => if ver = ver' then some rows.length else none
    | _ => none
  | _ => none
def callA (T : Tab) (E : Env) (H : Heap) (c : Call) : Option (Prop × PV) :=
  match c.callee,c.args.toList,c.argTypes.toList with
  | .builtin .len,[x],[t] => match T t with
    | some ti => match ti.desc with
      | .slice _ => (lenA H (ev E x)).map fun n => ((¬ ∃ s,ev E x = .lit (.string s)),.lit (.int .i64 n))
      | .str => (match ev E x with
        | .lit (.string s) => some (True,.lit (.int .i64 s.size))
        | _ => none)
      | _ => none
    | none => none
  | .builtin .cap,[x],[t] => match T t with
    | some ti => match ti.desc with
      | .slice _ => capNil (ev E x)
      | _ => none
    | none => none
  | .builtin .min,[x,y],_ => match ev E x,ev E y with
    | .lit (.int k p),.lit (.int k' q) => some (True,.lit (.int k (if q < p then q else p)))
    | _,_ => none
  | .builtin .max,[x,y],_ => match ev E x,ev E y with
    | .lit (.int k p),.lit (.int k' q) => some (True,.lit (.int k (if q > p then q else p)))
    | _,_ => none
  | _,_,_ => none
def buildA (T : Tab) (E : Env) (t : TypeId) (ps : Array (Nat × Operand)) : Option (Prop × PV) :=
  match T t with
  | none => none
  | some ti => match ti.desc with
    | .struct fs => if fs.all (fun f => (T f.2).isSome) then
        (fillA T (fun i => fs[i]?) ti.zpv (ps.toList.map fun p => (p.1,ev E p.2))).map fun cs => (True,.agg cs)
      else none
    | .array n e => match T e with
      | some te => (fillA T (fun i => some (i * te.size,e)) ti.zpv (ps.toList.map fun p => (p.1,ev E p.2))).map fun cs => (True,.agg cs)
      | none => none
    | _ => none
def evVal (T : Tab) (E : Env) (H : Heap) : Op → Option (Prop × PV)
  | .move x => some (True,ev E x)
  | .assign x => some (True,ev E x)
  | .pick c x y => match ev E c with
    | .lit (.bool t) => some (True,if t then ev E x else ev E y)
    | _ => none
  | .load t x => match T t with
    | none => none
    | some ti => match ev E x with
      | .ptr b off => match H b with
        | some (.box _ cs) => some (ldOK ti (cs.drop off),ld ti (cs.drop off))
        | _ => none
      | .aptr b ver row off size => match H b with
        | some (.arr _ s rows ver' _) => some (s = size ∧ ver' = ver ∧ row < rows.length ∧ ldOK ti ((rows.getD row []).drop off),ld ti ((rows.getD row []).drop off))
        | _ => none
      | .iptr cs => some (ldOK ti cs,ld ti cs)
      | _ => none
  | .nilCheck x => nilA H (ev E x)
  | .binOp op t x y _ => match ev E x,ev E y with
    | .lit p,.lit q => (binA T op t p q).map fun r => (r.1,.lit r.2)
    | .agg cs,.agg ds => eqA T op t cs ds
    | _,_ => none
  | .unOp op _ x => match ev E x with
    | .lit p => (unA op p).map fun v => (True,.lit v)
    | _ => none
  | .convert s d x => convA T H s d (ev E x)
  | .slice t x lo hi mx => sliceA T E H t x lo hi mx
  | .fieldAddr s x f => match T s with
    | some ti => match ti.desc with
      | .struct fs => match fs[f]? with
        | some (off,ft) => match T ft with
          | some fi => (stepIn H off (ev E x)).map fun r => (r.1 ∧ fi.size ≠ 0,r.2)
          | none => none
        | none => none
      | _ => none
    | none => none
  | .indexAddr t x i => match ev E i,T t with
    | .lit (.int _ i),some ti => match ti.desc with
      | .slice e => match T e with
        | some te => match ev E x with
          | .im s rows => some (s = te.size ∧ 0 ≤ i ∧ i < rows.length,.iptr (rows.getD i.toNat []))
          | .own b ver => match H b with
            | some (.arr _ s rows ver' _) => some (s = te.size ∧ ver' = ver ∧ 0 ≤ i ∧ i < rows.length,.aptr b ver i.toNat 0 s)
            | _ => none
          | _ => none
        | none => none
      | .array n e => match T e with
        | some te => match ev E x with
          | .ptr b o => some (0 ≤ i ∧ i < n,.ptr b (o + i.toNat * te.size))
          | .iptr cs => some (0 ≤ i ∧ i < n,.iptr (cs.drop (i.toNat * te.size)))
          | _ => none
        | none => none
      | _ => none
    | _,_ => none
  | .index t x i => match ev E i,T t with
    | .lit (.int _ i),some ti => match ti.desc,ev E x with
      | .array n e,.agg cs => match T e with
        | some te => some (0 ≤ i ∧ i < n ∧ ldOK te (cs.drop (i.toNat * te.size)),ld te (cs.drop (i.toNat * te.size)))
        | none => none
      | .str,.lit (.string s) => some (0 ≤ i ∧ i < s.size,.lit (.int .u8 (s.data.toList.getD i.toNat 0).toNat))
      | _,_ => none
    | _,_ => none
  | .field t x f => match T t,ev E x with
    | some ti,.agg cs => match ti.desc with
      | .struct fs => match fs[f]? with
        | some (off,ft) => match T ft with
          | some fi => some (ldOK fi (cs.drop off),ld fi (cs.drop off))
          | none => none
        | none => none
      | _ => none
    | _,_ => none
  | .extract x i => match ev E x with
    | .tup cs => match cs[i]? with
      | some c => some (True,c)
      | none => none
    | _ => none
  | .build t ps => buildA T E t ps
  | .makeInterface t x => match T t with
    | some ti => match ti.desc with
      | .int _ => some (True,.iface t (ev E x))
      | .str => some (True,.iface t (ev E x))
      | _ => none
    | none => none
  | .lookup t x i ok => match T t,ev E x,ev E i with
    | some ti,.mapp b,.lit (.int k n) => match ti.desc,H b with
      | .map kt et,some (.map es) => match T kt with
        | some ki => match ki.desc with
          | .int k' => some (k' = k ∧ keysOK k es = true ∧ (ok = true ∨ lookB n es = true) ∧ (T et).isSome = true,if ok then .tup [lookV (zeroPV (T et)) n es,.lit (.bool (lookB n es))] else lookV .any n es)
          | _ => none
        | none => none
      | _,_ => none
    | _,_,_ => none
  | .makeFunc f first cap => some (True,.fn f (first.toList.map (ev E)) (cap.toList.map (ev E)))
  | .call c => callA T E H c
  | _ => none
section
variable {P : Program} {T : Tab} {C : Ctx} {n : Nat} {E : Env} {H : Heap} {β : Ref} {a : Act} {w : World}
theorem conv_sound (hT : TabOK P T) (hs : Sim C n E H β a w) {s d : TypeId} {pv r : PV} {v : Value} {ok : Prop} (h : convA T H s d pv = some (ok,r)) (hok : ok) (hr : Rep (NN C H β) w β pv v) :
    ∃ u,(convert s d v).run P w = .ok u w ∧ Rep (NN C H β) w β r u := by
  unfold convA convB at h
  split at h
  · rename_i ts td hts htd
    obtain ⟨ds,hus,hfs,_⟩ := (hT s ts hts).d
    obtain ⟨dd,hud,hfd,_⟩ := (hT d td htd).d
    split at h
    · rename_i k k0 m hdesc
      simp only [Option.some.injEq,Prod.mk.injEq] at h
      obtain ⟨_,rfl⟩ := h
      have hv := hr.lit_eq
      subst hv
      rw [hdesc] at hfd
      simp only [TD.fits] at hfd
      subst hfd
      exact ⟨_,by simp [convert,run_underlying hus,run_underlying hud,Conv.intToInt],.i (.lit _)⟩
    · rename_i x hdesc
      rw [hdesc] at hfd
      simp only [TD.fits] at hfd
      subst hfd
      split at h
      · rename_i hds
        simp only [Option.some.injEq,Prod.mk.injEq] at h
        obtain ⟨_,rfl⟩ := h
        have hv := hr.lit_eq
        subst hv
        exact ⟨.string x,by simp [convert,run_underlying hus,run_underlying hud],.i (.lit _)⟩
      · cases h
    · rename_i hdesc _
      rw [hdesc] at hfd
      simp only [TD.fits] at hfd
      subst hfd
      split at h
      · rename_i e hds
        split at h
        · rename_i te hte
          split at h
          · rename_i hu8
            split at h
            · rename_i rows hrows
              simp only [Option.some.injEq,Prod.mk.injEq] at h
              obtain ⟨rfl,rfl⟩ := h
              obtain ⟨de,hue,hfe,_⟩ := (hT e te hte).d
              rw [hu8] at hfe
              rw [hds] at hfs
              simp only [TD.fits] at hfe hfs
              subst hfe
              subst hfs
              have hat := hs.asIm hrows hr
              rcases hat with ⟨rfl,c,rfl⟩ | ⟨ad,cap,rfl,hc,hsz,hcell⟩
              · exact ⟨.string ByteArray.empty,run_convert_bytes_nil w s e hus hue 0 c d hud,.i (.lit _)⟩
              · have hb : (loadCells ad rows.length).run P w = .ok ((rows.map byteOfRow).map (Value.int .u8)).toArray w := by
                  have := run_loadCells_list (P := P) w ad ((rows.map byteOfRow).map (Value.int .u8)) (fun j u hj => by
                    simp only [List.getElem?_map,Option.map_eq_some_iff] at hj
                    obtain ⟨z,⟨rw_,h1,rfl⟩,rfl⟩ := hj
                    obtain ⟨m,rfl⟩ := hok rw_ (List.mem_of_getElem? h1)
                    obtain ⟨u,q1,q2,q3⟩ := hcell j _ 0 _ h1 rfl
                    rw [Nat.mul_one,Nat.add_zero] at q1
                    rw [q1]
                    cases q2
                    rfl)
                  simpa using this
                refine ⟨.string (bytesOf rows),?_,.i (.lit _)⟩
                rw [run_convert_bytes_string w s d e _ _ cap hus hue hud,run_bytesToString w _ _ cap _ hb,foldl_push_bytes]
                simp [bytesOf,strOfNums,ByteArray.empty,ByteArray.emptyWithCapacity]
                rfl
            · cases h
          · cases h
        · cases h
      · cases h
    · cases h
  · cases h
theorem slice_sound (hT : TabOK P T) (hs : Sim C n E H β a w) {t : TypeId} {x : Operand} {lo hi mx : Option Operand} {r : PV} {ok : Prop} (h : sliceA T E H t x lo hi mx = some (ok,r)) (hok : ok) :
    ∃ u,(Instr.sliceAt t (a.eval x) (lo.map a.eval) (hi.map a.eval) (mx.map a.eval)).run P w = .ok u w ∧ Rep (NN C H β) w β r u := by
  have hb : ∀ {o : Option Operand} {d i : Int},boundA E o d = some i → (o.map a.eval = none ∧ i = d) ∨ ∃ k,o.map a.eval = some (.int k i) := by
    intro o d i ho
    cases o with
    | none => simp [boundA] at ho; exact .inl ⟨rfl,ho.symm⟩
    | some y =>
      obtain ⟨k,hk⟩ := bound_eq ho (hs.ev y)
      exact .inr ⟨k,by simp [hk]⟩
  unfold sliceA at h
  split at h
  · cases h
  · rename_i ti hti
    split at h
    · rename_i e hde
      split at h
      · cases h
      · rename_i te hte
        split at h
        · rename_i s rows hx
          split at h
          · rename_i l hh hl hhi
            simp only [Option.some.injEq,Prod.mk.injEq] at h
            obtain ⟨rfl,rfl⟩ := h
            obtain ⟨rfl,h0,h1,h2,h3⟩ := hok
            have hrep := hs.ev x
            rw [hx] at hrep
            have him := hrep.im_eq
            have hform : ∃ ad cap,a.eval x = .slice ad rows.length cap ∧ rows.length ≤ cap := by
              generalize a.eval x = vx at him
              cases him with
              | imN _ _ c hn => subst hn; exact ⟨none,c,rfl,by simp⟩
              | im _ ad _ cap _ vals hn _ hc _ _ => subst hn; exact ⟨some ad,cap,rfl,hc⟩
            obtain ⟨ad,cap,hvx,hcap⟩ := hform
            rw [hvx] at him ⊢
            have hmx : mx.map a.eval = none ∨ ∃ k m,mx.map a.eval = some (.int k m) ∧ 0 ≤ m ∧ m ≤ cap ∧ hh ≤ m ∧ hi.map a.eval ≠ none := by
              cases mx with
              | none => exact .inl rfl
              | some m =>
                simp only [mxOK] at h3
                split at h3
                · rename_i k i hm
                  have hrm := hs.ev m
                  rw [hm] at hrm
                  refine .inr ⟨k,i,by simp [hrm.lit_eq],h3.2.2.1,by omega,h3.1,?_⟩
                  cases hi with
                  | none => exact absurd rfl h3.2.2.2
                  | some y => simp
                · exact h3.elim
            obtain ⟨m,hm1,hm2,hrun⟩ := slice_run (P := P) (hT t ti hti) hde (hT e te hte) (ad := ad) (len := rows.length) (cap := cap) w (hb hl) (hb hhi) hmx h0 h1 h2 hcap
            exact ⟨_,hrun,.i (him.cut (l := l.toNat) (h := hh.toNat) (m := m) (by omega) (by omega) (by omega))⟩
          · cases h
        · rename_i v hx
          unfold sliceNil at h
          split at h
          · rename_i l hh hl hhi
            simp only [Option.some.injEq,Prod.mk.injEq] at h
            obtain ⟨rfl,rfl⟩ := h
            obtain ⟨rfl,rfl,rfl⟩ := hok
            have hrep := hs.ev x
            rw [hx] at hrep
            rw [hrep.lit_eq]
            obtain ⟨m,hm1,hm2,hrun⟩ := slice_run (P := P) (hT t ti hti) hde (hT e te hte) (ad := none) (len := 0) (cap := 0) w (hb hl) (hb hhi) (.inl rfl) (Int.le_refl _) (Int.le_refl _) (Int.le_refl _) (Nat.le_refl _)
            refine ⟨_,hrun,?_⟩
            have : m = 0 := by omega
            subst this
            exact .i (.lit _)
          · cases h
        · cases h
    · rename_i hde
      split at h
      · rename_i s hx
        split at h
        · rename_i l hh hl hhi
          simp only [Option.some.injEq,Prod.mk.injEq] at h
          obtain ⟨rfl,rfl⟩ := h
          obtain ⟨h0,h1,h2⟩ := hok
          have hrep := hs.ev x
          rw [hx] at hrep
          rw [hrep.lit_eq]
          obtain ⟨d,hu,hf,_⟩ := (hT t ti hti).d
          rw [hde] at hf
          simp only [TD.fits] at hf
          subst hf
          refine ⟨.string (s.extract l.toNat hh.toNat),?_,.i (.lit _)⟩
          rcases hb hhi with ⟨e1,rfl⟩ | ⟨kh,e1⟩ <;> rcases hb hl with ⟨e2,rfl⟩ | ⟨kl,e2⟩ <;> rw [e1,e2]
          · simp [Instr.sliceAt,Instr.slice,run_underlying hu,Instr.sliceBounds]
          · have hbl := sliceBound_run (P := P) (k := kl) (i := l) (y := s.size) (code := .sliceB) ⟨h0,h1⟩ w
            simp [Instr.sliceAt,Instr.slice,run_underlying hu,Instr.sliceBounds,hbl]
          · have hbh := sliceBound_run (P := P) (k := kh) (i := hh) (y := s.size) (code := .sliceAlen) ⟨by omega,h2⟩ w
            simp [Instr.sliceAt,Instr.slice,run_underlying hu,Instr.sliceBounds,hbh]
          · have hbh := sliceBound_run (P := P) (k := kh) (i := hh) (y := s.size) (code := .sliceAlen) ⟨by omega,h2⟩ w
            have hbl := sliceBound_run (P := P) (k := kl) (i := l) (y := hh.toNat) (code := .sliceB) ⟨h0,by omega⟩ w
            simp [Instr.sliceAt,Instr.slice,run_underlying hu,Instr.sliceBounds,hbh,hbl]
        · cases h
      · cases h
    · cases h
theorem arr_ptr (hs : Sim C n E H β a w) {b T0 size ver row off : Nat} {rows : List (List PV)} {f : Bool} {v : Value} (hH : H b = some (.arr T0 size rows ver f)) (hrow : row < rows.length)
    (hr : Rep (NN C H β) w β (.aptr b ver row off size) v) :
    ∃ g nn c xs,β b = some (ver,.slice (some ⟨g,0,none⟩) nn c) ∧ v = .pointer (some ⟨g,row * size + off,none⟩) ∧ w.ownsRow C.base T0 size (.slice (some ⟨g,0,none⟩) nn c) rows.length xs ∧
      ∀ i r j pv,rows[i]? = some r → r[j]? = some pv → IRep (NN C H β) w pv (xs.getD (i * size + j) undef) ∧ (xs.getD (i * size + j) undef).oneCell' = true := by
  obtain ⟨u,xs,h1,h2,h3,h4⟩ := hs.blk b _ hH
  rcases h2.2 with ⟨rfl,hn⟩ | ⟨g,cap,cur,rfl,hrest⟩
  · omega
  · exact ⟨g,_,cap,xs,h1,hr.aptr_eq h1 g _ cap rfl,h2,h4⟩
theorem stepIn_sound (hs : Sim C n E H β a w) {off : Nat} {pv r : PV} {v : Value} {ok : Prop} (h : stepIn H off pv = some (ok,r)) (hok : ok) (hr : Rep (NN C H β) w β pv v) :
    ∃ ad,v = .pointer (some ad) ∧ Rep (NN C H β) w β r (.pointer (some (ad.add off))) := by
  cases pv <;> simp only [stepIn,reduceCtorEq] at h
  · rename_i b o
    simp only [Option.some.injEq,Prod.mk.injEq] at h
    obtain ⟨_,rfl⟩ := h
    obtain ⟨k,rfl,hk⟩ := hr.ptr_eq
    exact ⟨_,rfl,by rw [Addr.add_lit]; exact .ptr _ _ _ hk⟩
  · rename_i b ver row o size
    split at h
    · rename_i T0 s rows ver' f hH
      simp only [Option.some.injEq,Prod.mk.injEq] at h
      obtain ⟨rfl,rfl⟩ := h
      obtain ⟨rfl,rfl,hrow⟩ := hok
      obtain ⟨g,nn,c,xs,h1,rfl,_,_⟩ := arr_ptr hs hH hrow hr
      refine ⟨_,rfl,?_⟩
      rw [Addr.add_lit]
      refine .aptr _ _ _ _ _ _ _ _ h1 (Nat.le_refl _) rfl (fun _ g' n' c' e => ?_)
      cases e
      rw [Nat.add_assoc]
    · cases h
  · rename_i cs
    simp only [Option.some.injEq,Prod.mk.injEq] at h
    obtain ⟨_,rfl⟩ := h
    obtain ⟨ad,vals,rfl,hv⟩ := hr.iptr_eq
    refine ⟨ad,rfl,.iptr _ _ (fun j => vals (off + j)) fun j pv hj => ?_⟩
    rw [List.getElem?_drop] at hj
    have := hv _ _ hj
    rw [Addr.add_add,add_block]
    exact this
theorem len_sound (hT : TabOK P T) (hs : Sim C n E H β a w) {c : Call} {t : TypeId} {r : PV} {ok : Prop} (h : callA T E H c = some (ok,r)) (hok : ok) (ty : TypeId) :
    ∃ u,(do let d ← resolve a.eval c ty; invoke d.target d.args : Sem Next).run P w = .ok (.value u) w ∧ Rep (NN C H β) w β r u := by
  obtain ⟨callee,args,argTypes⟩ := c
  unfold callA at h
  simp only at h
  split at h
  · rename_i x t heq1 heq2
    have e1 : args = #[x] := by apply Array.ext'; simpa using heq1
    have e2 : argTypes = #[t] := by apply Array.ext'; simpa using heq2
    subst e1 e2
    split at h
    · rename_i ti hti
      obtain ⟨d,hu,hf,_⟩ := (hT t ti hti).d
      split at h
      · rename_i e hd
        rw [hd] at hf
        simp only [TD.fits] at hf
        subst hf
        simp only [Option.map_eq_some_iff,Prod.mk.injEq] at h
        obtain ⟨m,hm,rfl,rfl⟩ := h
        have hrep := hs.ev x
        have hform : ∃ ad c,a.eval x = .slice ad m.toNat c ∧ (m.toNat : Int) = m := by
          generalize hvx : a.eval x = vx at hrep
          generalize hpx : ev E x = px at hm hrep hok
          unfold lenA at hm
          split at hm
          · rename_i s rows
            cases hm
            have him := hrep.im_eq
            cases him with
            | imN _ _ c hn => subst hn; exact ⟨none,c,rfl,by simp⟩
            | im _ ad _ cap _ vals hn _ hc _ _ => subst hn; exact ⟨some ad,cap,rfl,by simp⟩
          · rename_i v
            unfold litLen at hm
            split at hm
            · rename_i c
              cases hm
              exact ⟨none,c,hrep.lit_eq,rfl⟩
            · exact absurd ⟨_,rfl⟩ hok
            · cases hm
          · rename_i b ver
            split at hm
            · rename_i T0 s rows ver' f hH
              split at hm
              · rename_i hv
                subst hv
                cases hm
                obtain ⟨u,hβ,hrows⟩ := ArrOK.rowsAt (hs.blk b _ hH)
                rw [hrep.own_eq hβ]
                rcases hrows with ⟨rfl,c,rfl⟩ | ⟨ad,cap,rfl,_⟩
                · exact ⟨none,c,rfl,by simp⟩
                · exact ⟨some ad,cap,rfl,by simp⟩
              · cases hm
            · cases hm
          · cases hm
        obtain ⟨ad,cap,hx,hmn⟩ := hform
        refine ⟨.int .i64 m,?_,.i (.lit _)⟩
        simp [resolve,invoke,builtin,Builtin.len_,hx,run_underlying hu,goInt,hmn]
      · rename_i hd
        rw [hd] at hf
        simp only [TD.fits] at hf
        subst hf
        split at h
        · rename_i s hx
          simp only [Option.some.injEq,Prod.mk.injEq] at h
          obtain ⟨_,rfl⟩ := h
          have hrep := hs.ev x
          rw [hx] at hrep
          refine ⟨.int .i64 s.size,?_,.i (.lit _)⟩
          simp [resolve,invoke,builtin,Builtin.len_,hrep.lit_eq,run_underlying hu,goInt]
        · cases h
      · cases h
    · cases h
  · rename_i x t heq1 heq2
    have e1 : args = #[x] := by apply Array.ext'; simpa using heq1
    have e2 : argTypes = #[t] := by apply Array.ext'; simpa using heq2
    subst e1 e2
    split at h
    · rename_i ti hti
      obtain ⟨d,hu,hf,_⟩ := (hT t ti hti).d
      split at h
      · rename_i e hd
        rw [hd] at hf
        simp only [TD.fits] at hf
        subst hf
        generalize hpx : ev E x = px at h
        unfold capNil at h
        split at h
        · simp only [Option.some.injEq,Prod.mk.injEq] at h
          obtain ⟨_,rfl⟩ := h
          have hrep := hs.ev x
          rw [hpx] at hrep
          refine ⟨.int .i64 0,?_,.i (.lit _)⟩
          simp [resolve,invoke,builtin,Builtin.cap_,hrep.lit_eq,run_underlying hu,goInt]
        · cases h
      · cases h
    · cases h
  · rename_i x y heq1
    have e1 : args = #[x,y] := by apply Array.ext'; simpa using heq1
    subst e1
    split at h
    · rename_i k p k' q hx hy
      simp only [Option.some.injEq,Prod.mk.injEq] at h
      obtain ⟨_,rfl⟩ := h
      have hrx := hs.ev x
      have hry := hs.ev y
      rw [hx] at hrx
      rw [hy] at hry
      refine ⟨_,?_,.i (.lit _)⟩
      simp [resolve,invoke,builtin,Builtin.min_,Builtin.min2,hrx.lit_eq,hry.lit_eq]
    · cases h
  · rename_i x y heq1
    have e1 : args = #[x,y] := by apply Array.ext'; simpa using heq1
    subst e1
    split at h
    · rename_i k p k' q hx hy
      simp only [Option.some.injEq,Prod.mk.injEq] at h
      obtain ⟨_,rfl⟩ := h
      have hrx := hs.ev x
      have hry := hs.ev y
      rw [hx] at hrx
      rw [hy] at hry
      refine ⟨_,?_,.i (.lit _)⟩
      simp [resolve,invoke,builtin,Builtin.max_,Builtin.max2,hrx.lit_eq,hry.lit_eq]
    · cases h
  · cases h
end
end Go.Pe
namespace Go.Pe
open Go.RowKit
section
variable {P : Program} {T : Tab} {C : Ctx} {n : Nat} {E : Env} {H : Heap} {β : Ref} {a : Act} {w : World}
theorem TD.field {fs : List (Nat × TypeId)} {gs : Array Field} (h : gs.toList.map (fun f => (f.offset,f.type)) = fs) {f off : Nat} {ft : TypeId} (hf : fs[f]? = some (off,ft)) :
    ∃ fd,gs[f]? = some fd ∧ fd.offset = off ∧ fd.type = ft := by
  subst h
  simp only [List.getElem?_map,Option.map_eq_some_iff,Prod.mk.injEq] at hf
  obtain ⟨fd,h1,h2,h3⟩ := hf
  exact ⟨fd,by simpa using h1,h2,h3⟩
theorem mapM_places (hT : TabOK P T) : ∀ (l : List Field),(l.map (fun f => (f.offset,f.type))).all (fun f => (T f.2).isSome) = true →
    ∃ places,l.mapM (fun f => (P.info? f.type).map fun i => (f.offset,i.size)) = some places ∧ places.length = l.length ∧
      ∀ (i off : Nat) (ft : TypeId) (fi : TI),(l.map (fun f => (f.offset,f.type)))[i]? = some (off,ft) → T ft = some fi → places[i]? = some (off,fi.size)
  | [],_ => ⟨[],rfl,rfl,by simp⟩
  | f :: l,h => by
    simp only [yBi,List.all_cons,Bool.and_eq_true] at h
    obtain ⟨places,h1,h2,h3⟩ := mapM_places hT l h.2
    obtain ⟨ti,hti⟩ := Option.isSome_iff_exists.1 h.1
    obtain ⟨i,z,q1,q2,_⟩ := (hT f.type ti hti).i
    refine ⟨(f.offset,i.size) :: places,by simp [List.mapM_cons,q1,h1],by simp [h2],fun k off ft fi hk hf => ?_⟩
    cases k with
    | zero =>
      simp only [yBi,List.getElem?_cons_zero,Option.some.injEq,Prod.mk.injEq] at hk
      obtain ⟨rfl,rfl⟩ := hk
      rw [hti] at hf
      cases hf
      simp [q2]
    | succ k =>
      simp only [yBi,List.getElem?_cons_succ] at hk ⊢
      exact h3 k off ft fi hk hf
theorem zero_rep {N : Nat → Prop} {z : Value} {ti : TI} (hz : z.cells.toList = ti.zero) (hr : ZRep ti.zpv ti.zero) : z.cells.size = ti.zpv.length ∧ ∀ j x,ti.zpv[j]? = some x → IRep N w x (z.cells.getD j undef) := by
  refine ⟨by rw [hr.1,← hz]; simp,fun j x hj => ?_⟩
  have e : z.cells.getD j undef = ti.zero.getD j undef := by rw [← hz]; simp [Array.getD_eq_getD_getElem?,List.getD_eq_getElem?_getD]
  rw [e]
  rcases hr.2 j x hj with rfl | ⟨⟨s,rfl⟩,h⟩
  · exact .lit _
  · rw [h]
    exact .imN _ _ _ rfl
theorem build_sound (hT : TabOK P T) (hs : Sim C n E H β a w) {t : TypeId} {ps : Array (Nat × Operand)} {r : PV} {ok : Prop} (h : buildA T E t ps = some (ok,r)) (hok : ok) :
    ∃ u,(Instr.build t (ps.map fun (i,x) => (i,a.eval x))).run P w = .ok u w ∧ Rep (NN C H β) w β r u := by
  have hparts : ∀ (i : Nat) (p : Nat × PV) (q : Nat × Value),(ps.toList.map fun p => (p.1,ev E p.2))[i]? = some p → ((ps.map fun (i,x) => (i,a.eval x)).toList)[i]? = some q → p.1 = q.1 ∧ Rep (NN C H β) w β p.2 q.2 := by
    intro i p q h1 h2
    simp only [List.getElem?_map,Option.map_eq_some_iff,Array.toList_map] at h1 h2
    obtain ⟨z,hz1,rfl⟩ := h1
    obtain ⟨z',hz2,rfl⟩ := h2
    rw [hz1] at hz2
    cases hz2
    exact ⟨rfl,hs.ev _⟩
  unfold buildA at h
  split at h
  · cases h
  · rename_i ti hti
    obtain ⟨d,hu,hf,_⟩ := (hT t ti hti).d
    obtain ⟨it,z,i1,i2,i3,i4,i5,_⟩ := (hT t ti hti).i
    have hz' := zero_rep (w := w) (N := NN C H β) i5 (hT t ti hti).z
    have hz : z.cells.size = ti.zpv.length ∧ ∀ j x,ti.zpv[j]? = some x → Rep (NN C H β) w β x (z.cells.getD j undef) := ⟨hz'.1,fun j x hj => .i (hz'.2 j x hj)⟩
    split at h
    · rename_i fs hd
      rw [hd] at hf
      obtain ⟨gs,rfl,hgs⟩ := hf
      split at h
      · rename_i hall
        simp only [Option.map_eq_some_iff,Prod.mk.injEq] at h
        obtain ⟨cs,hcs,rfl,rfl⟩ := h
        rw [← hgs] at hall hcs
        obtain ⟨places,p1,p2,p3⟩ := mapM_places hT gs.toList hall
        obtain ⟨cells,c1,c2,c3⟩ := fill_run hT (place' := (places.toArray[·]?)) (fun i off ft fi hi hfi => by simpa using p3 i off ft fi hi hfi) _ (ps.map fun (i,x) => (i,a.eval x)).toList _ z.cells cs hcs (by simp) hparts hz.1 hz.2
        exact ⟨.agg cells,run_build w t _ cells (by simp only [Program.built,i1,hu,i4,p1,c1]),.agg _ _ c2 c3⟩
      · cases h
    · rename_i m e hd
      rw [hd] at hf
      simp only [TD.fits] at hf
      subst hf
      split at h
      · rename_i te hte
        obtain ⟨ie,ze,j1,j2,_⟩ := (hT e te hte).i
        simp only [Option.map_eq_some_iff,Prod.mk.injEq] at h
        obtain ⟨cs,hcs,rfl,rfl⟩ := h
        obtain ⟨cells,c1,c2,c3⟩ := fill_run hT (place' := fun i => some (i * ie.size,ie.size)) (fun i off ft fi hi hfi => by
          simp only [Option.some.injEq,Prod.mk.injEq] at hi ⊢
          obtain ⟨rfl,rfl⟩ := hi
          rw [hte] at hfi
          cases hfi
          exact ⟨by rw [j2],j2⟩) _ (ps.map fun (i,x) => (i,a.eval x)).toList _ z.cells cs hcs (by simp) hparts hz.1 hz.2
        exact ⟨.agg cells,run_build w t _ cells (by simp only [Program.built,i1,hu,i4,j1,c1]),.agg _ _ c2 c3⟩
      · cases h
    · cases h
theorem part_run {t : TypeId} {ti : TI} (ht : TypeOK P t ti) {N : Nat → Prop} {cs : List PV} {vs : Array Value} {off : Nat} (hl : vs.size = cs.length) (hv : ∀ i pv,cs[i]? = some pv → Rep N w β pv (vs.getD i undef))
    (hok : ldOK ti (cs.drop off)) : ∃ v,(part t vs off).run P w = .ok v w ∧ Rep N w β (ld ti (cs.drop off)) v := by
  obtain ⟨h1,h2⟩ := hok
  unfold part ld
  cases hg : ti.agg with
  | true =>
    refine ⟨.agg (vs.extract off (off + ti.size)),by simp [ht.run_isAgg,hg,ht.run_sizeOf],?_⟩
    simp only [if_true]
    simp at h1
    refine .agg _ _ (by simp; omega) fun i pv hi => ?_
    have hlt : i < ti.size := by have := (List.getElem?_eq_some_iff.1 hi).1; simp at this; omega
    rw [List.getElem?_take_of_lt hlt,List.getElem?_drop] at hi
    have := hv _ _ hi
    have e : (vs.extract off (off + ti.size)).getD i undef = vs.getD (off + i) undef := by
      simp only [Array.getD_eq_getD_getElem?]
      rw [Array.getElem?_extract]
      simp [show i < min (off + ti.size) vs.size - off by omega]
    rw [e]
    exact this
  | false =>
    have h3 : ti.size = 1 := by simpa [hg] using h2
    simp at h1
    have hlt : off < cs.length := by omega
    have hlt' : off < vs.size := by omega
    refine ⟨vs[off],by simp [ht.run_isAgg,hg,hlt'],?_⟩
    have := hv off cs[off] (yBh hlt)
    have e : (List.drop off cs).headD .any = cs[off] := by rw [List.drop_eq_getElem_cons hlt]; rfl
    simp only [Bool.false_eq_true,if_false]
    rw [e]
    simpa [Array.getD,hlt'] using this
theorem findNow_spec {R : PV → Value → Prop} {k k0 : IntKind} {n : Int} : ∀ (es : List (Value × PV)) (ents : List MapEntry) (i : Nat),ents.length = es.length → (∀ (j : Nat) kv pv,es[j]? = some (kv,pv) → ∃ e,ents[j]? = some e ∧ e.key = kv ∧ R pv e.val) → keysOK k es = true →
    ∃ r,Instr.findNow (.int k0) (.int k n) ents i = some r ∧ ((lookB n es = false ∧ r = none) ∨ (lookB n es = true ∧ ∃ i' v,r = some (i',v) ∧ ∀ d,R (lookV d n es) v))
  | [],ents,i,hl,h,hk => by
    have : ents = [] := List.eq_nil_of_length_eq_zero hl
    subst this
    exact ⟨none,rfl,.inl ⟨rfl,rfl⟩⟩
  | (kv,pv) :: es,[],i,hl,h,hk => by simp at hl
  | (kv,pv) :: es,en :: ents,i,hl,h,hk => by
    obtain ⟨e,q1,q2,q3⟩ := h 0 kv pv rfl
    cases q1
    cases kv <;> simp only [keysOK,Bool.false_eq_true] at hk
    rename_i k' m
    simp only [Bool.and_eq_true,decide_eq_true_eq] at hk
    obtain ⟨rfl,hk⟩ := hk
    obtain ⟨r,r1,r2⟩ := findNow_spec (R := R) (k0 := k0) (n := n) es ents (i + 1) (by simpa using hl) (fun j kv pv hj => by have := h (j + 1) kv pv (by simpa using hj); simpa using this) hk
    simp only [Instr.findNow,q2,Instr.sameNow,if_true]
    by_cases hm : n = m
    · subst hm
      refine ⟨some (i,en.val),by simp,.inr ⟨by simp [lookB],i,en.val,rfl,fun d => by simpa [lookV] using q3⟩⟩
    · have hb : (n == m) = false := by simpa using hm
      rw [hb]
      refine ⟨r,r1,?_⟩
      simpa [lookB,lookV,hm] using r2
theorem lookV_none {d : PV} {n : Int} : ∀ {es : List (Value × PV)},lookB n es = false → lookV d n es = d
  | [],_ => rfl
  | (kv,pv) :: es,h => by
    cases kv <;> simp only [lookV]
    rename_i k m
    simp only [lookB,Bool.or_eq_false_iff,decide_eq_false_iff_not] at h
    rw [if_neg h.1]
    exact lookV_none h.2
theorem zeroPV_rep {N : Nat → Prop} {w : World} {β : Ref} {t : TypeId} {ei : TI} (h : TypeOK P t ei) {z : Value} (hz : z.cells.toList = ei.zero) : Rep N w β (zeroPV (some ei)) z := by
  show Rep N w β (if ei.size = 1 then .any else .agg ei.zpv) z
  by_cases hs : ei.size = 1
  · rw [if_pos hs]; exact .any _
  · rw [if_neg hs]
    obtain ⟨_,_,_,_,_,_,_,hlen,h1⟩ := h.i
    have hagg : ∃ arr : Array Value,z = .agg arr ∧ arr.toList = ei.zero := by
      cases z with
      | agg cs => exact ⟨cs,rfl,hz⟩
      | _ => exact absurd (by rw [← hlen,← hz]; rfl) hs
    obtain ⟨arr,rfl,ha⟩ := hagg
    obtain ⟨q1,q2⟩ := h.z
    refine .agg _ _ (by rw [q1,← ha]; simp) fun i pv hi => ?_
    have e : arr.getD i undef = ei.zero.getD i undef := by
      rw [← ha]
      simp [Array.getD_eq_getD_getElem?,List.getD_eq_getElem?_getD]
    rw [e]
    rcases q2 i pv hi with rfl | ⟨⟨s,rfl⟩,h2⟩
    · exact .i (.lit _)
    · rw [h2]; exact .i (.imN _ _ _ rfl)
theorem checkKey_int {t : TypeId} {k k' : IntKind} {n : Int} {empty : Bool} (h : P.underlying t = some (.int k)) (w : World) : (Instr.checkKey empty 10000 t (.int k' n)).run P w = .ok () w := by
  have key : ∀ d,(Instr.checkKey empty (d + 1) t (.int k' n)).run P w = .ok () w := by
    intro d
    simp [Instr.checkKey,run_underlying h]
  exact key 9999
theorem evVal_sound (hT : TabOK P T) (hs : Sim C n E H β a w) {o : Oper} {r : PV} {ok : Prop} (h : evVal T E H o.op = some (ok,r)) (hok : ok) :
    ∃ u,(execOp a.eval o).run P w = .ok (.value u) w ∧ Rep (NN C H β) w β r u := by
  obtain ⟨dst,op,ty,pos,after,guard⟩ := o
  have lift : ∀ {s : Sem Value},(∃ u,s.run P w = .ok u w ∧ Rep (NN C H β) w β r u) → ∃ u,(do pure (.value (← s)) : Sem Next).run P w = .ok (.value u) w ∧ Rep (NN C H β) w β r u := by
    rintro s ⟨u,h1,h2⟩
    exact ⟨u,by simp [h1],h2⟩
  cases op <;> simp only [evVal,reduceCtorEq] at h
  case move x =>
    simp only [Option.some.injEq,Prod.mk.injEq] at h
    obtain ⟨_,rfl⟩ := h
    exact ⟨a.eval x,by simp [execOp],hs.ev x⟩
  case assign x =>
    simp only [Option.some.injEq,Prod.mk.injEq] at h
    obtain ⟨_,rfl⟩ := h
    exact ⟨a.eval x,by simp [execOp],hs.ev x⟩
  case pick c x y =>
    split at h
    · rename_i t hc
      simp only [Option.some.injEq,Prod.mk.injEq] at h
      obtain ⟨_,rfl⟩ := h
      have hr := hs.ev c
      rw [hc] at hr
      refine ⟨if t then a.eval x else a.eval y,by simp [execOp,hr.lit_eq,asBool],?_⟩
      cases t
      · exact hs.ev y
      · exact hs.ev x
    · cases h
  case load t x =>
    refine lift (s := Instr.loadAt t (a.eval x)) ?_
    split at h
    · cases h
    · rename_i ti hti
      have hr := hs.ev x
      split at h
      · rename_i b off hx
        rw [hx] at hr
        obtain ⟨k,hk,hβ⟩ := hr.ptr_eq
        split at h
        · rename_i T0 cs hH
          simp only [Option.some.injEq,Prod.mk.injEq] at h
          obtain ⟨rfl,rfl⟩ := h
          obtain ⟨k',cells,q1,q2,q3,q4,q5⟩ := hs.blk b _ hH
          rw [hβ] at q1
          cases q1
          obtain ⟨v,v1,v2⟩ := load_run (P := P) (hT t ti hti) (ad := ⟨k,off,none⟩) (w := w) (β := β) (N := NN C H β) hok (fun j => cells.getD (off + j) undef) (fun j pv hj => by
            rw [List.getElem?_drop] at hj
            refine ⟨?_,(q5 _ _ hj).1⟩
            have hlt : off + j < cells.size := by rw [q4]; exact (List.getElem?_eq_some_iff.1 hj).1
            rw [Addr.add_lit,cell_of_row w k (off + j) cells T0 (0,0) q3]
            simp [Array.getD,hlt])
          exact ⟨v,by simp [hk,Instr.loadAt,Instr.sureAddr,v1],v2⟩
        · cases h
      · rename_i b ver row off size hx
        rw [hx] at hr
        split at h
        · rename_i T0 s rows ver' f hH
          simp only [Option.some.injEq,Prod.mk.injEq] at h
          obtain ⟨rfl,rfl⟩ := h
          obtain ⟨rfl,rfl,hrow,hld⟩ := hok
          obtain ⟨g,nn,c,xs,h1,h2,h3,h4⟩ := arr_ptr hs hH hrow hr
          have hrl : rows[row]? = some (rows.getD row []) := by simp [List.getD_eq_getElem?_getD,hrow]
          obtain ⟨v,v1,v2⟩ := load_run (P := P) (hT t ti hti) (ad := ⟨g,row * s + off,none⟩) (w := w) (β := β) (N := NN C H β) hld (fun j => xs.getD (row * s + (off + j)) undef) (fun j pv hj => by
            rw [List.getElem?_drop] at hj
            refine ⟨?_,.i (h4 row _ (off + j) pv hrl hj).1⟩
            obtain ⟨_,_,_,_,hsz,_⟩ := hs.blk b _ hH
            have hjl : off + j < s := by have := (List.getElem?_eq_some_iff.1 hj).1; rw [hsz _ (List.mem_of_getElem? hrl)] at this; exact this
            have hlt : row * s + (off + j) < xs.length := by rw [h3.1]; exact flat_lt hrow hjl
            have := h3.cells (g := g) rfl (row * s + (off + j)) (xs.getD (row * s + (off + j)) undef) (by simp [List.getD_eq_getElem?_getD,hlt])
            rw [Addr.add_lit] at this ⊢
            simpa [Nat.add_assoc] using this)
          exact ⟨v,by simp [h2,Instr.loadAt,Instr.sureAddr,v1],v2⟩
        · cases h
      · rename_i cs hx
        rw [hx] at hr
        simp only [Option.some.injEq,Prod.mk.injEq] at h
        obtain ⟨rfl,rfl⟩ := h
        obtain ⟨ad,vals,hv,hc⟩ := hr.iptr_eq
        obtain ⟨v,v1,v2⟩ := load_run (P := P) (hT t ti hti) (ad := ad) (w := w) (β := β) (N := NN C H β) hok vals (fun j pv hj => ⟨(hc j pv hj).1,.i (hc j pv hj).2.2.1⟩)
        exact ⟨v,by simp [hv,Instr.loadAt,Instr.sureAddr,v1],v2⟩
      · cases h
  case build t ps => exact lift (build_sound hT hs h hok)
  case makeInterface t x =>
    refine lift (s := Instr.makeInterface t (a.eval x)) ?_
    split at h
    · rename_i ti hti
      obtain ⟨d,hu,hf,_⟩ := (hT t ti hti).d
      split at h
      · rename_i k hd
        rw [hd] at hf
        simp only [TD.fits] at hf
        subst hf
        simp only [Option.some.injEq,Prod.mk.injEq] at h
        obtain ⟨_,rfl⟩ := h
        exact ⟨.iface t (a.eval x),by simp [Instr.makeInterface,run_underlying hu],.iface _ _ _ (hs.ev x)⟩
      · rename_i hd
        rw [hd] at hf
        simp only [TD.fits] at hf
        subst hf
        simp only [Option.some.injEq,Prod.mk.injEq] at h
        obtain ⟨_,rfl⟩ := h
        exact ⟨.iface t (a.eval x),by simp [Instr.makeInterface,run_underlying hu],.iface _ _ _ (hs.ev x)⟩
      · cases h
    · cases h
  case lookup t x i ok' =>
    refine lift (s := Instr.lookup t (a.eval x) (a.eval i) ok') ?_
    split at h
    · rename_i ti b k n0 hti hx hi
      split at h
      · rename_i kt et es hd hH
        split at h
        · rename_i ki hki
          split at h
          · rename_i k' hkd
            simp only [Option.some.injEq,Prod.mk.injEq] at h
            obtain ⟨rfl,rfl⟩ := h
            obtain ⟨rfl,hk,hok',het⟩ := hok
            obtain ⟨d,hu,hf,_⟩ := (hT t ti hti).d
            rw [hd] at hf
            simp only [TD.fits] at hf
            subst hf
            obtain ⟨d2,hu2,hf2,_⟩ := (hT kt ki hki).d
            rw [hkd] at hf2
            simp only [TD.fits] at hf2
            subst hf2
            have hrx := hs.ev x
            have hri := hs.ev i
            rw [hx] at hrx
            rw [hi] at hri
            obtain ⟨kk,hvx,hβ⟩ := hrx.mapp_eq
            obtain ⟨k2,ents,clock,q1,q2,q3,q4,q5⟩ := hs.blk b _ hH
            rw [hβ] at q1
            cases q1
            obtain ⟨rr,r1,r2⟩ := findNow_spec (R := fun pv v => Rep (NN C H β) w β pv v) (k0 := k') (n := n0) es ents.toList 0 (by simpa using q4) (fun j kv pv hj => by have := q5 j kv pv hj; simpa using this) hk
            have hfind : (Instr.findKey kt (.int k' n0) ents.toList).run P w = .ok rr w := by
              simp [Instr.findKey,run_underlying hu2,r1]
            have hget : (getObj kk).run P w = .ok (.map ents clock) w := by simp [getObj,Sem.run,q3]
            rcases r2 with ⟨hb,rfl⟩ | ⟨hb,i',v,rfl,hv⟩
            · have hokt : ok' = true := by simpa [hb] using hok'
              subst hokt
              obtain ⟨ei,hei⟩ := Option.isSome_iff_exists.1 het
              obtain ⟨z,hz,hzc⟩ := (hT et ei hei).run_zero w
              refine ⟨.tuple #[z,.bool false],?_,?_⟩
              · simp [Instr.lookup,run_underlying hu,hvx,hri.lit_eq,hget,checkKey_int hu2,hfind,hz]
              · simp only [if_true,hb]
                refine .tup _ _ rfl fun j pv hj => ?_
                match j,hj with
                | 0,hj => cases hj; rw [lookV_none hb,hei]; exact zeroPV_rep (hT et ei hei) hzc
                | 1,hj => cases hj; exact .i (.lit _)
                | j + 2,hj => simp at hj
            · refine ⟨if ok' then .tuple #[v,.bool true] else v,?_,?_⟩
              · simp [Instr.lookup,run_underlying hu,hvx,hri.lit_eq,hget,checkKey_int hu2,hfind]
              · cases ok' with
                | false => simpa using hv _
                | true =>
                  simp only [if_true,hb]
                  refine .tup _ _ rfl fun j pv hj => ?_
                  match j,hj with
                  | 0,hj => cases hj; exact hv _
                  | 1,hj => cases hj; exact .i (.lit _)
                  | j + 2,hj => simp at hj
          · cases h
        · cases h
      · cases h
    · cases h
  case nilCheck x =>
    have hr := hs.ev x
    unfold nilA at h
    split at h
    · rename_i f p q hx
      unfold nilFn at h
      split at h
      · rename_i f'
        rw [hx] at hr
        simp only [Option.some.injEq,Prod.mk.injEq] at h
        obtain ⟨_,rfl⟩ := h
        refine ⟨a.eval x,?_,hr⟩
        simp only [execOp]
        generalize a.eval x = vx at hr
        cases hr with
        | i hi => cases hi
        | fn => rfl
      · cases h
    · rename_i v hx
      unfold nilLit at h
      split at h
      · rw [hx] at hr
        simp only [Option.some.injEq,Prod.mk.injEq] at h
        obtain ⟨_,rfl⟩ := h
        refine ⟨a.eval x,?_,hr⟩
        simp only [execOp,hr.lit_eq]
        rfl
      · cases h
    · obtain ⟨ad,hv,hrep⟩ := stepIn_sound hs h hok hr
      rw [Addr.add_zero'] at hrep
      exact ⟨.pointer (some ad),by simp [execOp,hv],hrep⟩
  case binOp op t x y _ =>
    split at h
    · rename_i p q hx hy
      simp only [Option.map_eq_some_iff,Prod.mk.injEq] at h
      obtain ⟨⟨ok',v⟩,hb,rfl,rfl⟩ := h
      have hrx := hs.ev x
      have hry := hs.ev y
      rw [hx] at hrx
      rw [hy] at hry
      refine ⟨v,?_,.i (.lit _)⟩
      have := binA_run (P := P) hT (x := x) (y := y) hb hok w
      simp only [execOp,hrx.lit_eq,hry.lit_eq]
      simp only [Sem.run_bind] at this ⊢
      rw [this]
      rfl
    · rename_i cs ds hx hy
      have hrx := hs.ev x
      have hry := hs.ev y
      rw [hx] at hrx
      rw [hy] at hry
      obtain ⟨vs,e1,s1,r1⟩ := hrx.agg_eq
      obtain ⟨us,e2,s2,r2⟩ := hry.agg_eq
      have get : ∀ (l : List PV) (xs : Array Value),xs.size = l.length → (∀ i pv,l[i]? = some pv → Rep (NN C H β) w β pv (xs.getD i undef)) → ∀ (j : Nat) (x : Value),l[j]? = some (PV.lit x) → xs[j]? = some x := by
        intro l xs hl hr j x hj
        have hlt : j < xs.size := by have := (List.getElem?_eq_some_iff.1 hj).1; omega
        have := (hr j _ hj).lit_eq
        simp only [Array.getD,hlt,dif_pos] at this
        rw [Array.getElem?_eq_getElem hlt]
        exact congrArg some this
      obtain ⟨v,rfl,hrun⟩ := eqA_run (P := P) hT (x := x) (y := y) h hok w (get cs vs s1 r1) (get ds us s2 r2)
      refine ⟨v,?_,.i (.lit _)⟩
      simp only [execOp,e1,e2]
      simp only [Sem.run_bind] at hrun ⊢
      rw [hrun]
      rfl
    · cases h
  case unOp op _ x =>
    split at h
    · rename_i p hx
      simp only [Option.map_eq_some_iff,Prod.mk.injEq] at h
      obtain ⟨v,hb,rfl,rfl⟩ := h
      have hrx := hs.ev x
      rw [hx] at hrx
      refine ⟨v,?_,.i (.lit _)⟩
      simp [execOp,hrx.lit_eq,unA_run hb]
    · cases h
  case convert s d x => exact lift (conv_sound hT hs h hok (hs.ev x))
  case makeFunc f first cap =>
    simp only [Option.some.injEq,Prod.mk.injEq] at h
    obtain ⟨_,rfl⟩ := h
    refine ⟨.func f (first.map a.eval) (cap.map a.eval),by simp [execOp,Instr.makeFunc],?_⟩
    have hget : ∀ (l : Array Operand) i pv,(l.toList.map (ev E))[i]? = some pv → Rep (NN C H β) w β pv ((l.map a.eval).getD i undef) := by
      intro l i pv hi
      simp only [List.getElem?_map,Option.map_eq_some_iff] at hi
      obtain ⟨x,hx,rfl⟩ := hi
      have hx' : l[i]? = some x := by simpa using hx
      have : (l.map a.eval).getD i undef = a.eval x := by simp [Array.getD_eq_getD_getElem?,hx']
      rw [this]
      exact hs.ev x
    exact .fn f _ _ _ _ (by simp) (by simp) (hget first) (hget cap)
  case slice t x lo hi mx => exact lift (slice_sound hT hs h hok)
  case fieldAddr s x f =>
    refine lift (s := Instr.fieldAt s (a.eval x) f) ?_
    split at h
    · rename_i ti hti
      obtain ⟨d,hu,hf,_⟩ := (hT s ti hti).d
      split at h
      · rename_i fs hd
        rw [hd] at hf
        obtain ⟨gs,rfl,hgs⟩ := hf
        split at h
        · rename_i off ft hfs
          obtain ⟨fd,g1,rfl,rfl⟩ := TD.field hgs hfs
          split at h
          · rename_i fi hfi
            simp only [Option.map_eq_some_iff,Prod.mk.injEq] at h
            obtain ⟨⟨ok',r'⟩,hst,rfl,rfl⟩ := h
            obtain ⟨hok1,hok2⟩ := hok
            obtain ⟨ad,hv,hrep⟩ := stepIn_sound hs hst hok1 (hs.ev x)
            refine ⟨_,?_,hrep⟩
            simp [Instr.fieldAt,run_underlying hu,g1,hv,Instr.sureAddr,fieldPlace,(hT fd.type fi hfi).run_sizeOf,hok2]
          · cases h
        · cases h
      · cases h
    · cases h
  case field t x f =>
    refine lift (s := Instr.field t (a.eval x) f) ?_
    split at h
    · rename_i ti cs hti hx
      obtain ⟨d,hu,hf,_⟩ := (hT t ti hti).d
      split at h
      · rename_i fs hd
        rw [hd] at hf
        obtain ⟨gs,rfl,hgs⟩ := hf
        split at h
        · rename_i off ft hfs
          obtain ⟨fd,g1,rfl,rfl⟩ := TD.field hgs hfs
          split at h
          · rename_i fi hfi
            simp only [Option.some.injEq,Prod.mk.injEq] at h
            obtain ⟨rfl,rfl⟩ := h
            have hr := hs.ev x
            rw [hx] at hr
            obtain ⟨vs,hv,hl,he⟩ := hr.agg_eq
            obtain ⟨v,v1,v2⟩ := part_run (hT fd.type fi hfi) hl he hok
            exact ⟨v,by simp [Instr.field,run_underlying hu,g1,hv,asAgg,v1],v2⟩
          · cases h
        · cases h
      · cases h
    · cases h
  case indexAddr t x i =>
    refine lift (s := Instr.indexAt t (a.eval x) (a.eval i)) ?_
    split at h
    · rename_i k iv ti hi hti
      have hri := hs.ev i
      rw [hi] at hri
      have hvi := hri.lit_eq
      obtain ⟨d,hu,hf,_⟩ := (hT t ti hti).d
      have hr := hs.ev x
      split at h
      · rename_i e hd
        rw [hd] at hf
        simp only [TD.fits] at hf
        subst hf
        split at h
        · rename_i te hte
          split at h
          · rename_i s rows hx
            rw [hx] at hr
            simp only [Option.some.injEq,Prod.mk.injEq] at h
            obtain ⟨rfl,rfl⟩ := h
            obtain ⟨rfl,h0,h1⟩ := hok
            have him := hr.im_eq
            generalize a.eval x = vx at him
            cases him with
            | imN _ _ c hn => simp at h1; omega
            | im _ ad _ cap _ vals hn hsz hc q1 q2 =>
              subst hn
              have hlt : iv.toNat < rows.length := by omega
              refine ⟨.pointer (some (ad.add (iv.toNat * te.size))),?_,?_⟩
              · simp [Instr.indexAt,hvi,asIntOf,run_underlying hu,h0,h1,(hT e te hte).run_sizeOf]
              · refine .iptr _ _ (fun j => vals iv.toNat j) fun j pv hj => ?_
                have hrl : rows[iv.toNat]? = some (rows.getD iv.toNat []) := by simp [List.getD_eq_getElem?_getD,hlt]
                obtain ⟨p1,p2,p3⟩ := q1 _ _ j pv hrl hj
                rw [Addr.add_add,add_block]
                exact ⟨p1,p2,q2 _ _ j pv hrl hj,p3⟩
          · rename_i b ver hx
            rw [hx] at hr
            split at h
            · rename_i T0 s rows ver' f hH
              simp only [Option.some.injEq,Prod.mk.injEq] at h
              obtain ⟨rfl,rfl⟩ := h
              obtain ⟨rfl,rfl,h0,h1⟩ := hok
              obtain ⟨u,xs,q1,q2,q3,q4⟩ := hs.blk b _ hH
              have hvx := hr.own_eq q1
              rcases q2.2 with ⟨rfl,hn⟩ | ⟨g,cap,cur,rfl,hrest⟩
              · omega
              · refine ⟨.pointer (some ⟨g,iv.toNat * te.size + 0,none⟩),?_,?_⟩
                · simp [Instr.indexAt,hvi,hvx,asIntOf,run_underlying hu,h0,h1,(hT e te hte).run_sizeOf,Addr.add_lit]
                · exact .aptr _ _ _ _ _ _ _ _ q1 (Nat.le_refl _) rfl (fun _ g' n' c' e => by cases e; rfl)
            · cases h
          · cases h
        · cases h
      · rename_i m e hd
        rw [hd] at hf
        simp only [TD.fits] at hf
        subst hf
        split at h
        · rename_i te hte
          split at h
          · rename_i b o hx
            rw [hx] at hr
            simp only [Option.some.injEq,Prod.mk.injEq] at h
            obtain ⟨rfl,rfl⟩ := h
            obtain ⟨kk,hk,hβ⟩ := hr.ptr_eq
            refine ⟨.pointer (some ⟨kk,o + iv.toNat * te.size,none⟩),?_,.ptr _ _ _ hβ⟩
            simp [Instr.indexAt,hvi,hk,asIntOf,run_underlying hu,Instr.sureAddr,hok,(hT e te hte).run_sizeOf,Addr.add_lit]
          · rename_i cs hx
            rw [hx] at hr
            simp only [Option.some.injEq,Prod.mk.injEq] at h
            obtain ⟨rfl,rfl⟩ := h
            obtain ⟨ad,vals,hv,hc⟩ := hr.iptr_eq
            refine ⟨.pointer (some (ad.add (iv.toNat * te.size))),?_,?_⟩
            · simp [Instr.indexAt,hvi,hv,asIntOf,run_underlying hu,Instr.sureAddr,hok,(hT e te hte).run_sizeOf]
            · refine .iptr _ _ (fun j => vals (iv.toNat * te.size + j)) fun j pv hj => ?_
              rw [List.getElem?_drop] at hj
              rw [Addr.add_add,add_block]
              exact hc _ _ hj
          · cases h
        · cases h
      · cases h
    · cases h
  case index t x i =>
    refine lift (s := Instr.index t (a.eval x) (a.eval i)) ?_
    split at h
    · rename_i k iv ti hi hti
      have hri := hs.ev i
      rw [hi] at hri
      have hvi := hri.lit_eq
      obtain ⟨d,hu,hf,_⟩ := (hT t ti hti).d
      have hr := hs.ev x
      split at h
      · rename_i m e cs hd hx
        rw [hd] at hf
        simp only [TD.fits] at hf
        subst hf
        rw [hx] at hr
        split at h
        · rename_i te hte
          simp only [Option.some.injEq,Prod.mk.injEq] at h
          obtain ⟨rfl,rfl⟩ := h
          obtain ⟨h0,h1,h2⟩ := hok
          obtain ⟨vs,hv,hl,he⟩ := hr.agg_eq
          obtain ⟨v,v1,v2⟩ := part_run (hT e te hte) hl he h2
          exact ⟨v,by simp [Instr.index,hvi,hv,asIntOf,run_underlying hu,h0,h1,(hT e te hte).run_sizeOf,v1],v2⟩
        · cases h
      · rename_i s hd hx
        rw [hd] at hf
        simp only [TD.fits] at hf
        subst hf
        rw [hx] at hr
        simp only [Option.some.injEq,Prod.mk.injEq] at h
        obtain ⟨rfl,rfl⟩ := h
        obtain ⟨h0,h1⟩ := hok
        have hlt : iv.toNat < s.size := by omega
        refine ⟨.int .u8 (s[iv.toNat]'hlt).toNat,?_,?_⟩
        · simp [Instr.index,hvi,hr.lit_eq,asIntOf,run_underlying hu,h0,hlt]
        · have e : s.data.toList.getD iv.toNat 0 = s[iv.toNat]'hlt := by
            rw [List.getD_eq_getElem?_getD,yBh (by simpa using hlt)]
            rfl
          rw [e]
          exact .i (.lit _)
      · cases h
    · cases h
  case extract x i =>
    refine lift (s := Instr.extract (a.eval x) i) ?_
    split at h
    · rename_i cs hx
      split at h
      · rename_i c hc
        simp only [Option.some.injEq,Prod.mk.injEq] at h
        obtain ⟨_,rfl⟩ := h
        have hr := hs.ev x
        rw [hx] at hr
        obtain ⟨vs,hv,hl,he⟩ := hr.tup_eq
        have hlt : i < vs.size := by rw [hl]; exact (List.getElem?_eq_some_iff.1 hc).1
        have := he i c hc
        refine ⟨vs[i],by simp [Instr.extract,hv,hlt],?_⟩
        simpa [Array.getD,hlt] using this
      · cases h
    · cases h
  case call c => exact len_sound hT hs (t := 0) h hok ty
end
end Go.Pe
namespace Go.Pe
open Go.RowKit
def applyEff (H : Heap) (l : List (Nat × Blk)) : Heap := l.foldl (fun H x => upd H x.1 x.2) H
def frzC (H : Heap) : PV → Option PV
  | .lit v => if v.oneCell' then some (.lit v) else none
  | .im s rows => some (.im s rows)
  | .own b ver => match H b with
    | some (.arr _ s rows ver' _) => if ver = ver' then some (.im s rows) else none
    | _ => none
  | _ => none
def frzCs (H : Heap) : List PV → Option (List PV)
  | [] => some []
  | x :: l => match frzC H x,frzCs H l with
    | some y,some m => some (y :: m)
    | _,_ => none
def frzOne (H : Heap) : PV → List (Nat × Blk)
  | .own b _ => match H b with
    | some (.arr T s rows ver _) => [(b,.arr T s rows ver true)]
    | _ => []
  | _ => []
def frzEff (H : Heap) (l : List PV) : List (Nat × Blk) := l.flatMap (frzOne H)
section
variable {P : Program} {T : Tab} {C : Ctx} {n : Nat} {E : Env} {H : Heap} {β : Ref} {a : Act} {w : World}
theorem Sim.freeze (h : Sim C n E H β a w) {b T0 s ver : Nat} {rows : List (List PV)} {f : Bool} (hb : H b = some (.arr T0 s rows ver f)) : Sim C n E (upd H b (.arr T0 s rows ver true)) β a w ∧
    (∀ k,NN C (upd H b (.arr T0 s rows ver true)) β k → NN C H β k) := by
  have hN : ∀ k,NN C (upd H b (.arr T0 s rows ver true)) β k → NN C H β k := by
    rintro k (h1 | ⟨c,y,v1,u1,h1,h2,h3,h4⟩)
    · exact .inl h1
    · by_cases e : c = b
      · subst e
        rw [upd_same] at h1
        cases h1
        simp [Blk.frozen] at h2
      · rw [upd_other _ _ e] at h1
        exact .inr ⟨c,y,v1,u1,h1,h2,h3,h4⟩
  have hk := Keeps.refl (NN C H β) w
  refine ⟨⟨h.nt,h.df,fun t pv ht => ⟨(h.env t pv ht).1,(h.env t pv ht).2.mono hk (fun k _ => hN k) (Later.refl _) (fun _ _ h => h)⟩,fun c y hc => ?_,?_,h.lies,?_,h.below,h.nxb,h.bs,fun pv v hg => (h.gh pv v hg).mono hk (fun k _ => hN k) (Later.refl _) (fun _ _ h => h),h.gr⟩,hN⟩
  · by_cases e : c = b
    · subst e
      rw [upd_same] at hc
      cases hc
      have := (h.blk c _ hb).later (N' := NN C (upd H c (.arr T0 s rows ver true)) β) hk (fun k _ => hN k) (Later.refl _) (fun _ _ h => h) rfl (fun _ _ _ _ _ => rfl)
      exact this
    · rw [upd_other _ _ e] at hc
      exact (h.blk c y hc).later hk (fun k _ => hN k) (Later.refl _) (fun _ _ h => h) rfl (fun _ _ _ _ _ => rfl)
  · intro c c' y y' hne hc hc' v1 u1 v2 u2 k h1 h2
    have : ∀ {d z},upd H b (.arr T0 s rows ver true) d = some z → ∃ z',H d = some z' := by
      intro d z hd
      by_cases e : d = b
      · subst e; exact ⟨_,hb⟩
      · rw [upd_other _ _ e] at hd; exact ⟨_,hd⟩
    obtain ⟨z,hz⟩ := this hc
    obtain ⟨z',hz'⟩ := this hc'
    exact h.sep c c' z z' hne hz hz' v1 u1 v2 u2 k h1 h2
  · intro c hc
    by_cases e : c = b
    · subst e
      rw [upd_same] at hc
      cases hc
    · rw [upd_other _ _ e] at hc
      exact h.fr c hc
theorem Sim.frozen_nn (h : Sim C n E H β a w) {b T0 s ver : Nat} {rows : List (List PV)} (hb : H b = some (.arr T0 s rows ver true)) {u : Value} {k : Nat} (hu : β b = some (ver,u)) (hk' : refBlock u = some k) : ¬ NN C H β k := by
  rintro (h1 | ⟨c,y,v1,u1,h1,h2,h3,h4⟩)
  · have := h.nxb k h1
    obtain ⟨u',xs,q1,q2,_⟩ := h.blk b _ hb
    rw [hu] at q1
    cases q1
    rcases q2.2 with ⟨rfl,_⟩ | ⟨g,cap,cur,rfl,hbg,_⟩
    · simp [refBlock] at hk'
    · simp [refBlock] at hk'
      omega
  · by_cases e : c = b
    · subst e
      rw [hb] at h1
      cases h1
      simp [Blk.frozen] at h2
    · exact h.sep b c _ _ (Ne.symm e) hb h1 _ _ _ _ k hu h3 hk' h4
theorem Sim.frozen_rep (h : Sim C n E H β a w) {b T0 s ver : Nat} {rows : List (List PV)} (hb : H b = some (.arr T0 s rows ver true)) {v : Value}
    (hr : ∀ u,β b = some (ver,u) → v = u) : IRep (NN C H β) w (.im s rows) v := by
  obtain ⟨u,xs,q1,q2,q3,q4⟩ := h.blk b _ hb
  have hv := hr _ q1
  subst hv
  rcases q2.2 with ⟨rfl,hn⟩ | ⟨g,cap,cur,rfl,hbg,hg,hle,hcm,hcs,htk⟩
  · have : rows = [] := List.eq_nil_of_length_eq_zero hn
    subst this
    exact .imN _ _ _ rfl
  · refine .im _ _ _ _ _ (fun i j => xs.getD (i * s + j) undef) rfl q3 hle (fun i r j pv hi hj => ⟨?_,h.frozen_nn hb q1 rfl,(q4 i r j pv hi hj).2⟩) (fun i r j pv hi hj => (q4 i r j pv hi hj).1)
    have hil : i < rows.length := (List.getElem?_eq_some_iff.1 hi).1
    have hjl : j < s := by have := (List.getElem?_eq_some_iff.1 hj).1; rw [q3 r (List.mem_of_getElem? hi)] at this; exact this
    have hlt : i * s + j < xs.length := by rw [q2.1]; exact flat_lt hil hjl
    exact q2.cells (g := g) rfl _ _ (by simp [List.getD_eq_getElem?_getD,hlt])
structure Frz (C : Ctx) (n : Nat) (E : Env) (β : Ref) (a : Act) (w : World) (H H' : Heap) : Prop where
  sim : Sim C n E H' β a w
  nn : ∀ k,NN C H' β k → NN C H β k
  rel : ∀ b x,H b = some x → H' b = some x ∨ ∃ T0 s rows ver f,x = .arr T0 s rows ver f ∧ H' b = some (.arr T0 s rows ver true)
  none : ∀ b,H b = none → H' b = none
def FrzList (H : Heap) (l : List (Nat × Blk)) : Prop := ∀ x ∈ l,∃ T0 s rows ver f,H x.1 = some (.arr T0 s rows ver f) ∧ x.2 = .arr T0 s rows ver true
theorem Frz.all : ∀ (l : List (Nat × Blk)) (H' : Heap),FrzList H l → Frz C n E β a w H H' → Frz C n E β a w H (applyEff H' l)
  | [],H',_,h => h
  | x :: l,H',hl,h => by
    obtain ⟨T0,s,rows,ver,f,h1,h2⟩ := hl x List.mem_cons_self
    have hx : ∃ f',H' x.1 = some (.arr T0 s rows ver f') := by
      rcases h.rel _ _ h1 with h3 | ⟨T1,s1,r1,v1,f1,e1,h3⟩
      · exact ⟨f,h3⟩
      · cases e1; exact ⟨true,h3⟩
    obtain ⟨f',hf'⟩ := hx
    obtain ⟨q1,q2⟩ := h.sim.freeze hf'
    show Frz C n E β a w H (applyEff (upd H' x.1 x.2) l)
    rw [h2]
    refine Frz.all l _ (fun y hy => hl y (List.mem_cons_of_mem _ hy)) ?_
    refine ⟨q1,fun k hk => h.nn k (q2 k hk),fun c y hc => ?_,fun c hc => ?_⟩
    · by_cases ec : c = x.1
      · subst ec
        rw [h1] at hc
        cases hc
        exact .inr ⟨_,_,_,_,_,rfl,upd_same _ _ _⟩
      · rw [upd_other _ _ ec]
        exact h.rel c y hc
    · by_cases ec : c = x.1
      · subst ec
        rw [h1] at hc
        cases hc
      · rw [upd_other _ _ ec]
        exact h.none c hc
theorem applyEff_other : ∀ (l : List (Nat × Blk)) (H' : Heap) (b : Nat),(∀ x ∈ l,x.1 ≠ b) → applyEff H' l b = H' b
  | [],_,_,_ => rfl
  | x :: l,H',b,h => by
    show applyEff (upd H' x.1 x.2) l b = _
    rw [applyEff_other l _ b (fun y hy => h y (List.mem_cons_of_mem _ hy)),upd_other _ _ (Ne.symm (h x List.mem_cons_self))]
theorem applyEff_mem : ∀ (l : List (Nat × Blk)) (H' : Heap) (x : Nat × Blk),FrzList H l → x ∈ l → applyEff H' l x.1 = some x.2
  | [],_,_,_,h => by simp at h
  | y :: l,H',x,hl,h => by
    show applyEff (upd H' y.1 y.2) l x.1 = _
    by_cases hin : ∃ z ∈ l,z.1 = x.1
    · obtain ⟨z,hz1,hz2⟩ := hin
      have := applyEff_mem l (upd H' y.1 y.2) z (fun q hq => hl q (List.mem_cons_of_mem _ hq)) hz1
      rw [hz2] at this
      rw [this]
      obtain ⟨T0,s,rows,ver,f,h1,h2⟩ := hl z (List.mem_cons_of_mem _ hz1)
      obtain ⟨T1,s1,rows1,ver1,f1,h3,h4⟩ := hl x h
      rw [hz2,h3] at h1
      cases h1
      rw [h2,h4]
    · rw [applyEff_other l _ _ (fun z hz e => hin ⟨z,hz,e⟩)]
      rcases List.mem_cons.1 h with rfl | h
      · exact upd_same _ _ _
      · exact absurd ⟨x,h,rfl⟩ hin
theorem frzEff_list (l : List PV) : FrzList H (frzEff H l) := by
  intro x hx
  simp only [frzEff,List.mem_flatMap] at hx
  obtain ⟨p,_,hp⟩ := hx
  unfold frzOne at hp
  split at hp
  · split at hp
    · rename_i heq
      simp at hp
      subst hp
      exact ⟨_,_,_,_,_,heq,rfl⟩
    · simp at hp
  · simp at hp
theorem Sim.frz (h : Sim C n E H β a w) (l : List PV) : Frz C n E β a w H (applyEff H (frzEff H l)) :=
  Frz.all _ _ (frzEff_list l) ⟨h,fun _ h => h,fun _ _ h => .inl h,fun _ h => h⟩
theorem frzC_cell {pv q : PV} (h : frzC H pv = some q) : isCell pv = true ∧ isCell q = true := by
  unfold frzC at h
  split at h
  · split at h
    · rename_i hv
      cases h
      exact ⟨hv,hv⟩
    · cases h
  · cases h; exact ⟨rfl,rfl⟩
  · split at h
    · split at h
      · cases h; exact ⟨rfl,rfl⟩
      · cases h
    · cases h
  · cases h
theorem Frz.cell {H' : Heap} (h : Frz C n E β a w H H') (hs : Sim C n E H β a w) {pv q : PV} (hq : frzC H pv = some q) (hf : ∀ x ∈ frzOne H pv,H' x.1 = some x.2) {v : Value} (hr : Rep (NN C H β) w β pv v) : IRep (NN C H' β) w q v := by
  have hk := Keeps.refl (NN C H β) w
  unfold frzC at hq
  split at hq
  · split at hq
    · cases hq
      rw [hr.lit_eq]
      exact .lit _
    · cases hq
  · cases hq
    exact hr.im_eq.mono hk (fun k _ => h.nn k)
  · rename_i b ver
    split at hq
    · rename_i T0 s rows ver' f hH
      split at hq
      · rename_i hv
        subst hv
        cases hq
        have hb := hf (b,.arr T0 s rows ver true) (by simp [frzOne,hH])
        exact h.sim.frozen_rep hb (fun u hu => hr.own_eq hu)
      · cases hq
    · cases hq
  · cases hq
end
end Go.Pe
