import Derived.Test.YtcdmhigmgpflbaaGreatPeB
import Derived.ChangeArms
import Derived.DataElems
import Derived.OpenShut
set_option linter.unusedVariables false
set_option linter.unusedSimpArgs false
open List renaming getElem?_eq_getElem → yBh
namespace Go.Pe
open Go.RowKit
def tilesB (P : Program) : List Field → Nat → Nat → Bool
  | [],off,total => off == total
  | f :: fs,off,total => f.offset == off && tilesB P fs (off + P.cellsOf f.type) total
def okTy (P : Program) : Nat → TypeId → Bool
  | 0,_ => false
  | n + 1,t => match P.underlying t with
    | some .bool => true
    | some (.int _) => true
    | some .string => true
    | some (.slice e) => okTy P n e
    | some (.struct fs) => tilesB P fs.toList 0 (P.cellsOf t) && fs.toList.all (fun f => okTy P n f.type)
    | some (.array k e) => P.cellsOf t == k * P.cellsOf e && okTy P n e
    | _ => false
def ShapeFs (S : TypeId → List PV → Prop) : List Field → List PV → Prop
  | [],pvs => pvs = []
  | f :: fs,pvs => ∃ a b,pvs = a ++ b ∧ S f.type a ∧ ShapeFs S fs b
def ShapeN (S : List PV → Prop) : Nat → List PV → Prop
  | 0,pvs => pvs = []
  | n + 1,pvs => ∃ a b,pvs = a ++ b ∧ S a ∧ ShapeN S n b
def Shape (P : Program) : Nat → TypeId → List PV → Prop
  | 0,_,_ => False
  | m + 1,t,pvs => match P.underlying t with
    | some .bool => ∃ b,pvs = [.lit (.bool b)]
    | some (.int k) => ∃ n,pvs = [.lit (.int k n)] ∧ (Lit.int k n).wf = true
    | some .string => ∃ s : ByteArray,pvs = [.lit (.string s)] ∧ s.size ≤ maxLen
    | some (.slice e) => ∃ rows,pvs = [.im (P.cellsOf e) rows] ∧ rows.length ≤ maxLen ∧ ∀ r ∈ rows,Shape P m e r
    | some (.struct fs) => ShapeFs (Shape P m) fs.toList pvs
    | some (.array k e) => ShapeN (Shape P m e) k pvs
    | _ => False
section
variable {P : Program} {w : World} {H : Type} {enc : TypeId × Value → H} {spare : Nat → Bool} {held : Bool}
def Cells (w : World) (pvs : List PV) (cs : List Value) : Prop := pvs.length = cs.length ∧ ∀ j pv,pvs[j]? = some pv → IRep (fun _ => False) w pv (cs.getD j undef) ∧ (cs.getD j undef).oneCell' = true
theorem Cells.one {pv : PV} {v : Value} (h : IRep (fun _ => False) w pv v) (h1 : v.oneCell' = true) : Cells w [pv] [v] := by
  refine ⟨rfl,fun j q hj => ?_⟩
  cases j with
  | zero => cases hj; exact ⟨h,h1⟩
  | succ j => simp at hj
theorem Cells.append {a b : List PV} {x y : List Value} (h : Cells w a x) (h' : Cells w b y) : Cells w (a ++ b) (x ++ y) := by
  refine ⟨by simp [h.1,h'.1],fun j q hj => ?_⟩
  by_cases hlt : j < a.length
  · rw [List.getElem?_append_left hlt] at hj
    have := h.2 j q hj
    simp only [List.getD_eq_getElem?_getD] at this ⊢
    rw [List.getElem?_append_left (by rw [← h.1]; exact hlt)]
    exact this
  · rw [List.getElem?_append_right (by omega)] at hj
    have := h'.2 _ q hj
    simp only [List.getD_eq_getElem?_getD] at this ⊢
    rw [List.getElem?_append_right (by rw [← h.1]; omega),← h.1]
    exact this
theorem fields_shape {S : TypeId → List PV → Prop} {R : Field → List Value → Prop} (hR : ∀ f cs,R f cs → ∃ pvs,S f.type pvs ∧ Cells w pvs cs) : ∀ (fs : List Field) (off total : Nat) (cs : List Value),tilesB P fs off total = true → cs.length = total → off ≤ total →
    (∀ f ∈ fs,R f ((cs.drop f.offset).take (P.cellsOf f.type))) → ∃ pvs,ShapeFs S fs pvs ∧ Cells w pvs (cs.drop off)
  | [],off,total,cs,ht,hl,hle,h => by
    simp only [tilesB,beq_iff_eq] at ht
    refine ⟨[],rfl,?_,fun j q hj => by simp at hj⟩
    simp
    omega
  | f :: fs,off,total,cs,ht,hl,hle,h => by
    simp only [tilesB,Bool.and_eq_true,beq_iff_eq] at ht
    obtain ⟨pa,hSa,hCa⟩ := hR f _ (h f List.mem_cons_self)
    rw [ht.1] at hCa
    have hle2 : ∀ (fs : List Field) (o t : Nat),tilesB P fs o t = true → o ≤ t := by
      intro fs
      induction fs with
      | nil => intro o t h; simp [tilesB] at h; omega
      | cons g gs ih => intro o t h; simp only [tilesB,Bool.and_eq_true] at h; have := ih _ _ h.2; omega
    have hle3 := hle2 _ _ _ ht.2
    obtain ⟨pb,hSb,hCb⟩ := fields_shape hR fs (off + P.cellsOf f.type) total cs ht.2 hl hle3 (fun g hg => h g (List.mem_cons_of_mem _ hg))
    refine ⟨pa ++ pb,⟨pa,pb,rfl,hSa,hSb⟩,?_⟩
    have := hCa.append hCb
    rwa [← List.drop_drop,List.take_append_drop] at this
theorem elems_shape {S : List PV → Prop} {k : Nat} {cs : List Value} : ∀ (n i0 : Nat),cs.length = (i0 + n) * k → (∀ i,i0 ≤ i → i < i0 + n → ∃ pvs,S pvs ∧ Cells w pvs ((cs.drop (i * k)).take k)) → ∃ pvs,ShapeN S n pvs ∧ Cells w pvs (cs.drop (i0 * k))
  | 0,i0,hl,h => by
    refine ⟨[],rfl,?_,fun j q hj => by simp at hj⟩
    rw [List.drop_eq_nil_of_le (by rw [hl]; exact Nat.le_refl _)]
    rfl
  | n + 1,i0,hl,h => by
    obtain ⟨pa,hSa,hCa⟩ := h i0 (Nat.le_refl _) (by omega)
    obtain ⟨pb,hSb,hCb⟩ := elems_shape n (i0 + 1) (by rw [hl]; congr 1; omega) (fun i h1 h2 => h i (by omega) (by omega))
    refine ⟨pa ++ pb,⟨pa,pb,rfl,hSa,hSb⟩,?_⟩
    have := hCa.append hCb
    rwa [Nat.add_mul,Nat.one_mul,← List.drop_drop,List.take_append_drop] at this
theorem trod_shape : ∀ (m : Nat) (t : TypeId) (fuel : Nat) (cs : List Value) (x : DataW H × List MemPlace),okTy P m t = true → DataW.trod enc P w 0 spare held fuel t cs = some x → ∃ pvs,Shape P m t pvs ∧ Cells w pvs cs
  | 0,_,_,_,_,h,_ => by simp [okTy] at h
  | m + 1,t,fuel,cs,x,hok,h => by
    cases hu : P.underlying t with
    | none => simp [okTy,hu] at hok
    | some d =>
      have hsh : ∀ pvs,Shape P (m + 1) t pvs = (match (some d : Option TypeDesc) with
        | some .bool => ∃ b,pvs = [.lit (.bool b)]
        | some (.int k) => ∃ n,pvs = [.lit (.int k n)] ∧ (Lit.int k n).wf = true
        | some .string => ∃ s : ByteArray,pvs = [.lit (.string s)] ∧ s.size ≤ maxLen
        | some (.slice e) => ∃ rows,pvs = [.im (P.cellsOf e) rows] ∧ rows.length ≤ maxLen ∧ ∀ r ∈ rows,Shape P m e r
        | some (.struct fs) => ShapeFs (Shape P m) fs.toList pvs
        | some (.array k e) => ShapeN (Shape P m e) k pvs
        | _ => False) := by
        intro pvs
        rw [Shape,hu]
      simp only [okTy,hu] at hok
      cases d with
      | bool =>
        obtain ⟨b,rfl,_⟩ := DataW.trod_bool hu h
        exact ⟨_,by rw [hsh]; exact ⟨b,rfl⟩,Cells.one (.lit _) rfl⟩
      | int k =>
        obtain ⟨n,rfl,_,hw⟩ := DataW.trod_int hu h
        exact ⟨_,by rw [hsh]; exact ⟨n,rfl,hw⟩,Cells.one (.lit _) rfl⟩
      | string =>
        obtain ⟨s,rfl,_,hs⟩ := DataW.trod_string hu h
        exact ⟨_,by rw [hsh]; exact ⟨s,rfl,hs⟩,Cells.one (.lit _) rfl⟩
      | slice e =>
        rcases DataW.trod_slice hu h with ⟨rfl,_⟩ | ⟨a,len,cap,elems,rest,n,rfl,rfl,_,hb,hl,hc,hlen,hel,_,_⟩
        · exact ⟨[.im (P.cellsOf e) []],by rw [hsh]; exact ⟨[],rfl,by simp,by simp⟩,Cells.one (.imN _ _ _ rfl) rfl⟩
        · have each : ∀ i,i < len → ∃ ci pi,w.cells? 0 (a.add (i * P.cellsOf e)) (P.cellsOf e) = some ci ∧ Shape P m e pi ∧ Cells w pi ci := by
            intro i hi
            have h1 := hel i hi
            have hi' : i < elems.length := by omega
            rw [yBh hi'] at h1
            obtain ⟨ci,hci,htr⟩ := Option.bind_eq_some_iff.1 h1
            obtain ⟨pi,hs,hC⟩ := trod_shape m e n ci _ hok htr
            exact ⟨ci,pi,hci,hs,hC⟩
          have each' : ∀ i,∃ q : List Value × List PV,i < len → w.cells? 0 (a.add (i * P.cellsOf e)) (P.cellsOf e) = some q.1 ∧ Shape P m e q.2 ∧ Cells w q.2 q.1 := by
            intro i
            by_cases hi : i < len
            · obtain ⟨ci,pi,h1,h2,h3⟩ := each i hi
              exact ⟨(ci,pi),fun _ => ⟨h1,h2,h3⟩⟩
            · exact ⟨([],[]),fun h => absurd h hi⟩
          let q := fun i => Classical.choose (each' i)
          have hq : ∀ i,i < len → w.cells? 0 (a.add (i * P.cellsOf e)) (P.cellsOf e) = some (q i).1 ∧ Shape P m e (q i).2 ∧ Cells w (q i).2 (q i).1 := fun i => Classical.choose_spec (each' i)
          refine ⟨[.im (P.cellsOf e) ((List.range len).map fun i => (q i).2)],by
            rw [hsh]
            refine ⟨_,rfl,by simp; omega,fun r hr => ?_⟩
            obtain ⟨i,hi,rfl⟩ := List.mem_map.1 hr
            exact (hq i (by simpa using hi)).2.1,Cells.one ?_ rfl⟩
          have hsize : ∀ i,i < len → (q i).2.length = P.cellsOf e := by
            intro i hi
            obtain ⟨h1,_,h3⟩ := hq i hi
            rw [h3.1,(World.cells?_some h1).2.1]
          have hrow : ∀ i r,((List.range len).map fun i => (q i).2)[i]? = some r → i < len ∧ r = (q i).2 := by
            intro i r hr
            rw [List.getElem?_map] at hr
            obtain ⟨k,hk,rfl⟩ := Option.map_eq_some_iff.1 hr
            have hlt := (List.getElem?_eq_some_iff.1 hk).1
            simp at hlt
            rw [List.getElem?_range hlt] at hk
            cases hk
            exact ⟨hlt,rfl⟩
          refine .im _ a len cap (P.cellsOf e) (fun i j => (q i).1.getD j undef) (by simp) (fun r hr => ?_) (by simpa using hl) (fun i r j pv hr hj => ?_) (fun i r j pv hr hj => ?_)
          · obtain ⟨i,hi,rfl⟩ := List.mem_map.1 hr
            exact hsize i (by simpa using hi)
          · obtain ⟨hi,rfl⟩ := hrow i r hr
            obtain ⟨h1,_,h3⟩ := hq i hi
            obtain ⟨g1,g2,g3⟩ := World.cells?_some h1
            have hj' : j < P.cellsOf e := by rw [← hsize i hi]; exact (List.getElem?_eq_some_iff.1 hj).1
            refine ⟨?_,fun h => h,(h3.2 j pv hj).2⟩
            rw [← Addr.add_add,g3 j hj']
            have hlt : j < (q i).1.length := by rw [g2]; exact hj'
            rw [yBh hlt]
            simp [List.getD_eq_getElem?_getD,hlt]
          · obtain ⟨hi,rfl⟩ := hrow i r hr
            exact ((hq i hi).2.2.2 j pv hj).1
      | struct fs =>
        simp only [Bool.and_eq_true] at hok
        obtain ⟨xs,n,rfl,_,hl,hlen,hf⟩ := DataW.trod_struct hu h
        have := fields_shape (P := P) (w := w) (S := Shape P m) (R := fun f cs => okTy P m f.type = true ∧ ∃ x,DataW.trod enc P w 0 spare held n f.type cs = some x) (fun f cs hR => by
          obtain ⟨h1,x,h2⟩ := hR
          exact trod_shape m f.type n cs x h1 h2) fs.toList 0 (P.cellsOf t) cs hok.1 hl (by omega) (fun f hfm => by
          refine ⟨List.all_eq_true.1 hok.2 f hfm,?_⟩
          obtain ⟨i,hi,rfl⟩ := List.getElem_of_mem hfm
          have hi' : i < fs.size := by simpa using hi
          have h2 := hf i fs[i] (Array.getElem?_eq_getElem hi')
          have hx : i < xs.length := by omega
          rw [yBh hx] at h2
          exact ⟨_,by simpa using h2⟩)
        obtain ⟨pvs,h1,h2⟩ := this
        exact ⟨pvs,by rw [hsh]; exact h1,by simpa using h2⟩
      | array k e =>
        simp only [Bool.and_eq_true,beq_iff_eq] at hok
        obtain ⟨xs,n,rfl,_,hl,hlen,hel⟩ := DataW.trod_array hu h
        have := elems_shape (w := w) (S := Shape P m e) (k := P.cellsOf e) (cs := cs) k 0 (by rw [hl,hok.1,Nat.zero_add]) (fun i _ hi => by
          have h1 := hel i (by omega)
          have hx : i < xs.length := by omega
          rw [yBh hx] at h1
          exact trod_shape m e n _ _ hok.2 h1)
        obtain ⟨pvs,h1,h2⟩ := this
        exact ⟨pvs,by rw [hsh]; exact h1,by simpa using h2⟩
      | _ => simp at hok
end
end Go.Pe
namespace Go.Pe
open Go.RowKit
theorem rows_of {α : Type} (f : α → List PV) : ∀ (rows : List (List PV)),(∀ r ∈ rows,∃ x,r = f x) → ∃ l : List α,rows = l.map f
  | [],_ => ⟨[],rfl⟩
  | r :: rows,h => by
    obtain ⟨x,rfl⟩ := h r List.mem_cons_self
    obtain ⟨l,rfl⟩ := rows_of f rows (fun r hr => h r (List.mem_cons_of_mem _ hr))
    exact ⟨x :: l,rfl⟩
theorem byte_row {r : List PV} (h : ∃ n,r = [PV.lit (.int .u8 n)] ∧ (Lit.int .u8 n).wf = true) : ∃ b,r = rowB b := by
  obtain ⟨n,rfl,hw⟩ := h
  have hx : 0 ≤ n ∧ n ≤ 255 := by simpa [Lit.wf,IntKind.min,IntKind.max,IntKind.signed,IntKind.bits] using hw
  refine ⟨UInt8.ofNat n.toNat,?_⟩
  unfold rowB
  have : (UInt8.ofNat n.toNat).toNat = n.toNat := by simp; omega
  rw [this]
  congr 3
  omega
theorem PureCalls.law {P : Program} {f : FuncId} {args : List PV} {b : Bool} (h : PureCalls P f args (.lit (.bool b))) {w : World} {vs : Array Value} (hl : vs.size = args.length) (hv : ∀ i pv,args[i]? = some pv → IRep (fun _ => False) w pv (vs.getD i undef)) :
    Calls P f vs w fun e w' => e = .returned (.bool b) ∧ Below w.heap.size w w' := by
  refine (h.2 (fun _ => False) w vs (fun _ h => h.elim) hl hv).mono ?_
  rintro e w' ⟨v,rfl,hr,hb⟩
  cases hr
  exact ⟨rfl,hb⟩
theorem arg_slice {w : World} {pvs : List PV} {ad : Option Addr} {n c : Nat} (h : Cells w pvs (Value.slice ad n c).cells.toList) {pv : PV} (hp : pvs = [pv]) : IRep (fun _ => False) w pv (.slice ad n c) := by
  subst hp
  exact (h.2 0 pv rfl).1
theorem arg_int {w : World} {pvs : List PV} {k : IntKind} {n : Int} (h : Cells w pvs (Value.int k n).cells.toList) {pv : PV} (hp : pvs = [pv]) : IRep (fun _ => False) w pv (.int k n) := by
  subst hp
  exact (h.2 0 pv rfl).1
theorem arg_one {w : World} {pvs : List PV} {v : Value} (h : Cells w pvs v.cells.toList) (h1 : v.oneCell' = true) {pv : PV} (hp : pvs = [pv]) : IRep (fun _ => False) w pv v := by
  subst hp
  have hc : v.cells = #[v] := cells_one h1
  rw [hc] at h
  exact (h.2 0 pv rfl).1
theorem arg_agg {w : World} {pvs : List PV} {cs : Array Value} (h : Cells w pvs (Value.agg cs).cells.toList) {qs : List PV} (hp : pvs = qs) : IRep (fun _ => False) w (.agg qs) (.agg cs) := by
  subst hp
  have h' : Cells w pvs cs.toList := h
  refine .agg _ _ (by simpa using h'.1.symm) fun i pv hi => ?_
  have := (h'.2 i pv hi).1
  simpa [Array.getD_eq_getD_getElem?,List.getD_eq_getElem?_getD] using this
theorem okWide_agg {P : Program} {w : World} {r : Reach} {b0 : Nat} {t : TypeId} {v : Value} (ht : (match P.underlying t with | some (.struct _) => true | some (.array _ _) => true | _ => false) = true) (h : Value.okWide P w r b0 t v) : ∃ cs,v = .agg cs := by
  unfold Value.okWide at h
  split at h
  · obtain ⟨cs,h1,_⟩ := h; exact ⟨cs,h1⟩
  · obtain ⟨cs,h1,_⟩ := h; exact ⟨cs,h1⟩
  · rename_i h1 h2
    split at ht
    · rename_i fs hfs; exact absurd hfs (h1 fs)
    · rename_i a b hab; exact absurd hab (h2 a b)
    · cases ht
theorem u16_row {r : List PV} (h : ∃ n,r = [PV.lit (.int .u16 n)] ∧ (Lit.int .u16 n).wf = true) : ∃ b : UInt16,r = [.lit (.int .u16 b.toNat)] := by
  obtain ⟨n,rfl,hw⟩ := h
  have hx : 0 ≤ n ∧ n ≤ 65535 := by simpa [Lit.wf,IntKind.min,IntKind.max,IntKind.signed,IntKind.bits] using hw
  refine ⟨UInt16.ofNat n.toNat,?_⟩
  have : (UInt16.ofNat n.toNat).toNat = n.toNat := by simp; omega
  rw [this]
  congr 3
  omega
theorem u32_row {r : List PV} (h : ∃ n,r = [PV.lit (.int .u32 n)] ∧ (Lit.int .u32 n).wf = true) : ∃ b : UInt32,r = [.lit (.int .u32 b.toNat)] := by
  obtain ⟨n,rfl,hw⟩ := h
  have hx : 0 ≤ n ∧ n ≤ 4294967295 := by simpa [Lit.wf,IntKind.min,IntKind.max,IntKind.signed,IntKind.bits] using hw
  refine ⟨UInt32.ofNat n.toNat,?_⟩
  have : (UInt32.ofNat n.toNat).toNat = n.toNat := by simp; omega
  rw [this]
  congr 3
  omega
end Go.Pe
