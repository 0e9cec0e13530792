import Derived.Test.YtcdmhigmgpflbaaGreatPe20
set_option linter.unusedVariables false
set_option linter.unusedSimpArgs false
namespace Go.Pe
open Go.RowKit
theorem bool_ne1 : (true != true) = false := (rfl)
theorem bool_ne2 : (true != false) = true := (rfl)
theorem bool_ne3 : (false != true) = true := (rfl)
theorem bool_ne4 : (false != false) = false := (rfl)
theorem bool_eq1 : (true == true) = true := (rfl)
theorem bool_eq2 : (true == false) = false := (rfl)
theorem bool_eq3 : (false == true) = false := (rfl)
theorem bool_eq4 : (false == false) = true := (rfl)
attribute [go_sem] bool_ne1 bool_ne2 bool_ne3 bool_ne4 bool_eq1 bool_eq2 bool_eq3 bool_eq4
def rowB (b : UInt8) : List PV := [.lit (.int .u8 b.toNat)]
def rowsB (l : List UInt8) : List (List PV) := l.map rowB
abbrev PI (n : Int) : PV := .lit (.int .i64 n)
abbrev PB (b : Bool) : PV := .lit (.bool b)
abbrev bytesPV (l : List UInt8) : PV := .im 1 (rowsB l)
def rowI (n : Int) : List PV := [PI n]
def rowBo (b : Bool) : List PV := [PB b]
def rowU16 (b : UInt16) : List PV := [.lit (.int .u16 b.toNat)]
def rowU32 (b : UInt32) : List PV := [.lit (.int .u32 b.toNat)]
def rowBs (l : List UInt8) : List PV := [bytesPV l]
abbrev intsPV (l : List Int) : PV := .im 1 (l.map rowI)
abbrev boolsPV (l : List Bool) : PV := .im 1 (l.map rowBo)
abbrev u16sPV (l : List UInt16) : PV := .im 1 (l.map rowU16)
abbrev u32sPV (l : List UInt32) : PV := .im 1 (l.map rowU32)
abbrev bytessPV (l : List (List UInt8)) : PV := .im 1 (l.map rowBs)
theorem rowsB_length (l : List UInt8) : (rowsB l).length = l.length := by simp [rowsB]
theorem rowsB_nil : rowsB [] = [] := rfl
theorem rowsB_append (a b : List UInt8) : rowsB a ++ rowsB b = rowsB (a ++ b) := by simp [rowsB]
theorem rowsB_take (l : List UInt8) (n : Nat) : (rowsB l).take n = rowsB (l.take n) := by simp [rowsB]
theorem rowsB_drop (l : List UInt8) (n : Nat) : (rowsB l).drop n = rowsB (l.drop n) := by simp [rowsB]
theorem byteRows_rowsB (l : List UInt8) : ByteRows (rowsB l) := by
  intro r hr
  simp only [rowsB,List.mem_map] at hr
  obtain ⟨b,_,rfl⟩ := hr
  exact ⟨_,rfl⟩
theorem byteRows_rowsB' (l : List UInt8) : ByteRows (rowsB l) = True := eq_true (byteRows_rowsB l)
theorem bytesOf_rowsB (l : List UInt8) : bytesOf (rowsB l) = ⟨l.toArray⟩ := by
  unfold bytesOf strOfNums rowsB
  congr 2
  rw [List.map_map,List.map_map]
  conv => rhs; rw [← List.map_id l]
  refine List.map_congr_left fun b _ => ?_
  simp [rowB,byteOfRow]
theorem toList_go (bs : ByteArray) : ∀ (n i : Nat) (r : List UInt8),n = bs.size - i → ByteArray.toList.loop bs i r = r.reverse ++ bs.data.toList.drop i
  | 0,i,r,h => by
    unfold ByteArray.toList.loop
    have hs : bs.data.toList.length = bs.size := rfl
    rw [if_neg (by omega),List.drop_eq_nil_of_le (by omega),List.append_nil]
  | n + 1,i,r,h => by
    unfold ByteArray.toList.loop
    have hs : bs.data.toList.length = bs.size := rfl
    have hlt : i < bs.data.size := by
      have : bs.data.size = bs.size := rfl
      omega
    rw [if_pos (by omega),toList_go bs n (i + 1) _ (by omega),List.reverse_cons,List.append_assoc]
    congr 1
    have h2 : i < bs.data.toList.length := by omega
    rw [List.drop_eq_getElem_cons h2]
    have : bs.get! i = bs.data.toList[i] := by
      show bs.data[i]! = _
      rw [getElem!_pos bs.data i hlt,Array.getElem_toList]
    rw [this]
    rfl
theorem toList_mk (l : List UInt8) : (⟨l.toArray⟩ : ByteArray).toList = l := by
  unfold ByteArray.toList
  rw [toList_go _ _ 0 [] rfl]
  simp
theorem beq_list (a b : List UInt8) : (a == b) = decide (a = b) := by
  by_cases h : a = b
  · subst h; simp
  · simp [h]
theorem rowsB_getD {l : List UInt8} {i : Nat} (h : i < l.length) : (rowsB l).getD i [] = rowB (l.getD i 0) := by
  simp [rowsB,List.getD_eq_getElem?_getD,h]
theorem wrapI64 {n : Int} (h : -9223372036854775808 ≤ n ∧ n ≤ 9223372036854775807) : IntKind.wrap .i64 n = n := by
  simp only [IntKind.wrap,IntKind.bits,IntKind.signed,Bool.true_and,decide_eq_true_eq,ge_iff_le]
  split <;> omega
def I64 (n : Int) : Prop := -9223372036854775808 ≤ n ∧ n ≤ 9223372036854775807
attribute [go_sem] Weak refsIn refsInL Blk.refsIn
attribute [go_sem] rowsB_nil byteRows_rowsB' bytesOf_rowsB toList_mk beq_list rowsB_length rowsB_append rowsB_take rowsB_drop
def frzOwn (ver : Nat) : Option Blk → Nat → List (List PV) → Prop
  | some (.arr _ s rows ver' _),s',rows' => ver' = ver ∧ s' = s ∧ rows' = rows
  | _,_,_ => False
theorem FrzRL_nil {H : Heap} : FrzRL H [] [] = True := by simp [FrzRL]
theorem FrzRL_cons {H : Heap} {x y : PV} {l m : List PV} : FrzRL H (x :: l) (y :: m) = (FrzR H x y ∧ FrzRL H l m) := by
  simp only [FrzRL]
  apply propext
  constructor
  · rintro ⟨y',m',h,h1,h2⟩
    cases h
    exact ⟨h1,h2⟩
  · rintro ⟨h1,h2⟩
    exact ⟨y,m,rfl,h1,h2⟩
theorem FrzR_lit {H : Heap} {v u : Value} : FrzR H (.lit v) (.lit u) = (u = v) := by simp [FrzR]
theorem FrzR_nilS {H : Heap} {s : Nat} {rows : List (List PV)} : FrzR H (.lit (.slice none 0 0)) (.im s rows) = (rows = []) := by simp [FrzR,isNil]
theorem FrzR_im {H : Heap} {s s' : Nat} {rows rows' : List (List PV)} : FrzR H (.im s rows) (.im s' rows') = (s' = s ∧ rows' = rows) := by simp [FrzR]
theorem FrzR_own {H : Heap} {b ver s : Nat} {rows : List (List PV)} : FrzR H (.own b ver) (.im s rows) = frzOwn ver (H b) s rows := by
  simp only [FrzR]
  generalize H b = q
  apply propext
  constructor
  · rintro ⟨T,s,rows,f,rfl,h⟩
    cases h
    exact ⟨rfl,rfl,rfl⟩
  · intro h
    unfold frzOwn at h
    split at h
    · obtain ⟨rfl,rfl,rfl⟩ := h
      exact ⟨_,_,_,_,rfl,rfl⟩
    · exact h.elim
theorem FrzR_agg {H : Heap} {l m : List PV} : FrzR H (.agg l) (.agg m) = FrzRL H l m := by simp [FrzR]
theorem FrzR_tup {H : Heap} {l m : List PV} : FrzR H (.tup l) (.tup m) = FrzRL H l m := by simp [FrzR]
theorem CallA.same {P : Program} {f : FuncId} {args : List PV} {r : PV} {hp : List (Nat × Blk)} {nx : Nat} {K KP : CK} (h : PureCalls P f args r) (hf : FrzRL (hpF hp) args args)
    (hK : K r (if noSl r then hp else addL (frzDL (hpF hp) args) hp) nx) : CallA P f args hp nx K KP := CallA.pure h hf hK
theorem callD_same {P : Program} {H : Heap} {alt : Prop} {k : PV → List (Nat × Blk) → List Nat → Prop} {g : FuncId} {args : List PV} {pv : PV} (h : PureCalls P g args pv) (hf : FrzRL H args args) (hk : k pv (if noSl pv then [] else frzDL H args) (deepL args)) : callD P H alt k (some (g,args)) := callD_pure h hf hk
attribute [go_sem] FrzRL_nil FrzRL_cons FrzR_lit FrzR_nilS FrzR_im FrzR_own FrzR_agg FrzR_tup frzOwn frzDL frzD frzOne
end Go.Pe
