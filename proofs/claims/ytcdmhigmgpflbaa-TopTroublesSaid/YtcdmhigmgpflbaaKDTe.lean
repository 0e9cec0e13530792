import Derived.Test.YtcdmhigmgpflbaaKDT9
import Derived.Shelf.Spec.SlicesInsert
import Derived.Lib.AppendZerosOnto
import Derived.WalkKit
namespace Go.Proofs.Ytcdmhigmgpflbaa.Pe
open Go.Pe Go.RowKit
open Nat renaming reduceAdd → zA,reduceSub → zB,reduceMul → zC,reduceLT → zD,reduceLeDiff → zE,reduceEqDiff → zF,reduceBEq → zG
open Int renaming reduceToNat → zH,reduceLT → zI,reduceLE → zJ,reduceEq → zK,reduceNe → zL,reduceAdd → zM,reduceSub → zN,reduceMul → zO,reduceNeg → zP
set_option maxRecDepth 20000
set_option maxHeartbeats 4000000
set_option linter.unusedSimpArgs false
set_option linter.unusedVariables false

/-! ### sorted -/
theorem okFrom_lt : ∀ {r : List Trb} {p : Int},okFrom (some p) r = true → ∀ u ∈ r,p < u.id
  | [],_,_,u,hu => by simp at hu
  | t :: r,p,h,u,hu => by
    simp only [okFrom,ordR,Bool.and_eq_true,Bool.not_eq_true',decide_eq_false_iff_not] at h
    rcases List.mem_cons.1 hu with rfl | hu
    · omega
    · have := okFrom_lt h.2 u hu
      omega
theorem okFrom_sorted : ∀ {l : List Trb} {p : Option Int},okFrom p l = true → ∀ (j k : Nat) (t u : Trb),j < k → l[j]? = some t → l[k]? = some u → t.id < u.id
  | [],_,_,j,k,t,u,_,h1,_ => by simp at h1
  | x :: l,p,h,j,k,t,u,hjk,h1,h2 => by
    simp only [okFrom,Bool.and_eq_true] at h
    cases k with
    | zero => omega
    | succ k =>
      cases j with
      | zero =>
        cases h1
        exact okFrom_lt h.2 u (List.mem_of_getElem? h2)
      | succ j => exact okFrom_sorted h.2 j k t u (by omega) h1 h2
theorem rightL_from {l : List Trb} (h : rightL l = true) : okFrom none l = true := by
  simp only [rightL,Bool.and_eq_true] at h
  exact h.2
theorem atV_up {l : List Trb} (h : rightL l = true) {id : Int} {j : Nat} {t : Trb} (hj : atV l id ≤ j) (ht : l[j]? = some t) : ¬ t.id < id := by
  have hl := atV_le l id
  have hjl := (List.getElem?_eq_some_iff.1 ht).1
  have ha : l[atV l id]? = some l[atV l id] := List.getElem?_eq_getElem (by omega)
  have h1 := atV_ge l id _ ha
  by_cases e : j = atV l id
  · subst e; rw [ha] at ht; cases ht; exact h1
  · have := okFrom_sorted (rightL_from h) (atV l id) j _ t (by omega) ha ht
    omega
/-! ### the search -/
def cmpV (a b : Int) : Int := if a < b then -1 else if a > b then 1 else 0
theorem isNaN_calls (a : Int) : PureCalls Try.prog 138 [PI a] (PB false) := by
  refine PureCalls.of tabOK mixed Try.func138 rfl rfl (by decide +kernel) (by simp [Try.ntmps138]) ?_
  have g : decide (a = a) = true := by simp
  simp only [go_sem,zA,zB,zC,zD,zE,zF,zG,zH,zI,zJ,zK,zL,zM,zN,zO,zP,↓reduceIte,reduceCtorEq,Try.ntmps138,Try.results138,g]
theorem cmp_calls (a b : Int) : PureCalls Try.prog 113 [PI a,PI b] (PI (cmpV a b)) := by
  refine PureCalls.of tabOK mixed Try.func113 rfl rfl (by decide +kernel) (by simp [Try.ntmps113]) ?_
  simp only [go_sem,zA,zB,zC,zD,zE,zF,zG,zH,zI,zJ,zK,zL,zM,zN,zO,zP,↓reduceIte,reduceCtorEq,Try.ntmps113,Try.results113]
  (refine CallA.pure (isNaN_calls a) (by simp only [go_sem,zA,zB,zC,zD,zE,zF,zG,zH,zI,zJ,zK,zL,zM,zN,zO,zP,↓reduceIte,reduceCtorEq] <;> first | rfl | decide) ?_; simp only [go_sem,zA,zB,zC,zD,zE,zF,zG,zH,zI,zJ,zK,zL,zM,zN,zO,zP,↓reduceIte,reduceCtorEq])
  (refine CallA.pure (isNaN_calls b) (by simp only [go_sem,zA,zB,zC,zD,zE,zF,zG,zH,zI,zJ,zK,zL,zM,zN,zO,zP,↓reduceIte,reduceCtorEq] <;> first | rfl | decide) ?_; simp only [go_sem,zA,zB,zC,zD,zE,zF,zG,zH,zI,zJ,zK,zL,zM,zN,zO,zP,↓reduceIte,reduceCtorEq])
  by_cases h1 : a < b
  · have g1 : decide (a < b) = true := decide_eq_true h1
    simp only [go_sem,zA,zB,zC,zD,zE,zF,zG,zH,zI,zJ,zK,zL,zM,zN,zO,zP,↓reduceIte,reduceCtorEq,g1,Try.ntmps113,Try.results113]
    simp [cmpV,h1]
  · have g1 : decide (a < b) = false := decide_eq_false h1
    by_cases h2 : a > b
    · have g2 : decide (a > b) = true := decide_eq_true h2
      simp only [go_sem,zA,zB,zC,zD,zE,zF,zG,zH,zI,zJ,zK,zL,zM,zN,zO,zP,↓reduceIte,reduceCtorEq,g1,g2,Try.ntmps113,Try.results113]
      simp [cmpV,h1,h2]
    · have g2 : decide (a > b) = false := decide_eq_false h2
      simp only [go_sem,zA,zB,zC,zD,zE,zF,zG,zH,zI,zJ,zK,zL,zM,zN,zO,zP,↓reduceIte,reduceCtorEq,g1,g2,Try.ntmps113,Try.results113]
      simp [cmpV,h1,h2]
theorem repCmp_calls (t : Trb) (id : Int) : PureCalls Try.prog 112 [t.pv,PI id] (PI (cmpV t.id id)) := by
  refine PureCalls.of tabOK mixed Try.func112 rfl rfl (by decide +kernel) (by simp [Try.ntmps112]) ?_
  simp only [go_sem,zA,zB,zC,zD,zE,zF,zG,zH,zI,zJ,zK,zL,zM,zN,zO,zP,↓reduceIte,reduceCtorEq,Try.ntmps112,Try.results112,Trb.pv,Trb.cells]
  (refine CallA.pure (cmp_calls t.id id) (by simp only [go_sem,zA,zB,zC,zD,zE,zF,zG,zH,zI,zJ,zK,zL,zM,zN,zO,zP,↓reduceIte,reduceCtorEq,Try.ntmps112,Try.results112] <;> first | rfl | decide) ?_; simp only [go_sem,zA,zB,zC,zD,zE,zF,zG,zH,zI,zJ,zK,zL,zM,zN,zO,zP,↓reduceIte,reduceCtorEq,Try.ntmps112,Try.results112])
abbrev cmpF : PV := .lit (.func (.func 112) #[] #[])
def bsSt (l : List Trb) (id : Int) (i j : Nat) : St := ⟨49,[(0,trbsPV l),(1,PI id),(2,cmpF),(8,PI l.length),(9,PI i),(10,PI j)],[],20,0⟩
def bsI (l : List Trb) (id : Int) (m : Nat) (st : St) : Prop := ∃ i j : Nat,i ≤ atV l id ∧ atV l id ≤ j ∧ j ≤ l.length ∧ m = j - i ∧ st = bsSt l id i j
theorem bs_calls (l : List Trb) (id : Int) (hr : rightL l = true) : PureCalls Try.prog 111 [trbsPV l,PI id,cmpF] (.tup [PI (atV l id),PB (isV l id)]) := by
  refine PureCalls.of tabOK mixed Try.func111 rfl rfl (by decide +kernel) (by simp [Try.ntmps111]) ?_
  have la := trbRows_len l
  have hll := rightL_len hr
  have hle := atV_le l id
  simp only [go_sem,zA,zB,zC,zD,zE,zF,zG,zH,zI,zJ,zK,zL,zM,zN,zO,zP,↓reduceIte,reduceCtorEq,Try.ntmps111,Try.results111,la]
  refine wpA_loop (bsI l id) ⟨_,_,?_,0,l.length,Nat.zero_le _,hle,Nat.le_refl _,rfl,rfl⟩ ?_
  · simp only [go_sem,zA,zB,zC,zD,zE,zF,zG,zH,zI,zJ,zK,zL,zM,zN,zO,zP,↓reduceIte,reduceCtorEq,bsSt,Int.natCast_zero,la]
  rintro m st ⟨i,j,h1,h2,h3,rfl,rfl⟩
  by_cases hc : i < j
  · have f1 : decide ((i : Int) < (j : Int)) = true := decide_eq_true (by omega)
    obtain ⟨h,hh⟩ : ∃ h,(i + j) / 2 = h := ⟨_,rfl⟩
    have w1 : IntKind.wrap .i64 ((i : Int) + (j : Int)) = ((i + j : Nat) : Int) := by rw [wrapI64 (by omega)]; omega
    have w2 : IntKind.wrap .u64 ((i + j : Nat) : Int) = ((i + j : Nat) : Int) := by
      have e : IntKind.wrap .u64 ((i + j : Nat) : Int) = ((i + j : Nat) : Int) % 18446744073709551616 := by simp [IntKind.wrap,IntKind.bits,IntKind.signed]
      rw [e]; omega
    have w3 : ((i + j : Nat) : Int).fdiv (2 ^ min 1 64) = (h : Int) := by
      show ((i + j : Nat) : Int).fdiv 2 = _
      rw [Int.fdiv_eq_ediv_of_nonneg _ (by decide)]
      omega
    have w4 : IntKind.wrap .i64 (h : Int) = (h : Int) := wrapI64 (by omega)
    have hhl : h < l.length := by omega
    have f2 : (h : Int) < (l.length : Int) := by omega
    have f0 : (0 : Int) ≤ (h : Int) := by omega
    have r1 := trbRows_get hhl
    have hge : l[h]? = some l[h] := List.getElem?_eq_getElem hhl
    have up := fun hj => atV_up hr (id := id) (j := h) (t := l[h]) hj hge
    have dn := fun hj => atV_lt l id h l[h] hj hge
    generalize l[h] = t at r1 up dn
    have hw := wrapIN (i := h) (by omega)
    have c1 := repCmp_calls t id
    simp only [go_sem,zA,zB,zC,zD,zE,zF,zG,zH,zI,zJ,zK,zL,zM,zN,zO,zP,↓reduceIte,reduceCtorEq,bsSt,f1,w1,w2,w3,w4,la,f2,f0,Int.toNat_natCast,r1,Trb.cells]
    (refine CallA.pure (c1) (by simp only [go_sem,zA,zB,zC,zD,zE,zF,zG,zH,zI,zJ,zK,zL,zM,zN,zO,zP,↓reduceIte,reduceCtorEq,Trb.pv,Trb.cells] <;> first | rfl | decide) ?_; simp only [go_sem,zA,zB,zC,zD,zE,zF,zG,zH,zI,zJ,zK,zL,zM,zN,zO,zP,↓reduceIte,reduceCtorEq,Trb.pv,Trb.cells])
    by_cases hlt : t.id < id
    · have g1 : decide (cmpV t.id id < 0) = true := decide_eq_true (by rw [cmpV,if_pos hlt]; decide)
      have hha : h < atV l id := by
        rcases Nat.lt_or_ge h (atV l id) with h' | h'
        · exact h'
        · exact absurd hlt (up h')
      simp only [go_sem,zA,zB,zC,zD,zE,zF,zG,zH,zI,zJ,zK,zL,zM,zN,zO,zP,↓reduceIte,reduceCtorEq,g1,hw]
      refine ⟨j - (h + 1),_,by omega,?_,h + 1,j,by omega,h2,h3,rfl,rfl⟩
      simp only [go_sem,zA,zB,zC,zD,zE,zF,zG,zH,zI,zJ,zK,zL,zM,zN,zO,zP,↓reduceIte,reduceCtorEq,bsSt]
    · have g1 : decide (cmpV t.id id < 0) = false := decide_eq_false (by rw [cmpV,if_neg hlt]; split <;> decide)
      have hha : atV l id ≤ h := by
        rcases Nat.lt_or_ge h (atV l id) with h' | h'
        · exact absurd (dn h') hlt
        · exact h'
      simp only [go_sem,zA,zB,zC,zD,zE,zF,zG,zH,zI,zJ,zK,zL,zM,zN,zO,zP,↓reduceIte,reduceCtorEq,g1]
      refine ⟨h - i,_,by omega,?_,i,h,h1,hha,by omega,rfl,rfl⟩
      simp only [go_sem,zA,zB,zC,zD,zE,zF,zG,zH,zI,zJ,zK,zL,zM,zN,zO,zP,↓reduceIte,reduceCtorEq,bsSt]
  have f1 : decide ((i : Int) < (j : Int)) = false := decide_eq_false (by omega)
  have hia : i = atV l id := by omega
  obtain ⟨a,ha⟩ : ∃ a,atV l id = a := ⟨_,rfl⟩
  have his : isV l id = (match l[a]? with | some t => decide (t.id = id) | none => false) := by subst ha; rfl
  rw [ha] at hia hle ⊢
  subst hia
  by_cases hil : i < l.length
  · have f2 : decide ((i : Int) < (l.length : Int)) = true := decide_eq_true (by omega)
    have f2' : (i : Int) < (l.length : Int) := by omega
    have f0 : (0 : Int) ≤ (i : Int) := by omega
    have r1 := trbRows_get hil
    have hge : l[i]? = some l[i] := List.getElem?_eq_getElem hil
    rw [hge] at his
    generalize l[i] = t at r1 his
    have c1 := repCmp_calls t id
    have g1 : decide (cmpV t.id id = 0) = isV l id := by
      rw [his,Bool.eq_iff_iff]
      simp only [decide_eq_true_eq]
      unfold cmpV
      split
      · omega
      · split <;> omega
    simp only [go_sem,zA,zB,zC,zD,zE,zF,zG,zH,zI,zJ,zK,zL,zM,zN,zO,zP,↓reduceIte,reduceCtorEq,bsSt,f1,f2,f2',f0,la,Int.toNat_natCast,r1,Trb.cells]
    (refine CallA.pure (c1) (by simp only [go_sem,zA,zB,zC,zD,zE,zF,zG,zH,zI,zJ,zK,zL,zM,zN,zO,zP,↓reduceIte,reduceCtorEq,Trb.pv,Trb.cells] <;> first | rfl | decide) ?_; simp only [go_sem,zA,zB,zC,zD,zE,zF,zG,zH,zI,zJ,zK,zL,zM,zN,zO,zP,↓reduceIte,reduceCtorEq,Trb.pv,Trb.cells])
    simp only [go_sem,zA,zB,zC,zD,zE,zF,zG,zH,zI,zJ,zK,zL,zM,zN,zO,zP,↓reduceIte,reduceCtorEq,g1,Try.ntmps111,Try.results111]
  · have f2 : decide ((i : Int) < (l.length : Int)) = false := decide_eq_false (by omega)
    rw [List.getElem?_eq_none (by omega)] at his
    simp only [go_sem,zA,zB,zC,zD,zE,zF,zG,zH,zI,zJ,zK,zL,zM,zN,zO,zP,↓reduceIte,reduceCtorEq,bsSt,f1,f2,his,Try.ntmps111,Try.results111]
end Go.Proofs.Ytcdmhigmgpflbaa.Pe


namespace Go.Proofs.Ytcdmhigmgpflbaa.Pe
open Go.Pe Go.RowKit Go.Lib
set_option linter.unusedSimpArgs false
set_option linter.unusedVariables false

/-- copy,at elements of any size,onto a row. -/
theorem run_copy_size {P : Program} (w : World) (dT sT ty elem : TypeId) (size g o dLen dCap : Nat) (a : Addr) (sLen sCap : Nat) (cur : Array Value) (t : TypeId) (cs : List Value)
    (hu : P.underlying dT = some (.slice elem)) (hs : (P.info? elem).map (·.size) = some size)
    (hg : w.heap[g]? = some (.cells cur t (0,0))) (hn : cs.length = Nat.min sLen dLen * size)
    (hsrc : ∀ j v,cs[j]? = some v → w.cell? (a.add j) = some v) (hfit : o + cs.length ≤ cur.size) (h1 : ∀ v ∈ cs,v.oneCell' = true) :
    (Builtin.copy_ #[dT,sT] ty #[.slice (some ⟨g,o,none⟩) dLen dCap,.slice (some a) sLen sCap]).run P w =
      .ok (goInt (Nat.min sLen dLen)) (w.setRow g (splice cur.toList o cs).toArray) := by
  have hl := run_loadCells_list (P := P) w a cs hsrc
  have hst := run_storeCells_at P g o t cs 0 cur w hg (by simpa using hfit) h1
  cases hq : P.info? elem with
  | none => simp [hq] at hs
  | some i =>
    have hi : i.size = size := by simpa [hq] using hs
    simp [Builtin.copy_,run_underlying hu,Builtin.lenOf,Builtin.firstCells,sizeOf,typeInfo,hq,hi,← hn,hl,hst,splice]

set_option maxHeartbeats 4000000 in
set_option maxRecDepth 100000 in
theorem insert_shift (i n c g g2 c2 : Nat) (cur cur2 : Array Value) (w : World) (hi : i < n) (hroom : n + 1 ≤ c) (hc63 : c ≤ 9223372036854775807) (hg : w.heap[g]? = some (.cells cur 161 (0,0))) (hcs : cur.size = c * 4)
    (hg2 : w.heap[g2]? = some (.cells cur2 161 (0,0))) (hcs2 : 4 ≤ cur2.size) (hne : g2 ≠ g) (h1c : ∀ v ∈ cur.toList.take (n * 4),v.oneCell' = true) (h1v : ∀ v ∈ cur2.toList.take 4,v.oneCell' = true) :
    Calls Try.prog 115 #[.slice (some ⟨g,0,none⟩) n c,.int .i64 i,.slice (some ⟨g2,0,none⟩) 1 c2] w fun e w' =>
      e = .returned (.slice (some ⟨g,0,none⟩) (n + 1) c) ∧ w' = (w.drew.setRow g (splice cur.toList ((i + 1) * 4) ((cur.toList.take (n * 4)).drop (i * 4))).toArray).setRow g (splice (splice cur.toList ((i + 1) * 4) ((cur.toList.take (n * 4)).drop (i * 4))) (i * 4) (cur2.toList.take 4)).toArray := by
  have hz2 : ¬ ((i : Int) = (n : Int)) := by omega
  have hov : ∀ a lb cb,a.block = g → (callFunc 139 #[.slice (some ⟨g2,0,none⟩) 1 c2,.slice (some a) lb cb]).run Try.prog w = .ok (.value (.bool false)) w := fun a lb cb ha => by
    rw [run_callFunc_extern Try.func139 (by kernel_rfl) (by kernel_rfl) (by kernel_rfl) (e := Extern.SlicesOverlaps.overlaps #[23,23] #[4]) (by kernel_rfl),
      Lib.run_overlaps_apart w 23 4 161 Try.underlying23 4 (fun w => ok161.run_sizeOf w) ⟨g2,0,none⟩ a 1 c2 lb cb (by rw [ha]; exact hne) _ _ _ _ (by unfold World.shape?; rw [hg2]) (by rw [ha]; unfold World.shape?; rw [hg]) (by rw [hcs]; omega) (by simp [World.frozen?,hg2]) (by simp [World.frozen?,hg2])]
    rfl
  have hcl : cur.toList.length = c * 4 := by simpa using hcs
  have hm1 : (n + 1) * 4 ≤ c * 4 := Nat.mul_le_mul_right 4 hroom
  have hml : ((cur.toList.take (n * 4)).drop (i * 4)).length = (n - i) * 4 := by rw [List.length_drop,List.length_take,hcl]; omega
  have hcp1 : ∀ ty dc sc,(Builtin.copy_ #[23,23] ty #[.slice (some ⟨g,(i + 1) * 4,none⟩) (n - i) dc,.slice (some ⟨g,i * 4,none⟩) (n + 1 - i) sc]).run Try.prog w.drew = .ok (goInt (Nat.min (n + 1 - i) (n - i))) (w.drew.setRow g (splice cur.toList ((i + 1) * 4) ((cur.toList.take (n * 4)).drop (i * 4))).toArray) := fun ty dc sc =>
    run_copy_size w.drew _ _ ty 161 4 g ((i + 1) * 4) _ dc ⟨g,i * 4,none⟩ _ sc cur 161 _ Try.underlying23 (by kernel_rfl) hg (by rw [hml]; congr 1; simp only [Nat.min_def]; split <;> omega)
      (fun j v hj => by
        rw [List.getElem?_drop,List.getElem?_take] at hj
        split at hj
        · rw [Addr.add_lit]
          simp only [World.cell?,heap_drew,hg]
          simpa using hj
        · cases hj) (by rw [hml,hcs]; omega) (fun v hv => h1c v (List.mem_of_mem_drop hv))
  have hsl : (splice cur.toList ((i + 1) * 4) ((cur.toList.take (n * 4)).drop (i * 4))).length = c * 4 := by rw [splice_length (by rw [hml,hcl]; omega),hcl]
  have hml2 : (cur2.toList.take 4).length = 4 := by simp; omega
  obtain ⟨W1,hW1⟩ : ∃ W1,W1 = w.drew.setRow g (splice cur.toList ((i + 1) * 4) ((cur.toList.take (n * 4)).drop (i * 4))).toArray := ⟨_,rfl⟩
  have hg3 : W1.heap[g]? = some (.cells (splice cur.toList ((i + 1) * 4) ((cur.toList.take (n * 4)).drop (i * 4))).toArray 161 (0,0)) := by rw [hW1]; exact setRow_heap w.drew g cur _ _ _ hg
  have hg4 : W1.heap[g2]? = some (.cells cur2 161 (0,0)) := by rw [hW1,setRow_other w.drew g g2 _ hne]; exact hg2
  have hcp2 : ∀ ty dc,(Builtin.copy_ #[23,23] ty #[.slice (some ⟨g,i * 4,none⟩) (n + 1 - i) dc,.slice (some ⟨g2,0,none⟩) 1 c2]).run Try.prog W1 = .ok (goInt (Nat.min 1 (n + 1 - i))) (W1.setRow g (splice (splice cur.toList ((i + 1) * 4) ((cur.toList.take (n * 4)).drop (i * 4))) (i * 4) (cur2.toList.take 4)).toArray) := fun ty dc => by
    have := run_copy_size (P := Try.prog) W1 23 23 ty 161 4 g (i * 4) (n + 1 - i) dc ⟨g2,0,none⟩ 1 c2 _ 161 (cur2.toList.take 4) Try.underlying23 (by kernel_rfl) hg3 (by rw [hml2]; simp only [Nat.min_def]; split <;> omega)
      (fun j v hj => by
        rw [List.getElem?_take] at hj
        split at hj
        · rw [Addr.add_lit]
          simp only [World.cell?,hg4]
          simpa using hj
        · cases hj) (by rw [hml2,List.size_toArray,hsl]; omega) h1v
    simpa using this
  rw [← hW1] at hcp1 ⊢
  generalize (splice (splice cur.toList ((i + 1) * 4) ((cur.toList.take (n * 4)).drop (i * 4))) (i * 4) (cur2.toList.take 4)).toArray = R2 at hcp2 ⊢
  clear hW1 hg3 hg4 hml2 hsl hml hm1 hcl hg hg2 hcs hcs2 h1c h1v
  have hin : i ≤ n := by omega
  have hw1 : IntKind.i64.wrap ((i : Int) + (1 : Int)) = (i : Int) + (1 : Int) := by rw [IntKind.wrap_i64]; omega
  have hw2 : IntKind.i64.wrap ((n : Int) + (1 : Int)) = (n : Int) + (1 : Int) := by rw [IntKind.wrap_i64]; omega
  have hroom' : ¬ ((c : Int) < (n : Int) + 1) := by omega
  have hb1 : (0 : Int) ≤ (i : Int) + 1 := by omega
  have htn : ((i : Int) + 1).toNat = i + 1 := by omega
  have htn2 : ((n : Int) + 1).toNat = n + 1 := by omega
  have hb2 : ¬ (c = i + 1) := by omega
  have hb3 : (i : Int) ≤ (n : Int) + 1 := by omega
  have hb4 : ¬ (c = i) := by omega
  have hb5 : (n : Int) + 1 ≤ (c : Int) := by omega
  have hb6 : (0 : Int) ≤ (n : Int) + 1 := by omega
  have hb7 : (i : Int) + 1 ≤ (n : Int) + 1 := by omega
  have mixed0 := mixed
  go_enter Try.func115,Try.ntmps115
  go_wp2_with (simp only [hov])
  go_region_law_o (refine step_copy_runI rfl _ _ 23 23 rfl _ _ (by simp [Act.eval,Act.put]) (by simp [Act.eval,Act.put]) (hcp1 _ _ _) ?_)
  go_wp2_with (at_builtin; refine wpList_copy_runI _ rfl _ _ 23 23 rfl _ _ rfl rfl (hcp2 _ _) ?_)
  go_ret
  exact ⟨rfl,rfl⟩
end Go.Proofs.Ytcdmhigmgpflbaa.Pe


namespace Go.Proofs.Ytcdmhigmgpflbaa.Pe
open Go.Pe Go.RowKit Go.Lib
set_option linter.unusedSimpArgs false
set_option linter.unusedVariables false

set_option maxHeartbeats 4000000 in
set_option maxRecDepth 100000 in
theorem insert_grow (i n c g g2 c2 : Nat) (cur cur2 : Array Value) (w : World) (z : Value) (hz : ∃ i0,Try.prog.info? 161 = some i0 ∧ i0.zero = some z ∧ i0.size = 4 ∧ i0.bytes = 32) (hzs : z.cells.size = 4) (hi : i < n) (hn1000 : n ≤ 1000) (hnc : n ≤ c) (hroom : c < n + 1) (hg : w.heap[g]? = some (.cells cur 161 (0,0))) (hcs : cur.size = c * 4)
    (hg2 : w.heap[g2]? = some (.cells cur2 161 (0,0))) (hcs2 : 4 ≤ cur2.size) (h1c : ∀ v ∈ cur.toList.take (n * 4),v.oneCell' = true) (h1v : ∀ v ∈ cur2.toList.take 4,v.oneCell' = true) :
    Calls Try.prog 115 #[.slice (some ⟨g,0,none⟩) n c,.int .i64 i,.slice (some ⟨g2,0,none⟩) 1 c2] w fun e w' =>
      e = .returned (.slice (some ⟨w.heap.size,0,none⟩) (n + 1) (grownCap w (n + 1) c 161)) ∧
      ∃ ROW : Array Value,ROW.size = grownCap w (n + 1) c 161 * 4 ∧ ROW.toList.take (i * 4) = cur.toList.take (i * 4) ∧
        w' = (((w.drew.alloc (.cells ROW 161)).setRow w.heap.size (splice ROW.toList (i * 4) (cur2.toList.take 4)).toArray).drew).setRow w.heap.size (splice (splice ROW.toList (i * 4) (cur2.toList.take 4)) ((i + 1) * 4) ((cur.toList.take (n * 4)).drop (i * 4))).toArray := by
  obtain ⟨i0,hi0,hz0,hs0,hb0⟩ := hz
  have hcl : cur.toList.length = c * 4 := by simpa using hcs
  have hml : ((cur.toList.take (n * 4)).drop (i * 4)).length = (n - i) * 4 := by rw [List.length_drop,List.length_take,hcl]; omega
  have hml2 : (cur2.toList.take 4).length = 4 := by simp; omega
  have hti : (cur.toList.take (i * 4)).length = i * 4 := by rw [List.length_take,hcl]; omega
  have hik : i + (n + 1 - i) = n + 1 := by omega
  have hold : (Builtin.firstCells i0.size i (.slice (some ⟨g,0,none⟩) i c)).run Try.prog w.drew = .ok (cur.toList.take (i * 4)).toArray w.drew := by
    rw [hs0]
    exact run_firstCells_some w.drew 4 i ⟨g,0,none⟩ i c (cur.toList.take (i * 4)) hti (fun j v hj => by
      rw [List.getElem?_take] at hj
      split at hj
      · rw [Addr.add_lit]
        simp only [World.cell?,heap_drew,hg]
        simpa using hj
      · cases hj)
  obtain ⟨G,hG⟩ : ∃ G,G = grownCap w (n + 1) c 161 := ⟨_,rfl⟩
  have hGn : n + 1 ≤ G := by rw [hG]; exact grownCap_ge w _ _ _
  obtain ⟨ROW,hROW⟩ : ∃ ROW : Array Value,ROW = (cur.toList.take (i * 4)).toArray ++ Builtin.zeroCells z.cells (n + 1 - i) ++ Builtin.zeroCells z.cells (G - (n + 1)) := ⟨_,rfl⟩
  have hrs : ROW.size = G * 4 := by
    rw [hROW]
    simp only [Array.size_append,List.size_toArray,hti,size_zeroCells,hzs]
    omega
  have hrt : ROW.toList.take (i * 4) = cur.toList.take (i * 4) := by
    rw [hROW]
    simp only [Array.toList_append,List.append_assoc]
    rw [List.take_append_of_le_length (by rw [hti]; exact Nat.le_refl _),List.take_of_length_le (by rw [hti]; exact Nat.le_refl _)]
  have hrz0 := fun ty => Lib.run_append_grow_zeros (P := Try.prog) w 23 3 ty 161 i0 z .i64 .i64 Try.underlying23 Try.underlying3 hi0 hz0 (some ⟨g,0,none⟩) i c (cur.toList.take (i * 4)) hold (n + 1 - i) (by omega) (by omega) (by omega) (by omega) (by rw [hb0]; omega) (by rw [hb0,hik]; exact growslice_fits hroom (by omega))
  rw [hik,← hG,← hROW] at hrz0
  rw [← hG]
  have hkk : (n : Int) + 1 - (i : Int) = ((n + 1 - i : Nat) : Int) := by omega
  rw [← hkk] at hrz0
  have hN : w.heap.size ≠ g := by
    have := (Array.getElem?_eq_some_iff.1 hg).1
    omega
  have hN2 : w.heap.size ≠ g2 := by
    have := (Array.getElem?_eq_some_iff.1 hg2).1
    omega
  obtain ⟨N,hNN⟩ : ∃ N,N = w.heap.size := ⟨_,rfl⟩
  rw [← hNN] at hrz0 hN hN2 ⊢
  obtain ⟨W1,hW1⟩ : ∃ W1,W1 = w.drew.alloc (.cells ROW 161) := ⟨_,rfl⟩
  have hold1 : ∀ k,k ≠ N → k < N → W1.heap[k]? = w.heap[k]? := fun k hk hlt => by rw [hW1,Go.heap_alloc_old w.drew _ (by rw [heap_drew,← hNN]; exact hlt)]; rfl
  have hgl : g < N := by rw [hNN]; exact (Array.getElem?_eq_some_iff.1 hg).1
  have hgl2 : g2 < N := by rw [hNN]; exact (Array.getElem?_eq_some_iff.1 hg2).1
  have hN1 : W1.heap[N]? = some (.cells ROW 161 (0,0)) := by rw [hW1,hNN]; exact Go.heap_alloc_new w.drew _
  have ha1 : W1.heap[g]? = some (.cells cur 161 (0,0)) := by rw [hold1 g (Ne.symm hN) hgl]; exact hg
  have ha2 : W1.heap[g2]? = some (.cells cur2 161 (0,0)) := by rw [hold1 g2 (Ne.symm hN2) hgl2]; exact hg2
  obtain ⟨W2,hW2⟩ : ∃ W2,W2 = W1.setRow N (splice ROW.toList (i * 4) (cur2.toList.take 4)).toArray := ⟨_,rfl⟩
  have hb1 : W2.heap[g]? = some (.cells cur 161 (0,0)) := by rw [hW2,setRow_other W1 N g _ (Ne.symm hN)]; exact ha1
  have hbN : W2.heap[N]? = some (.cells (splice ROW.toList (i * 4) (cur2.toList.take 4)).toArray 161 (0,0)) := by rw [hW2]; exact setRow_heap W1 N ROW _ _ _ hN1
  have hrl : ROW.toList.length = G * 4 := by simpa using hrs
  have hfit1 : i * 4 + (cur2.toList.take 4).length ≤ ROW.toList.length := by rw [hml2,hrl]; omega
  have hsl : (splice ROW.toList (i * 4) (cur2.toList.take 4)).length = G * 4 := by rw [splice_length hfit1,hrl]
  have hcpA : ∀ ty dc,(Builtin.copy_ #[23,23] ty #[.slice (some ⟨N,i * 4,none⟩) (n + 1 - i) dc,.slice (some ⟨g2,0,none⟩) 1 c2]).run Try.prog W1 = .ok (goInt (Nat.min 1 (n + 1 - i))) W2 := fun ty dc => by
    have := run_copy_size (P := Try.prog) W1 23 23 ty 161 4 N (i * 4) (n + 1 - i) dc ⟨g2,0,none⟩ 1 c2 _ 161 (cur2.toList.take 4) Try.underlying23 (by kernel_rfl) hN1 (by rw [hml2]; simp only [Nat.min_def]; split <;> omega)
      (fun j v hj => by
        rw [List.getElem?_take] at hj
        split at hj
        · rw [Addr.add_lit]
          simp only [World.cell?,ha2]
          simpa using hj
        · cases hj) (by rw [hml2,hrs]; omega) h1v
    rw [hW2]
    exact this
  obtain ⟨W3,hW3⟩ : ∃ W3,W3 = W2.drew.setRow N (splice (splice ROW.toList (i * 4) (cur2.toList.take 4)) ((i + 1) * 4) ((cur.toList.take (n * 4)).drop (i * 4))).toArray := ⟨_,rfl⟩
  have hcpB : ∀ ty dc sc,(Builtin.copy_ #[23,23] ty #[.slice (some ⟨N,(i + 1) * 4,none⟩) (n - i) dc,.slice (some ⟨g,i * 4,none⟩) (n - i) sc]).run Try.prog W2.drew = .ok (goInt (Nat.min (n - i) (n - i))) W3 := fun ty dc sc => by
    have := run_copy_size (P := Try.prog) W2.drew 23 23 ty 161 4 N ((i + 1) * 4) (n - i) dc ⟨g,i * 4,none⟩ (n - i) sc _ 161 ((cur.toList.take (n * 4)).drop (i * 4)) Try.underlying23 (by kernel_rfl) hbN (by rw [hml]; congr 1; simp only [Nat.min_def]; split <;> omega)
      (fun j v hj => by
        rw [List.getElem?_drop,List.getElem?_take] at hj
        split at hj
        · rw [Addr.add_lit]
          simp only [World.cell?,heap_drew,hb1]
          simpa using hj
        · cases hj) (by rw [hml,List.size_toArray,hsl]; omega) (fun v hv => h1c v (List.mem_of_mem_drop hv))
    rw [hW3]
    simpa using this
  rw [← hW1] at hrz0
  refine Calls.mono (R := fun e w' => e = .returned (.slice (some ⟨N,0,none⟩) (n + 1) G) ∧ w' = W3) ?_ (fun e w' h => ⟨h.1,ROW,hrs,hrt,by rw [h.2,hW3,hW2,hW1]⟩)
  have hin : i ≤ n := by omega
  have hw1 : IntKind.i64.wrap ((i : Int) + (1 : Int)) = (i : Int) + (1 : Int) := by rw [IntKind.wrap_i64]; omega
  have hw2 : IntKind.i64.wrap ((n : Int) + (1 : Int)) = (n : Int) + (1 : Int) := by rw [IntKind.wrap_i64]; omega
  have hw3 : IntKind.i64.wrap ((n : Int) + 1 - (i : Int)) = (n : Int) + 1 - (i : Int) := by rw [IntKind.wrap_i64]; omega
  have hz3 : (c : Int) < (n : Int) + 1 := by omega
  have hz2 : ¬ ((i : Int) = (n : Int)) := by omega
  have hb1' : (0 : Int) ≤ (i : Int) + 1 := by omega
  have htn : ((i : Int) + 1).toNat = i + 1 := by omega
  have hci : ¬ (c = i) := by omega
  have hGi : ¬ (G = i) := by omega
  have hGi1 : ¬ (G = i + 1) := by omega
  have hb3 : (i : Int) ≤ (n : Int) + 1 := by omega
  have hb4 : (i : Int) ≤ (c : Int) := by omega
  have hb7 : (i : Int) + 1 ≤ (n : Int) + 1 := by omega
  have hG63 : G ≤ 9223372036854775807 := by
    have := grownCap_le_maxLen w (n + 1) c 161 (by unfold maxLen; omega)
    rw [← hG] at this
    unfold maxLen at this
    omega
  have hc63 : c ≤ 9223372036854775807 := by omega
  have mixed0 := mixed
  clear hW1 hW2 hW3 hNN hold1 hN1 ha1 ha2 hb1 hbN hrl hfit1 hsl hkk hROW hrt hrs hG hold hik hti hml2 hml hcl hi0 hz0 hs0 hb0 hg hg2 hcs hcs2 h1c h1v hzs
  go_enter Try.func115,Try.ntmps115
  go_wp2_with (first
    | (at_builtin; refine Lib.wpList_append_run _ rfl _ _ _ _ rfl _ _ rfl rfl _ _ (hrz0 _) ?_)
    | (at_builtin; refine wpList_copy_runI _ rfl _ _ 23 23 rfl _ _ rfl rfl (hcpA _ _) ?_))
  go_region_law_o (refine step_copy_runI rfl _ _ 23 23 rfl _ _ (by simp [Act.eval,Act.put]) (by simp [Act.eval,Act.put]) (hcpB _ _ _) ?_)
  go_wp2
  go_ret
  exact ⟨rfl,rfl⟩
end Go.Proofs.Ytcdmhigmgpflbaa.Pe


namespace Go.Proofs.Ytcdmhigmgpflbaa.Pe
open Go.Pe Go.RowKit
set_option maxRecDepth 20000
set_option maxHeartbeats 1000000
set_option linter.unusedSimpArgs false
set_option linter.unusedVariables false

theorem splice_in {α : Type} (cur ys mid : List α) (o m : Nat) (hc : o + 4 + m ≤ cur.length) (hy : ys.length = 4) (hm : mid.length = m) : (splice (splice cur (o + 4) mid) o ys).take (o + 4 + m) = cur.take o ++ ys ++ mid := by
  have e1 : (splice cur (o + 4) mid).take o = cur.take o := by
    unfold splice
    rw [List.append_assoc,List.take_append_of_le_length (by rw [List.length_take]; omega),List.take_take,Nat.min_eq_left (by omega)]
  have e2 : (splice cur (o + 4) mid).drop (o + ys.length) = mid ++ cur.drop (o + 4 + mid.length) := by
    unfold splice
    rw [List.append_assoc,List.drop_append_of_le_length (by rw [List.length_take,hy]; omega),List.drop_of_length_le (by rw [List.length_take,hy]; omega),List.nil_append]
  have e3 : splice (splice cur (o + 4) mid) o ys = (splice cur (o + 4) mid).take o ++ ys ++ (splice cur (o + 4) mid).drop (o + ys.length) := rfl
  rw [e3,e1,e2,← List.append_assoc,List.take_append_of_le_length (by simp [hy,hm]; omega),List.take_of_length_le (by simp [hy,hm]; omega)]
theorem splice_out {α : Type} (row ys mid : List α) (o m : Nat) (hc : o + 4 + m ≤ row.length) (hy : ys.length = 4) (hm : mid.length = m) : (splice (splice row o ys) (o + 4) mid).take (o + 4 + m) = row.take o ++ ys ++ mid := by
  have e1 : (splice row o ys).take (o + 4) = row.take o ++ ys := by
    unfold splice
    rw [List.take_append_of_le_length (by simp [hy]; omega),List.take_of_length_le (by simp [hy]; omega)]
  have e3 : splice (splice row o ys) (o + 4) mid = (splice row o ys).take (o + 4) ++ mid ++ (splice row o ys).drop (o + 4 + mid.length) := rfl
  rw [e3,e1,List.take_append_of_le_length (by simp [hy,hm]; omega),List.take_of_length_le (by simp [hy,hm]; omega)]
/-- An element's cells among the others'. -/
theorem insert_cells {N : Nat → Prop} {w : World} {rows : List (List PV)} {x : List PV} {xs ys : List Value} {i : Nat} (hi : i ≤ rows.length) (hx : xs.length = rows.length * 4) (hy : ys.length = 4) (h3 : ∀ r ∈ rows,r.length = 4) (h3x : x.length = 4)
    (h4 : ∀ i r j pv,rows[i]? = some r → r[j]? = some pv → IRep N w pv (xs.getD (i * 4 + j) undef) ∧ (xs.getD (i * 4 + j) undef).oneCell' = true)
    (h5 : ∀ j pv,x[j]? = some pv → IRep N w pv (ys.getD j undef) ∧ (ys.getD j undef).oneCell' = true) :
    ∀ k r j pv,(rows.take i ++ x :: rows.drop i)[k]? = some r → r[j]? = some pv → IRep N w pv ((xs.take (i * 4) ++ ys ++ xs.drop (i * 4)).getD (k * 4 + j) undef) ∧ ((xs.take (i * 4) ++ ys ++ xs.drop (i * 4)).getD (k * 4 + j) undef).oneCell' = true := by
  intro k r j pv hk hj
  have hti : (rows.take i).length = i := by rw [List.length_take]; omega
  have htx : (xs.take (i * 4)).length = i * 4 := by rw [List.length_take]; omega
  have hjl : j < 4 := by
    have h6 := (List.getElem?_eq_some_iff.1 hj).1
    have : r.length = 4 := by
      rcases List.mem_append.1 (List.mem_of_getElem? hk) with h | h
      · exact h3 r (List.mem_of_mem_take h)
      · rcases List.mem_cons.1 h with rfl | h
        · exact h3x
        · exact h3 r (List.mem_of_mem_drop h)
    omega
  by_cases c1 : k < i
  · rw [List.getElem?_append_left (by omega),List.getElem?_take_of_lt c1] at hk
    have e : (xs.take (i * 4) ++ ys ++ xs.drop (i * 4)).getD (k * 4 + j) undef = xs.getD (k * 4 + j) undef := by
      rw [List.getD_eq_getElem?_getD,List.getD_eq_getElem?_getD,List.append_assoc,List.getElem?_append_left (by omega),List.getElem?_take_of_lt (by omega)]
    rw [e]
    exact h4 k r j pv hk hj
  · rw [List.getElem?_append_right (by omega),hti] at hk
    by_cases c2 : k = i
    · subst c2
      rw [Nat.sub_self] at hk
      cases hk
      have e : (xs.take (k * 4) ++ ys ++ xs.drop (k * 4)).getD (k * 4 + j) undef = ys.getD j undef := by
        rw [List.getD_eq_getElem?_getD,List.getD_eq_getElem?_getD,List.append_assoc,List.getElem?_append_right (by omega),htx,List.getElem?_append_left (by omega),show k * 4 + j - k * 4 = j by omega]
      rw [e]
      exact h5 j pv hj
    · obtain ⟨d,hd⟩ : ∃ d,k - i = d + 1 := ⟨k - i - 1,by omega⟩
      rw [hd,List.getElem?_cons_succ,List.getElem?_drop] at hk
      have e : (xs.take (i * 4) ++ ys ++ xs.drop (i * 4)).getD (k * 4 + j) undef = xs.getD ((i + d) * 4 + j) undef := by
        rw [List.getD_eq_getElem?_getD,List.getD_eq_getElem?_getD,List.getElem?_append_right (by simp [htx,hy]; omega),List.getElem?_drop]
        congr 2
        simp [htx,hy]
        omega
      rw [e]
      exact h4 _ r j pv hk hj
end Go.Proofs.Ytcdmhigmgpflbaa.Pe


namespace Go.Proofs.Ytcdmhigmgpflbaa.Pe
open Go.Pe Go.RowKit
set_option maxRecDepth 20000
set_option maxHeartbeats 1000000
set_option linter.unusedSimpArgs false
set_option linter.unusedVariables false

theorem insertA {K KP : CK} {hp : List (Nat × Blk)} {nx b b2 ver ver2 i : Nat} {rows : List (List PV)} {x : List PV} (hb : lk b hp = some (.arr 161 4 rows ver false)) (hb2 : lk b2 hp = some (.arr 161 4 [x] ver2 false)) (hne : b ≠ b2) (hi : i < rows.length) (hn : rows.length ≤ 1000)
    (hK : K (.own b (ver + 1)) ((b,.arr 161 4 (rows.take i ++ x :: rows.drop i) (ver + 1) false) :: hp) nx) : CallA Try.prog 115 [.own b ver,PI i,.own b2 ver2] hp nx K KP := by
  refine ⟨⟨_,Try.func115,rfl,rfl⟩,fun C β w vs hgb hs hl hv => ?_⟩
  obtain ⟨u,xs,q1,q2,q3,q4⟩ := hs.blk b _ hb
  obtain ⟨u2,ys,p1,p2,p3,p4⟩ := hs.blk b2 _ hb2
  have v0 := (hv 0 _ rfl).own_eq q1
  have v1 := (hv 1 _ rfl).lit_eq
  have v2 := (hv 2 _ rfl).own_eq p1
  have hvs : vs = #[u,.int .i64 i,u2] := by
    have h3 : vs.size = 3 := hl
    apply Array.ext
    · simpa using h3
    · intro j hj1 hj2
      have g : ∀ k (hk : k < vs.size),vs.getD k undef = vs[k] := fun k hk => by simp [Array.getD,hk]
      match j,hj1 with
      | 0,hj1 => rw [g 0 hj1] at v0; exact v0
      | 1,hj1 => rw [g 1 hj1] at v1; exact v1
      | 2,hj1 => rw [g 2 hj1] at v2; exact v2
      | j + 3,hj1 => omega
  clear v0 v1 v2 hv hl
  subst hvs
  rcases q2.2 with ⟨_,h0⟩ | ⟨g,c,cur,rfl,hbg,hg,hnc,hcm,hcs,htk⟩
  · omega
  rcases p2.2 with ⟨_,h0⟩ | ⟨g2,c2,cur2,rfl,hbg2,hg2,hnc2,hcm2,hcs2,htk2⟩
  · simp at h0
  have hgg : g2 ≠ g := fun e => hs.sep b b2 _ _ hne hb hb2 ver _ ver2 _ g q1 p1 rfl (by rw [e]; rfl)
  obtain ⟨n,hnn⟩ : ∃ n,rows.length = n := ⟨_,rfl⟩
  have hxs : xs = cur.toList.take (n * 4) := by rw [← htk,hnn]
  have hys : ys = cur2.toList.take 4 := by rw [← htk2]; rfl
  have hxl : xs.length = n * 4 := by rw [← hnn]; exact q2.1
  have hyl : ys.length = 4 := p2.1
  have hx4 : x.length = 4 := p3 x (by simp)
  have hc63 : c ≤ 9223372036854775807 := by unfold maxLen at hcm; omega
  have hcl : cur.toList.length = c * 4 := by simpa using hcs
  have hcl2 : 4 ≤ cur2.size := by
    have : 1 ≤ c2 := hnc2
    omega
  have h1c : ∀ v ∈ cur.toList.take (n * 4),v.oneCell' = true := by
    rw [← hxs]
    intro v hv
    obtain ⟨k,hk,rfl⟩ := List.getElem_of_mem hv
    have hkl : k / 4 < rows.length := by omega
    have hr := q3 _ (List.getElem_mem hkl)
    have := (q4 (k / 4) _ (k % 4) _ (List.getElem?_eq_getElem hkl) (List.getElem?_eq_getElem (by rw [hr]; omega))).2
    rw [show k / 4 * 4 + k % 4 = k by omega] at this
    simpa [List.getD_eq_getElem?_getD,hk] using this
  have h5 : ∀ j pv,x[j]? = some pv → IRep (NN C (hpF hp) β) w pv (ys.getD j undef) ∧ (ys.getD j undef).oneCell' = true := fun j pv hj => by
    have := p4 0 x j pv rfl hj
    simpa using this
  have h1v : ∀ v ∈ cur2.toList.take 4,v.oneCell' = true := by
    rw [← hys]
    intro v hv
    obtain ⟨k,hk,rfl⟩ := List.getElem_of_mem hv
    have := (h5 k _ (List.getElem?_eq_getElem (by omega))).2
    simpa [List.getD_eq_getElem?_getD,hk] using this
  rw [hnn] at hi hn hnc
  have hlen : (rows.take i ++ x :: rows.drop i).length = n + 1 := by simp [hnn]; omega
  have hl4 : ∀ r ∈ rows.take i ++ x :: rows.drop i,r.length = 4 := by
    intro r hr
    rcases List.mem_append.1 hr with h | h
    · exact q3 r (List.mem_of_mem_take h)
    · rcases List.mem_cons.1 h with rfl | h
      · exact hx4
      · exact q3 r (List.mem_of_mem_drop h)
  have hzl : (xs.take (i * 4) ++ ys ++ xs.drop (i * 4)).length = (n + 1) * 4 := by simp [hxl,hyl]; omega
  have hup : ∀ v,Value.slice (some ⟨g,0,none⟩) rows.length c ≠ .pointer v := by intro v hv; cases hv
  have hdl : (xs.drop (i * 4)).length = (n - i) * 4 := by rw [List.length_drop,hxl]; omega
  rw [hnn]
  by_cases hroom : n + 1 ≤ c
  · have hm1 : (n + 1) * 4 ≤ c * 4 := Nat.mul_le_mul_right 4 hroom
    refine (insert_shift i n c g g2 c2 cur cur2 w hi hroom hc63 hg hcs hg2 hcl2 hgg h1c h1v).mono ?_
    rintro e w' ⟨rfl,hw'⟩
    rw [← hxs,← hys] at hw'
    have hrow : (splice (splice cur.toList ((i + 1) * 4) (xs.drop (i * 4))) (i * 4) ys).take ((n + 1) * 4) = xs.take (i * 4) ++ ys ++ xs.drop (i * 4) := by
      have e1 := splice_in cur.toList ys (xs.drop (i * 4)) (i * 4) ((n - i) * 4) (by rw [hcl]; omega) hyl hdl
      rw [show i * 4 + 4 = (i + 1) * 4 by omega,show (i + 1) * 4 + (n - i) * 4 = (n + 1) * 4 by omega] at e1
      rw [e1,hxs,List.take_take,Nat.min_eq_left (by omega)]
    have hsl1 : (splice cur.toList ((i + 1) * 4) (xs.drop (i * 4))).length = c * 4 := by rw [splice_length (by rw [hdl,hcl]; omega),hcl]
    have hsl : (splice (splice cur.toList ((i + 1) * 4) (xs.drop (i * 4))) (i * 4) ys).length = c * 4 := by rw [splice_length (by rw [hyl,hsl1]; omega),hsl1]
    have hheap : w'.heap[g]? = some (.cells (splice (splice cur.toList ((i + 1) * 4) (xs.drop (i * 4))) (i * 4) ys).toArray 161 (0,0)) := by
      rw [hw']
      exact setRow_heap _ g _ _ _ _ (setRow_heap w.drew g cur _ _ _ hg)
    have hother : ∀ k,k ≠ g → w'.heap[k]? = w.heap[k]? := fun k hk => by
      rw [hw',setRow_other _ g k _ hk,setRow_other _ g k _ hk]
      rfl
    have hsim := hs.change (x' := .arr 161 4 (rows.take i ++ x :: rows.drop i) (ver + 1) false) (ver' := ver + 1) (u' := .slice (some ⟨g,0,none⟩) (n + 1) c) (w' := w') hb rfl q1 (.inr ⟨by omega,hup⟩)
      (fun k _ hk => hother k (fun e => hk (by rw [e]; rfl))) (by rw [hw']; rfl) (by rw [hw']; rfl) (by rw [hw']; rfl) (by rw [hw']; simp) (fun k hk => .inl hk) (fun hkp hN hlt hbox =>
        ⟨_,xs.take (i * 4) ++ ys ++ xs.drop (i * 4),upd_same _ _ _,⟨by rw [hlen]; exact hzl,.inr ⟨g,c,_,by rw [hlen],hbg,hheap,by rw [hlen]; exact hroom,hcm,by rw [List.size_toArray]; exact hsl,by rw [hlen]; exact hrow⟩⟩,hl4,
          insert_cells (by omega) (by rw [hnn]; exact hxl) hyl q3 hx4 (fun i r j pv h1 h2 => ⟨(q4 i r j pv h1 h2).1.mono hkp hN,(q4 i r j pv h1 h2).2⟩) (fun j pv h => ⟨(h5 j pv h).1.mono hkp hN,(h5 j pv h).2⟩)⟩)
    exact ⟨_,_,_,_,_,.inl ⟨rfl,hK⟩,hsim,.own _ _ _ _ _ (upd_same _ _ _) (Nat.le_refl _) rfl (fun _ => rfl)⟩
  · obtain ⟨i0,z,i1,i2,i3,i4,i5,i6,i7⟩ := ok161.i
    have hzs : z.cells.size = 4 := by
      have h := (congrArg List.length i5).trans i6
      rw [Array.length_toList] at h
      exact h
    refine (insert_grow i n c g g2 c2 cur cur2 w z ⟨i0,i1,i4,i2,i3⟩ hzs hi hn hnc (by omega) hg hcs hg2 hcl2 h1c h1v).mono ?_
    rintro e w' ⟨rfl,ROW,hrs,hrt,hw'⟩
    rw [← hxs,← hys] at hw'
    obtain ⟨G,hG⟩ : ∃ G,grownCap w (n + 1) c 161 = G := ⟨_,rfl⟩
    have hGn : n + 1 ≤ G := by rw [← hG]; exact grownCap_ge w _ _ _
    have hGm : G ≤ maxLen := by rw [← hG]; exact grownCap_le_maxLen w _ _ _ (by unfold maxLen; omega)
    rw [hG] at hrs ⊢
    have hm1 : (n + 1) * 4 ≤ G * 4 := Nat.mul_le_mul_right 4 hGn
    have hrl : ROW.toList.length = G * 4 := by simpa using hrs
    have hrow : (splice (splice ROW.toList (i * 4) ys) ((i + 1) * 4) (xs.drop (i * 4))).take ((n + 1) * 4) = xs.take (i * 4) ++ ys ++ xs.drop (i * 4) := by
      have e1 := splice_out ROW.toList ys (xs.drop (i * 4)) (i * 4) ((n - i) * 4) (by rw [hrl]; omega) hyl hdl
      rw [show i * 4 + 4 = (i + 1) * 4 by omega,show (i + 1) * 4 + (n - i) * 4 = (n + 1) * 4 by omega] at e1
      rw [e1,hrt,hxs,List.take_take,Nat.min_eq_left (by omega)]
    have hsl1 : (splice ROW.toList (i * 4) ys).length = G * 4 := by rw [splice_length (by rw [hyl,hrl]; omega),hrl]
    have hsl : (splice (splice ROW.toList (i * 4) ys) ((i + 1) * 4) (xs.drop (i * 4))).length = G * 4 := by rw [splice_length (by rw [hdl,hsl1]; omega),hsl1]
    have hnew : (w.drew.alloc (.cells ROW 161)).heap[w.heap.size]? = some (.cells ROW 161 (0,0)) := Go.heap_alloc_new w.drew _
    have hheap : w'.heap[w.heap.size]? = some (.cells (splice (splice ROW.toList (i * 4) ys) ((i + 1) * 4) (xs.drop (i * 4))).toArray 161 (0,0)) := by
      rw [hw']
      exact setRow_heap _ _ _ _ _ _ (setRow_heap _ _ _ _ _ _ hnew)
    have hother : ∀ k,k < w.heap.size → w'.heap[k]? = w.heap[k]? := fun k hk => by
      rw [hw',setRow_other _ _ k _ (by omega)]
      show ((w.drew.alloc _).setRow _ _).heap[k]? = _
      rw [setRow_other _ _ k _ (by omega)]
      exact (Keeps.alloc (fun _ => False) w.drew _).block k hk (fun h => h)
    have hsize : w'.heap.size = w.heap.size + 1 := by rw [hw']; simp
    have hsim := hs.change (x' := .arr 161 4 (rows.take i ++ x :: rows.drop i) (ver + 1) false) (ver' := ver + 1) (u' := .slice (some ⟨w.heap.size,0,none⟩) (n + 1) G) (w' := w') hb rfl q1 (.inr ⟨by omega,hup⟩)
      (fun k hk _ => hother k hk) (by rw [hw']; rfl) (by rw [hw']; rfl) (by rw [hw']; rfl) (by rw [hsize]; omega) (fun k hk => .inr (by simp only [refBlock,Option.some.injEq] at hk; omega)) (fun hkp hN hlt hbox =>
        ⟨_,xs.take (i * 4) ++ ys ++ xs.drop (i * 4),upd_same _ _ _,⟨by rw [hlen]; exact hzl,.inr ⟨w.heap.size,G,_,by rw [hlen],hs.bs,hheap,by rw [hlen]; exact hGn,hGm,by rw [List.size_toArray]; exact hsl,by rw [hlen]; exact hrow⟩⟩,hl4,
          insert_cells (by omega) (by rw [hnn]; exact hxl) hyl q3 hx4 (fun i r j pv h1 h2 => ⟨(q4 i r j pv h1 h2).1.mono hkp hN,(q4 i r j pv h1 h2).2⟩) (fun j pv h => ⟨(h5 j pv h).1.mono hkp hN,(h5 j pv h).2⟩)⟩)
    exact ⟨_,_,_,_,_,.inl ⟨rfl,hK⟩,hsim,.own _ _ _ _ _ (upd_same _ _ _) (Nat.le_refl _) rfl (fun _ => rfl)⟩
end Go.Proofs.Ytcdmhigmgpflbaa.Pe

