import Derived.Test.YtcdmhigmgpflbaaDLa
namespace Go.Proofs.Ytcdmhigmgpflbaa.Pe
open Go.Pe Go.RowKit
set_option maxRecDepth 20000
set_option maxHeartbeats 4000000
set_option linter.unusedSimpArgs false
set_option linter.unusedVariables false
theorem okIts_gt : ∀ {l : List Itm} {p : Int},okIts (some p) l = true → ∀ j (h : j < l.length),p < l[j].id
  | [],_,_,j,h => by simp at h
  | x :: l,p,h,j,hj => by
    simp only [okIts,ordI,Bool.and_eq_true] at h
    obtain ⟨h1,h2,h3⟩ := h
    have hp : p < x.id := by simp at h2; omega
    cases j with
    | zero => exact hp
    | succ j => exact Int.lt_trans hp (okIts_gt h3 j (by simpa using hj))
theorem okIts_lt : ∀ {l : List Itm} {p : Option Int},okIts p l = true → ∀ i j (hi : i < j) (hj : j < l.length),l[i].id < l[j].id
  | [],_,_,i,j,_,h => by simp at h
  | x :: l,p,h,i,j,hi,hj => by
    simp only [okIts,Bool.and_eq_true] at h
    obtain ⟨h1,h2,h3⟩ := h
    cases j with
    | zero => omega
    | succ j =>
      cases i with
      | zero => exact okIts_gt h3 j (by simpa using hj)
      | succ i => exact okIts_lt h3 i j (by omega) (by simpa using hj)
theorem find_own {l : List Itm} (h : okIts none l = true) {i : Nat} (hi : i < l.length) (w : Bool) : findV l l[i].id w = if (!w || l[i].wr) = true then some i else none := by
  unfold findV
  split
  · rename_i hw
    rw [List.findIdx?_eq_some_iff_getElem]
    refine ⟨hi,by simp only [hitV,decide_true,Bool.true_and]; exact hw,fun j hj => ?_⟩
    have := okIts_lt h j i hj hi
    simp only [hitV,Bool.and_eq_true,decide_eq_true_eq,not_and]
    omega
  · rename_i hw
    rw [List.findIdx?_eq_none_iff]
    intro x hx
    obtain ⟨j,hj,rfl⟩ := List.getElem_of_mem hx
    by_cases e : l[j].id = l[i].id
    · have : j = i := by
        rcases Nat.lt_trichotomy j i with h1 | h1 | h1
        · have := okIts_lt h j i h1 hi; omega
        · exact h1
        · have := okIts_lt h i j h1 hj; omega
      subst this
      simp only [hitV,decide_true,Bool.true_and]
      simpa using hw
    · simp [hitV,e]
theorem its_getD {l : List Itm} {i : Nat} (hi : i < l.length) (x : Itm) : (l.set i x).getD i itmZ = x := by simp [List.getD_eq_getElem?_getD,hi]
/-- What is written to an item,and read. -/
theorem opens_item {v : Srv} (h : RightS v) (hs : v.ses ≠ 1) (ho : v.op = true) (hq : v.quiet = 0) {i : Nat} (hi : i < v.items.length) {d : List UInt8} (hd : d.length = v.items[i].data.length) {a b : UInt8} (hab : idV a b = v.items[i].id) :
    ∃ (x : Srv) (e : List UInt8),askV v (0x2E :: a :: b :: d) = (x,e,false) ∧ e = (if v.items[i].wr = true then [0x6E,a,b] else [0x7F,0x2E,0x31]) ∧ RightS x ∧
      askV x [0x22,a,b] = (x,0x62 :: a :: b :: (if v.items[i].wr = true then d else v.items[i].data),false) := by
  have hq' : ({ v with quiet := 0 } : Srv) = v := by obtain ⟨_,_,_,_,q,_,_,_,_⟩ := v; simp only at hq; subst hq; rfl
  have hok := okIt_iff.1 (okIts_mem h.its v.items[i] (List.getElem_mem _))
  have hdn : ¬ d = [] := fun e => by rw [e] at hd; simp at hd; omega
  have e1 : askV v (0x2E :: a :: b :: d) = writeA { v with quiet := 0 } (a :: b :: d) := rfl
  rw [hq'] at e1
  have f1 := find_own h.its hi true
  have f2 := find_own h.its hi false
  have hr := ask_right h (0x2E :: a :: b :: d)
  have hg := itm_getD hi
  rw [e1] at hr
  have e2 : writeA v (a :: b :: d) = if v.items[i].wr = true then ({ v with items := v.items.set i { v.items[i] with data := d } },[0x6E,a,b],false) else (v,[0x7F,0x2E,0x31],false) := by
    unfold writeA
    simp only
    rw [if_neg hdn,if_neg hs,if_neg (by rw [ho]; decide),hab,f1]
    cases hw : v.items[i].wr with
    | true =>
      simp only [Bool.not_true,Bool.false_or,if_true]
      rw [hg,if_pos hd]
      simp only [hw]
      rfl
    | false => rfl
  cases hw : v.items[i].wr with
  | true =>
    rw [hw,if_pos rfl] at e2
    rw [e2] at hr
    refine ⟨_,_,e1.trans e2,rfl,hr,?_⟩
    have hi2 : i < (v.items.set i { v.items[i] with data := d }).length := by rw [List.length_set]; exact hi
    have hit : (v.items.set i { v.items[i] with data := d })[i] = { v.items[i] with data := d } := by simp
    have f3 := find_own hr.its hi2 false
    rw [hit] at f3
    simp only at f3
    have e3 : ∀ u : Srv,askV u [0x22,a,b] = readA { u with quiet := 0 } [a,b] := fun u => rfl
    rw [e3]
    unfold readA
    simp only
    rw [hab,f3]
    simp only [Bool.not_false,Bool.true_or,if_true]
    rw [its_getD hi,← hq]
    rfl
  | false =>
    rw [hw,if_neg (by decide)] at e2
    refine ⟨_,_,e1.trans e2,rfl,h,?_⟩
    have e3 : askV v [0x22,a,b] = readA { v with quiet := 0 } [a,b] := rfl
    rw [e3,hq']
    unfold readA
    simp only
    rw [hab,f2]
    simp only [Bool.not_false,Bool.true_or,if_true]
    rw [hg]
    rfl
end Go.Proofs.Ytcdmhigmgpflbaa.Pe

