import Derived.Test.YtcdmhigmgpflbaaTSb
import Derived.Test.YtcdmhigmgpflbaaDLe
namespace Go.Proofs.Ytcdmhigmgpflbaa.Pe
open Go.Pe Go.RowKit
set_option maxRecDepth 20000
set_option maxHeartbeats 4000000
set_option linter.unusedSimpArgs false
set_option linter.unusedVariables false
theorem read_own {v : Srv} (h : RightS v) {i : Nat} (hi : i < v.items.length) {a b : UInt8} (hab : idV a b = v.items[i].id) : askV v [0x22,a,b] = ({ v with quiet := 0 },0x62 :: a :: b :: v.items[i].data,false) := by
  have e3 : askV v [0x22,a,b] = readA { v with quiet := 0 } [a,b] := rfl
  have f2 := find_own h.its hi false
  rw [e3]
  unfold readA
  simp only
  rw [hab,f2]
  simp only [Bool.not_false,Bool.true_or,if_true]
  rw [itm_getD hi]
  rfl
/-- A server with one item,in the workshop. -/
structure OneS (v : Srv) (id : Int) (was : List UInt8) : Prop where
  r : RightS v
  ses : v.ses ≠ 1
  q : v.quiet = 0
  its : v.items = [⟨id,true,was⟩]
theorem quiet_same {v : Srv} (h : v.quiet = 0) : ({ v with quiet := 0 } : Srv) = v := by obtain ⟨_,_,_,_,q,_,_,_,_⟩ := v; simp only at h; subst h; rfl
theorem one_write {v : Srv} {id : Int} {was : List UInt8} (h : OneS v id was) {x y : UInt8} (hid : idV x y = id) (b : List UInt8) :
    ∃ (w : Srv) (e : List UInt8),askV v (0x2E :: x :: y :: b) = (w,e,false) ∧ OneS w id (if v.op = true ∧ b.length = was.length then b else was) ∧ w.op = v.op ∧ posV (0x2E :: x :: y :: b) e = (v.op && decide ((b.length : Int) = (was.length : Int))) := by
  obtain ⟨hr,hs,hq,hi⟩ := h
  have hlen : 0 < v.items.length := by rw [hi]; simp
  have hv0 : v.items[0] = ⟨id,true,was⟩ := by simp only [hi]; rfl
  have e1 : askV v (0x2E :: x :: y :: b) = writeA { v with quiet := 0 } (x :: y :: b) := rfl
  rw [quiet_same hq] at e1
  have hok : okIt ⟨id,true,was⟩ = true := by have := okIts_mem hr.its ⟨id,true,was⟩ (by rw [hi]; simp); exact this
  have hwl := (okIt_iff.1 hok).2
  simp only at hwl
  by_cases hop : v.op = true ∧ b.length = was.length
  · obtain ⟨w,e,p1,p2,p3,p4⟩ := opens_item (d := b) (a := x) (b := y) hr hs hop.1 hq hlen (by rw [hv0]; exact hop.2) (by rw [hv0]; exact hid)
    rw [hv0] at p2
    simp only [if_true] at p2
    have hdn : ¬ b = [] := fun e => by have := hop.2; rw [e] at this; simp at this; omega
    have hfd : findV v.items (idV x y) true = some 0 := by
      have := find_own hr.its hlen true
      rw [hv0] at this
      rw [hid]
      exact this
    have e2 : writeA v (x :: y :: b) = ({ v with items := v.items.set 0 { v.items.getD 0 itmZ with data := b } },[0x6E,x,y],false) := by
      unfold writeA
      simp only
      rw [if_neg hdn,if_neg hs,if_neg (by rw [hop.1]; decide),hfd]
      simp only
      rw [itm_getD hlen,hv0,if_pos hop.2]
      rfl
    refine ⟨w,e,p1,?_,?_,?_⟩
    · rw [e1,e2] at p1
      rw [if_pos hop]
      have hw : w = { v with items := v.items.set 0 { v.items.getD 0 itmZ with data := b } } := (Prod.mk.inj p1).1.symm
      refine ⟨p3,by rw [hw]; exact hs,by rw [hw]; exact hq,?_⟩
      rw [hw]
      show v.items.set 0 _ = _
      rw [itm_getD hlen,hv0,hi]
      rfl
    · rw [e1,e2] at p1
      rw [← (Prod.mk.inj p1).1]
    · rw [p2,hop.1,hop.2]
      simp [posV]
  · have e2 : ∃ why : Int,writeA v (x :: y :: b) = denyA v 0x2E why := by
      unfold writeA
      simp only
      by_cases hb : b = []
      · rw [if_pos hb]; exact ⟨_,rfl⟩
      rw [if_neg hb,if_neg hs]
      cases ho : v.op with
      | false => exact ⟨_,rfl⟩
      | true =>
        rw [if_neg (by decide)]
        split
        · rename_i i hf
          split
          · rename_i hl
            exfalso
            apply hop
            refine ⟨ho,?_⟩
            have h1 := find_lt hf
            have : i = 0 := by rw [hi] at h1; simp at h1; exact h1
            subst this
            rw [itm_getD hlen,hv0] at hl
            exact hl
          · exact ⟨_,rfl⟩
        · exact ⟨_,rfl⟩
    obtain ⟨why,e2⟩ := e2
    refine ⟨v,_,e1.trans e2,?_,rfl,?_⟩
    · rw [if_neg hop]
      exact ⟨hr,hs,hq,hi⟩
    · have : (v.op && decide ((b.length : Int) = (was.length : Int))) = false := by
        cases ho : v.op with
        | false => rfl
        | true => rw [Bool.true_and]; exact decide_eq_false (fun e => hop ⟨ho,by omega⟩)
      rw [this]
      rfl
theorem one_read {v : Srv} {id : Int} {was : List UInt8} (h : OneS v id was) {x y : UInt8} (hid : idV x y = id) : askV v [0x22,x,y] = (v,0x62 :: x :: y :: was,false) := by
  obtain ⟨hr,hs,hq,hi⟩ := h
  have hlen : 0 < v.items.length := by rw [hi]; simp
  have hv0 : v.items[0] = ⟨id,true,was⟩ := by simp only [hi]; rfl
  have := read_own hr hlen (a := x) (b := y) (by rw [hv0]; exact hid)
  rw [this,hv0,quiet_same hq]
end Go.Proofs.Ytcdmhigmgpflbaa.Pe

