import Derived.Test.YtcdmhigmgpflbaaGreatDI17
set_option maxRecDepth 20000
set_option maxHeartbeats 4000000
set_option linter.unusedSimpArgs false
set_option linter.unusedVariables false
namespace Go.Proofs.YtcdmhigmgpflbaaGreat.Pe
open Go.Pe Go.RowKit
end Go.Proofs.YtcdmhigmgpflbaaGreat.Pe
namespace Go.Proofs.YtcdmhigmgpflbaaGreat.Pe
open Go.Pe Go.RowKit
structure RightS (s : Srv) : Prop where
  its : okIts none s.items = true
  ses : 1 ≤ s.ses ∧ s.ses ≤ 3
  seed : -1 ≤ s.seed ∧ s.seed ≤ 4294967295
  wrong : 0 ≤ s.wrong ∧ s.wrong ≤ 12
  quiet : 0 ≤ s.quiet ∧ s.quiet ≤ 51
  draw : 0 ≤ s.draw ∧ s.draw ≤ 4294967295
  sec : 0 ≤ s.sec ∧ s.sec ≤ 4294967295
  many : s.items.length ≤ 16
  dtc : rightL s.dtc = true
theorem rightS_iff {s : Srv} : rightS s = true ↔ RightS s := by
  constructor
  · intro h
    simp only [rightS,rightH,wit,Bool.and_eq_true,decide_eq_true_eq] at h
    obtain ⟨h1,h2,h3,h4,h5,h6,h7,h8,h9⟩ := h
    exact ⟨h1,h2,h3,h4,h5,h6,h7,by omega,h9⟩
  · rintro ⟨h1,h2,h3,h4,h5,h6,h7,h8,h9⟩
    simp only [rightS,rightH,wit,Bool.and_eq_true,decide_eq_true_eq]
    exact ⟨h1,h2,h3,h4,h5,h6,h7,by omega,h9⟩
theorem okIts_mem : ∀ {l : List Itm} {p : Option Int},okIts p l = true → ∀ x ∈ l,okIt x = true
  | [],_,_,x,hx => by cases hx
  | y :: l,p,h,x,hx => by
    simp only [okIts,Bool.and_eq_true] at h
    rcases List.mem_cons.1 hx with rfl | hx
    · exact h.1
    · exact okIts_mem h.2.2 x hx
theorem okIt_iff {x : Itm} : okIt x = true ↔ (0 ≤ x.id ∧ x.id ≤ 65535) ∧ (1 ≤ x.data.length ∧ x.data.length ≤ 64) := by
  simp only [okIt,wit,Bool.and_eq_true,decide_eq_true_eq]
  constructor <;> intro h <;> refine ⟨h.1,?_⟩ <;> omega
theorem rightL_len22 {l : List Trb} (h : rightL l = true) : l.length ≤ 16 := by
  simp [rightL] at h; omega
theorem RightS.fits {s : Srv} (h : RightS s) : s.fits :=
  ⟨by have := h.many; omega,fun x hx => by have := (okIt_iff.1 (okIts_mem h.its x hx)).2; omega,by have := rightL_len22 h.dtc; omega,h.wrong.1⟩
theorem RightS.tk {s : Srv} (h : RightS s) : s.tk := ⟨h.quiet,h.wrong⟩
theorem lowV_wide (n : Int) : 0 ≤ lowV n ∧ lowV n ≤ 4294967295 := by rw [lowV_eq]; omega
theorem okIts_set : ∀ {l : List Itm} {p : Option Int} {i : Nat} {x : Itm},okIts p l = true → i < l.length → x.id = (l.getD i itmZ).id → okIt x = true → okIts p (l.set i x) = true
  | [],_,_,_,_,hi,_,_ => by simp at hi
  | y :: l,p,0,x,h,hi,hid,hx => by
    simp only [List.set_cons_zero,okIts,Bool.and_eq_true] at h ⊢
    have e : x.id = y.id := hid
    rw [e]
    exact ⟨hx,h.2⟩
  | y :: l,p,i + 1,x,h,hi,hid,hx => by
    simp only [List.set_cons_succ,okIts,Bool.and_eq_true] at h ⊢
    exact ⟨h.1,h.2.1,okIts_set h.2.2 (by simpa using hi) (by simpa using hid) hx⟩
theorem nextDraw_wide (d : Int) : 0 ≤ nextDraw d ∧ nextDraw d ≤ 4294967295 := lowV_wide _
theorem seed1_ok : -1 ≤ (-1 : Int) ∧ (-1 : Int) ≤ 4294967295 := by decide
theorem wrong0_ok : 0 ≤ (0 : Int) ∧ (0 : Int) ≤ 12 := by decide
theorem quiet0_ok : 0 ≤ (0 : Int) ∧ (0 : Int) ≤ 51 := by decide
theorem ask_right {s : Srv} (h : RightS s) (q : List UInt8) : RightS (askV s q).1 := by
  cases q with
  | nil => exact h
  | cons c r =>
    have h0 : RightS { s with quiet := 0 } := ⟨h.its,h.ses,h.seed,h.wrong,quiet0_ok,h.draw,h.sec,h.many,h.dtc⟩
    unfold askV
    revert h0
    generalize ({ s with quiet := 0 } : Srv) = t
    intro h
    simp only
    split
    · unfold sesA; split
      · split
        · rename_i n hn
          simp only [sesOK,Bool.and_eq_true,decide_eq_true_eq] at hn
          exact ⟨h.its,hn,seed1_ok,h.wrong,h.quiet,h.draw,h.sec,h.many,h.dtc⟩
        · exact h
      · exact h
    split
    · unfold unlA; split
      · exact h
      · split
        · split
          · unfold seedA
            split
            · exact h
            split
            · exact h
            split
            · exact h
            · exact ⟨h.its,h.ses,⟨Int.le_trans (by decide) h.draw.1,h.draw.2⟩,h.wrong,h.quiet,nextDraw_wide _,h.sec,h.many,h.dtc⟩
          · exact h
        · split
          · split
            · unfold keyA
              split
              · exact h
              rename_i hw
              split
              · exact h
              split
              · exact h
              split
              · exact ⟨h.its,h.ses,seed1_ok,wrong0_ok,h.quiet,h.draw,h.sec,h.many,h.dtc⟩
              · have hw2 : t.wrong ≤ 2 := Classical.not_not.1 hw
                have := h.wrong
                refine ⟨h.its,h.ses,seed1_ok,?_,h.quiet,h.draw,h.sec,h.many,h.dtc⟩
                show 0 ≤ (if t.wrong = 2 then 12 else t.wrong + 1) ∧ (if t.wrong = 2 then 12 else t.wrong + 1) ≤ 12
                split <;> omega
            · exact h
          · exact h
    split
    · unfold readA; split
      · split <;> exact h
      · exact h
    split
    · unfold writeA; split
      · split
        · exact h
        split
        · exact h
        split
        · exact h
        split
        · rename_i i hf
          split
          · rename_i hl
            have hi := find_lt hf
            refine ⟨?_,h.ses,h.seed,h.wrong,h.quiet,h.draw,h.sec,by show (List.set _ _ _).length ≤ 16; rw [List.length_set]; exact h.many,h.dtc⟩
            refine okIts_set h.its hi rfl ?_
            have := okIt_iff.1 (okIts_mem h.its (t.items.getD i itmZ) (by rw [itm_getD hi]; exact List.getElem_mem _))
            rw [okIt_iff]
            exact ⟨this.1,by rw [hl]; exact this.2⟩
          · exact h
        · exact h
      · exact h
    split
    · unfold forgetA; split
      · split
        · exact ⟨h.its,h.ses,h.seed,h.wrong,h.quiet,h.draw,h.sec,h.many,rfl⟩
        · exact h
      · exact h
    split
    · unfold maskA; split <;> exact h
    split
    · unfold hereA; split <;> exact h
    split
    · unfold handA
      split
      · exact h
      split <;> exact h
    · exact h
end Go.Proofs.YtcdmhigmgpflbaaGreat.Pe
namespace Go.Proofs.YtcdmhigmgpflbaaGreat.Pe
open Go.Pe Go.RowKit
theorem newD_at {secret draw : Int} {l : List Itm} {s : Srv} (h : newSrv secret draw l = s) : PureCalls Tryz.prog 48 [PI secret,PI draw,itmsPV l] s.pv := h ▸ newD_calls secret draw l
theorem same_at {a b : Srv} {r : Bool} (h : decide (a = b) = r) (h1 : a.items.length < 1000000) (h2 : a.dtc.length < 1000000) : PureCalls Tryz.prog 31 [a.pv,b.pv] (PB r) := h ▸ same22_calls a b h1 h2
def hS : Srv := ⟨1,false,-1,0,0,5,7,[⟨258,true,[1,2]⟩],[]⟩
end Go.Proofs.YtcdmhigmgpflbaaGreat.Pe
