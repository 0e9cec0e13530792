import Derived.Test.YtcdmhigmgpflbaaTS6
import Derived.Test.YtcdmhigmgpflbaaDL9
namespace Go.Proofs.Ytcdmhigmgpflbaa.Pe
open Go.Pe Go.RowKit
set_option maxRecDepth 20000
set_option maxHeartbeats 4000000
set_option linter.unusedSimpArgs false
set_option linter.unusedVariables false
/-- How long an answer is at most. -/
theorem ask_alen {s : Srv} (h : RightS s) (q : List UInt8) : (askV s q).2.1.length ≤ 200 := by
  have hdt := rightL_len22 h.dtc
  have hdata : ∀ i,i < s.items.length → (s.items.getD i itmZ).data.length ≤ 64 := fun i hi => by
    rw [itm_getD hi]; exact (okIt_iff.1 (okIts_mem h.its _ (List.getElem_mem hi))).2.2
  cases q with
  | nil => simp [askV]
  | cons c r =>
    unfold askV
    have e1 : ({ s with quiet := 0 } : Srv).items = s.items := rfl
    have e2 : ({ s with quiet := 0 } : Srv).dtc = s.dtc := rfl
    revert e1 e2
    generalize ({ s with quiet := 0 } : Srv) = t
    intro e1 e2
    simp only
    split
    · unfold sesA; repeat' split
      all_goals simp [denyA,yesA,denyV]
    split
    · unfold unlA seedA keyA; repeat' split
      all_goals simp [denyA,yesA,denyV,fourV]
    split
    · unfold readA
      split
      · split
        · rename_i i hf
          rw [e1] at hf ⊢
          have := hdata i (find_lt hf)
          simp only [yesA,List.length_cons]
          omega
        · simp [denyA,denyV]
      · simp [denyA,denyV]
    split
    · unfold writeA; repeat' split
      all_goals simp [denyA,yesA,denyV]
    split
    · unfold forgetA; repeat' split
      all_goals simp [denyA,yesA,denyV]
    split
    · unfold maskA
      split
      · rename_i m
        rw [e2]
        simp only [yesA,List.length_cons]
        have := listV_len (m.toNat : Int) s.dtc
        rw [packV,packL_len]
        omega
      · simp [denyA,denyV]
    split
    · unfold hereA; repeat' split
      all_goals simp [denyA,yesA,denyV]
    split
    · unfold handA; repeat' split
      all_goals simp [denyA,denyV]
    · simp [denyA,denyV]
theorem ask_apos {s : Srv} {q : List UInt8} (hq : 1 ≤ q.length) (hon : (askV s q).2.2 = false) : 1 ≤ (askV s q).2.1.length := by
  cases q with
  | nil => simp at hq
  | cons c r =>
    rcases ask_shape s c r with e | ⟨u,o,e,_⟩ | ⟨why,e,_⟩ | ⟨e,_,_⟩
    · rw [e] at hon; cases hon
    · rw [e]; simp
    · rw [e]; simp [denyA,denyV]
    · rw [e]; simp [denyA,denyV]
theorem ask_on_nil {s : Srv} {q : List UInt8} (hon : (askV s q).2.2 = true) : (askV s q).2.1 = [] := by
  cases q with
  | nil => rfl
  | cons c r =>
    rcases ask_shape s c r with e | ⟨u,o,e,_⟩ | ⟨why,e,_⟩ | ⟨e,_,_⟩
    · rw [e]
    · rw [e] at hon; cases hon
    · rw [e] at hon; cases hon
    · rw [e] at hon; cases hon
/-- Over a way that loses nothing. -/
theorem talk_thru {s : Srv} {q : List UInt8} (h : RightS s) (h1 : 1 ≤ q.length) (h2 : q.length ≤ 4095) : talkV s q [] [] = ((askV s q).1,(askV s q).2.1,(askV s q).2.2,true) := by
  unfold talkV
  rw [if_pos (cam_nil ⟨h1,h2⟩)]
  cases hon : (askV s q).2.2 with
  | true => rw [if_pos rfl,ask_on_nil hon]
  | false =>
    have hl := ask_alen h q
    have hc := cam_nil ⟨ask_apos h1 hon,by omega⟩
    rw [if_neg (by decide),hc,if_pos rfl]
/-- Over any way. -/
theorem talk_any (s : Srv) (q : List UInt8) (f g : List Int) : (talkV s q f g = (s,[],false,false)) ∨
    (talkV s q f g = ((askV s q).1,(askV s q).2.1,(askV s q).2.2,true)) ∨ (talkV s q f g = ((askV s q).1,[],false,false)) := by
  unfold talkV
  cases hc : camV q f with
  | false => exact .inl rfl
  | true =>
    rw [if_pos rfl]
    cases hon : (askV s q).2.2 with
    | true => rw [if_pos rfl,ask_on_nil hon]; exact .inr (.inl rfl)
    | false =>
      rw [if_neg (by decide)]
      cases hg : camV (askV s q).2.1 g with
      | true => rw [if_pos rfl]; exact .inr (.inl rfl)
      | false => exact .inr (.inr rfl)
/-! ### too much,or not right -/
end Go.Proofs.Ytcdmhigmgpflbaa.Pe

