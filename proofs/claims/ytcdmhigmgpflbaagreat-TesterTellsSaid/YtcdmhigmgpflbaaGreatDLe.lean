import Derived.Test.YtcdmhigmgpflbaaGreatDLa
set_option maxRecDepth 20000
set_option maxHeartbeats 4000000
set_option linter.unusedSimpArgs false
set_option linter.unusedVariables false
namespace Go.Proofs.YtcdmhigmgpflbaaGreat.Pe
open Go.Pe Go.RowKit
theorem okIts_gt : ∀ {l : List Itm} {p : Int},okIts (some p) l = true → ∀ j (h : j < l.length),p < l[j].id
  | [],_,_,j,h => by simp at h
  | x :: l,p,h,j,hj => by
    simp only [okIts,ordI,Bool.and_eq_true] at h
    obtain ⟨h1,h2,h3⟩ := h
    have hp : p < x.id := by simp at h2; omega
    cases j with
    | zero => exact hp
    | succ j => exact Int.lt_trans hp (okIts_gt h3 j (by simpa using hj))
theorem okIts_lt : ∀ {l : List Itm} {p : Option Int},okIts p l = true → ∀ i j (hi : i < j) (hj : j < l.length),l[i].id < l[j].id
  | [],_,_,i,j,_,h => by simp at h
  | x :: l,p,h,i,j,hi,hj => by
    simp only [okIts,Bool.and_eq_true] at h
    obtain ⟨h1,h2,h3⟩ := h
    cases j with
    | zero => omega
    | succ j =>
      cases i with
      | zero => exact okIts_gt h3 j (by simpa using hj)
      | succ i => exact okIts_lt h3 i j (by omega) (by simpa using hj)
theorem find_own {l : List Itm} (h : okIts none l = true) {i : Nat} (hi : i < l.length) (w : Bool) : findV l l[i].id w = if (!w || l[i].wr) = true then some i else none := by
  unfold findV
  split
  · rename_i hw
    rw [List.findIdx?_eq_some_iff_getElem]
    refine ⟨hi,by simp only [hitV,decide_true,Bool.true_and]; exact hw,fun j hj => ?_⟩
    have := okIts_lt h j i hj hi
    simp only [hitV,Bool.and_eq_true,decide_eq_true_eq,not_and]
    omega
  · rename_i hw
    rw [List.findIdx?_eq_none_iff]
    intro x hx
    obtain ⟨j,hj,rfl⟩ := List.getElem_of_mem hx
    by_cases e : l[j].id = l[i].id
    · have : j = i := by
        rcases Nat.lt_trichotomy j i with h1 | h1 | h1
        · have := okIts_lt h j i h1 hi; omega
        · exact h1
        · have := okIts_lt h i j h1 hj; omega
      subst this
      simp only [hitV,decide_true,Bool.true_and]
      simpa using hw
    · simp [hitV,e]
end Go.Proofs.YtcdmhigmgpflbaaGreat.Pe
