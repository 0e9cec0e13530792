import Derived.Test.YtcdmhigmgpflbaaGreatDL5
set_option maxRecDepth 20000
set_option maxHeartbeats 4000000
set_option linter.unusedSimpArgs false
set_option linter.unusedVariables false
namespace Go.Proofs.YtcdmhigmgpflbaaGreat.Pe
open Go.Pe Go.RowKit
def ShapeA (t : Srv) (c : UInt8) (x : AskR) : Prop :=
  x = (t,[],true) ∨ (∃ u o,x = (u,(c + 64) :: o,false) ∧ c ≠ 0x3F) ∨ (∃ why : Int,x = denyA t c why ∧ u8of why ≠ 0x35) ∨ (x = denyA (wrongA t) c 0x35 ∧ c = 0x27 ∧ t.wrong ≤ 2)
theorem shape_no {t : Srv} {c : UInt8} {why : Int} (h : u8of why ≠ 0x35) : ShapeA t c (denyA t c why) := .inr (.inr (.inl ⟨why,rfl,h⟩))
theorem shape_yes {t u : Srv} {c : UInt8} {o : List UInt8} (h : c ≠ 0x3F) : ShapeA t c (yesA u c o) := .inr (.inl ⟨u,o,rfl,h⟩)
theorem ask_shape (s : Srv) (c : UInt8) (r : List UInt8) : ShapeA { s with quiet := 0 } c (askV s (c :: r)) := by
  unfold askV
  generalize ({ s with quiet := 0 } : Srv) = t
  simp only
  split
  · rename_i e; subst e; unfold sesA; repeat' split
    all_goals first | exact shape_no (by decide +kernel) | exact shape_yes (by decide)
  split
  · rename_i e; subst e; unfold unlA seedA keyA
    split
    · exact shape_no (by decide +kernel)
    split
    · split
      · repeat' split
        all_goals first | exact shape_no (by decide +kernel) | exact shape_yes (by decide)
      · exact shape_no (by decide +kernel)
    split
    · split
      · split
        · exact shape_no (by decide +kernel)
        · rename_i hw
          split
          · exact shape_no (by decide +kernel)
          split
          · exact shape_no (by decide +kernel)
          split
          · exact shape_yes (by decide)
          · exact .inr (.inr (.inr ⟨rfl,rfl,Classical.not_not.1 hw⟩))
      · exact shape_no (by decide +kernel)
    · exact shape_no (by decide +kernel)
  split
  · rename_i e; subst e; unfold readA; repeat' split
    all_goals first | exact shape_no (by decide +kernel) | exact shape_yes (by decide)
  split
  · rename_i e; subst e; unfold writeA; repeat' split
    all_goals first | exact shape_no (by decide +kernel) | exact shape_yes (by decide)
  split
  · rename_i e; subst e; unfold forgetA; repeat' split
    all_goals first | exact shape_no (by decide +kernel) | exact shape_yes (by decide)
  split
  · rename_i e; subst e; unfold maskA; repeat' split
    all_goals first | exact shape_no (by decide +kernel) | exact shape_yes (by decide)
  split
  · rename_i e; subst e; unfold hereA; repeat' split
    all_goals first | exact shape_no (by decide +kernel) | exact shape_yes (by decide)
  split
  · unfold handA; repeat' split
    · exact shape_no (by decide +kernel)
    · exact shape_no (by decide +kernel)
    · exact .inl rfl
  · exact shape_no (by decide +kernel)
end Go.Proofs.YtcdmhigmgpflbaaGreat.Pe
namespace Go.Proofs.YtcdmhigmgpflbaaGreat.Pe
open Go.Pe Go.RowKit
end Go.Proofs.YtcdmhigmgpflbaaGreat.Pe
