import Derived.Test.YtcdmhigmgpflbaaDLa
namespace Go.Proofs.Ytcdmhigmgpflbaa.Pe
open Go.Pe Go.RowKit
set_option maxRecDepth 20000
set_option maxHeartbeats 4000000
set_option linter.unusedSimpArgs false
set_option linter.unusedVariables false
/-- That bytes are not the key that would open. -/
def NoKey (s : Srv) (q : List UInt8) : Prop := ∀ k,q = 0x27 :: 2 :: k → s.seed ≥ 0 → k ≠ fourV (keyV s.seed s.sec)
theorem ask_shut {s : Srv} {q : List UInt8} (ho : s.op = false) (hk : NoKey s q) : (askV s q).1.op = false ∧ (askV s q).2.2 = false ∧ (askV s q).1.items = s.items := by
  cases q with
  | nil => exact ⟨ho,rfl,rfl⟩
  | cons c r =>
    unfold askV
    have ho' : ({ s with quiet := 0 } : Srv).op = false := ho
    have hk' : ∀ k,c :: r = 0x27 :: 2 :: k → ({ s with quiet := 0 } : Srv).seed ≥ 0 → k ≠ fourV (keyV ({ s with quiet := 0 } : Srv).seed ({ s with quiet := 0 } : Srv).sec) := hk
    have hi : ({ s with quiet := 0 } : Srv).items = s.items := rfl
    rw [← hi]
    clear hi
    revert ho' hk'
    generalize ({ s with quiet := 0 } : Srv) = t
    intro ho hk
    simp only
    split
    · unfold sesA; repeat' split
      all_goals first | exact ⟨ho,rfl,rfl⟩ | exact ⟨rfl,rfl,rfl⟩
    split
    · rename_i e; subst e; unfold unlA seedA keyA
      split
      · exact ⟨ho,rfl,rfl⟩
      split
      · repeat' split
        all_goals first | exact ⟨ho,rfl,rfl⟩ | (rename_i h; rw [ho] at h; cases h)
      split
      · rename_i h2; subst h2
        split
        · split
          · exact ⟨ho,rfl,rfl⟩
          split
          · exact ⟨ho,rfl,rfl⟩
          split
          · exact ⟨ho,rfl,rfl⟩
          rename_i hs
          split
          · rename_i hkk; exact absurd hkk (hk _ rfl (Classical.not_not.1 hs))
          · exact ⟨ho,rfl,rfl⟩
        · exact ⟨ho,rfl,rfl⟩
      · exact ⟨ho,rfl,rfl⟩
    split
    · unfold readA; repeat' split
      all_goals exact ⟨ho,rfl,rfl⟩
    split
    · unfold writeA; repeat' split
      all_goals first | exact ⟨ho,rfl,rfl⟩ | (rename_i h _ _ _ _; rw [ho] at h; exact absurd rfl h)
    split
    · unfold forgetA; repeat' split
      all_goals exact ⟨ho,rfl,rfl⟩
    split
    · unfold maskA; repeat' split
      all_goals exact ⟨ho,rfl,rfl⟩
    split
    · unfold hereA; repeat' split
      all_goals exact ⟨ho,rfl,rfl⟩
    split
    · unfold handA; repeat' split
      all_goals first | exact ⟨ho,rfl,rfl⟩ | (rename_i h; rw [ho] at h; exact absurd rfl h)
    · exact ⟨ho,rfl,rfl⟩
end Go.Proofs.Ytcdmhigmgpflbaa.Pe

