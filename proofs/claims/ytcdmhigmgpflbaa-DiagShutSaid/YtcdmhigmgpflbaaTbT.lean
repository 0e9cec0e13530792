import Derived.Test.YtcdmhigmgpflbaaDT1
namespace Go.Proofs.Ytcdmhigmgpflbaa.Pe
open Go.Pe Go.RowKit
set_option maxRecDepth 20000
set_option linter.unusedSimpArgs false
set_option linter.unusedVariables false
/-- The table, where a slice of one's own that is cut stays one's own. -/
def tabT : Tab := fun t => if t = 31 then (tab t).map (fun ti => { ti with trunc := true }) else tab t
theorem tabTOK : TabOK Try.prog tabT := by
  intro t ti h
  unfold tabT at h
  split at h
  · obtain ⟨ti', h1, rfl⟩ := Option.map_eq_some_iff.1 h
    obtain ⟨q1, q2, q3, q4⟩ := tabOK t ti' h1
    exact ⟨q1, q2, q3, q4⟩
  · exact tabOK t ti h
theorem tabT_bytes : tabT 31 = some { ti31 with trunc := true } := rfl
theorem tabT_eq (t : Nat) : tabT t = if t = 31 then some { ti31 with trunc := true } else tab t := by
  unfold tabT
  split
  · rename_i h; subst h; rfl
  · rfl
end Go.Proofs.Ytcdmhigmgpflbaa.Pe
