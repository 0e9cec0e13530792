/-
  No cell of these rows narrows 'for every input' (looked for: loops, veiled, ifaces, maps, wideKeys, modest, calm, conditions, laid).
  DERIVED. THE GIVEN ROWS OF THIS SEAT. 11 by the template 'for every input the law returns true; each argument reads behind the call as it read before'; 0 by the template 'total and deterministic' (their statements: YtefcpcepgflhdaaTotals.lean).
  GIVEN WITH THE SEED: the statements are not yours to turn. If you find one false, say at which input.
  Laid BY PROGRAM, IN A SANDBOX (cutbox-rows.mjs): the forced cells as the released guide's own fill.sh prints them over the translation b2f5568f5aebc099… (all of the seat's roots in one cut). By AI agents, Wed Nov 11 2026. No macro, syntax, notation, axiom, sorry.
-/
import Derived.Test.YtefcpcepgflhdaaChecked
import GoSem.Claim
import GoSem.ClaimJoined
import GoSem.ClaimMapViews
import Derived.JoinedTies
import Derived.KernelRfl
namespace Go.Proofs.Ytefcpcepgflhdaa
/- THE CELL 'sum', in the pinned program and in every row, IS THE sha256 OF THE DUMP (.gsa) THAT YtefcpcepgflhdaaProg.lean LOADS. Nothing in Lean hashes anything: it is a label: what it is worth is what the hold of that sum in a sandbox is worth. -/
noncomputable def Try.pinned : Pinned := { name := "ytefcpcepgflhdaa", sum := "b2f5568f5aebc09983f8835c3ae31ef42f8811998706470082a2c766ab437ecc", checked := Try.checked }
namespace Rows
def none {H : Type} : Left H := { results := [], args := [] }

/-- 'phaetonlaw18.TpsendTells': WHATEVER THE INPUT: true; the input reads as it did. -/
def tpsendTellsSpec : ChangeSpec := { name := "tpsendTells", fn := fun _ => fun
  | [d1, d2] => { results := [.lit (.bool true)], args := [d1, d2] }
  | _ => none }
def tpsendTellsRow : OpenClaim := { program := "ytefcpcepgflhdaa", sum := "b2f5568f5aebc09983f8835c3ae31ef42f8811998706470082a2c766ab437ecc", func := "phaeton/phaetonlaw18.TpsendTells", spec := "tpsendTells", unfollowed := true, recurses := true, apart := false }
def TpsendTellsSaid : Prop := tpsendTellsRow.holds Try.pinned (OpenSpec.ofChange tpsendTellsSpec)

/-- ITS FALSE NEIGHBOUR: 'it returns false'. Refute it at one input. -/
def tpsendTellsWrong : ChangeSpec := { name := "tpsendTells", fn := fun _ => fun
  | [d1, d2] => { results := [.lit (.bool false)], args := [d1, d2] }
  | _ => none }
def TpsendTellsWrongFalsely : Prop := tpsendTellsRow.holds Try.pinned (OpenSpec.ofChange tpsendTellsWrong)

/-- 'phaetonlaw18.TpsendText': WHATEVER THE INPUT: true; the input reads as it did. -/
def tpsendTextSpec : ChangeSpec := { name := "tpsendText", fn := fun _ => fun
  | [d1, d2] => { results := [.lit (.bool true)], args := [d1, d2] }
  | _ => none }
def tpsendTextRow : OpenClaim := { program := "ytefcpcepgflhdaa", sum := "b2f5568f5aebc09983f8835c3ae31ef42f8811998706470082a2c766ab437ecc", func := "phaeton/phaetonlaw18.TpsendText", spec := "tpsendText", unfollowed := true, recurses := true, apart := false }
def TpsendTextSaid : Prop := tpsendTextRow.holds Try.pinned (OpenSpec.ofChange tpsendTextSpec)

/-- ITS FALSE NEIGHBOUR: 'it returns false'. Refute it at one input. -/
def tpsendTextWrong : ChangeSpec := { name := "tpsendText", fn := fun _ => fun
  | [d1, d2] => { results := [.lit (.bool false)], args := [d1, d2] }
  | _ => none }
def TpsendTextWrongFalsely : Prop := tpsendTextRow.holds Try.pinned (OpenSpec.ofChange tpsendTextWrong)

/-- 'phaetonlaw18.TpsendBlock': WHATEVER THE INPUT: true; the input reads as it did. -/
def tpsendBlockSpec : ChangeSpec := { name := "tpsendBlock", fn := fun _ => fun
  | [d1, d2] => { results := [.lit (.bool true)], args := [d1, d2] }
  | _ => none }
def tpsendBlockRow : OpenClaim := { program := "ytefcpcepgflhdaa", sum := "b2f5568f5aebc09983f8835c3ae31ef42f8811998706470082a2c766ab437ecc", func := "phaeton/phaetonlaw18.TpsendBlock", spec := "tpsendBlock", unfollowed := true, recurses := true, apart := false }
def TpsendBlockSaid : Prop := tpsendBlockRow.holds Try.pinned (OpenSpec.ofChange tpsendBlockSpec)

/-- ITS FALSE NEIGHBOUR: 'it returns false'. Refute it at one input. -/
def tpsendBlockWrong : ChangeSpec := { name := "tpsendBlock", fn := fun _ => fun
  | [d1, d2] => { results := [.lit (.bool false)], args := [d1, d2] }
  | _ => none }
def TpsendBlockWrongFalsely : Prop := tpsendBlockRow.holds Try.pinned (OpenSpec.ofChange tpsendBlockWrong)

/-- 'phaetonlaw18.TpsendGo': WHATEVER THE INPUT: true; the input reads as it did. -/
def tpsendGoSpec : ChangeSpec := { name := "tpsendGo", fn := fun _ => fun
  | [d1, d2] => { results := [.lit (.bool true)], args := [d1, d2] }
  | _ => none }
def tpsendGoRow : OpenClaim := { program := "ytefcpcepgflhdaa", sum := "b2f5568f5aebc09983f8835c3ae31ef42f8811998706470082a2c766ab437ecc", func := "phaeton/phaetonlaw18.TpsendGo", spec := "tpsendGo", unfollowed := true, recurses := true, apart := false }
def TpsendGoSaid : Prop := tpsendGoRow.holds Try.pinned (OpenSpec.ofChange tpsendGoSpec)

/-- ITS FALSE NEIGHBOUR: 'it returns false'. Refute it at one input. -/
def tpsendGoWrong : ChangeSpec := { name := "tpsendGo", fn := fun _ => fun
  | [d1, d2] => { results := [.lit (.bool false)], args := [d1, d2] }
  | _ => none }
def TpsendGoWrongFalsely : Prop := tpsendGoRow.holds Try.pinned (OpenSpec.ofChange tpsendGoWrong)

/-- 'phaetonlaw18.TpsendTime': WHATEVER THE INPUT: true; the input reads as it did. -/
def tpsendTimeSpec : ChangeSpec := { name := "tpsendTime", fn := fun _ => fun
  | [d1, d2, d3] => { results := [.lit (.bool true)], args := [d1, d2, d3] }
  | _ => none }
def tpsendTimeRow : OpenClaim := { program := "ytefcpcepgflhdaa", sum := "b2f5568f5aebc09983f8835c3ae31ef42f8811998706470082a2c766ab437ecc", func := "phaeton/phaetonlaw18.TpsendTime", spec := "tpsendTime", unfollowed := true, recurses := true, apart := false }
def TpsendTimeSaid : Prop := tpsendTimeRow.holds Try.pinned (OpenSpec.ofChange tpsendTimeSpec)

/-- ITS FALSE NEIGHBOUR: 'it returns false'. Refute it at one input. -/
def tpsendTimeWrong : ChangeSpec := { name := "tpsendTime", fn := fun _ => fun
  | [d1, d2, d3] => { results := [.lit (.bool false)], args := [d1, d2, d3] }
  | _ => none }
def TpsendTimeWrongFalsely : Prop := tpsendTimeRow.holds Try.pinned (OpenSpec.ofChange tpsendTimeWrong)

/-- 'phaetonlaw18.TpsendOver': WHATEVER THE INPUT: true; the input reads as it did. -/
def tpsendOverSpec : ChangeSpec := { name := "tpsendOver", fn := fun _ => fun
  | [d1, d2, d3] => { results := [.lit (.bool true)], args := [d1, d2, d3] }
  | _ => none }
def tpsendOverRow : OpenClaim := { program := "ytefcpcepgflhdaa", sum := "b2f5568f5aebc09983f8835c3ae31ef42f8811998706470082a2c766ab437ecc", func := "phaeton/phaetonlaw18.TpsendOver", spec := "tpsendOver", unfollowed := true, recurses := true, apart := false }
def TpsendOverSaid : Prop := tpsendOverRow.holds Try.pinned (OpenSpec.ofChange tpsendOverSpec)

/-- ITS FALSE NEIGHBOUR: 'it returns false'. Refute it at one input. -/
def tpsendOverWrong : ChangeSpec := { name := "tpsendOver", fn := fun _ => fun
  | [d1, d2, d3] => { results := [.lit (.bool false)], args := [d1, d2, d3] }
  | _ => none }
def TpsendOverWrongFalsely : Prop := tpsendOverRow.holds Try.pinned (OpenSpec.ofChange tpsendOverWrong)

/-- 'phaetonlaw18.TpsendPasses': WHATEVER THE INPUT: true; the input reads as it did. -/
def tpsendPassesSpec : ChangeSpec := { name := "tpsendPasses", fn := fun _ => fun
  | [d1, d2] => { results := [.lit (.bool true)], args := [d1, d2] }
  | _ => none }
def tpsendPassesRow : OpenClaim := { program := "ytefcpcepgflhdaa", sum := "b2f5568f5aebc09983f8835c3ae31ef42f8811998706470082a2c766ab437ecc", func := "phaeton/phaetonlaw18.TpsendPasses", spec := "tpsendPasses", unfollowed := true, recurses := true, apart := false }
def TpsendPassesSaid : Prop := tpsendPassesRow.holds Try.pinned (OpenSpec.ofChange tpsendPassesSpec)

/-- ITS FALSE NEIGHBOUR: 'it returns false'. Refute it at one input. -/
def tpsendPassesWrong : ChangeSpec := { name := "tpsendPasses", fn := fun _ => fun
  | [d1, d2] => { results := [.lit (.bool false)], args := [d1, d2] }
  | _ => none }
def TpsendPassesWrongFalsely : Prop := tpsendPassesRow.holds Try.pinned (OpenSpec.ofChange tpsendPassesWrong)

/-- 'phaetonlaw17.TpWhole': WHATEVER THE INPUT: true; the input reads as it did. -/
def tpWholeSpec : ChangeSpec := { name := "tpWhole", fn := fun _ => fun
  | [d] => { results := [.lit (.bool true)], args := [d] }
  | _ => none }
def tpWholeRow : OpenClaim := { program := "ytefcpcepgflhdaa", sum := "b2f5568f5aebc09983f8835c3ae31ef42f8811998706470082a2c766ab437ecc", func := "phaeton/phaetonlaw17.TpWhole", spec := "tpWhole", unfollowed := true, recurses := true, apart := false }
def TpWholeSaid : Prop := tpWholeRow.holds Try.pinned (OpenSpec.ofChange tpWholeSpec)

/-- ITS FALSE NEIGHBOUR: 'it returns false'. Refute it at one input. -/
def tpWholeWrong : ChangeSpec := { name := "tpWhole", fn := fun _ => fun
  | [d] => { results := [.lit (.bool false)], args := [d] }
  | _ => none }
def TpWholeWrongFalsely : Prop := tpWholeRow.holds Try.pinned (OpenSpec.ofChange tpWholeWrong)

/-- 'phaetonlaw17.TpNumbers': WHATEVER THE INPUT: true; the input reads as it did. -/
def tpNumbersSpec : ChangeSpec := { name := "tpNumbers", fn := fun _ => fun
  | [d] => { results := [.lit (.bool true)], args := [d] }
  | _ => none }
def tpNumbersRow : OpenClaim := { program := "ytefcpcepgflhdaa", sum := "b2f5568f5aebc09983f8835c3ae31ef42f8811998706470082a2c766ab437ecc", func := "phaeton/phaetonlaw17.TpNumbers", spec := "tpNumbers", unfollowed := true, recurses := true, apart := false }
def TpNumbersSaid : Prop := tpNumbersRow.holds Try.pinned (OpenSpec.ofChange tpNumbersSpec)

/-- ITS FALSE NEIGHBOUR: 'it returns false'. Refute it at one input. -/
def tpNumbersWrong : ChangeSpec := { name := "tpNumbers", fn := fun _ => fun
  | [d] => { results := [.lit (.bool false)], args := [d] }
  | _ => none }
def TpNumbersWrongFalsely : Prop := tpNumbersRow.holds Try.pinned (OpenSpec.ofChange tpNumbersWrong)

/-- 'phaetonlaw17.TpKinds': WHATEVER THE INPUT: true; the input reads as it did. -/
def tpKindsSpec : ChangeSpec := { name := "tpKinds", fn := fun _ => fun
  | [d] => { results := [.lit (.bool true)], args := [d] }
  | _ => none }
def tpKindsRow : OpenClaim := { program := "ytefcpcepgflhdaa", sum := "b2f5568f5aebc09983f8835c3ae31ef42f8811998706470082a2c766ab437ecc", func := "phaeton/phaetonlaw17.TpKinds", spec := "tpKinds", unfollowed := true, recurses := true, apart := false }
def TpKindsSaid : Prop := tpKindsRow.holds Try.pinned (OpenSpec.ofChange tpKindsSpec)

/-- ITS FALSE NEIGHBOUR: 'it returns false'. Refute it at one input. -/
def tpKindsWrong : ChangeSpec := { name := "tpKinds", fn := fun _ => fun
  | [d] => { results := [.lit (.bool false)], args := [d] }
  | _ => none }
def TpKindsWrongFalsely : Prop := tpKindsRow.holds Try.pinned (OpenSpec.ofChange tpKindsWrong)

/-- 'phaetonlaw17.TpApart': WHATEVER THE INPUT: true; the input reads as it did. -/
def tpApartSpec : ChangeSpec := { name := "tpApart", fn := fun _ => fun
  | [d1, d2, d3, d4] => { results := [.lit (.bool true)], args := [d1, d2, d3, d4] }
  | _ => none }
def tpApartRow : OpenClaim := { program := "ytefcpcepgflhdaa", sum := "b2f5568f5aebc09983f8835c3ae31ef42f8811998706470082a2c766ab437ecc", func := "phaeton/phaetonlaw17.TpApart", spec := "tpApart", unfollowed := true, recurses := true, apart := false }
def TpApartSaid : Prop := tpApartRow.holds Try.pinned (OpenSpec.ofChange tpApartSpec)

/-- ITS FALSE NEIGHBOUR: 'it returns false'. Refute it at one input. -/
def tpApartWrong : ChangeSpec := { name := "tpApart", fn := fun _ => fun
  | [d1, d2, d3, d4] => { results := [.lit (.bool false)], args := [d1, d2, d3, d4] }
  | _ => none }
def TpApartWrongFalsely : Prop := tpApartRow.holds Try.pinned (OpenSpec.ofChange tpApartWrong)

/- THE SECOND FORM. 'bulk': how many values and letters a reading holds, each counted each time it is reached (what is shared counts as often as it is met; a slice's spare places count too). A statement '..UptoSaid' is the law's where the arguments, and the package variables that the reading takes, are together of bulk at most 1048576: NARROWER than '..Said'. Prove '..Said' where nothing that the law and all that it calls make is longer than what came in: it says more and counts as full. Else prove '..UptoSaid'. A law counts once. -/
mutual
def uptoBulk {H : Type} : DataW H → Nat
  | .lit (.string bytes) => bytes.length + 1
  | .lit _ => 1
  | .nil => 1
  | .ptr d => uptoBulk d + 1
  | .slice elems spare => uptoBulkAll elems + uptoBulkAll spare + 1
  | .agg parts => uptoBulkAll parts + 1
  | .iface _ d => uptoBulk d + 1
  | .map entries => uptoBulkEntries entries + 1
  | .held _ => 1
def uptoBulkAll {H : Type} : List (DataW H) → Nat
  | [] => 0
  | d :: r => uptoBulk d + uptoBulkAll r
def uptoBulkEntries {H : Type} : List (Lit × DataW H) → Nat
  | [] => 0
  | x :: r => uptoBulkEntry x + uptoBulkEntries r
def uptoBulkEntry {H : Type} : Lit × DataW H → Nat
  | (.string bytes, d) => bytes.length + uptoBulk d + 1
  | (_, d) => uptoBulk d + 1
 end
def uptoSmall : (H : Type) → List (DataW H) → Bool := fun _ ds => decide (uptoBulkAll ds ≤ 1048576)
def OpenSpec.upto (s : _root_.Go.ChangeSpec) : _root_.Go.OpenSpec := { _root_.Go.OpenSpec.ofChange s with cond := some uptoSmall }

/-- 'phaetonlaw18.TpsendTells', WHERE WHAT IT READS IS OF BULK AT MOST 1048576: true; the input reads as it did. -/
def tpsendTellsUptoRow : OpenClaim := { program := "ytefcpcepgflhdaa", sum := "b2f5568f5aebc09983f8835c3ae31ef42f8811998706470082a2c766ab437ecc", func := "phaeton/phaetonlaw18.TpsendTells", spec := "tpsendTells", unfollowed := true, recurses := true, apart := false, narrowed := true }
def TpsendTellsUptoSaid : Prop := tpsendTellsUptoRow.holds Try.pinned (OpenSpec.upto tpsendTellsSpec)

/-- 'phaetonlaw18.TpsendText', WHERE WHAT IT READS IS OF BULK AT MOST 1048576: true; the input reads as it did. -/
def tpsendTextUptoRow : OpenClaim := { program := "ytefcpcepgflhdaa", sum := "b2f5568f5aebc09983f8835c3ae31ef42f8811998706470082a2c766ab437ecc", func := "phaeton/phaetonlaw18.TpsendText", spec := "tpsendText", unfollowed := true, recurses := true, apart := false, narrowed := true }
def TpsendTextUptoSaid : Prop := tpsendTextUptoRow.holds Try.pinned (OpenSpec.upto tpsendTextSpec)

/-- 'phaetonlaw18.TpsendBlock', WHERE WHAT IT READS IS OF BULK AT MOST 1048576: true; the input reads as it did. -/
def tpsendBlockUptoRow : OpenClaim := { program := "ytefcpcepgflhdaa", sum := "b2f5568f5aebc09983f8835c3ae31ef42f8811998706470082a2c766ab437ecc", func := "phaeton/phaetonlaw18.TpsendBlock", spec := "tpsendBlock", unfollowed := true, recurses := true, apart := false, narrowed := true }
def TpsendBlockUptoSaid : Prop := tpsendBlockUptoRow.holds Try.pinned (OpenSpec.upto tpsendBlockSpec)

/-- 'phaetonlaw18.TpsendGo', WHERE WHAT IT READS IS OF BULK AT MOST 1048576: true; the input reads as it did. -/
def tpsendGoUptoRow : OpenClaim := { program := "ytefcpcepgflhdaa", sum := "b2f5568f5aebc09983f8835c3ae31ef42f8811998706470082a2c766ab437ecc", func := "phaeton/phaetonlaw18.TpsendGo", spec := "tpsendGo", unfollowed := true, recurses := true, apart := false, narrowed := true }
def TpsendGoUptoSaid : Prop := tpsendGoUptoRow.holds Try.pinned (OpenSpec.upto tpsendGoSpec)

/-- 'phaetonlaw18.TpsendTime', WHERE WHAT IT READS IS OF BULK AT MOST 1048576: true; the input reads as it did. -/
def tpsendTimeUptoRow : OpenClaim := { program := "ytefcpcepgflhdaa", sum := "b2f5568f5aebc09983f8835c3ae31ef42f8811998706470082a2c766ab437ecc", func := "phaeton/phaetonlaw18.TpsendTime", spec := "tpsendTime", unfollowed := true, recurses := true, apart := false, narrowed := true }
def TpsendTimeUptoSaid : Prop := tpsendTimeUptoRow.holds Try.pinned (OpenSpec.upto tpsendTimeSpec)

/-- 'phaetonlaw18.TpsendOver', WHERE WHAT IT READS IS OF BULK AT MOST 1048576: true; the input reads as it did. -/
def tpsendOverUptoRow : OpenClaim := { program := "ytefcpcepgflhdaa", sum := "b2f5568f5aebc09983f8835c3ae31ef42f8811998706470082a2c766ab437ecc", func := "phaeton/phaetonlaw18.TpsendOver", spec := "tpsendOver", unfollowed := true, recurses := true, apart := false, narrowed := true }
def TpsendOverUptoSaid : Prop := tpsendOverUptoRow.holds Try.pinned (OpenSpec.upto tpsendOverSpec)

/-- 'phaetonlaw18.TpsendPasses', WHERE WHAT IT READS IS OF BULK AT MOST 1048576: true; the input reads as it did. -/
def tpsendPassesUptoRow : OpenClaim := { program := "ytefcpcepgflhdaa", sum := "b2f5568f5aebc09983f8835c3ae31ef42f8811998706470082a2c766ab437ecc", func := "phaeton/phaetonlaw18.TpsendPasses", spec := "tpsendPasses", unfollowed := true, recurses := true, apart := false, narrowed := true }
def TpsendPassesUptoSaid : Prop := tpsendPassesUptoRow.holds Try.pinned (OpenSpec.upto tpsendPassesSpec)

/-- 'phaetonlaw17.TpWhole', WHERE WHAT IT READS IS OF BULK AT MOST 1048576: true; the input reads as it did. -/
def tpWholeUptoRow : OpenClaim := { program := "ytefcpcepgflhdaa", sum := "b2f5568f5aebc09983f8835c3ae31ef42f8811998706470082a2c766ab437ecc", func := "phaeton/phaetonlaw17.TpWhole", spec := "tpWhole", unfollowed := true, recurses := true, apart := false, narrowed := true }
def TpWholeUptoSaid : Prop := tpWholeUptoRow.holds Try.pinned (OpenSpec.upto tpWholeSpec)

/-- 'phaetonlaw17.TpNumbers', WHERE WHAT IT READS IS OF BULK AT MOST 1048576: true; the input reads as it did. -/
def tpNumbersUptoRow : OpenClaim := { program := "ytefcpcepgflhdaa", sum := "b2f5568f5aebc09983f8835c3ae31ef42f8811998706470082a2c766ab437ecc", func := "phaeton/phaetonlaw17.TpNumbers", spec := "tpNumbers", unfollowed := true, recurses := true, apart := false, narrowed := true }
def TpNumbersUptoSaid : Prop := tpNumbersUptoRow.holds Try.pinned (OpenSpec.upto tpNumbersSpec)

/-- 'phaetonlaw17.TpKinds', WHERE WHAT IT READS IS OF BULK AT MOST 1048576: true; the input reads as it did. -/
def tpKindsUptoRow : OpenClaim := { program := "ytefcpcepgflhdaa", sum := "b2f5568f5aebc09983f8835c3ae31ef42f8811998706470082a2c766ab437ecc", func := "phaeton/phaetonlaw17.TpKinds", spec := "tpKinds", unfollowed := true, recurses := true, apart := false, narrowed := true }
def TpKindsUptoSaid : Prop := tpKindsUptoRow.holds Try.pinned (OpenSpec.upto tpKindsSpec)

/-- 'phaetonlaw17.TpApart', WHERE WHAT IT READS IS OF BULK AT MOST 1048576: true; the input reads as it did. -/
def tpApartUptoRow : OpenClaim := { program := "ytefcpcepgflhdaa", sum := "b2f5568f5aebc09983f8835c3ae31ef42f8811998706470082a2c766ab437ecc", func := "phaeton/phaetonlaw17.TpApart", spec := "tpApart", unfollowed := true, recurses := true, apart := false, narrowed := true }
def TpApartUptoSaid : Prop := tpApartUptoRow.holds Try.pinned (OpenSpec.upto tpApartSpec)

end Rows
end Go.Proofs.Ytefcpcepgflhdaa
