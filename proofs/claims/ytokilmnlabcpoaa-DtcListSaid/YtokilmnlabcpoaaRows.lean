/-
  No cell of these rows narrows 'for every input' (looked for: loops, veiled, ifaces, maps, wideKeys, modest, calm, conditions, laid).
  DERIVED. THE GIVEN ROWS OF THIS SEAT. 15 by the template 'for every input the law returns true; each argument reads behind the call as it read before'; 0 by the template 'total and deterministic' (their statements: YtokilmnlabcpoaaTotals.lean).
  GIVEN WITH THE SEED: the statements are not yours to turn. If you find one false, say at which input.
  Laid BY PROGRAM, IN A SANDBOX (cutbox-rows.mjs): the forced cells as the released guide's own fill.sh prints them over the translation cc66181895216bd0… (all of the seat's roots in one cut). By AI agents, Wed Nov 11 2026. No macro, syntax, notation, axiom, sorry.
-/
import Derived.Test.YtokilmnlabcpoaaChecked
import GoSem.Claim
import GoSem.ClaimJoined
import GoSem.ClaimMapViews
import Derived.JoinedTies
import Derived.KernelRfl
namespace Go.Proofs.Ytokilmnlabcpoaa
/- THE CELL 'sum', in the pinned program and in every row, IS THE sha256 OF THE DUMP (.gsa) THAT YtokilmnlabcpoaaProg.lean LOADS. Nothing in Lean hashes anything: it is a label: what it is worth is what the hold of that sum in a sandbox is worth. -/
noncomputable def Try.pinned : Pinned := { name := "ytokilmnlabcpoaa", sum := "cc66181895216bd07d9e2c49d77b3f795756bd983daa28e435dc13da5d3322c0", checked := Try.checked }
namespace Rows
def none {H : Type} : Left H := { results := [], args := [] }

/-- 'phaetonlaw22.DiagTells': WHATEVER THE INPUT: true; the input reads as it did. -/
def diagTellsSpec : ChangeSpec := { name := "diagTells", fn := fun _ => fun
  | [d1, d2, d3] => { results := [.lit (.bool true)], args := [d1, d2, d3] }
  | _ => none }
def diagTellsRow : OpenClaim := { program := "ytokilmnlabcpoaa", sum := "cc66181895216bd07d9e2c49d77b3f795756bd983daa28e435dc13da5d3322c0", func := "phaeton/phaetonlaw22.DiagTells", spec := "diagTells", unfollowed := true, recurses := true, apart := false }
def DiagTellsSaid : Prop := diagTellsRow.holds Try.pinned (OpenSpec.ofChange diagTellsSpec)

/-- ITS FALSE NEIGHBOUR: 'it returns false'. Refute it at one input. -/
def diagTellsWrong : ChangeSpec := { name := "diagTells", fn := fun _ => fun
  | [d1, d2, d3] => { results := [.lit (.bool false)], args := [d1, d2, d3] }
  | _ => none }
def DiagTellsWrongFalsely : Prop := diagTellsRow.holds Try.pinned (OpenSpec.ofChange diagTellsWrong)

/-- 'phaetonlaw22.DiagShut': WHATEVER THE INPUT: true; the input reads as it did. -/
def diagShutSpec : ChangeSpec := { name := "diagShut", fn := fun _ => fun
  | [d1, d2] => { results := [.lit (.bool true)], args := [d1, d2] }
  | _ => none }
def diagShutRow : OpenClaim := { program := "ytokilmnlabcpoaa", sum := "cc66181895216bd07d9e2c49d77b3f795756bd983daa28e435dc13da5d3322c0", func := "phaeton/phaetonlaw22.DiagShut", spec := "diagShut", unfollowed := true, recurses := true, apart := false }
def DiagShutSaid : Prop := diagShutRow.holds Try.pinned (OpenSpec.ofChange diagShutSpec)

/-- ITS FALSE NEIGHBOUR: 'it returns false'. Refute it at one input. -/
def diagShutWrong : ChangeSpec := { name := "diagShut", fn := fun _ => fun
  | [d1, d2] => { results := [.lit (.bool false)], args := [d1, d2] }
  | _ => none }
def DiagShutWrongFalsely : Prop := diagShutRow.holds Try.pinned (OpenSpec.ofChange diagShutWrong)

/-- 'phaetonlaw22.DiagOpens': WHATEVER THE INPUT: true; the input reads as it did. -/
def diagOpensSpec : ChangeSpec := { name := "diagOpens", fn := fun _ => fun
  | [d1, d2, d3] => { results := [.lit (.bool true)], args := [d1, d2, d3] }
  | _ => none }
def diagOpensRow : OpenClaim := { program := "ytokilmnlabcpoaa", sum := "cc66181895216bd07d9e2c49d77b3f795756bd983daa28e435dc13da5d3322c0", func := "phaeton/phaetonlaw22.DiagOpens", spec := "diagOpens", unfollowed := true, recurses := true, apart := false }
def DiagOpensSaid : Prop := diagOpensRow.holds Try.pinned (OpenSpec.ofChange diagOpensSpec)

/-- ITS FALSE NEIGHBOUR: 'it returns false'. Refute it at one input. -/
def diagOpensWrong : ChangeSpec := { name := "diagOpens", fn := fun _ => fun
  | [d1, d2, d3] => { results := [.lit (.bool false)], args := [d1, d2, d3] }
  | _ => none }
def DiagOpensWrongFalsely : Prop := diagOpensRow.holds Try.pinned (OpenSpec.ofChange diagOpensWrong)

/-- 'phaetonlaw22.DiagGuess': WHATEVER THE INPUT: true; the input reads as it did. -/
def diagGuessSpec : ChangeSpec := { name := "diagGuess", fn := fun _ => fun
  | [d1, d2, d3] => { results := [.lit (.bool true)], args := [d1, d2, d3] }
  | _ => none }
def diagGuessRow : OpenClaim := { program := "ytokilmnlabcpoaa", sum := "cc66181895216bd07d9e2c49d77b3f795756bd983daa28e435dc13da5d3322c0", func := "phaeton/phaetonlaw22.DiagGuess", spec := "diagGuess", unfollowed := true, recurses := true, apart := false }
def DiagGuessSaid : Prop := diagGuessRow.holds Try.pinned (OpenSpec.ofChange diagGuessSpec)

/-- ITS FALSE NEIGHBOUR: 'it returns false'. Refute it at one input. -/
def diagGuessWrong : ChangeSpec := { name := "diagGuess", fn := fun _ => fun
  | [d1, d2, d3] => { results := [.lit (.bool false)], args := [d1, d2, d3] }
  | _ => none }
def DiagGuessWrongFalsely : Prop := diagGuessRow.holds Try.pinned (OpenSpec.ofChange diagGuessWrong)

/-- 'phaetonlaw22.DiagQuiet': WHATEVER THE INPUT: true; the input reads as it did. -/
def diagQuietSpec : ChangeSpec := { name := "diagQuiet", fn := fun _ => fun
  | [d1, d2, d3] => { results := [.lit (.bool true)], args := [d1, d2, d3] }
  | _ => none }
def diagQuietRow : OpenClaim := { program := "ytokilmnlabcpoaa", sum := "cc66181895216bd07d9e2c49d77b3f795756bd983daa28e435dc13da5d3322c0", func := "phaeton/phaetonlaw22.DiagQuiet", spec := "diagQuiet", unfollowed := true, recurses := true, apart := false }
def DiagQuietSaid : Prop := diagQuietRow.holds Try.pinned (OpenSpec.ofChange diagQuietSpec)

/-- ITS FALSE NEIGHBOUR: 'it returns false'. Refute it at one input. -/
def diagQuietWrong : ChangeSpec := { name := "diagQuiet", fn := fun _ => fun
  | [d1, d2, d3] => { results := [.lit (.bool false)], args := [d1, d2, d3] }
  | _ => none }
def DiagQuietWrongFalsely : Prop := diagQuietRow.holds Try.pinned (OpenSpec.ofChange diagQuietWrong)

/-- 'phaetonlaw22.DiagAnswers': WHATEVER THE INPUT: true; the input reads as it did. -/
def diagAnswersSpec : ChangeSpec := { name := "diagAnswers", fn := fun _ => fun
  | [d1, d2] => { results := [.lit (.bool true)], args := [d1, d2] }
  | _ => none }
def diagAnswersRow : OpenClaim := { program := "ytokilmnlabcpoaa", sum := "cc66181895216bd07d9e2c49d77b3f795756bd983daa28e435dc13da5d3322c0", func := "phaeton/phaetonlaw22.DiagAnswers", spec := "diagAnswers", unfollowed := true, recurses := true, apart := false }
def DiagAnswersSaid : Prop := diagAnswersRow.holds Try.pinned (OpenSpec.ofChange diagAnswersSpec)

/-- ITS FALSE NEIGHBOUR: 'it returns false'. Refute it at one input. -/
def diagAnswersWrong : ChangeSpec := { name := "diagAnswers", fn := fun _ => fun
  | [d1, d2] => { results := [.lit (.bool false)], args := [d1, d2] }
  | _ => none }
def DiagAnswersWrongFalsely : Prop := diagAnswersRow.holds Try.pinned (OpenSpec.ofChange diagAnswersWrong)

/-- 'phaetonlaw22.DiagHands': WHATEVER THE INPUT: true; the input reads as it did. -/
def diagHandsSpec : ChangeSpec := { name := "diagHands", fn := fun _ => fun
  | [d1, d2] => { results := [.lit (.bool true)], args := [d1, d2] }
  | _ => none }
def diagHandsRow : OpenClaim := { program := "ytokilmnlabcpoaa", sum := "cc66181895216bd07d9e2c49d77b3f795756bd983daa28e435dc13da5d3322c0", func := "phaeton/phaetonlaw22.DiagHands", spec := "diagHands", unfollowed := true, recurses := true, apart := false }
def DiagHandsSaid : Prop := diagHandsRow.holds Try.pinned (OpenSpec.ofChange diagHandsSpec)

/-- ITS FALSE NEIGHBOUR: 'it returns false'. Refute it at one input. -/
def diagHandsWrong : ChangeSpec := { name := "diagHands", fn := fun _ => fun
  | [d1, d2] => { results := [.lit (.bool false)], args := [d1, d2] }
  | _ => none }
def DiagHandsWrongFalsely : Prop := diagHandsRow.holds Try.pinned (OpenSpec.ofChange diagHandsWrong)

/-- 'phaetonlaw22.DiagKey': WHATEVER THE INPUT: true; the input reads as it did. -/
def diagKeySpec : ChangeSpec := { name := "diagKey", fn := fun _ => fun
  | [d1, d2, d3] => { results := [.lit (.bool true)], args := [d1, d2, d3] }
  | _ => none }
def diagKeyRow : OpenClaim := { program := "ytokilmnlabcpoaa", sum := "cc66181895216bd07d9e2c49d77b3f795756bd983daa28e435dc13da5d3322c0", func := "phaeton/phaetonlaw22.DiagKey", spec := "diagKey", unfollowed := true, recurses := true, apart := false }
def DiagKeySaid : Prop := diagKeyRow.holds Try.pinned (OpenSpec.ofChange diagKeySpec)

/-- ITS FALSE NEIGHBOUR: 'it returns false'. Refute it at one input. -/
def diagKeyWrong : ChangeSpec := { name := "diagKey", fn := fun _ => fun
  | [d1, d2, d3] => { results := [.lit (.bool false)], args := [d1, d2, d3] }
  | _ => none }
def DiagKeyWrongFalsely : Prop := diagKeyRow.holds Try.pinned (OpenSpec.ofChange diagKeyWrong)

/-- 'phaetonlaw21.DtcTells': WHATEVER THE INPUT: true; the input reads as it did. -/
def dtcTellsSpec : ChangeSpec := { name := "dtcTells", fn := fun _ => fun
  | [d1, d2, d3, d4] => { results := [.lit (.bool true)], args := [d1, d2, d3, d4] }
  | _ => none }
def dtcTellsRow : OpenClaim := { program := "ytokilmnlabcpoaa", sum := "cc66181895216bd07d9e2c49d77b3f795756bd983daa28e435dc13da5d3322c0", func := "phaeton/phaetonlaw21.DtcTells", spec := "dtcTells", inPlace := ["slices.overlaps[phaeton/api.Trouble]"], unfollowed := true, recurses := true, apart := false }
def DtcTellsSaid : Prop := dtcTellsRow.holds Try.pinned (OpenSpec.ofChange dtcTellsSpec)

/-- ITS FALSE NEIGHBOUR: 'it returns false'. Refute it at one input. -/
def dtcTellsWrong : ChangeSpec := { name := "dtcTells", fn := fun _ => fun
  | [d1, d2, d3, d4] => { results := [.lit (.bool false)], args := [d1, d2, d3, d4] }
  | _ => none }
def DtcTellsWrongFalsely : Prop := dtcTellsRow.holds Try.pinned (OpenSpec.ofChange dtcTellsWrong)

/-- 'phaetonlaw21.DtcRight': WHATEVER THE INPUT: true; the input reads as it did. -/
def dtcRightSpec : ChangeSpec := { name := "dtcRight", fn := fun _ => fun
  | [d1, d2, d3] => { results := [.lit (.bool true)], args := [d1, d2, d3] }
  | _ => none }
def dtcRightRow : OpenClaim := { program := "ytokilmnlabcpoaa", sum := "cc66181895216bd07d9e2c49d77b3f795756bd983daa28e435dc13da5d3322c0", func := "phaeton/phaetonlaw21.DtcRight", spec := "dtcRight", inPlace := ["slices.overlaps[phaeton/api.Trouble]"], unfollowed := true, recurses := true, apart := false }
def DtcRightSaid : Prop := dtcRightRow.holds Try.pinned (OpenSpec.ofChange dtcRightSpec)

/-- ITS FALSE NEIGHBOUR: 'it returns false'. Refute it at one input. -/
def dtcRightWrong : ChangeSpec := { name := "dtcRight", fn := fun _ => fun
  | [d1, d2, d3] => { results := [.lit (.bool false)], args := [d1, d2, d3] }
  | _ => none }
def DtcRightWrongFalsely : Prop := dtcRightRow.holds Try.pinned (OpenSpec.ofChange dtcRightWrong)

/-- 'phaetonlaw21.DtcStrength': WHATEVER THE INPUT: true; the input reads as it did. -/
def dtcStrengthSpec : ChangeSpec := { name := "dtcStrength", fn := fun _ => fun
  | [d1, d2, d3] => { results := [.lit (.bool true)], args := [d1, d2, d3] }
  | _ => none }
def dtcStrengthRow : OpenClaim := { program := "ytokilmnlabcpoaa", sum := "cc66181895216bd07d9e2c49d77b3f795756bd983daa28e435dc13da5d3322c0", func := "phaeton/phaetonlaw21.DtcStrength", spec := "dtcStrength", inPlace := ["slices.overlaps[phaeton/api.Trouble]"], unfollowed := true, recurses := true, apart := false }
def DtcStrengthSaid : Prop := dtcStrengthRow.holds Try.pinned (OpenSpec.ofChange dtcStrengthSpec)

/-- ITS FALSE NEIGHBOUR: 'it returns false'. Refute it at one input. -/
def dtcStrengthWrong : ChangeSpec := { name := "dtcStrength", fn := fun _ => fun
  | [d1, d2, d3] => { results := [.lit (.bool false)], args := [d1, d2, d3] }
  | _ => none }
def DtcStrengthWrongFalsely : Prop := dtcStrengthRow.holds Try.pinned (OpenSpec.ofChange dtcStrengthWrong)

/-- 'phaetonlaw21.DtcConfirmed': WHATEVER THE INPUT: true; the input reads as it did. -/
def dtcConfirmedSpec : ChangeSpec := { name := "dtcConfirmed", fn := fun _ => fun
  | [d1, d2] => { results := [.lit (.bool true)], args := [d1, d2] }
  | _ => none }
def dtcConfirmedRow : OpenClaim := { program := "ytokilmnlabcpoaa", sum := "cc66181895216bd07d9e2c49d77b3f795756bd983daa28e435dc13da5d3322c0", func := "phaeton/phaetonlaw21.DtcConfirmed", spec := "dtcConfirmed", inPlace := ["slices.overlaps[phaeton/api.Trouble]"], unfollowed := true, recurses := true, apart := false }
def DtcConfirmedSaid : Prop := dtcConfirmedRow.holds Try.pinned (OpenSpec.ofChange dtcConfirmedSpec)

/-- ITS FALSE NEIGHBOUR: 'it returns false'. Refute it at one input. -/
def dtcConfirmedWrong : ChangeSpec := { name := "dtcConfirmed", fn := fun _ => fun
  | [d1, d2] => { results := [.lit (.bool false)], args := [d1, d2] }
  | _ => none }
def DtcConfirmedWrongFalsely : Prop := dtcConfirmedRow.holds Try.pinned (OpenSpec.ofChange dtcConfirmedWrong)

/-- 'phaetonlaw21.DtcList': WHATEVER THE INPUT: true; the input reads as it did. -/
def dtcListSpec : ChangeSpec := { name := "dtcList", fn := fun _ => fun
  | [d1, d2] => { results := [.lit (.bool true)], args := [d1, d2] }
  | _ => none }
def dtcListRow : OpenClaim := { program := "ytokilmnlabcpoaa", sum := "cc66181895216bd07d9e2c49d77b3f795756bd983daa28e435dc13da5d3322c0", func := "phaeton/phaetonlaw21.DtcList", spec := "dtcList", inPlace := ["slices.overlaps[phaeton/api.Trouble]"], unfollowed := true, recurses := true, apart := false }
def DtcListSaid : Prop := dtcListRow.holds Try.pinned (OpenSpec.ofChange dtcListSpec)

/-- ITS FALSE NEIGHBOUR: 'it returns false'. Refute it at one input. -/
def dtcListWrong : ChangeSpec := { name := "dtcList", fn := fun _ => fun
  | [d1, d2] => { results := [.lit (.bool false)], args := [d1, d2] }
  | _ => none }
def DtcListWrongFalsely : Prop := dtcListRow.holds Try.pinned (OpenSpec.ofChange dtcListWrong)

/-- 'phaetonlaw21.DtcApart': WHATEVER THE INPUT: true; the input reads as it did. -/
def dtcApartSpec : ChangeSpec := { name := "dtcApart", fn := fun _ => fun
  | [d1, d2, d3, d4, d5] => { results := [.lit (.bool true)], args := [d1, d2, d3, d4, d5] }
  | _ => none }
def dtcApartRow : OpenClaim := { program := "ytokilmnlabcpoaa", sum := "cc66181895216bd07d9e2c49d77b3f795756bd983daa28e435dc13da5d3322c0", func := "phaeton/phaetonlaw21.DtcApart", spec := "dtcApart", inPlace := ["slices.overlaps[phaeton/api.Trouble]"], unfollowed := true, recurses := true, apart := false }
def DtcApartSaid : Prop := dtcApartRow.holds Try.pinned (OpenSpec.ofChange dtcApartSpec)

/-- ITS FALSE NEIGHBOUR: 'it returns false'. Refute it at one input. -/
def dtcApartWrong : ChangeSpec := { name := "dtcApart", fn := fun _ => fun
  | [d1, d2, d3, d4, d5] => { results := [.lit (.bool false)], args := [d1, d2, d3, d4, d5] }
  | _ => none }
def DtcApartWrongFalsely : Prop := dtcApartRow.holds Try.pinned (OpenSpec.ofChange dtcApartWrong)

/-- 'phaetonlaw21.DtcRides': WHATEVER THE INPUT: true; the input reads as it did. -/
def dtcRidesSpec : ChangeSpec := { name := "dtcRides", fn := fun _ => fun
  | [d1, d2, d3] => { results := [.lit (.bool true)], args := [d1, d2, d3] }
  | _ => none }
def dtcRidesRow : OpenClaim := { program := "ytokilmnlabcpoaa", sum := "cc66181895216bd07d9e2c49d77b3f795756bd983daa28e435dc13da5d3322c0", func := "phaeton/phaetonlaw21.DtcRides", spec := "dtcRides", inPlace := ["slices.overlaps[phaeton/api.Trouble]"], unfollowed := true, recurses := true, apart := false }
def DtcRidesSaid : Prop := dtcRidesRow.holds Try.pinned (OpenSpec.ofChange dtcRidesSpec)

/-- ITS FALSE NEIGHBOUR: 'it returns false'. Refute it at one input. -/
def dtcRidesWrong : ChangeSpec := { name := "dtcRides", fn := fun _ => fun
  | [d1, d2, d3] => { results := [.lit (.bool false)], args := [d1, d2, d3] }
  | _ => none }
def DtcRidesWrongFalsely : Prop := dtcRidesRow.holds Try.pinned (OpenSpec.ofChange dtcRidesWrong)

/- THE SECOND FORM. 'bulk': how many values and letters a reading holds, each counted each time it is reached (what is shared counts as often as it is met; a slice's spare places count too). A statement '..UptoSaid' is the law's where the arguments, and the package variables that the reading takes, are together of bulk at most 1048576: NARROWER than '..Said'. Prove '..Said' where nothing that the law and all that it calls make is longer than what came in: it says more and counts as full. Else prove '..UptoSaid'. A law counts once. -/
mutual
def uptoBulk {H : Type} : DataW H → Nat
  | .lit (.string bytes) => bytes.length + 1
  | .lit _ => 1
  | .nil => 1
  | .ptr d => uptoBulk d + 1
  | .slice elems spare => uptoBulkAll elems + uptoBulkAll spare + 1
  | .agg parts => uptoBulkAll parts + 1
  | .iface _ d => uptoBulk d + 1
  | .map entries => uptoBulkEntries entries + 1
  | .held _ => 1
def uptoBulkAll {H : Type} : List (DataW H) → Nat
  | [] => 0
  | d :: r => uptoBulk d + uptoBulkAll r
def uptoBulkEntries {H : Type} : List (Lit × DataW H) → Nat
  | [] => 0
  | x :: r => uptoBulkEntry x + uptoBulkEntries r
def uptoBulkEntry {H : Type} : Lit × DataW H → Nat
  | (.string bytes, d) => bytes.length + uptoBulk d + 1
  | (_, d) => uptoBulk d + 1
 end
def uptoSmall : (H : Type) → List (DataW H) → Bool := fun _ ds => decide (uptoBulkAll ds ≤ 1048576)
def OpenSpec.upto (s : _root_.Go.ChangeSpec) : _root_.Go.OpenSpec := { _root_.Go.OpenSpec.ofChange s with cond := some uptoSmall }

/-- 'phaetonlaw22.DiagTells', WHERE WHAT IT READS IS OF BULK AT MOST 1048576: true; the input reads as it did. -/
def diagTellsUptoRow : OpenClaim := { program := "ytokilmnlabcpoaa", sum := "cc66181895216bd07d9e2c49d77b3f795756bd983daa28e435dc13da5d3322c0", func := "phaeton/phaetonlaw22.DiagTells", spec := "diagTells", unfollowed := true, recurses := true, apart := false, narrowed := true }
def DiagTellsUptoSaid : Prop := diagTellsUptoRow.holds Try.pinned (OpenSpec.upto diagTellsSpec)

/-- 'phaetonlaw22.DiagShut', WHERE WHAT IT READS IS OF BULK AT MOST 1048576: true; the input reads as it did. -/
def diagShutUptoRow : OpenClaim := { program := "ytokilmnlabcpoaa", sum := "cc66181895216bd07d9e2c49d77b3f795756bd983daa28e435dc13da5d3322c0", func := "phaeton/phaetonlaw22.DiagShut", spec := "diagShut", unfollowed := true, recurses := true, apart := false, narrowed := true }
def DiagShutUptoSaid : Prop := diagShutUptoRow.holds Try.pinned (OpenSpec.upto diagShutSpec)

/-- 'phaetonlaw22.DiagOpens', WHERE WHAT IT READS IS OF BULK AT MOST 1048576: true; the input reads as it did. -/
def diagOpensUptoRow : OpenClaim := { program := "ytokilmnlabcpoaa", sum := "cc66181895216bd07d9e2c49d77b3f795756bd983daa28e435dc13da5d3322c0", func := "phaeton/phaetonlaw22.DiagOpens", spec := "diagOpens", unfollowed := true, recurses := true, apart := false, narrowed := true }
def DiagOpensUptoSaid : Prop := diagOpensUptoRow.holds Try.pinned (OpenSpec.upto diagOpensSpec)

/-- 'phaetonlaw22.DiagGuess', WHERE WHAT IT READS IS OF BULK AT MOST 1048576: true; the input reads as it did. -/
def diagGuessUptoRow : OpenClaim := { program := "ytokilmnlabcpoaa", sum := "cc66181895216bd07d9e2c49d77b3f795756bd983daa28e435dc13da5d3322c0", func := "phaeton/phaetonlaw22.DiagGuess", spec := "diagGuess", unfollowed := true, recurses := true, apart := false, narrowed := true }
def DiagGuessUptoSaid : Prop := diagGuessUptoRow.holds Try.pinned (OpenSpec.upto diagGuessSpec)

/-- 'phaetonlaw22.DiagQuiet', WHERE WHAT IT READS IS OF BULK AT MOST 1048576: true; the input reads as it did. -/
def diagQuietUptoRow : OpenClaim := { program := "ytokilmnlabcpoaa", sum := "cc66181895216bd07d9e2c49d77b3f795756bd983daa28e435dc13da5d3322c0", func := "phaeton/phaetonlaw22.DiagQuiet", spec := "diagQuiet", unfollowed := true, recurses := true, apart := false, narrowed := true }
def DiagQuietUptoSaid : Prop := diagQuietUptoRow.holds Try.pinned (OpenSpec.upto diagQuietSpec)

/-- 'phaetonlaw22.DiagAnswers', WHERE WHAT IT READS IS OF BULK AT MOST 1048576: true; the input reads as it did. -/
def diagAnswersUptoRow : OpenClaim := { program := "ytokilmnlabcpoaa", sum := "cc66181895216bd07d9e2c49d77b3f795756bd983daa28e435dc13da5d3322c0", func := "phaeton/phaetonlaw22.DiagAnswers", spec := "diagAnswers", unfollowed := true, recurses := true, apart := false, narrowed := true }
def DiagAnswersUptoSaid : Prop := diagAnswersUptoRow.holds Try.pinned (OpenSpec.upto diagAnswersSpec)

/-- 'phaetonlaw22.DiagHands', WHERE WHAT IT READS IS OF BULK AT MOST 1048576: true; the input reads as it did. -/
def diagHandsUptoRow : OpenClaim := { program := "ytokilmnlabcpoaa", sum := "cc66181895216bd07d9e2c49d77b3f795756bd983daa28e435dc13da5d3322c0", func := "phaeton/phaetonlaw22.DiagHands", spec := "diagHands", unfollowed := true, recurses := true, apart := false, narrowed := true }
def DiagHandsUptoSaid : Prop := diagHandsUptoRow.holds Try.pinned (OpenSpec.upto diagHandsSpec)

/-- 'phaetonlaw22.DiagKey', WHERE WHAT IT READS IS OF BULK AT MOST 1048576: true; the input reads as it did. -/
def diagKeyUptoRow : OpenClaim := { program := "ytokilmnlabcpoaa", sum := "cc66181895216bd07d9e2c49d77b3f795756bd983daa28e435dc13da5d3322c0", func := "phaeton/phaetonlaw22.DiagKey", spec := "diagKey", unfollowed := true, recurses := true, apart := false, narrowed := true }
def DiagKeyUptoSaid : Prop := diagKeyUptoRow.holds Try.pinned (OpenSpec.upto diagKeySpec)

/-- 'phaetonlaw21.DtcTells', WHERE WHAT IT READS IS OF BULK AT MOST 1048576: true; the input reads as it did. -/
def dtcTellsUptoRow : OpenClaim := { program := "ytokilmnlabcpoaa", sum := "cc66181895216bd07d9e2c49d77b3f795756bd983daa28e435dc13da5d3322c0", func := "phaeton/phaetonlaw21.DtcTells", spec := "dtcTells", inPlace := ["slices.overlaps[phaeton/api.Trouble]"], unfollowed := true, recurses := true, apart := false, narrowed := true }
def DtcTellsUptoSaid : Prop := dtcTellsUptoRow.holds Try.pinned (OpenSpec.upto dtcTellsSpec)

/-- 'phaetonlaw21.DtcRight', WHERE WHAT IT READS IS OF BULK AT MOST 1048576: true; the input reads as it did. -/
def dtcRightUptoRow : OpenClaim := { program := "ytokilmnlabcpoaa", sum := "cc66181895216bd07d9e2c49d77b3f795756bd983daa28e435dc13da5d3322c0", func := "phaeton/phaetonlaw21.DtcRight", spec := "dtcRight", inPlace := ["slices.overlaps[phaeton/api.Trouble]"], unfollowed := true, recurses := true, apart := false, narrowed := true }
def DtcRightUptoSaid : Prop := dtcRightUptoRow.holds Try.pinned (OpenSpec.upto dtcRightSpec)

/-- 'phaetonlaw21.DtcStrength', WHERE WHAT IT READS IS OF BULK AT MOST 1048576: true; the input reads as it did. -/
def dtcStrengthUptoRow : OpenClaim := { program := "ytokilmnlabcpoaa", sum := "cc66181895216bd07d9e2c49d77b3f795756bd983daa28e435dc13da5d3322c0", func := "phaeton/phaetonlaw21.DtcStrength", spec := "dtcStrength", inPlace := ["slices.overlaps[phaeton/api.Trouble]"], unfollowed := true, recurses := true, apart := false, narrowed := true }
def DtcStrengthUptoSaid : Prop := dtcStrengthUptoRow.holds Try.pinned (OpenSpec.upto dtcStrengthSpec)

/-- 'phaetonlaw21.DtcConfirmed', WHERE WHAT IT READS IS OF BULK AT MOST 1048576: true; the input reads as it did. -/
def dtcConfirmedUptoRow : OpenClaim := { program := "ytokilmnlabcpoaa", sum := "cc66181895216bd07d9e2c49d77b3f795756bd983daa28e435dc13da5d3322c0", func := "phaeton/phaetonlaw21.DtcConfirmed", spec := "dtcConfirmed", inPlace := ["slices.overlaps[phaeton/api.Trouble]"], unfollowed := true, recurses := true, apart := false, narrowed := true }
def DtcConfirmedUptoSaid : Prop := dtcConfirmedUptoRow.holds Try.pinned (OpenSpec.upto dtcConfirmedSpec)

/-- 'phaetonlaw21.DtcList', WHERE WHAT IT READS IS OF BULK AT MOST 1048576: true; the input reads as it did. -/
def dtcListUptoRow : OpenClaim := { program := "ytokilmnlabcpoaa", sum := "cc66181895216bd07d9e2c49d77b3f795756bd983daa28e435dc13da5d3322c0", func := "phaeton/phaetonlaw21.DtcList", spec := "dtcList", inPlace := ["slices.overlaps[phaeton/api.Trouble]"], unfollowed := true, recurses := true, apart := false, narrowed := true }
def DtcListUptoSaid : Prop := dtcListUptoRow.holds Try.pinned (OpenSpec.upto dtcListSpec)

/-- 'phaetonlaw21.DtcApart', WHERE WHAT IT READS IS OF BULK AT MOST 1048576: true; the input reads as it did. -/
def dtcApartUptoRow : OpenClaim := { program := "ytokilmnlabcpoaa", sum := "cc66181895216bd07d9e2c49d77b3f795756bd983daa28e435dc13da5d3322c0", func := "phaeton/phaetonlaw21.DtcApart", spec := "dtcApart", inPlace := ["slices.overlaps[phaeton/api.Trouble]"], unfollowed := true, recurses := true, apart := false, narrowed := true }
def DtcApartUptoSaid : Prop := dtcApartUptoRow.holds Try.pinned (OpenSpec.upto dtcApartSpec)

/-- 'phaetonlaw21.DtcRides', WHERE WHAT IT READS IS OF BULK AT MOST 1048576: true; the input reads as it did. -/
def dtcRidesUptoRow : OpenClaim := { program := "ytokilmnlabcpoaa", sum := "cc66181895216bd07d9e2c49d77b3f795756bd983daa28e435dc13da5d3322c0", func := "phaeton/phaetonlaw21.DtcRides", spec := "dtcRides", inPlace := ["slices.overlaps[phaeton/api.Trouble]"], unfollowed := true, recurses := true, apart := false, narrowed := true }
def DtcRidesUptoSaid : Prop := dtcRidesUptoRow.holds Try.pinned (OpenSpec.upto dtcRidesSpec)

end Rows
end Go.Proofs.Ytokilmnlabcpoaa
