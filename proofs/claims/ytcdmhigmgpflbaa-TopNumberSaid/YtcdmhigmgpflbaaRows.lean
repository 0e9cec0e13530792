/-
  No cell of these rows narrows 'for every input' (looked for: loops, veiled, ifaces, maps, wideKeys, modest, calm, conditions, laid).
  DERIVED. THE GIVEN ROWS OF THIS SEAT. 23 by the template 'for every input the law returns true; each argument reads behind the call as it read before'; 0 by the template 'total and deterministic' (their statements: YtcdmhigmgpflbaaTotals.lean).
  GIVEN WITH THE SEED: the statements are not yours to turn. If you find one false, say at which input.
  Laid BY PROGRAM, IN A SANDBOX (cutbox-rows.mjs): the forced cells as the released guide's own fill.sh prints them over the translation d497599b49b3f683… (all of the seat's roots in one cut). By AI agents, Wed Nov 11 2026. No macro, syntax, notation, axiom, sorry.
-/
import Derived.Test.YtcdmhigmgpflbaaChecked
import GoSem.Claim
import GoSem.ClaimJoined
import GoSem.ClaimMapViews
import Derived.JoinedTies
import Derived.KernelRfl
namespace Go.Proofs.Ytcdmhigmgpflbaa
/- THE CELL 'sum', in the pinned program and in every row, IS THE sha256 OF THE DUMP (.gsa) THAT YtcdmhigmgpflbaaProg.lean LOADS. Nothing in Lean hashes anything: it is a label: what it is worth is what the hold of that sum in a sandbox is worth. -/
noncomputable def Try.pinned : Pinned := { name := "ytcdmhigmgpflbaa", sum := "d497599b49b3f6834dea1523dcb2d7bcc72a22378454e9c57a341b96dd31edd9", checked := Try.checked }
namespace Rows
def none {H : Type} : Left H := { results := [], args := [] }

/-- 'phaetonlaw22.DiagTells': WHATEVER THE INPUT: true; the input reads as it did. -/
def diagTellsSpec : ChangeSpec := { name := "diagTells", fn := fun _ => fun
  | [d1, d2, d3] => { results := [.lit (.bool true)], args := [d1, d2, d3] }
  | _ => none }
def diagTellsRow : OpenClaim := { program := "ytcdmhigmgpflbaa", sum := "d497599b49b3f6834dea1523dcb2d7bcc72a22378454e9c57a341b96dd31edd9", func := "phaeton/phaetonlaw22.DiagTells", spec := "diagTells", unfollowed := true, recurses := true, apart := false }
def DiagTellsSaid : Prop := diagTellsRow.holds Try.pinned (OpenSpec.ofChange diagTellsSpec)

/-- ITS FALSE NEIGHBOUR: 'it returns false'. Refute it at one input. -/
def diagTellsWrong : ChangeSpec := { name := "diagTells", fn := fun _ => fun
  | [d1, d2, d3] => { results := [.lit (.bool false)], args := [d1, d2, d3] }
  | _ => none }
def DiagTellsWrongFalsely : Prop := diagTellsRow.holds Try.pinned (OpenSpec.ofChange diagTellsWrong)

/-- 'phaetonlaw22.DiagShut': WHATEVER THE INPUT: true; the input reads as it did. -/
def diagShutSpec : ChangeSpec := { name := "diagShut", fn := fun _ => fun
  | [d1, d2] => { results := [.lit (.bool true)], args := [d1, d2] }
  | _ => none }
def diagShutRow : OpenClaim := { program := "ytcdmhigmgpflbaa", sum := "d497599b49b3f6834dea1523dcb2d7bcc72a22378454e9c57a341b96dd31edd9", func := "phaeton/phaetonlaw22.DiagShut", spec := "diagShut", unfollowed := true, recurses := true, apart := false }
def DiagShutSaid : Prop := diagShutRow.holds Try.pinned (OpenSpec.ofChange diagShutSpec)

/-- ITS FALSE NEIGHBOUR: 'it returns false'. Refute it at one input. -/
def diagShutWrong : ChangeSpec := { name := "diagShut", fn := fun _ => fun
  | [d1, d2] => { results := [.lit (.bool false)], args := [d1, d2] }
  | _ => none }
def DiagShutWrongFalsely : Prop := diagShutRow.holds Try.pinned (OpenSpec.ofChange diagShutWrong)

/-- 'phaetonlaw22.DiagOpens': WHATEVER THE INPUT: true; the input reads as it did. -/
def diagOpensSpec : ChangeSpec := { name := "diagOpens", fn := fun _ => fun
  | [d1, d2, d3] => { results := [.lit (.bool true)], args := [d1, d2, d3] }
  | _ => none }
def diagOpensRow : OpenClaim := { program := "ytcdmhigmgpflbaa", sum := "d497599b49b3f6834dea1523dcb2d7bcc72a22378454e9c57a341b96dd31edd9", func := "phaeton/phaetonlaw22.DiagOpens", spec := "diagOpens", unfollowed := true, recurses := true, apart := false }
def DiagOpensSaid : Prop := diagOpensRow.holds Try.pinned (OpenSpec.ofChange diagOpensSpec)

/-- ITS FALSE NEIGHBOUR: 'it returns false'. Refute it at one input. -/
def diagOpensWrong : ChangeSpec := { name := "diagOpens", fn := fun _ => fun
  | [d1, d2, d3] => { results := [.lit (.bool false)], args := [d1, d2, d3] }
  | _ => none }
def DiagOpensWrongFalsely : Prop := diagOpensRow.holds Try.pinned (OpenSpec.ofChange diagOpensWrong)

/-- 'phaetonlaw22.DiagGuess': WHATEVER THE INPUT: true; the input reads as it did. -/
def diagGuessSpec : ChangeSpec := { name := "diagGuess", fn := fun _ => fun
  | [d1, d2, d3] => { results := [.lit (.bool true)], args := [d1, d2, d3] }
  | _ => none }
def diagGuessRow : OpenClaim := { program := "ytcdmhigmgpflbaa", sum := "d497599b49b3f6834dea1523dcb2d7bcc72a22378454e9c57a341b96dd31edd9", func := "phaeton/phaetonlaw22.DiagGuess", spec := "diagGuess", unfollowed := true, recurses := true, apart := false }
def DiagGuessSaid : Prop := diagGuessRow.holds Try.pinned (OpenSpec.ofChange diagGuessSpec)

/-- ITS FALSE NEIGHBOUR: 'it returns false'. Refute it at one input. -/
def diagGuessWrong : ChangeSpec := { name := "diagGuess", fn := fun _ => fun
  | [d1, d2, d3] => { results := [.lit (.bool false)], args := [d1, d2, d3] }
  | _ => none }
def DiagGuessWrongFalsely : Prop := diagGuessRow.holds Try.pinned (OpenSpec.ofChange diagGuessWrong)

/-- 'phaetonlaw22.DiagQuiet': WHATEVER THE INPUT: true; the input reads as it did. -/
def diagQuietSpec : ChangeSpec := { name := "diagQuiet", fn := fun _ => fun
  | [d1, d2, d3] => { results := [.lit (.bool true)], args := [d1, d2, d3] }
  | _ => none }
def diagQuietRow : OpenClaim := { program := "ytcdmhigmgpflbaa", sum := "d497599b49b3f6834dea1523dcb2d7bcc72a22378454e9c57a341b96dd31edd9", func := "phaeton/phaetonlaw22.DiagQuiet", spec := "diagQuiet", unfollowed := true, recurses := true, apart := false }
def DiagQuietSaid : Prop := diagQuietRow.holds Try.pinned (OpenSpec.ofChange diagQuietSpec)

/-- ITS FALSE NEIGHBOUR: 'it returns false'. Refute it at one input. -/
def diagQuietWrong : ChangeSpec := { name := "diagQuiet", fn := fun _ => fun
  | [d1, d2, d3] => { results := [.lit (.bool false)], args := [d1, d2, d3] }
  | _ => none }
def DiagQuietWrongFalsely : Prop := diagQuietRow.holds Try.pinned (OpenSpec.ofChange diagQuietWrong)

/-- 'phaetonlaw22.DiagAnswers': WHATEVER THE INPUT: true; the input reads as it did. -/
def diagAnswersSpec : ChangeSpec := { name := "diagAnswers", fn := fun _ => fun
  | [d1, d2] => { results := [.lit (.bool true)], args := [d1, d2] }
  | _ => none }
def diagAnswersRow : OpenClaim := { program := "ytcdmhigmgpflbaa", sum := "d497599b49b3f6834dea1523dcb2d7bcc72a22378454e9c57a341b96dd31edd9", func := "phaeton/phaetonlaw22.DiagAnswers", spec := "diagAnswers", unfollowed := true, recurses := true, apart := false }
def DiagAnswersSaid : Prop := diagAnswersRow.holds Try.pinned (OpenSpec.ofChange diagAnswersSpec)

/-- ITS FALSE NEIGHBOUR: 'it returns false'. Refute it at one input. -/
def diagAnswersWrong : ChangeSpec := { name := "diagAnswers", fn := fun _ => fun
  | [d1, d2] => { results := [.lit (.bool false)], args := [d1, d2] }
  | _ => none }
def DiagAnswersWrongFalsely : Prop := diagAnswersRow.holds Try.pinned (OpenSpec.ofChange diagAnswersWrong)

/-- 'phaetonlaw22.DiagHands': WHATEVER THE INPUT: true; the input reads as it did. -/
def diagHandsSpec : ChangeSpec := { name := "diagHands", fn := fun _ => fun
  | [d1, d2] => { results := [.lit (.bool true)], args := [d1, d2] }
  | _ => none }
def diagHandsRow : OpenClaim := { program := "ytcdmhigmgpflbaa", sum := "d497599b49b3f6834dea1523dcb2d7bcc72a22378454e9c57a341b96dd31edd9", func := "phaeton/phaetonlaw22.DiagHands", spec := "diagHands", unfollowed := true, recurses := true, apart := false }
def DiagHandsSaid : Prop := diagHandsRow.holds Try.pinned (OpenSpec.ofChange diagHandsSpec)

/-- ITS FALSE NEIGHBOUR: 'it returns false'. Refute it at one input. -/
def diagHandsWrong : ChangeSpec := { name := "diagHands", fn := fun _ => fun
  | [d1, d2] => { results := [.lit (.bool false)], args := [d1, d2] }
  | _ => none }
def DiagHandsWrongFalsely : Prop := diagHandsRow.holds Try.pinned (OpenSpec.ofChange diagHandsWrong)

/-- 'phaetontop.TopTalk': WHATEVER THE INPUT: true; the input reads as it did. -/
def topTalkSpec : ChangeSpec := { name := "topTalk", fn := fun _ => fun
  | [d1, d2, d3, d4, d5] => { results := [.lit (.bool true)], args := [d1, d2, d3, d4, d5] }
  | _ => none }
def topTalkRow : OpenClaim := { program := "ytcdmhigmgpflbaa", sum := "d497599b49b3f6834dea1523dcb2d7bcc72a22378454e9c57a341b96dd31edd9", func := "phaeton/phaetontop.TopTalk", spec := "topTalk", unfollowed := true, recurses := true, apart := false }
def TopTalkSaid : Prop := topTalkRow.holds Try.pinned (OpenSpec.ofChange topTalkSpec)

/-- ITS FALSE NEIGHBOUR: 'it returns false'. Refute it at one input. -/
def topTalkWrong : ChangeSpec := { name := "topTalk", fn := fun _ => fun
  | [d1, d2, d3, d4, d5] => { results := [.lit (.bool false)], args := [d1, d2, d3, d4, d5] }
  | _ => none }
def TopTalkWrongFalsely : Prop := topTalkRow.holds Try.pinned (OpenSpec.ofChange topTalkWrong)

/-- 'phaetonlaw22.DiagKey': WHATEVER THE INPUT: true; the input reads as it did. -/
def diagKeySpec : ChangeSpec := { name := "diagKey", fn := fun _ => fun
  | [d1, d2, d3] => { results := [.lit (.bool true)], args := [d1, d2, d3] }
  | _ => none }
def diagKeyRow : OpenClaim := { program := "ytcdmhigmgpflbaa", sum := "d497599b49b3f6834dea1523dcb2d7bcc72a22378454e9c57a341b96dd31edd9", func := "phaeton/phaetonlaw22.DiagKey", spec := "diagKey", unfollowed := true, recurses := true, apart := false }
def DiagKeySaid : Prop := diagKeyRow.holds Try.pinned (OpenSpec.ofChange diagKeySpec)

/-- ITS FALSE NEIGHBOUR: 'it returns false'. Refute it at one input. -/
def diagKeyWrong : ChangeSpec := { name := "diagKey", fn := fun _ => fun
  | [d1, d2, d3] => { results := [.lit (.bool false)], args := [d1, d2, d3] }
  | _ => none }
def DiagKeyWrongFalsely : Prop := diagKeyRow.holds Try.pinned (OpenSpec.ofChange diagKeyWrong)

/-- 'phaetonlaw23.TesterThrough': WHATEVER THE INPUT: true; the input reads as it did. -/
def testerThroughSpec : ChangeSpec := { name := "testerThrough", fn := fun _ => fun
  | [d1, d2] => { results := [.lit (.bool true)], args := [d1, d2] }
  | _ => none }
def testerThroughRow : OpenClaim := { program := "ytcdmhigmgpflbaa", sum := "d497599b49b3f6834dea1523dcb2d7bcc72a22378454e9c57a341b96dd31edd9", func := "phaeton/phaetonlaw23.TesterThrough", spec := "testerThrough", unfollowed := true, recurses := true, apart := false }
def TesterThroughSaid : Prop := testerThroughRow.holds Try.pinned (OpenSpec.ofChange testerThroughSpec)

/-- ITS FALSE NEIGHBOUR: 'it returns false'. Refute it at one input. -/
def testerThroughWrong : ChangeSpec := { name := "testerThrough", fn := fun _ => fun
  | [d1, d2] => { results := [.lit (.bool false)], args := [d1, d2] }
  | _ => none }
def TesterThroughWrongFalsely : Prop := testerThroughRow.holds Try.pinned (OpenSpec.ofChange testerThroughWrong)

/-- 'phaetonlaw23.TesterWhole': WHATEVER THE INPUT: true; the input reads as it did. -/
def testerWholeSpec : ChangeSpec := { name := "testerWhole", fn := fun _ => fun
  | [d1, d2, d3, d4] => { results := [.lit (.bool true)], args := [d1, d2, d3, d4] }
  | _ => none }
def testerWholeRow : OpenClaim := { program := "ytcdmhigmgpflbaa", sum := "d497599b49b3f6834dea1523dcb2d7bcc72a22378454e9c57a341b96dd31edd9", func := "phaeton/phaetonlaw23.TesterWhole", spec := "testerWhole", unfollowed := true, recurses := true, apart := false }
def TesterWholeSaid : Prop := testerWholeRow.holds Try.pinned (OpenSpec.ofChange testerWholeSpec)

/-- ITS FALSE NEIGHBOUR: 'it returns false'. Refute it at one input. -/
def testerWholeWrong : ChangeSpec := { name := "testerWhole", fn := fun _ => fun
  | [d1, d2, d3, d4] => { results := [.lit (.bool false)], args := [d1, d2, d3, d4] }
  | _ => none }
def TesterWholeWrongFalsely : Prop := testerWholeRow.holds Try.pinned (OpenSpec.ofChange testerWholeWrong)

/-- 'phaetonlaw23.TesterYes': WHATEVER THE INPUT: true; the input reads as it did. -/
def testerYesSpec : ChangeSpec := { name := "testerYes", fn := fun _ => fun
  | [d1, d2, d3, d4] => { results := [.lit (.bool true)], args := [d1, d2, d3, d4] }
  | _ => none }
def testerYesRow : OpenClaim := { program := "ytcdmhigmgpflbaa", sum := "d497599b49b3f6834dea1523dcb2d7bcc72a22378454e9c57a341b96dd31edd9", func := "phaeton/phaetonlaw23.TesterYes", spec := "testerYes", unfollowed := true, recurses := true, apart := false }
def TesterYesSaid : Prop := testerYesRow.holds Try.pinned (OpenSpec.ofChange testerYesSpec)

/-- ITS FALSE NEIGHBOUR: 'it returns false'. Refute it at one input. -/
def testerYesWrong : ChangeSpec := { name := "testerYes", fn := fun _ => fun
  | [d1, d2, d3, d4] => { results := [.lit (.bool false)], args := [d1, d2, d3, d4] }
  | _ => none }
def TesterYesWrongFalsely : Prop := testerYesRow.holds Try.pinned (OpenSpec.ofChange testerYesWrong)

/-- 'phaetonlaw23.TesterOpens': WHATEVER THE INPUT: true; the input reads as it did. -/
def testerOpensSpec : ChangeSpec := { name := "testerOpens", fn := fun _ => fun
  | [d1, d2, d3] => { results := [.lit (.bool true)], args := [d1, d2, d3] }
  | _ => none }
def testerOpensRow : OpenClaim := { program := "ytcdmhigmgpflbaa", sum := "d497599b49b3f6834dea1523dcb2d7bcc72a22378454e9c57a341b96dd31edd9", func := "phaeton/phaetonlaw23.TesterOpens", spec := "testerOpens", unfollowed := true, recurses := true, apart := false }
def TesterOpensSaid : Prop := testerOpensRow.holds Try.pinned (OpenSpec.ofChange testerOpensSpec)

/-- ITS FALSE NEIGHBOUR: 'it returns false'. Refute it at one input. -/
def testerOpensWrong : ChangeSpec := { name := "testerOpens", fn := fun _ => fun
  | [d1, d2, d3] => { results := [.lit (.bool false)], args := [d1, d2, d3] }
  | _ => none }
def TesterOpensWrongFalsely : Prop := testerOpensRow.holds Try.pinned (OpenSpec.ofChange testerOpensWrong)

/-- 'phaetonlaw23.TesterItem': WHATEVER THE INPUT: true; the input reads as it did. -/
def testerItemSpec : ChangeSpec := { name := "testerItem", fn := fun _ => fun
  | [d1, d2, d3, d4, d5, d6] => { results := [.lit (.bool true)], args := [d1, d2, d3, d4, d5, d6] }
  | _ => none }
def testerItemRow : OpenClaim := { program := "ytcdmhigmgpflbaa", sum := "d497599b49b3f6834dea1523dcb2d7bcc72a22378454e9c57a341b96dd31edd9", func := "phaeton/phaetonlaw23.TesterItem", spec := "testerItem", unfollowed := true, recurses := true, apart := false }
def TesterItemSaid : Prop := testerItemRow.holds Try.pinned (OpenSpec.ofChange testerItemSpec)

/-- ITS FALSE NEIGHBOUR: 'it returns false'. Refute it at one input. -/
def testerItemWrong : ChangeSpec := { name := "testerItem", fn := fun _ => fun
  | [d1, d2, d3, d4, d5, d6] => { results := [.lit (.bool false)], args := [d1, d2, d3, d4, d5, d6] }
  | _ => none }
def TesterItemWrongFalsely : Prop := testerItemRow.holds Try.pinned (OpenSpec.ofChange testerItemWrong)

/-- 'phaetonlaw23.TesterBytes': WHATEVER THE INPUT: true; the input reads as it did. -/
def testerBytesSpec : ChangeSpec := { name := "testerBytes", fn := fun _ => fun
  | [d1, d2, d3, d4] => { results := [.lit (.bool true)], args := [d1, d2, d3, d4] }
  | _ => none }
def testerBytesRow : OpenClaim := { program := "ytcdmhigmgpflbaa", sum := "d497599b49b3f6834dea1523dcb2d7bcc72a22378454e9c57a341b96dd31edd9", func := "phaeton/phaetonlaw23.TesterBytes", spec := "testerBytes", unfollowed := true, recurses := true, apart := false }
def TesterBytesSaid : Prop := testerBytesRow.holds Try.pinned (OpenSpec.ofChange testerBytesSpec)

/-- ITS FALSE NEIGHBOUR: 'it returns false'. Refute it at one input. -/
def testerBytesWrong : ChangeSpec := { name := "testerBytes", fn := fun _ => fun
  | [d1, d2, d3, d4] => { results := [.lit (.bool false)], args := [d1, d2, d3, d4] }
  | _ => none }
def TesterBytesWrongFalsely : Prop := testerBytesRow.holds Try.pinned (OpenSpec.ofChange testerBytesWrong)

/-- 'phaetonlaw23.TesterHands': WHATEVER THE INPUT: true; the input reads as it did. -/
def testerHandsSpec : ChangeSpec := { name := "testerHands", fn := fun _ => fun
  | [d1, d2, d3, d4, d5, d6, d7] => { results := [.lit (.bool true)], args := [d1, d2, d3, d4, d5, d6, d7] }
  | _ => none }
def testerHandsRow : OpenClaim := { program := "ytcdmhigmgpflbaa", sum := "d497599b49b3f6834dea1523dcb2d7bcc72a22378454e9c57a341b96dd31edd9", func := "phaeton/phaetonlaw23.TesterHands", spec := "testerHands", unfollowed := true, recurses := true, apart := false }
def TesterHandsSaid : Prop := testerHandsRow.holds Try.pinned (OpenSpec.ofChange testerHandsSpec)

/-- ITS FALSE NEIGHBOUR: 'it returns false'. Refute it at one input. -/
def testerHandsWrong : ChangeSpec := { name := "testerHands", fn := fun _ => fun
  | [d1, d2, d3, d4, d5, d6, d7] => { results := [.lit (.bool false)], args := [d1, d2, d3, d4, d5, d6, d7] }
  | _ => none }
def TesterHandsWrongFalsely : Prop := testerHandsRow.holds Try.pinned (OpenSpec.ofChange testerHandsWrong)

/-- 'phaetontop.TopShut': WHATEVER THE INPUT: true; the input reads as it did. -/
def topShutSpec : ChangeSpec := { name := "topShut", fn := fun _ => fun
  | [d1, d2, d3, d4] => { results := [.lit (.bool true)], args := [d1, d2, d3, d4] }
  | _ => none }
def topShutRow : OpenClaim := { program := "ytcdmhigmgpflbaa", sum := "d497599b49b3f6834dea1523dcb2d7bcc72a22378454e9c57a341b96dd31edd9", func := "phaeton/phaetontop.TopShut", spec := "topShut", unfollowed := true, recurses := true, apart := false }
def TopShutSaid : Prop := topShutRow.holds Try.pinned (OpenSpec.ofChange topShutSpec)

/-- ITS FALSE NEIGHBOUR: 'it returns false'. Refute it at one input. -/
def topShutWrong : ChangeSpec := { name := "topShut", fn := fun _ => fun
  | [d1, d2, d3, d4] => { results := [.lit (.bool false)], args := [d1, d2, d3, d4] }
  | _ => none }
def TopShutWrongFalsely : Prop := topShutRow.holds Try.pinned (OpenSpec.ofChange topShutWrong)

/-- 'phaetontop.TopText': WHATEVER THE INPUT: true; the input reads as it did. -/
def topTextSpec : ChangeSpec := { name := "topText", fn := fun _ => fun
  | [d1, d2, d3, d4] => { results := [.lit (.bool true)], args := [d1, d2, d3, d4] }
  | _ => none }
def topTextRow : OpenClaim := { program := "ytcdmhigmgpflbaa", sum := "d497599b49b3f6834dea1523dcb2d7bcc72a22378454e9c57a341b96dd31edd9", func := "phaeton/phaetontop.TopText", spec := "topText", unfollowed := true, recurses := true, apart := false }
def TopTextSaid : Prop := topTextRow.holds Try.pinned (OpenSpec.ofChange topTextSpec)

/-- ITS FALSE NEIGHBOUR: 'it returns false'. Refute it at one input. -/
def topTextWrong : ChangeSpec := { name := "topText", fn := fun _ => fun
  | [d1, d2, d3, d4] => { results := [.lit (.bool false)], args := [d1, d2, d3, d4] }
  | _ => none }
def TopTextWrongFalsely : Prop := topTextRow.holds Try.pinned (OpenSpec.ofChange topTextWrong)

/-- 'phaetontop.TopNumber': WHATEVER THE INPUT: true; the input reads as it did. -/
def topNumberSpec : ChangeSpec := { name := "topNumber", fn := fun _ => fun
  | [d1, d2, d3, d4, d5, d6, d7, d8] => { results := [.lit (.bool true)], args := [d1, d2, d3, d4, d5, d6, d7, d8] }
  | _ => none }
def topNumberRow : OpenClaim := { program := "ytcdmhigmgpflbaa", sum := "d497599b49b3f6834dea1523dcb2d7bcc72a22378454e9c57a341b96dd31edd9", func := "phaeton/phaetontop.TopNumber", spec := "topNumber", unfollowed := true, recurses := true, apart := false }
def TopNumberSaid : Prop := topNumberRow.holds Try.pinned (OpenSpec.ofChange topNumberSpec)

/-- ITS FALSE NEIGHBOUR: 'it returns false'. Refute it at one input. -/
def topNumberWrong : ChangeSpec := { name := "topNumber", fn := fun _ => fun
  | [d1, d2, d3, d4, d5, d6, d7, d8] => { results := [.lit (.bool false)], args := [d1, d2, d3, d4, d5, d6, d7, d8] }
  | _ => none }
def TopNumberWrongFalsely : Prop := topNumberRow.holds Try.pinned (OpenSpec.ofChange topNumberWrong)

/-- 'phaetontop.TopInsists': WHATEVER THE INPUT: true; the input reads as it did. -/
def topInsistsSpec : ChangeSpec := { name := "topInsists", fn := fun _ => fun
  | [d1, d2, d3, d4, d5, d6] => { results := [.lit (.bool true)], args := [d1, d2, d3, d4, d5, d6] }
  | _ => none }
def topInsistsRow : OpenClaim := { program := "ytcdmhigmgpflbaa", sum := "d497599b49b3f6834dea1523dcb2d7bcc72a22378454e9c57a341b96dd31edd9", func := "phaeton/phaetontop.TopInsists", spec := "topInsists", inPlace := ["slices.overlaps[phaeton/api.Trouble]"], unfollowed := true, recurses := true, apart := false }
def TopInsistsSaid : Prop := topInsistsRow.holds Try.pinned (OpenSpec.ofChange topInsistsSpec)

/-- ITS FALSE NEIGHBOUR: 'it returns false'. Refute it at one input. -/
def topInsistsWrong : ChangeSpec := { name := "topInsists", fn := fun _ => fun
  | [d1, d2, d3, d4, d5, d6] => { results := [.lit (.bool false)], args := [d1, d2, d3, d4, d5, d6] }
  | _ => none }
def TopInsistsWrongFalsely : Prop := topInsistsRow.holds Try.pinned (OpenSpec.ofChange topInsistsWrong)

/-- 'phaetontop.TopWritten': WHATEVER THE INPUT: true; the input reads as it did. -/
def topWrittenSpec : ChangeSpec := { name := "topWritten", fn := fun _ => fun
  | [d1, d2, d3, d4] => { results := [.lit (.bool true)], args := [d1, d2, d3, d4] }
  | _ => none }
def topWrittenRow : OpenClaim := { program := "ytcdmhigmgpflbaa", sum := "d497599b49b3f6834dea1523dcb2d7bcc72a22378454e9c57a341b96dd31edd9", func := "phaeton/phaetontop.TopWritten", spec := "topWritten", inPlace := ["slices.overlaps[phaeton/api.Trouble]"], unfollowed := true, recurses := true, apart := false }
def TopWrittenSaid : Prop := topWrittenRow.holds Try.pinned (OpenSpec.ofChange topWrittenSpec)

/-- ITS FALSE NEIGHBOUR: 'it returns false'. Refute it at one input. -/
def topWrittenWrong : ChangeSpec := { name := "topWritten", fn := fun _ => fun
  | [d1, d2, d3, d4] => { results := [.lit (.bool false)], args := [d1, d2, d3, d4] }
  | _ => none }
def TopWrittenWrongFalsely : Prop := topWrittenRow.holds Try.pinned (OpenSpec.ofChange topWrittenWrong)

/-- 'phaetontop.TopGuessed': WHATEVER THE INPUT: true; the input reads as it did. -/
def topGuessedSpec : ChangeSpec := { name := "topGuessed", fn := fun _ => fun
  | [d1, d2, d3, d4] => { results := [.lit (.bool true)], args := [d1, d2, d3, d4] }
  | _ => none }
def topGuessedRow : OpenClaim := { program := "ytcdmhigmgpflbaa", sum := "d497599b49b3f6834dea1523dcb2d7bcc72a22378454e9c57a341b96dd31edd9", func := "phaeton/phaetontop.TopGuessed", spec := "topGuessed", inPlace := ["slices.overlaps[phaeton/api.Trouble]"], unfollowed := true, recurses := true, apart := false }
def TopGuessedSaid : Prop := topGuessedRow.holds Try.pinned (OpenSpec.ofChange topGuessedSpec)

/-- ITS FALSE NEIGHBOUR: 'it returns false'. Refute it at one input. -/
def topGuessedWrong : ChangeSpec := { name := "topGuessed", fn := fun _ => fun
  | [d1, d2, d3, d4] => { results := [.lit (.bool false)], args := [d1, d2, d3, d4] }
  | _ => none }
def TopGuessedWrongFalsely : Prop := topGuessedRow.holds Try.pinned (OpenSpec.ofChange topGuessedWrong)

/-- 'phaetontop.TopTroubles': WHATEVER THE INPUT: true; the input reads as it did. -/
def topTroublesSpec : ChangeSpec := { name := "topTroubles", fn := fun _ => fun
  | [d1, d2, d3, d4, d5] => { results := [.lit (.bool true)], args := [d1, d2, d3, d4, d5] }
  | _ => none }
def topTroublesRow : OpenClaim := { program := "ytcdmhigmgpflbaa", sum := "d497599b49b3f6834dea1523dcb2d7bcc72a22378454e9c57a341b96dd31edd9", func := "phaeton/phaetontop.TopTroubles", spec := "topTroubles", inPlace := ["slices.overlaps[phaeton/api.Trouble]"], unfollowed := true, recurses := true, apart := false }
def TopTroublesSaid : Prop := topTroublesRow.holds Try.pinned (OpenSpec.ofChange topTroublesSpec)

/-- ITS FALSE NEIGHBOUR: 'it returns false'. Refute it at one input. -/
def topTroublesWrong : ChangeSpec := { name := "topTroubles", fn := fun _ => fun
  | [d1, d2, d3, d4, d5] => { results := [.lit (.bool false)], args := [d1, d2, d3, d4, d5] }
  | _ => none }
def TopTroublesWrongFalsely : Prop := topTroublesRow.holds Try.pinned (OpenSpec.ofChange topTroublesWrong)

/- THE SECOND FORM. 'bulk': how many values and letters a reading holds, each counted each time it is reached (what is shared counts as often as it is met; a slice's spare places count too). A statement '..UptoSaid' is the law's where the arguments, and the package variables that the reading takes, are together of bulk at most 1048576: NARROWER than '..Said'. Prove '..Said' where nothing that the law and all that it calls make is longer than what came in: it says more and counts as full. Else prove '..UptoSaid'. A law counts once. -/
mutual
def uptoBulk {H : Type} : DataW H → Nat
  | .lit (.string bytes) => bytes.length + 1
  | .lit _ => 1
  | .nil => 1
  | .ptr d => uptoBulk d + 1
  | .slice elems spare => uptoBulkAll elems + uptoBulkAll spare + 1
  | .agg parts => uptoBulkAll parts + 1
  | .iface _ d => uptoBulk d + 1
  | .map entries => uptoBulkEntries entries + 1
  | .held _ => 1
def uptoBulkAll {H : Type} : List (DataW H) → Nat
  | [] => 0
  | d :: r => uptoBulk d + uptoBulkAll r
def uptoBulkEntries {H : Type} : List (Lit × DataW H) → Nat
  | [] => 0
  | x :: r => uptoBulkEntry x + uptoBulkEntries r
def uptoBulkEntry {H : Type} : Lit × DataW H → Nat
  | (.string bytes, d) => bytes.length + uptoBulk d + 1
  | (_, d) => uptoBulk d + 1
 end
def uptoSmall : (H : Type) → List (DataW H) → Bool := fun _ ds => decide (uptoBulkAll ds ≤ 1048576)
def OpenSpec.upto (s : _root_.Go.ChangeSpec) : _root_.Go.OpenSpec := { _root_.Go.OpenSpec.ofChange s with cond := some uptoSmall }

/-- 'phaetonlaw22.DiagTells', WHERE WHAT IT READS IS OF BULK AT MOST 1048576: true; the input reads as it did. -/
def diagTellsUptoRow : OpenClaim := { program := "ytcdmhigmgpflbaa", sum := "d497599b49b3f6834dea1523dcb2d7bcc72a22378454e9c57a341b96dd31edd9", func := "phaeton/phaetonlaw22.DiagTells", spec := "diagTells", unfollowed := true, recurses := true, apart := false, narrowed := true }
def DiagTellsUptoSaid : Prop := diagTellsUptoRow.holds Try.pinned (OpenSpec.upto diagTellsSpec)

/-- 'phaetonlaw22.DiagShut', WHERE WHAT IT READS IS OF BULK AT MOST 1048576: true; the input reads as it did. -/
def diagShutUptoRow : OpenClaim := { program := "ytcdmhigmgpflbaa", sum := "d497599b49b3f6834dea1523dcb2d7bcc72a22378454e9c57a341b96dd31edd9", func := "phaeton/phaetonlaw22.DiagShut", spec := "diagShut", unfollowed := true, recurses := true, apart := false, narrowed := true }
def DiagShutUptoSaid : Prop := diagShutUptoRow.holds Try.pinned (OpenSpec.upto diagShutSpec)

/-- 'phaetonlaw22.DiagOpens', WHERE WHAT IT READS IS OF BULK AT MOST 1048576: true; the input reads as it did. -/
def diagOpensUptoRow : OpenClaim := { program := "ytcdmhigmgpflbaa", sum := "d497599b49b3f6834dea1523dcb2d7bcc72a22378454e9c57a341b96dd31edd9", func := "phaeton/phaetonlaw22.DiagOpens", spec := "diagOpens", unfollowed := true, recurses := true, apart := false, narrowed := true }
def DiagOpensUptoSaid : Prop := diagOpensUptoRow.holds Try.pinned (OpenSpec.upto diagOpensSpec)

/-- 'phaetonlaw22.DiagGuess', WHERE WHAT IT READS IS OF BULK AT MOST 1048576: true; the input reads as it did. -/
def diagGuessUptoRow : OpenClaim := { program := "ytcdmhigmgpflbaa", sum := "d497599b49b3f6834dea1523dcb2d7bcc72a22378454e9c57a341b96dd31edd9", func := "phaeton/phaetonlaw22.DiagGuess", spec := "diagGuess", unfollowed := true, recurses := true, apart := false, narrowed := true }
def DiagGuessUptoSaid : Prop := diagGuessUptoRow.holds Try.pinned (OpenSpec.upto diagGuessSpec)

/-- 'phaetonlaw22.DiagQuiet', WHERE WHAT IT READS IS OF BULK AT MOST 1048576: true; the input reads as it did. -/
def diagQuietUptoRow : OpenClaim := { program := "ytcdmhigmgpflbaa", sum := "d497599b49b3f6834dea1523dcb2d7bcc72a22378454e9c57a341b96dd31edd9", func := "phaeton/phaetonlaw22.DiagQuiet", spec := "diagQuiet", unfollowed := true, recurses := true, apart := false, narrowed := true }
def DiagQuietUptoSaid : Prop := diagQuietUptoRow.holds Try.pinned (OpenSpec.upto diagQuietSpec)

/-- 'phaetonlaw22.DiagAnswers', WHERE WHAT IT READS IS OF BULK AT MOST 1048576: true; the input reads as it did. -/
def diagAnswersUptoRow : OpenClaim := { program := "ytcdmhigmgpflbaa", sum := "d497599b49b3f6834dea1523dcb2d7bcc72a22378454e9c57a341b96dd31edd9", func := "phaeton/phaetonlaw22.DiagAnswers", spec := "diagAnswers", unfollowed := true, recurses := true, apart := false, narrowed := true }
def DiagAnswersUptoSaid : Prop := diagAnswersUptoRow.holds Try.pinned (OpenSpec.upto diagAnswersSpec)

/-- 'phaetonlaw22.DiagHands', WHERE WHAT IT READS IS OF BULK AT MOST 1048576: true; the input reads as it did. -/
def diagHandsUptoRow : OpenClaim := { program := "ytcdmhigmgpflbaa", sum := "d497599b49b3f6834dea1523dcb2d7bcc72a22378454e9c57a341b96dd31edd9", func := "phaeton/phaetonlaw22.DiagHands", spec := "diagHands", unfollowed := true, recurses := true, apart := false, narrowed := true }
def DiagHandsUptoSaid : Prop := diagHandsUptoRow.holds Try.pinned (OpenSpec.upto diagHandsSpec)

/-- 'phaetontop.TopTalk', WHERE WHAT IT READS IS OF BULK AT MOST 1048576: true; the input reads as it did. -/
def topTalkUptoRow : OpenClaim := { program := "ytcdmhigmgpflbaa", sum := "d497599b49b3f6834dea1523dcb2d7bcc72a22378454e9c57a341b96dd31edd9", func := "phaeton/phaetontop.TopTalk", spec := "topTalk", unfollowed := true, recurses := true, apart := false, narrowed := true }
def TopTalkUptoSaid : Prop := topTalkUptoRow.holds Try.pinned (OpenSpec.upto topTalkSpec)

/-- 'phaetonlaw22.DiagKey', WHERE WHAT IT READS IS OF BULK AT MOST 1048576: true; the input reads as it did. -/
def diagKeyUptoRow : OpenClaim := { program := "ytcdmhigmgpflbaa", sum := "d497599b49b3f6834dea1523dcb2d7bcc72a22378454e9c57a341b96dd31edd9", func := "phaeton/phaetonlaw22.DiagKey", spec := "diagKey", unfollowed := true, recurses := true, apart := false, narrowed := true }
def DiagKeyUptoSaid : Prop := diagKeyUptoRow.holds Try.pinned (OpenSpec.upto diagKeySpec)

/-- 'phaetonlaw23.TesterThrough', WHERE WHAT IT READS IS OF BULK AT MOST 1048576: true; the input reads as it did. -/
def testerThroughUptoRow : OpenClaim := { program := "ytcdmhigmgpflbaa", sum := "d497599b49b3f6834dea1523dcb2d7bcc72a22378454e9c57a341b96dd31edd9", func := "phaeton/phaetonlaw23.TesterThrough", spec := "testerThrough", unfollowed := true, recurses := true, apart := false, narrowed := true }
def TesterThroughUptoSaid : Prop := testerThroughUptoRow.holds Try.pinned (OpenSpec.upto testerThroughSpec)

/-- 'phaetonlaw23.TesterWhole', WHERE WHAT IT READS IS OF BULK AT MOST 1048576: true; the input reads as it did. -/
def testerWholeUptoRow : OpenClaim := { program := "ytcdmhigmgpflbaa", sum := "d497599b49b3f6834dea1523dcb2d7bcc72a22378454e9c57a341b96dd31edd9", func := "phaeton/phaetonlaw23.TesterWhole", spec := "testerWhole", unfollowed := true, recurses := true, apart := false, narrowed := true }
def TesterWholeUptoSaid : Prop := testerWholeUptoRow.holds Try.pinned (OpenSpec.upto testerWholeSpec)

/-- 'phaetonlaw23.TesterYes', WHERE WHAT IT READS IS OF BULK AT MOST 1048576: true; the input reads as it did. -/
def testerYesUptoRow : OpenClaim := { program := "ytcdmhigmgpflbaa", sum := "d497599b49b3f6834dea1523dcb2d7bcc72a22378454e9c57a341b96dd31edd9", func := "phaeton/phaetonlaw23.TesterYes", spec := "testerYes", unfollowed := true, recurses := true, apart := false, narrowed := true }
def TesterYesUptoSaid : Prop := testerYesUptoRow.holds Try.pinned (OpenSpec.upto testerYesSpec)

/-- 'phaetonlaw23.TesterOpens', WHERE WHAT IT READS IS OF BULK AT MOST 1048576: true; the input reads as it did. -/
def testerOpensUptoRow : OpenClaim := { program := "ytcdmhigmgpflbaa", sum := "d497599b49b3f6834dea1523dcb2d7bcc72a22378454e9c57a341b96dd31edd9", func := "phaeton/phaetonlaw23.TesterOpens", spec := "testerOpens", unfollowed := true, recurses := true, apart := false, narrowed := true }
def TesterOpensUptoSaid : Prop := testerOpensUptoRow.holds Try.pinned (OpenSpec.upto testerOpensSpec)

/-- 'phaetonlaw23.TesterItem', WHERE WHAT IT READS IS OF BULK AT MOST 1048576: true; the input reads as it did. -/
def testerItemUptoRow : OpenClaim := { program := "ytcdmhigmgpflbaa", sum := "d497599b49b3f6834dea1523dcb2d7bcc72a22378454e9c57a341b96dd31edd9", func := "phaeton/phaetonlaw23.TesterItem", spec := "testerItem", unfollowed := true, recurses := true, apart := false, narrowed := true }
def TesterItemUptoSaid : Prop := testerItemUptoRow.holds Try.pinned (OpenSpec.upto testerItemSpec)

/-- 'phaetonlaw23.TesterBytes', WHERE WHAT IT READS IS OF BULK AT MOST 1048576: true; the input reads as it did. -/
def testerBytesUptoRow : OpenClaim := { program := "ytcdmhigmgpflbaa", sum := "d497599b49b3f6834dea1523dcb2d7bcc72a22378454e9c57a341b96dd31edd9", func := "phaeton/phaetonlaw23.TesterBytes", spec := "testerBytes", unfollowed := true, recurses := true, apart := false, narrowed := true }
def TesterBytesUptoSaid : Prop := testerBytesUptoRow.holds Try.pinned (OpenSpec.upto testerBytesSpec)

/-- 'phaetonlaw23.TesterHands', WHERE WHAT IT READS IS OF BULK AT MOST 1048576: true; the input reads as it did. -/
def testerHandsUptoRow : OpenClaim := { program := "ytcdmhigmgpflbaa", sum := "d497599b49b3f6834dea1523dcb2d7bcc72a22378454e9c57a341b96dd31edd9", func := "phaeton/phaetonlaw23.TesterHands", spec := "testerHands", unfollowed := true, recurses := true, apart := false, narrowed := true }
def TesterHandsUptoSaid : Prop := testerHandsUptoRow.holds Try.pinned (OpenSpec.upto testerHandsSpec)

/-- 'phaetontop.TopShut', WHERE WHAT IT READS IS OF BULK AT MOST 1048576: true; the input reads as it did. -/
def topShutUptoRow : OpenClaim := { program := "ytcdmhigmgpflbaa", sum := "d497599b49b3f6834dea1523dcb2d7bcc72a22378454e9c57a341b96dd31edd9", func := "phaeton/phaetontop.TopShut", spec := "topShut", unfollowed := true, recurses := true, apart := false, narrowed := true }
def TopShutUptoSaid : Prop := topShutUptoRow.holds Try.pinned (OpenSpec.upto topShutSpec)

/-- 'phaetontop.TopText', WHERE WHAT IT READS IS OF BULK AT MOST 1048576: true; the input reads as it did. -/
def topTextUptoRow : OpenClaim := { program := "ytcdmhigmgpflbaa", sum := "d497599b49b3f6834dea1523dcb2d7bcc72a22378454e9c57a341b96dd31edd9", func := "phaeton/phaetontop.TopText", spec := "topText", unfollowed := true, recurses := true, apart := false, narrowed := true }
def TopTextUptoSaid : Prop := topTextUptoRow.holds Try.pinned (OpenSpec.upto topTextSpec)

/-- 'phaetontop.TopNumber', WHERE WHAT IT READS IS OF BULK AT MOST 1048576: true; the input reads as it did. -/
def topNumberUptoRow : OpenClaim := { program := "ytcdmhigmgpflbaa", sum := "d497599b49b3f6834dea1523dcb2d7bcc72a22378454e9c57a341b96dd31edd9", func := "phaeton/phaetontop.TopNumber", spec := "topNumber", unfollowed := true, recurses := true, apart := false, narrowed := true }
def TopNumberUptoSaid : Prop := topNumberUptoRow.holds Try.pinned (OpenSpec.upto topNumberSpec)

/-- 'phaetontop.TopInsists', WHERE WHAT IT READS IS OF BULK AT MOST 1048576: true; the input reads as it did. -/
def topInsistsUptoRow : OpenClaim := { program := "ytcdmhigmgpflbaa", sum := "d497599b49b3f6834dea1523dcb2d7bcc72a22378454e9c57a341b96dd31edd9", func := "phaeton/phaetontop.TopInsists", spec := "topInsists", inPlace := ["slices.overlaps[phaeton/api.Trouble]"], unfollowed := true, recurses := true, apart := false, narrowed := true }
def TopInsistsUptoSaid : Prop := topInsistsUptoRow.holds Try.pinned (OpenSpec.upto topInsistsSpec)

/-- 'phaetontop.TopWritten', WHERE WHAT IT READS IS OF BULK AT MOST 1048576: true; the input reads as it did. -/
def topWrittenUptoRow : OpenClaim := { program := "ytcdmhigmgpflbaa", sum := "d497599b49b3f6834dea1523dcb2d7bcc72a22378454e9c57a341b96dd31edd9", func := "phaeton/phaetontop.TopWritten", spec := "topWritten", inPlace := ["slices.overlaps[phaeton/api.Trouble]"], unfollowed := true, recurses := true, apart := false, narrowed := true }
def TopWrittenUptoSaid : Prop := topWrittenUptoRow.holds Try.pinned (OpenSpec.upto topWrittenSpec)

/-- 'phaetontop.TopGuessed', WHERE WHAT IT READS IS OF BULK AT MOST 1048576: true; the input reads as it did. -/
def topGuessedUptoRow : OpenClaim := { program := "ytcdmhigmgpflbaa", sum := "d497599b49b3f6834dea1523dcb2d7bcc72a22378454e9c57a341b96dd31edd9", func := "phaeton/phaetontop.TopGuessed", spec := "topGuessed", inPlace := ["slices.overlaps[phaeton/api.Trouble]"], unfollowed := true, recurses := true, apart := false, narrowed := true }
def TopGuessedUptoSaid : Prop := topGuessedUptoRow.holds Try.pinned (OpenSpec.upto topGuessedSpec)

/-- 'phaetontop.TopTroubles', WHERE WHAT IT READS IS OF BULK AT MOST 1048576: true; the input reads as it did. -/
def topTroublesUptoRow : OpenClaim := { program := "ytcdmhigmgpflbaa", sum := "d497599b49b3f6834dea1523dcb2d7bcc72a22378454e9c57a341b96dd31edd9", func := "phaeton/phaetontop.TopTroubles", spec := "topTroubles", inPlace := ["slices.overlaps[phaeton/api.Trouble]"], unfollowed := true, recurses := true, apart := false, narrowed := true }
def TopTroublesUptoSaid : Prop := topTroublesUptoRow.holds Try.pinned (OpenSpec.upto topTroublesSpec)

end Rows
end Go.Proofs.Ytcdmhigmgpflbaa
