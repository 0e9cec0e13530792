/-
  No cell of these rows narrows 'for every input' (looked for: loops, veiled, ifaces, maps, wideKeys, modest, calm, conditions, laid).
  DERIVED. THE GIVEN ROWS OF THIS SEAT. 17 by the template 'for every input the law returns true; each argument reads behind the call as it read before'; 0 by the template 'total and deterministic' (their statements: YtpnhnobnjcknjaaTotals.lean).
  GIVEN WITH THE SEED: the statements are not yours to turn. If you find one false, say at which input.
  Laid BY PROGRAM, IN A SANDBOX (cutbox-rows.mjs): the forced cells as the released guide's own fill.sh prints them over the translation 4cd3fc597bd14a76… (all of the seat's roots in one cut). By AI agents, Wed Nov 11 2026. No macro, syntax, notation, axiom, sorry.
-/
import Derived.Test.YtpnhnobnjcknjaaChecked
import GoSem.Claim
import GoSem.ClaimJoined
import GoSem.ClaimMapViews
import Derived.JoinedTies
import Derived.KernelRfl
namespace Go.Proofs.Ytpnhnobnjcknjaa
/- THE CELL 'sum', in the pinned program and in every row, IS THE sha256 OF THE DUMP (.gsa) THAT YtpnhnobnjcknjaaProg.lean LOADS. Nothing in Lean hashes anything: it is a label: what it is worth is what the hold of that sum in a sandbox is worth. -/
noncomputable def Try.pinned : Pinned := { name := "ytpnhnobnjcknjaa", sum := "4cd3fc597bd14a7631b642cae01eecc85d167ff4acf726a1ca43814d5a9e1ab9", checked := Try.checked }
namespace Rows
def none {H : Type} : Left H := { results := [], args := [] }

/-- 'phaetonlaw19.TprecvTells': WHATEVER THE INPUT: true; the input reads as it did. -/
def tprecvTellsSpec : ChangeSpec := { name := "tprecvTells", fn := fun _ => fun
  | [d1, d2, d3, d4] => { results := [.lit (.bool true)], args := [d1, d2, d3, d4] }
  | _ => none }
def tprecvTellsRow : OpenClaim := { program := "ytpnhnobnjcknjaa", sum := "4cd3fc597bd14a7631b642cae01eecc85d167ff4acf726a1ca43814d5a9e1ab9", func := "phaeton/phaetonlaw19.TprecvTells", spec := "tprecvTells", unfollowed := true, recurses := true, apart := false }
def TprecvTellsSaid : Prop := tprecvTellsRow.holds Try.pinned (OpenSpec.ofChange tprecvTellsSpec)

/-- ITS FALSE NEIGHBOUR: 'it returns false'. Refute it at one input. -/
def tprecvTellsWrong : ChangeSpec := { name := "tprecvTells", fn := fun _ => fun
  | [d1, d2, d3, d4] => { results := [.lit (.bool false)], args := [d1, d2, d3, d4] }
  | _ => none }
def TprecvTellsWrongFalsely : Prop := tprecvTellsRow.holds Try.pinned (OpenSpec.ofChange tprecvTellsWrong)

/-- 'phaetontop.TopNextText': WHATEVER THE INPUT: true; the input reads as it did. -/
def topNextTextSpec : ChangeSpec := { name := "topNextText", fn := fun _ => fun
  | [d1, d2, d3, d4, d5] => { results := [.lit (.bool true)], args := [d1, d2, d3, d4, d5] }
  | _ => none }
def topNextTextRow : OpenClaim := { program := "ytpnhnobnjcknjaa", sum := "4cd3fc597bd14a7631b642cae01eecc85d167ff4acf726a1ca43814d5a9e1ab9", func := "phaeton/phaetontop.TopNextText", spec := "topNextText", unfollowed := true, recurses := true, apart := false }
def TopNextTextSaid : Prop := topNextTextRow.holds Try.pinned (OpenSpec.ofChange topNextTextSpec)

/-- ITS FALSE NEIGHBOUR: 'it returns false'. Refute it at one input. -/
def topNextTextWrong : ChangeSpec := { name := "topNextText", fn := fun _ => fun
  | [d1, d2, d3, d4, d5] => { results := [.lit (.bool false)], args := [d1, d2, d3, d4, d5] }
  | _ => none }
def TopNextTextWrongFalsely : Prop := topNextTextRow.holds Try.pinned (OpenSpec.ofChange topNextTextWrong)

/-- 'phaetonlaw19.TprecvWhole': WHATEVER THE INPUT: true; the input reads as it did. -/
def tprecvWholeSpec : ChangeSpec := { name := "tprecvWhole", fn := fun _ => fun
  | [d1, d2, d3, d4] => { results := [.lit (.bool true)], args := [d1, d2, d3, d4] }
  | _ => none }
def tprecvWholeRow : OpenClaim := { program := "ytpnhnobnjcknjaa", sum := "4cd3fc597bd14a7631b642cae01eecc85d167ff4acf726a1ca43814d5a9e1ab9", func := "phaeton/phaetonlaw19.TprecvWhole", spec := "tprecvWhole", unfollowed := true, recurses := true, apart := false }
def TprecvWholeSaid : Prop := tprecvWholeRow.holds Try.pinned (OpenSpec.ofChange tprecvWholeSpec)

/-- ITS FALSE NEIGHBOUR: 'it returns false'. Refute it at one input. -/
def tprecvWholeWrong : ChangeSpec := { name := "tprecvWhole", fn := fun _ => fun
  | [d1, d2, d3, d4] => { results := [.lit (.bool false)], args := [d1, d2, d3, d4] }
  | _ => none }
def TprecvWholeWrongFalsely : Prop := tprecvWholeRow.holds Try.pinned (OpenSpec.ofChange tprecvWholeWrong)

/-- 'phaetonlaw19.TprecvLost': WHATEVER THE INPUT: true; the input reads as it did. -/
def tprecvLostSpec : ChangeSpec := { name := "tprecvLost", fn := fun _ => fun
  | [d1, d2, d3, d4] => { results := [.lit (.bool true)], args := [d1, d2, d3, d4] }
  | _ => none }
def tprecvLostRow : OpenClaim := { program := "ytpnhnobnjcknjaa", sum := "4cd3fc597bd14a7631b642cae01eecc85d167ff4acf726a1ca43814d5a9e1ab9", func := "phaeton/phaetonlaw19.TprecvLost", spec := "tprecvLost", unfollowed := true, recurses := true, apart := false }
def TprecvLostSaid : Prop := tprecvLostRow.holds Try.pinned (OpenSpec.ofChange tprecvLostSpec)

/-- ITS FALSE NEIGHBOUR: 'it returns false'. Refute it at one input. -/
def tprecvLostWrong : ChangeSpec := { name := "tprecvLost", fn := fun _ => fun
  | [d1, d2, d3, d4] => { results := [.lit (.bool false)], args := [d1, d2, d3, d4] }
  | _ => none }
def TprecvLostWrongFalsely : Prop := tprecvLostRow.holds Try.pinned (OpenSpec.ofChange tprecvLostWrong)

/-- 'phaetonlaw19.TprecvTime': WHATEVER THE INPUT: true; the input reads as it did. -/
def tprecvTimeSpec : ChangeSpec := { name := "tprecvTime", fn := fun _ => fun
  | [d1, d2, d3] => { results := [.lit (.bool true)], args := [d1, d2, d3] }
  | _ => none }
def tprecvTimeRow : OpenClaim := { program := "ytpnhnobnjcknjaa", sum := "4cd3fc597bd14a7631b642cae01eecc85d167ff4acf726a1ca43814d5a9e1ab9", func := "phaeton/phaetonlaw19.TprecvTime", spec := "tprecvTime", unfollowed := true, recurses := true, apart := false }
def TprecvTimeSaid : Prop := tprecvTimeRow.holds Try.pinned (OpenSpec.ofChange tprecvTimeSpec)

/-- ITS FALSE NEIGHBOUR: 'it returns false'. Refute it at one input. -/
def tprecvTimeWrong : ChangeSpec := { name := "tprecvTime", fn := fun _ => fun
  | [d1, d2, d3] => { results := [.lit (.bool false)], args := [d1, d2, d3] }
  | _ => none }
def TprecvTimeWrongFalsely : Prop := tprecvTimeRow.holds Try.pinned (OpenSpec.ofChange tprecvTimeWrong)

/-- 'phaetonlaw19.TprecvRoom': WHATEVER THE INPUT: true; the input reads as it did. -/
def tprecvRoomSpec : ChangeSpec := { name := "tprecvRoom", fn := fun _ => fun
  | [d1, d2] => { results := [.lit (.bool true)], args := [d1, d2] }
  | _ => none }
def tprecvRoomRow : OpenClaim := { program := "ytpnhnobnjcknjaa", sum := "4cd3fc597bd14a7631b642cae01eecc85d167ff4acf726a1ca43814d5a9e1ab9", func := "phaeton/phaetonlaw19.TprecvRoom", spec := "tprecvRoom", unfollowed := true, recurses := true, apart := false }
def TprecvRoomSaid : Prop := tprecvRoomRow.holds Try.pinned (OpenSpec.ofChange tprecvRoomSpec)

/-- ITS FALSE NEIGHBOUR: 'it returns false'. Refute it at one input. -/
def tprecvRoomWrong : ChangeSpec := { name := "tprecvRoom", fn := fun _ => fun
  | [d1, d2] => { results := [.lit (.bool false)], args := [d1, d2] }
  | _ => none }
def TprecvRoomWrongFalsely : Prop := tprecvRoomRow.holds Try.pinned (OpenSpec.ofChange tprecvRoomWrong)

/-- 'phaetonlaw19.TprecvEnds': WHATEVER THE INPUT: true; the input reads as it did. -/
def tprecvEndsSpec : ChangeSpec := { name := "tprecvEnds", fn := fun _ => fun
  | [d1, d2] => { results := [.lit (.bool true)], args := [d1, d2] }
  | _ => none }
def tprecvEndsRow : OpenClaim := { program := "ytpnhnobnjcknjaa", sum := "4cd3fc597bd14a7631b642cae01eecc85d167ff4acf726a1ca43814d5a9e1ab9", func := "phaeton/phaetonlaw19.TprecvEnds", spec := "tprecvEnds", unfollowed := true, recurses := true, apart := false }
def TprecvEndsSaid : Prop := tprecvEndsRow.holds Try.pinned (OpenSpec.ofChange tprecvEndsSpec)

/-- ITS FALSE NEIGHBOUR: 'it returns false'. Refute it at one input. -/
def tprecvEndsWrong : ChangeSpec := { name := "tprecvEnds", fn := fun _ => fun
  | [d1, d2] => { results := [.lit (.bool false)], args := [d1, d2] }
  | _ => none }
def TprecvEndsWrongFalsely : Prop := tprecvEndsRow.holds Try.pinned (OpenSpec.ofChange tprecvEndsWrong)

/-- 'phaetonlaw19.TprecvAnew': WHATEVER THE INPUT: true; the input reads as it did. -/
def tprecvAnewSpec : ChangeSpec := { name := "tprecvAnew", fn := fun _ => fun
  | [d1, d2, d3, d4, d5] => { results := [.lit (.bool true)], args := [d1, d2, d3, d4, d5] }
  | _ => none }
def tprecvAnewRow : OpenClaim := { program := "ytpnhnobnjcknjaa", sum := "4cd3fc597bd14a7631b642cae01eecc85d167ff4acf726a1ca43814d5a9e1ab9", func := "phaeton/phaetonlaw19.TprecvAnew", spec := "tprecvAnew", unfollowed := true, recurses := true, apart := false }
def TprecvAnewSaid : Prop := tprecvAnewRow.holds Try.pinned (OpenSpec.ofChange tprecvAnewSpec)

/-- ITS FALSE NEIGHBOUR: 'it returns false'. Refute it at one input. -/
def tprecvAnewWrong : ChangeSpec := { name := "tprecvAnew", fn := fun _ => fun
  | [d1, d2, d3, d4, d5] => { results := [.lit (.bool false)], args := [d1, d2, d3, d4, d5] }
  | _ => none }
def TprecvAnewWrongFalsely : Prop := tprecvAnewRow.holds Try.pinned (OpenSpec.ofChange tprecvAnewWrong)

/-- 'phaetontop.TopParts': WHATEVER THE INPUT: true; the input reads as it did. -/
def topPartsSpec : ChangeSpec := { name := "topParts", fn := fun _ => fun
  | [d1, d2, d3] => { results := [.lit (.bool true)], args := [d1, d2, d3] }
  | _ => none }
def topPartsRow : OpenClaim := { program := "ytpnhnobnjcknjaa", sum := "4cd3fc597bd14a7631b642cae01eecc85d167ff4acf726a1ca43814d5a9e1ab9", func := "phaeton/phaetontop.TopParts", spec := "topParts", unfollowed := true, recurses := true, apart := false }
def TopPartsSaid : Prop := topPartsRow.holds Try.pinned (OpenSpec.ofChange topPartsSpec)

/-- ITS FALSE NEIGHBOUR: 'it returns false'. Refute it at one input. -/
def topPartsWrong : ChangeSpec := { name := "topParts", fn := fun _ => fun
  | [d1, d2, d3] => { results := [.lit (.bool false)], args := [d1, d2, d3] }
  | _ => none }
def TopPartsWrongFalsely : Prop := topPartsRow.holds Try.pinned (OpenSpec.ofChange topPartsWrong)

/-- 'phaetonlaw20.TplinkTells': WHATEVER THE INPUT: true; the input reads as it did. -/
def tplinkTellsSpec : ChangeSpec := { name := "tplinkTells", fn := fun _ => fun
  | [d1, d2, d3, d4, d5, d6] => { results := [.lit (.bool true)], args := [d1, d2, d3, d4, d5, d6] }
  | _ => none }
def tplinkTellsRow : OpenClaim := { program := "ytpnhnobnjcknjaa", sum := "4cd3fc597bd14a7631b642cae01eecc85d167ff4acf726a1ca43814d5a9e1ab9", func := "phaeton/phaetonlaw20.TplinkTells", spec := "tplinkTells", unfollowed := true, recurses := true, apart := false }
def TplinkTellsSaid : Prop := tplinkTellsRow.holds Try.pinned (OpenSpec.ofChange tplinkTellsSpec)

/-- ITS FALSE NEIGHBOUR: 'it returns false'. Refute it at one input. -/
def tplinkTellsWrong : ChangeSpec := { name := "tplinkTells", fn := fun _ => fun
  | [d1, d2, d3, d4, d5, d6] => { results := [.lit (.bool false)], args := [d1, d2, d3, d4, d5, d6] }
  | _ => none }
def TplinkTellsWrongFalsely : Prop := tplinkTellsRow.holds Try.pinned (OpenSpec.ofChange tplinkTellsWrong)

/-- 'phaetonlaw20.TplinkWhole': WHATEVER THE INPUT: true; the input reads as it did. -/
def tplinkWholeSpec : ChangeSpec := { name := "tplinkWhole", fn := fun _ => fun
  | [d1, d2, d3, d4, d5] => { results := [.lit (.bool true)], args := [d1, d2, d3, d4, d5] }
  | _ => none }
def tplinkWholeRow : OpenClaim := { program := "ytpnhnobnjcknjaa", sum := "4cd3fc597bd14a7631b642cae01eecc85d167ff4acf726a1ca43814d5a9e1ab9", func := "phaeton/phaetonlaw20.TplinkWhole", spec := "tplinkWhole", unfollowed := true, recurses := true, apart := false }
def TplinkWholeSaid : Prop := tplinkWholeRow.holds Try.pinned (OpenSpec.ofChange tplinkWholeSpec)

/-- ITS FALSE NEIGHBOUR: 'it returns false'. Refute it at one input. -/
def tplinkWholeWrong : ChangeSpec := { name := "tplinkWhole", fn := fun _ => fun
  | [d1, d2, d3, d4, d5] => { results := [.lit (.bool false)], args := [d1, d2, d3, d4, d5] }
  | _ => none }
def TplinkWholeWrongFalsely : Prop := tplinkWholeRow.holds Try.pinned (OpenSpec.ofChange tplinkWholeWrong)

/-- 'phaetonlaw20.TplinkPasses': WHATEVER THE INPUT: true; the input reads as it did. -/
def tplinkPassesSpec : ChangeSpec := { name := "tplinkPasses", fn := fun _ => fun
  | [d1, d2, d3, d4] => { results := [.lit (.bool true)], args := [d1, d2, d3, d4] }
  | _ => none }
def tplinkPassesRow : OpenClaim := { program := "ytpnhnobnjcknjaa", sum := "4cd3fc597bd14a7631b642cae01eecc85d167ff4acf726a1ca43814d5a9e1ab9", func := "phaeton/phaetonlaw20.TplinkPasses", spec := "tplinkPasses", unfollowed := true, recurses := true, apart := false }
def TplinkPassesSaid : Prop := tplinkPassesRow.holds Try.pinned (OpenSpec.ofChange tplinkPassesSpec)

/-- ITS FALSE NEIGHBOUR: 'it returns false'. Refute it at one input. -/
def tplinkPassesWrong : ChangeSpec := { name := "tplinkPasses", fn := fun _ => fun
  | [d1, d2, d3, d4] => { results := [.lit (.bool false)], args := [d1, d2, d3, d4] }
  | _ => none }
def TplinkPassesWrongFalsely : Prop := tplinkPassesRow.holds Try.pinned (OpenSpec.ofChange tplinkPassesWrong)

/-- 'phaetonlaw20.TplinkEnds': WHATEVER THE INPUT: true; the input reads as it did. -/
def tplinkEndsSpec : ChangeSpec := { name := "tplinkEnds", fn := fun _ => fun
  | [d1, d2, d3, d4, d5] => { results := [.lit (.bool true)], args := [d1, d2, d3, d4, d5] }
  | _ => none }
def tplinkEndsRow : OpenClaim := { program := "ytpnhnobnjcknjaa", sum := "4cd3fc597bd14a7631b642cae01eecc85d167ff4acf726a1ca43814d5a9e1ab9", func := "phaeton/phaetonlaw20.TplinkEnds", spec := "tplinkEnds", unfollowed := true, recurses := true, apart := false }
def TplinkEndsSaid : Prop := tplinkEndsRow.holds Try.pinned (OpenSpec.ofChange tplinkEndsSpec)

/-- ITS FALSE NEIGHBOUR: 'it returns false'. Refute it at one input. -/
def tplinkEndsWrong : ChangeSpec := { name := "tplinkEnds", fn := fun _ => fun
  | [d1, d2, d3, d4, d5] => { results := [.lit (.bool false)], args := [d1, d2, d3, d4, d5] }
  | _ => none }
def TplinkEndsWrongFalsely : Prop := tplinkEndsRow.holds Try.pinned (OpenSpec.ofChange tplinkEndsWrong)

/-- 'phaetonlaw20.TplinkLost': WHATEVER THE INPUT: true; the input reads as it did. -/
def tplinkLostSpec : ChangeSpec := { name := "tplinkLost", fn := fun _ => fun
  | [d1, d2, d3] => { results := [.lit (.bool true)], args := [d1, d2, d3] }
  | _ => none }
def tplinkLostRow : OpenClaim := { program := "ytpnhnobnjcknjaa", sum := "4cd3fc597bd14a7631b642cae01eecc85d167ff4acf726a1ca43814d5a9e1ab9", func := "phaeton/phaetonlaw20.TplinkLost", spec := "tplinkLost", unfollowed := true, recurses := true, apart := false }
def TplinkLostSaid : Prop := tplinkLostRow.holds Try.pinned (OpenSpec.ofChange tplinkLostSpec)

/-- ITS FALSE NEIGHBOUR: 'it returns false'. Refute it at one input. -/
def tplinkLostWrong : ChangeSpec := { name := "tplinkLost", fn := fun _ => fun
  | [d1, d2, d3] => { results := [.lit (.bool false)], args := [d1, d2, d3] }
  | _ => none }
def TplinkLostWrongFalsely : Prop := tplinkLostRow.holds Try.pinned (OpenSpec.ofChange tplinkLostWrong)

/-- 'phaetonlaw20.TplinkTwice': WHATEVER THE INPUT: true; the input reads as it did. -/
def tplinkTwiceSpec : ChangeSpec := { name := "tplinkTwice", fn := fun _ => fun
  | [d1, d2, d3, d4, d5, d6] => { results := [.lit (.bool true)], args := [d1, d2, d3, d4, d5, d6] }
  | _ => none }
def tplinkTwiceRow : OpenClaim := { program := "ytpnhnobnjcknjaa", sum := "4cd3fc597bd14a7631b642cae01eecc85d167ff4acf726a1ca43814d5a9e1ab9", func := "phaeton/phaetonlaw20.TplinkTwice", spec := "tplinkTwice", unfollowed := true, recurses := true, apart := false }
def TplinkTwiceSaid : Prop := tplinkTwiceRow.holds Try.pinned (OpenSpec.ofChange tplinkTwiceSpec)

/-- ITS FALSE NEIGHBOUR: 'it returns false'. Refute it at one input. -/
def tplinkTwiceWrong : ChangeSpec := { name := "tplinkTwice", fn := fun _ => fun
  | [d1, d2, d3, d4, d5, d6] => { results := [.lit (.bool false)], args := [d1, d2, d3, d4, d5, d6] }
  | _ => none }
def TplinkTwiceWrongFalsely : Prop := tplinkTwiceRow.holds Try.pinned (OpenSpec.ofChange tplinkTwiceWrong)

/-- 'phaetonlaw20.TplinkRoom': WHATEVER THE INPUT: true; the input reads as it did. -/
def tplinkRoomSpec : ChangeSpec := { name := "tplinkRoom", fn := fun _ => fun
  | [d1, d2, d3, d4] => { results := [.lit (.bool true)], args := [d1, d2, d3, d4] }
  | _ => none }
def tplinkRoomRow : OpenClaim := { program := "ytpnhnobnjcknjaa", sum := "4cd3fc597bd14a7631b642cae01eecc85d167ff4acf726a1ca43814d5a9e1ab9", func := "phaeton/phaetonlaw20.TplinkRoom", spec := "tplinkRoom", unfollowed := true, recurses := true, apart := false }
def TplinkRoomSaid : Prop := tplinkRoomRow.holds Try.pinned (OpenSpec.ofChange tplinkRoomSpec)

/-- ITS FALSE NEIGHBOUR: 'it returns false'. Refute it at one input. -/
def tplinkRoomWrong : ChangeSpec := { name := "tplinkRoom", fn := fun _ => fun
  | [d1, d2, d3, d4] => { results := [.lit (.bool false)], args := [d1, d2, d3, d4] }
  | _ => none }
def TplinkRoomWrongFalsely : Prop := tplinkRoomRow.holds Try.pinned (OpenSpec.ofChange tplinkRoomWrong)

/-- 'phaetonlaw20.TplinkGrows': WHATEVER THE INPUT: true; the input reads as it did. -/
def tplinkGrowsSpec : ChangeSpec := { name := "tplinkGrows", fn := fun _ => fun
  | [d1, d2, d3, d4, d5] => { results := [.lit (.bool true)], args := [d1, d2, d3, d4, d5] }
  | _ => none }
def tplinkGrowsRow : OpenClaim := { program := "ytpnhnobnjcknjaa", sum := "4cd3fc597bd14a7631b642cae01eecc85d167ff4acf726a1ca43814d5a9e1ab9", func := "phaeton/phaetonlaw20.TplinkGrows", spec := "tplinkGrows", unfollowed := true, recurses := true, apart := false }
def TplinkGrowsSaid : Prop := tplinkGrowsRow.holds Try.pinned (OpenSpec.ofChange tplinkGrowsSpec)

/-- ITS FALSE NEIGHBOUR: 'it returns false'. Refute it at one input. -/
def tplinkGrowsWrong : ChangeSpec := { name := "tplinkGrows", fn := fun _ => fun
  | [d1, d2, d3, d4, d5] => { results := [.lit (.bool false)], args := [d1, d2, d3, d4, d5] }
  | _ => none }
def TplinkGrowsWrongFalsely : Prop := tplinkGrowsRow.holds Try.pinned (OpenSpec.ofChange tplinkGrowsWrong)

/- THE SECOND FORM. 'bulk': how many values and letters a reading holds, each counted each time it is reached (what is shared counts as often as it is met; a slice's spare places count too). A statement '..UptoSaid' is the law's where the arguments, and the package variables that the reading takes, are together of bulk at most 1048576: NARROWER than '..Said'. Prove '..Said' where nothing that the law and all that it calls make is longer than what came in: it says more and counts as full. Else prove '..UptoSaid'. A law counts once. -/
mutual
def uptoBulk {H : Type} : DataW H → Nat
  | .lit (.string bytes) => bytes.length + 1
  | .lit _ => 1
  | .nil => 1
  | .ptr d => uptoBulk d + 1
  | .slice elems spare => uptoBulkAll elems + uptoBulkAll spare + 1
  | .agg parts => uptoBulkAll parts + 1
  | .iface _ d => uptoBulk d + 1
  | .map entries => uptoBulkEntries entries + 1
  | .held _ => 1
def uptoBulkAll {H : Type} : List (DataW H) → Nat
  | [] => 0
  | d :: r => uptoBulk d + uptoBulkAll r
def uptoBulkEntries {H : Type} : List (Lit × DataW H) → Nat
  | [] => 0
  | x :: r => uptoBulkEntry x + uptoBulkEntries r
def uptoBulkEntry {H : Type} : Lit × DataW H → Nat
  | (.string bytes, d) => bytes.length + uptoBulk d + 1
  | (_, d) => uptoBulk d + 1
 end
def uptoSmall : (H : Type) → List (DataW H) → Bool := fun _ ds => decide (uptoBulkAll ds ≤ 1048576)
def OpenSpec.upto (s : _root_.Go.ChangeSpec) : _root_.Go.OpenSpec := { _root_.Go.OpenSpec.ofChange s with cond := some uptoSmall }

/-- 'phaetonlaw19.TprecvTells', WHERE WHAT IT READS IS OF BULK AT MOST 1048576: true; the input reads as it did. -/
def tprecvTellsUptoRow : OpenClaim := { program := "ytpnhnobnjcknjaa", sum := "4cd3fc597bd14a7631b642cae01eecc85d167ff4acf726a1ca43814d5a9e1ab9", func := "phaeton/phaetonlaw19.TprecvTells", spec := "tprecvTells", unfollowed := true, recurses := true, apart := false, narrowed := true }
def TprecvTellsUptoSaid : Prop := tprecvTellsUptoRow.holds Try.pinned (OpenSpec.upto tprecvTellsSpec)

/-- 'phaetontop.TopNextText', WHERE WHAT IT READS IS OF BULK AT MOST 1048576: true; the input reads as it did. -/
def topNextTextUptoRow : OpenClaim := { program := "ytpnhnobnjcknjaa", sum := "4cd3fc597bd14a7631b642cae01eecc85d167ff4acf726a1ca43814d5a9e1ab9", func := "phaeton/phaetontop.TopNextText", spec := "topNextText", unfollowed := true, recurses := true, apart := false, narrowed := true }
def TopNextTextUptoSaid : Prop := topNextTextUptoRow.holds Try.pinned (OpenSpec.upto topNextTextSpec)

/-- 'phaetonlaw19.TprecvWhole', WHERE WHAT IT READS IS OF BULK AT MOST 1048576: true; the input reads as it did. -/
def tprecvWholeUptoRow : OpenClaim := { program := "ytpnhnobnjcknjaa", sum := "4cd3fc597bd14a7631b642cae01eecc85d167ff4acf726a1ca43814d5a9e1ab9", func := "phaeton/phaetonlaw19.TprecvWhole", spec := "tprecvWhole", unfollowed := true, recurses := true, apart := false, narrowed := true }
def TprecvWholeUptoSaid : Prop := tprecvWholeUptoRow.holds Try.pinned (OpenSpec.upto tprecvWholeSpec)

/-- 'phaetonlaw19.TprecvLost', WHERE WHAT IT READS IS OF BULK AT MOST 1048576: true; the input reads as it did. -/
def tprecvLostUptoRow : OpenClaim := { program := "ytpnhnobnjcknjaa", sum := "4cd3fc597bd14a7631b642cae01eecc85d167ff4acf726a1ca43814d5a9e1ab9", func := "phaeton/phaetonlaw19.TprecvLost", spec := "tprecvLost", unfollowed := true, recurses := true, apart := false, narrowed := true }
def TprecvLostUptoSaid : Prop := tprecvLostUptoRow.holds Try.pinned (OpenSpec.upto tprecvLostSpec)

/-- 'phaetonlaw19.TprecvTime', WHERE WHAT IT READS IS OF BULK AT MOST 1048576: true; the input reads as it did. -/
def tprecvTimeUptoRow : OpenClaim := { program := "ytpnhnobnjcknjaa", sum := "4cd3fc597bd14a7631b642cae01eecc85d167ff4acf726a1ca43814d5a9e1ab9", func := "phaeton/phaetonlaw19.TprecvTime", spec := "tprecvTime", unfollowed := true, recurses := true, apart := false, narrowed := true }
def TprecvTimeUptoSaid : Prop := tprecvTimeUptoRow.holds Try.pinned (OpenSpec.upto tprecvTimeSpec)

/-- 'phaetonlaw19.TprecvRoom', WHERE WHAT IT READS IS OF BULK AT MOST 1048576: true; the input reads as it did. -/
def tprecvRoomUptoRow : OpenClaim := { program := "ytpnhnobnjcknjaa", sum := "4cd3fc597bd14a7631b642cae01eecc85d167ff4acf726a1ca43814d5a9e1ab9", func := "phaeton/phaetonlaw19.TprecvRoom", spec := "tprecvRoom", unfollowed := true, recurses := true, apart := false, narrowed := true }
def TprecvRoomUptoSaid : Prop := tprecvRoomUptoRow.holds Try.pinned (OpenSpec.upto tprecvRoomSpec)

/-- 'phaetonlaw19.TprecvEnds', WHERE WHAT IT READS IS OF BULK AT MOST 1048576: true; the input reads as it did. -/
def tprecvEndsUptoRow : OpenClaim := { program := "ytpnhnobnjcknjaa", sum := "4cd3fc597bd14a7631b642cae01eecc85d167ff4acf726a1ca43814d5a9e1ab9", func := "phaeton/phaetonlaw19.TprecvEnds", spec := "tprecvEnds", unfollowed := true, recurses := true, apart := false, narrowed := true }
def TprecvEndsUptoSaid : Prop := tprecvEndsUptoRow.holds Try.pinned (OpenSpec.upto tprecvEndsSpec)

/-- 'phaetonlaw19.TprecvAnew', WHERE WHAT IT READS IS OF BULK AT MOST 1048576: true; the input reads as it did. -/
def tprecvAnewUptoRow : OpenClaim := { program := "ytpnhnobnjcknjaa", sum := "4cd3fc597bd14a7631b642cae01eecc85d167ff4acf726a1ca43814d5a9e1ab9", func := "phaeton/phaetonlaw19.TprecvAnew", spec := "tprecvAnew", unfollowed := true, recurses := true, apart := false, narrowed := true }
def TprecvAnewUptoSaid : Prop := tprecvAnewUptoRow.holds Try.pinned (OpenSpec.upto tprecvAnewSpec)

/-- 'phaetontop.TopParts', WHERE WHAT IT READS IS OF BULK AT MOST 1048576: true; the input reads as it did. -/
def topPartsUptoRow : OpenClaim := { program := "ytpnhnobnjcknjaa", sum := "4cd3fc597bd14a7631b642cae01eecc85d167ff4acf726a1ca43814d5a9e1ab9", func := "phaeton/phaetontop.TopParts", spec := "topParts", unfollowed := true, recurses := true, apart := false, narrowed := true }
def TopPartsUptoSaid : Prop := topPartsUptoRow.holds Try.pinned (OpenSpec.upto topPartsSpec)

/-- 'phaetonlaw20.TplinkTells', WHERE WHAT IT READS IS OF BULK AT MOST 1048576: true; the input reads as it did. -/
def tplinkTellsUptoRow : OpenClaim := { program := "ytpnhnobnjcknjaa", sum := "4cd3fc597bd14a7631b642cae01eecc85d167ff4acf726a1ca43814d5a9e1ab9", func := "phaeton/phaetonlaw20.TplinkTells", spec := "tplinkTells", unfollowed := true, recurses := true, apart := false, narrowed := true }
def TplinkTellsUptoSaid : Prop := tplinkTellsUptoRow.holds Try.pinned (OpenSpec.upto tplinkTellsSpec)

/-- 'phaetonlaw20.TplinkWhole', WHERE WHAT IT READS IS OF BULK AT MOST 1048576: true; the input reads as it did. -/
def tplinkWholeUptoRow : OpenClaim := { program := "ytpnhnobnjcknjaa", sum := "4cd3fc597bd14a7631b642cae01eecc85d167ff4acf726a1ca43814d5a9e1ab9", func := "phaeton/phaetonlaw20.TplinkWhole", spec := "tplinkWhole", unfollowed := true, recurses := true, apart := false, narrowed := true }
def TplinkWholeUptoSaid : Prop := tplinkWholeUptoRow.holds Try.pinned (OpenSpec.upto tplinkWholeSpec)

/-- 'phaetonlaw20.TplinkPasses', WHERE WHAT IT READS IS OF BULK AT MOST 1048576: true; the input reads as it did. -/
def tplinkPassesUptoRow : OpenClaim := { program := "ytpnhnobnjcknjaa", sum := "4cd3fc597bd14a7631b642cae01eecc85d167ff4acf726a1ca43814d5a9e1ab9", func := "phaeton/phaetonlaw20.TplinkPasses", spec := "tplinkPasses", unfollowed := true, recurses := true, apart := false, narrowed := true }
def TplinkPassesUptoSaid : Prop := tplinkPassesUptoRow.holds Try.pinned (OpenSpec.upto tplinkPassesSpec)

/-- 'phaetonlaw20.TplinkEnds', WHERE WHAT IT READS IS OF BULK AT MOST 1048576: true; the input reads as it did. -/
def tplinkEndsUptoRow : OpenClaim := { program := "ytpnhnobnjcknjaa", sum := "4cd3fc597bd14a7631b642cae01eecc85d167ff4acf726a1ca43814d5a9e1ab9", func := "phaeton/phaetonlaw20.TplinkEnds", spec := "tplinkEnds", unfollowed := true, recurses := true, apart := false, narrowed := true }
def TplinkEndsUptoSaid : Prop := tplinkEndsUptoRow.holds Try.pinned (OpenSpec.upto tplinkEndsSpec)

/-- 'phaetonlaw20.TplinkLost', WHERE WHAT IT READS IS OF BULK AT MOST 1048576: true; the input reads as it did. -/
def tplinkLostUptoRow : OpenClaim := { program := "ytpnhnobnjcknjaa", sum := "4cd3fc597bd14a7631b642cae01eecc85d167ff4acf726a1ca43814d5a9e1ab9", func := "phaeton/phaetonlaw20.TplinkLost", spec := "tplinkLost", unfollowed := true, recurses := true, apart := false, narrowed := true }
def TplinkLostUptoSaid : Prop := tplinkLostUptoRow.holds Try.pinned (OpenSpec.upto tplinkLostSpec)

/-- 'phaetonlaw20.TplinkTwice', WHERE WHAT IT READS IS OF BULK AT MOST 1048576: true; the input reads as it did. -/
def tplinkTwiceUptoRow : OpenClaim := { program := "ytpnhnobnjcknjaa", sum := "4cd3fc597bd14a7631b642cae01eecc85d167ff4acf726a1ca43814d5a9e1ab9", func := "phaeton/phaetonlaw20.TplinkTwice", spec := "tplinkTwice", unfollowed := true, recurses := true, apart := false, narrowed := true }
def TplinkTwiceUptoSaid : Prop := tplinkTwiceUptoRow.holds Try.pinned (OpenSpec.upto tplinkTwiceSpec)

/-- 'phaetonlaw20.TplinkRoom', WHERE WHAT IT READS IS OF BULK AT MOST 1048576: true; the input reads as it did. -/
def tplinkRoomUptoRow : OpenClaim := { program := "ytpnhnobnjcknjaa", sum := "4cd3fc597bd14a7631b642cae01eecc85d167ff4acf726a1ca43814d5a9e1ab9", func := "phaeton/phaetonlaw20.TplinkRoom", spec := "tplinkRoom", unfollowed := true, recurses := true, apart := false, narrowed := true }
def TplinkRoomUptoSaid : Prop := tplinkRoomUptoRow.holds Try.pinned (OpenSpec.upto tplinkRoomSpec)

/-- 'phaetonlaw20.TplinkGrows', WHERE WHAT IT READS IS OF BULK AT MOST 1048576: true; the input reads as it did. -/
def tplinkGrowsUptoRow : OpenClaim := { program := "ytpnhnobnjcknjaa", sum := "4cd3fc597bd14a7631b642cae01eecc85d167ff4acf726a1ca43814d5a9e1ab9", func := "phaeton/phaetonlaw20.TplinkGrows", spec := "tplinkGrows", unfollowed := true, recurses := true, apart := false, narrowed := true }
def TplinkGrowsUptoSaid : Prop := tplinkGrowsUptoRow.holds Try.pinned (OpenSpec.upto tplinkGrowsSpec)

end Rows
end Go.Proofs.Ytpnhnobnjcknjaa
