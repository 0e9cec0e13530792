/-
  No cell of these rows narrows 'for every input' (looked for: loops, veiled, ifaces, maps, wideKeys, modest, calm, conditions, laid).
  DERIVED. THE GIVEN ROWS OF THIS SEAT. 4 by the template 'for every input the law returns true; each argument reads behind the call as it read before'; 0 by the template 'total and deterministic' (their statements: YtojmfbmcpjjheaaTotals.lean).
  GIVEN WITH THE SEED: the statements are not yours to turn. If you find one false, say at which input.
  Laid BY PROGRAM, IN A SANDBOX (cutbox-rows.mjs): the forced cells as the released guide's own fill.sh prints them over the translation 62ed91d39c28a26d… (all of the seat's roots in one cut). By AI agents, Wed Nov 11 2026. No macro, syntax, notation, axiom, sorry.
-/
import Derived.Test.YtojmfbmcpjjheaaChecked
import GoSem.Claim
import GoSem.ClaimJoined
import GoSem.ClaimMapViews
import Derived.JoinedTies
import Derived.KernelRfl
namespace Go.Proofs.Ytojmfbmcpjjheaa
/- THE CELL 'sum', in the pinned program and in every row, IS THE sha256 OF THE DUMP (.gsa) THAT YtojmfbmcpjjheaaProg.lean LOADS. Nothing in Lean hashes anything: it is a label: what it is worth is what the hold of that sum in a sandbox is worth. -/
noncomputable def Try.pinned : Pinned := { name := "ytojmfbmcpjjheaa", sum := "62ed91d39c28a26dc25ef0f12b2fadb46619d828f3b3fa5ff6c723bbb2e3746c", checked := Try.checked }
namespace Rows
def none {H : Type} : Left H := { results := [], args := [] }

/-- 'phaetonlaw17.TpWhole': WHATEVER THE INPUT: true; the input reads as it did. -/
def tpWholeSpec : ChangeSpec := { name := "tpWhole", fn := fun _ => fun
  | [d] => { results := [.lit (.bool true)], args := [d] }
  | _ => none }
def tpWholeRow : OpenClaim := { program := "ytojmfbmcpjjheaa", sum := "62ed91d39c28a26dc25ef0f12b2fadb46619d828f3b3fa5ff6c723bbb2e3746c", func := "phaeton/phaetonlaw17.TpWhole", spec := "tpWhole", unfollowed := true, recurses := true, apart := false }
def TpWholeSaid : Prop := tpWholeRow.holds Try.pinned (OpenSpec.ofChange tpWholeSpec)

/-- ITS FALSE NEIGHBOUR: 'it returns false'. Refute it at one input. -/
def tpWholeWrong : ChangeSpec := { name := "tpWhole", fn := fun _ => fun
  | [d] => { results := [.lit (.bool false)], args := [d] }
  | _ => none }
def TpWholeWrongFalsely : Prop := tpWholeRow.holds Try.pinned (OpenSpec.ofChange tpWholeWrong)

/-- 'phaetonlaw17.TpNumbers': WHATEVER THE INPUT: true; the input reads as it did. -/
def tpNumbersSpec : ChangeSpec := { name := "tpNumbers", fn := fun _ => fun
  | [d] => { results := [.lit (.bool true)], args := [d] }
  | _ => none }
def tpNumbersRow : OpenClaim := { program := "ytojmfbmcpjjheaa", sum := "62ed91d39c28a26dc25ef0f12b2fadb46619d828f3b3fa5ff6c723bbb2e3746c", func := "phaeton/phaetonlaw17.TpNumbers", spec := "tpNumbers", unfollowed := true, recurses := true, apart := false }
def TpNumbersSaid : Prop := tpNumbersRow.holds Try.pinned (OpenSpec.ofChange tpNumbersSpec)

/-- ITS FALSE NEIGHBOUR: 'it returns false'. Refute it at one input. -/
def tpNumbersWrong : ChangeSpec := { name := "tpNumbers", fn := fun _ => fun
  | [d] => { results := [.lit (.bool false)], args := [d] }
  | _ => none }
def TpNumbersWrongFalsely : Prop := tpNumbersRow.holds Try.pinned (OpenSpec.ofChange tpNumbersWrong)

/-- 'phaetonlaw17.TpKinds': WHATEVER THE INPUT: true; the input reads as it did. -/
def tpKindsSpec : ChangeSpec := { name := "tpKinds", fn := fun _ => fun
  | [d] => { results := [.lit (.bool true)], args := [d] }
  | _ => none }
def tpKindsRow : OpenClaim := { program := "ytojmfbmcpjjheaa", sum := "62ed91d39c28a26dc25ef0f12b2fadb46619d828f3b3fa5ff6c723bbb2e3746c", func := "phaeton/phaetonlaw17.TpKinds", spec := "tpKinds", unfollowed := true, recurses := true, apart := false }
def TpKindsSaid : Prop := tpKindsRow.holds Try.pinned (OpenSpec.ofChange tpKindsSpec)

/-- ITS FALSE NEIGHBOUR: 'it returns false'. Refute it at one input. -/
def tpKindsWrong : ChangeSpec := { name := "tpKinds", fn := fun _ => fun
  | [d] => { results := [.lit (.bool false)], args := [d] }
  | _ => none }
def TpKindsWrongFalsely : Prop := tpKindsRow.holds Try.pinned (OpenSpec.ofChange tpKindsWrong)

/-- 'phaetonlaw17.TpApart': WHATEVER THE INPUT: true; the input reads as it did. -/
def tpApartSpec : ChangeSpec := { name := "tpApart", fn := fun _ => fun
  | [d1, d2, d3, d4] => { results := [.lit (.bool true)], args := [d1, d2, d3, d4] }
  | _ => none }
def tpApartRow : OpenClaim := { program := "ytojmfbmcpjjheaa", sum := "62ed91d39c28a26dc25ef0f12b2fadb46619d828f3b3fa5ff6c723bbb2e3746c", func := "phaeton/phaetonlaw17.TpApart", spec := "tpApart", unfollowed := true, recurses := true, apart := false }
def TpApartSaid : Prop := tpApartRow.holds Try.pinned (OpenSpec.ofChange tpApartSpec)

/-- ITS FALSE NEIGHBOUR: 'it returns false'. Refute it at one input. -/
def tpApartWrong : ChangeSpec := { name := "tpApart", fn := fun _ => fun
  | [d1, d2, d3, d4] => { results := [.lit (.bool false)], args := [d1, d2, d3, d4] }
  | _ => none }
def TpApartWrongFalsely : Prop := tpApartRow.holds Try.pinned (OpenSpec.ofChange tpApartWrong)

/- THE SECOND FORM. 'bulk': how many values and letters a reading holds, each counted each time it is reached (what is shared counts as often as it is met; a slice's spare places count too). A statement '..UptoSaid' is the law's where the arguments, and the package variables that the reading takes, are together of bulk at most 1048576: NARROWER than '..Said'. Prove '..Said' where nothing that the law and all that it calls make is longer than what came in: it says more and counts as full. Else prove '..UptoSaid'. A law counts once. -/
mutual
def uptoBulk {H : Type} : DataW H → Nat
  | .lit (.string bytes) => bytes.length + 1
  | .lit _ => 1
  | .nil => 1
  | .ptr d => uptoBulk d + 1
  | .slice elems spare => uptoBulkAll elems + uptoBulkAll spare + 1
  | .agg parts => uptoBulkAll parts + 1
  | .iface _ d => uptoBulk d + 1
  | .map entries => uptoBulkEntries entries + 1
  | .held _ => 1
def uptoBulkAll {H : Type} : List (DataW H) → Nat
  | [] => 0
  | d :: r => uptoBulk d + uptoBulkAll r
def uptoBulkEntries {H : Type} : List (Lit × DataW H) → Nat
  | [] => 0
  | x :: r => uptoBulkEntry x + uptoBulkEntries r
def uptoBulkEntry {H : Type} : Lit × DataW H → Nat
  | (.string bytes, d) => bytes.length + uptoBulk d + 1
  | (_, d) => uptoBulk d + 1
 end
def uptoSmall : (H : Type) → List (DataW H) → Bool := fun _ ds => decide (uptoBulkAll ds ≤ 1048576)
def OpenSpec.upto (s : _root_.Go.ChangeSpec) : _root_.Go.OpenSpec := { _root_.Go.OpenSpec.ofChange s with cond := some uptoSmall }

/-- 'phaetonlaw17.TpWhole', WHERE WHAT IT READS IS OF BULK AT MOST 1048576: true; the input reads as it did. -/
def tpWholeUptoRow : OpenClaim := { program := "ytojmfbmcpjjheaa", sum := "62ed91d39c28a26dc25ef0f12b2fadb46619d828f3b3fa5ff6c723bbb2e3746c", func := "phaeton/phaetonlaw17.TpWhole", spec := "tpWhole", unfollowed := true, recurses := true, apart := false, narrowed := true }
def TpWholeUptoSaid : Prop := tpWholeUptoRow.holds Try.pinned (OpenSpec.upto tpWholeSpec)

/-- 'phaetonlaw17.TpNumbers', WHERE WHAT IT READS IS OF BULK AT MOST 1048576: true; the input reads as it did. -/
def tpNumbersUptoRow : OpenClaim := { program := "ytojmfbmcpjjheaa", sum := "62ed91d39c28a26dc25ef0f12b2fadb46619d828f3b3fa5ff6c723bbb2e3746c", func := "phaeton/phaetonlaw17.TpNumbers", spec := "tpNumbers", unfollowed := true, recurses := true, apart := false, narrowed := true }
def TpNumbersUptoSaid : Prop := tpNumbersUptoRow.holds Try.pinned (OpenSpec.upto tpNumbersSpec)

/-- 'phaetonlaw17.TpKinds', WHERE WHAT IT READS IS OF BULK AT MOST 1048576: true; the input reads as it did. -/
def tpKindsUptoRow : OpenClaim := { program := "ytojmfbmcpjjheaa", sum := "62ed91d39c28a26dc25ef0f12b2fadb46619d828f3b3fa5ff6c723bbb2e3746c", func := "phaeton/phaetonlaw17.TpKinds", spec := "tpKinds", unfollowed := true, recurses := true, apart := false, narrowed := true }
def TpKindsUptoSaid : Prop := tpKindsUptoRow.holds Try.pinned (OpenSpec.upto tpKindsSpec)

/-- 'phaetonlaw17.TpApart', WHERE WHAT IT READS IS OF BULK AT MOST 1048576: true; the input reads as it did. -/
def tpApartUptoRow : OpenClaim := { program := "ytojmfbmcpjjheaa", sum := "62ed91d39c28a26dc25ef0f12b2fadb46619d828f3b3fa5ff6c723bbb2e3746c", func := "phaeton/phaetonlaw17.TpApart", spec := "tpApart", unfollowed := true, recurses := true, apart := false, narrowed := true }
def TpApartUptoSaid : Prop := tpApartUptoRow.holds Try.pinned (OpenSpec.upto tpApartSpec)

end Rows
end Go.Proofs.Ytojmfbmcpjjheaa
