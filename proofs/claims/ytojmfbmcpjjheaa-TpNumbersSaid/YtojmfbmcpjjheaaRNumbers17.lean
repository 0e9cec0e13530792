/- The law TpNumbers holds: behind a head, which tells how long the text is, parts are numbered by ones, and behind 15 by 0; all but the last one have seven bytes. No condition. -/
import Derived.Test.YtojmfbmcpjjheaaCS1
import Derived.Test.YtojmfbmcpjjheaaT6
import Derived.Test.YtojmfbmcpjjheaaPeR
import Derived.Test.YtojmfbmcpjjheaaRows
import Derived.WalkKit
import Derived.ProofKit
import Derived.OpenShut
import Derived.ShutString
import Derived.ChangeOld
import Derived.Below
import Derived.SizedLaws
import Derived.Carry
namespace Go.Proofs.Ytojmfbmcpjjheaa.PeTpNumbers
open Go.Pe Go.RowKit Go.ChangeShapes Go.WideShapes Go.ChangeAt Go.Proofs.Ytojmfbmcpjjheaa.Pe
set_option maxRecDepth 20000
set_option linter.unusedVariables false
theorem own : ownKnob Try.prog.godebug = none := by kernel_rfl
theorem laidOut : laidOutB Try.prog = true := by kernel_rfl
set_option maxRecDepth 100000 in
theorem lifted (os : Os) (started : os.Started) (H : Type) (enc : TypeId × Value → H) :
    ReturnsInHanded {} Try.checked os 4 .any (Rows.tpNumbersSpec.pre6 enc Try.prog Try.f4 Rows.tpNumbersRow.domain false) (Rows.tpNumbersSpec.post enc Try.prog Try.f4 false true false false) := by
  refine returnsInHanded_of_change_sized (C := Try.checked) own started (by kernel_rfl) Try.func4
    (ChangeSpec.witness6 (enc := enc) (C := Try.checked) false ⟨#[], #[.slice none 0 0], []⟩ 8 (by kernel_rfl) (by kernel_rfl) (by kernel_rfl) (by kernel_rfl)) ?_
  intro W base args ds gs before hval0 hW hcnd hsz0 _
  have hval : ∀ (j : Nat) t v, Try.f4.params[j]? = some t → args[j]? = some v → Value.okWide Try.prog W .any base t v := hval0
  have hW' := hW
  obtain ⟨p, q, hA0, hV, rfl, hfz, hnd⟩ := hW
  have hA : DataW.TrodAll enc Try.prog W 0 (fun _ => true) true Try.f4.params.toList args.toList ds p := hA0
  rw [Try.params4] at hA hval
  obtain ⟨v0, vs0, d0, ds0, p0, q0, hargs, rfl, rfl, h0, r0⟩ := trodAll_cons hA
  obtain ⟨rfl, rfl, rfl⟩ := trodAll_nil r0
  obtain rfl : args = #[v0] := by cases args; simp_all
  obtain ⟨rfl, rfl⟩ := trodVars_none hV
  have lt0 : ∀ x ∈ p0, x.block < W.heap.size := by obtain ⟨m, hm⟩ := h0; exact DataW.trod_lt m _ _ _ hm
  obtain ⟨a0, len0, cap0, rfl⟩ := okWide_slice Try.underlying22 (hval 0 22 v0 rfl rfl)
  have k0 := h0
  obtain ⟨f0, e0⟩ := h0
  obtain ⟨x0, s0, c0⟩ := trod_shape 8 22 f0 _ _ (by kernel_rfl) e0
  obtain ⟨l0, y0⟩ := shape22 s0
  have z0 := arg_one c0 rfl y0
  clear hA0 hval0 hsz0
  refine ((numbers17_calls l0).law (w := W) (vs := #[.slice a0 len0 cap0]) rfl (fun i pv hi => ?_)).mono fun e W' ⟨he, bel⟩ => ?_
  · match i, hi with
    | 0, hi => cases hi; exact z0
    | i + 1, hi => simp at hi
  subst he
  exact ⟨_, rfl, _, _, _, [], _, [], hW', trodAll_mk1 (shut_bool Try.underlying4 _), (trodAll_cons_mk (Below.trod laidOut (by kernel_rfl) (of_decide_eq_true (by kernel_rfl)) k0 bel lt0) trodAll_mk0), rfl, bel.frame _, fun h => by cases h⟩
theorem over : Rows.tpNumbersRow.holds Try.pinned (OpenSpec.ofChange Rows.tpNumbersSpec) :=
  OpenClaim.holds_of_wide 4 Try.f4 rfl rfl rfl rfl rfl rfl rfl ⟨rfl, rfl, rfl, rfl, rfl⟩ rfl rfl rfl rfl rfl (by kernel_rfl) Try.func4 (by kernel_rfl)
    (of_decide_eq_true (by kernel_rfl)) (by unfold Func.isWrapper; first | (rw [if_pos (by decide +kernel)]; kernel_rfl) | (rw [if_neg (by decide +kernel)]; exact ⟨rfl, rfl⟩))
    (fun os started H enc _ => lifted os started H enc)
theorem proved : Rows.TpNumbersSaid := over
#print axioms proved
end Go.Proofs.Ytojmfbmcpjjheaa.PeTpNumbers
namespace Go.Proofs.Ytojmfbmcpjjheaa
/-- The row of TpNumbers. -/
theorem tpNumbers_holds : Rows.TpNumbersSaid := PeTpNumbers.proved
end Go.Proofs.Ytojmfbmcpjjheaa

