/- The law TesterThrough holds: if nothing is lost, a talk is a question that is asked, and its answer. No condition. -/
import Derived.Test.YtcdmhigmgpflbaaTS9
import Derived.Test.YtcdmhigmgpflbaaCS9
import Derived.Test.YtcdmhigmgpflbaaPeH
import Derived.Test.YtcdmhigmgpflbaaPeR
import Derived.Test.YtcdmhigmgpflbaaRows
import Derived.WalkKit
import Derived.ProofKit
import Derived.OpenShut
import Derived.ShutString
import Derived.ChangeOld
import Derived.Below
import Derived.SizedLaws
import Derived.Carry
namespace Go.Proofs.Ytcdmhigmgpflbaa.PeTesterThrough
open Go.Pe Go.RowKit Go.ChangeShapes Go.WideShapes Go.ChangeAt Go.Proofs.Ytcdmhigmgpflbaa.Pe
set_option maxRecDepth 20000
set_option linter.unusedVariables false
theorem own : ownKnob Try.prog.godebug = none := by kernel_rfl
theorem laidOut : laidOutB Try.prog = true := by kernel_rfl
set_option maxRecDepth 100000 in
theorem lifted (os : Os) (started : os.Started) (H : Type) (enc : TypeId × Value → H) :
    ReturnsInHanded {} Try.checked os 12 .any (Rows.testerThroughSpec.pre6 enc Try.prog Try.f12 Rows.testerThroughRow.domain false) (Rows.testerThroughSpec.post enc Try.prog Try.f12 false true false false) := by
  refine returnsInHanded_of_change_sized (C := Try.checked) own started (by kernel_rfl) Try.func12
    (ChangeSpec.witness6 (enc := enc) (C := Try.checked) false ⟨#[], #[.agg #[.int .i64 0, .bool false, .int .i64 0, .int .i64 0, .int .i64 0, .int .i64 0, .int .i64 0, .slice none 0 0, .slice none 0 0], .slice none 0 0], []⟩ 8 (by kernel_rfl) (by kernel_rfl) (by kernel_rfl) (by kernel_rfl)) ?_
  intro W base args ds gs before hval0 hW hcnd hsz0 _
  have hval : ∀ (j : Nat) t v, Try.f12.params[j]? = some t → args[j]? = some v → Value.okWide Try.prog W .any base t v := hval0
  have hW' := hW
  obtain ⟨p, q, hA0, hV, rfl, hfz, hnd⟩ := hW
  have hA : DataW.TrodAll enc Try.prog W 0 (fun _ => true) true Try.f12.params.toList args.toList ds p := hA0
  rw [Try.params12] at hA hval
  obtain ⟨v0, vs0, d0, ds0, p0, q0, hargs, rfl, rfl, h0, r0⟩ := trodAll_cons hA
  obtain ⟨v1, vs1, d1, ds1, p1, q1, rfl, rfl, rfl, h1, r1⟩ := trodAll_cons r0
  obtain ⟨rfl, rfl, rfl⟩ := trodAll_nil r1
  obtain rfl : args = #[v0, v1] := by cases args; simp_all
  obtain ⟨rfl, rfl⟩ := trodVars_none hV
  have lt0 : ∀ x ∈ p0, x.block < W.heap.size := by obtain ⟨m, hm⟩ := h0; exact DataW.trod_lt m _ _ _ hm
  obtain ⟨a0, rfl⟩ := okWide_agg (by rw [Try.underlying25]) (hval 0 25 v0 rfl rfl)
  have k0 := h0
  obtain ⟨f0, e0⟩ := h0
  obtain ⟨x0, s0, c0⟩ := trod_shape 8 25 f0 _ _ (by kernel_rfl) e0
  obtain ⟨l0, y0⟩ := shape25 s0
  have z0 := arg_agg c0 y0
  have lt1 : ∀ x ∈ p1, x.block < W.heap.size := by obtain ⟨m, hm⟩ := h1; exact DataW.trod_lt m _ _ _ hm
  obtain ⟨a1, len1, cap1, rfl⟩ := okWide_slice Try.underlying31 (hval 1 31 v1 rfl rfl)
  have k1 := h1
  obtain ⟨f1, e1⟩ := h1
  obtain ⟨x1, s1, c1⟩ := trod_shape 8 31 f1 _ _ (by kernel_rfl) e1
  obtain ⟨l1, y1⟩ := shape31 s1
  have z1 := arg_one c1 rfl y1
  clear hA0 hval0 hsz0
  refine ((testerThrough_calls l0 l1).law (w := W) (vs := #[.agg a0, .slice a1 len1 cap1]) rfl (fun i pv hi => ?_)).mono fun e W' ⟨he, bel⟩ => ?_
  · match i, hi with
    | 0, hi => cases hi; exact z0
    | 1, hi => cases hi; exact z1
    | i + 2, hi => simp at hi
  subst he
  exact ⟨_, rfl, _, _, _, [], _, [], hW', trodAll_mk1 (shut_bool Try.underlying4 _), (trodAll_cons_mk (Below.trod laidOut (by kernel_rfl) (of_decide_eq_true (by kernel_rfl)) k0 bel lt0) (trodAll_cons_mk (Below.trod laidOut (by kernel_rfl) (of_decide_eq_true (by kernel_rfl)) k1 bel lt1) trodAll_mk0)), rfl, bel.frame _, fun h => by cases h⟩
theorem over : Rows.testerThroughRow.holds Try.pinned (OpenSpec.ofChange Rows.testerThroughSpec) :=
  OpenClaim.holds_of_wide 12 Try.f12 rfl rfl rfl rfl rfl rfl rfl ⟨rfl, rfl, rfl, rfl, rfl⟩ rfl rfl rfl rfl rfl (by kernel_rfl) Try.func12 (facts_closed rfl rfl (by kernel_rfl))
    (of_decide_eq_true (by kernel_rfl)) (by unfold Func.isWrapper; first | (rw [if_pos (by decide +kernel)]; kernel_rfl) | (rw [if_neg (by decide +kernel)]; exact ⟨rfl, rfl⟩))
    (fun os started H enc _ => lifted os started H enc)
theorem proved : Rows.TesterThroughSaid := over
#print axioms proved
end Go.Proofs.Ytcdmhigmgpflbaa.PeTesterThrough
namespace Go.Proofs.Ytcdmhigmgpflbaa
/-- The row of TesterThrough. -/
theorem testerThrough_holds : Rows.TesterThroughSaid := PeTesterThrough.proved
end Go.Proofs.Ytcdmhigmgpflbaa


