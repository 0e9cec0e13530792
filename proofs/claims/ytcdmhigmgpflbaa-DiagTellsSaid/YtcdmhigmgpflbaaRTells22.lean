/- The law DiagTells holds: whether any server may be so, what a fresh one is, what any question makes of it, and is answered, whether it is handed on, what ticks make of it, any seed's key, and any refusal, is as the document says. No condition. -/
import Derived.Test.YtcdmhigmgpflbaaDLk
import Derived.Test.YtcdmhigmgpflbaaCS8
import Derived.Test.YtcdmhigmgpflbaaPeH
import Derived.Test.YtcdmhigmgpflbaaPeR
import Derived.Test.YtcdmhigmgpflbaaRows
import Derived.WalkKit
import Derived.ProofKit
import Derived.OpenShut
import Derived.ShutString
import Derived.ChangeOld
import Derived.Below
import Derived.SizedLaws
import Derived.Carry
namespace Go.Proofs.Ytcdmhigmgpflbaa.PeDiagTells
open Go.Pe Go.RowKit Go.ChangeShapes Go.WideShapes Go.ChangeAt Go.Proofs.Ytcdmhigmgpflbaa.Pe
set_option maxRecDepth 20000
set_option linter.unusedVariables false
theorem own : ownKnob Try.prog.godebug = none := by kernel_rfl
theorem laidOut : laidOutB Try.prog = true := by kernel_rfl
set_option maxRecDepth 100000 in
theorem lifted (os : Os) (started : os.Started) (H : Type) (enc : TypeId × Value → H) :
    ReturnsInHanded {} Try.checked os 3 .any (Rows.diagTellsSpec.pre6 enc Try.prog Try.f3 Rows.diagTellsRow.domain false) (Rows.diagTellsSpec.post enc Try.prog Try.f3 false true false false) := by
  refine returnsInHanded_of_change_sized (C := Try.checked) own started (by kernel_rfl) Try.func3
    (ChangeSpec.witness6 (enc := enc) (C := Try.checked) false ⟨#[], #[.agg #[.int .i64 0, .bool false, .int .i64 0, .int .i64 0, .int .i64 0, .int .i64 0, .int .i64 0, .slice none 0 0, .slice none 0 0], .slice none 0 0, .agg #[.int .i64 0, .int .i64 0]], []⟩ 8 (by kernel_rfl) (by kernel_rfl) (by kernel_rfl) (by kernel_rfl)) ?_
  intro W base args ds gs before hval0 hW hcnd hsz0 _
  have hval : ∀ (j : Nat) t v, Try.f3.params[j]? = some t → args[j]? = some v → Value.okWide Try.prog W .any base t v := hval0
  have hW' := hW
  obtain ⟨p, q, hA0, hV, rfl, hfz, hnd⟩ := hW
  have hA : DataW.TrodAll enc Try.prog W 0 (fun _ => true) true Try.f3.params.toList args.toList ds p := hA0
  rw [Try.params3] at hA hval
  obtain ⟨v0, vs0, d0, ds0, p0, q0, hargs, rfl, rfl, h0, r0⟩ := trodAll_cons hA
  obtain ⟨v1, vs1, d1, ds1, p1, q1, rfl, rfl, rfl, h1, r1⟩ := trodAll_cons r0
  obtain ⟨v2, vs2, d2, ds2, p2, q2, rfl, rfl, rfl, h2, r2⟩ := trodAll_cons r1
  obtain ⟨rfl, rfl, rfl⟩ := trodAll_nil r2
  obtain rfl : args = #[v0, v1, v2] := by cases args; simp_all
  obtain ⟨rfl, rfl⟩ := trodVars_none hV
  have lt0 : ∀ x ∈ p0, x.block < W.heap.size := by obtain ⟨m, hm⟩ := h0; exact DataW.trod_lt m _ _ _ hm
  obtain ⟨a0, rfl⟩ := okWide_agg (by rw [Try.underlying25]) (hval 0 25 v0 rfl rfl)
  have k0 := h0
  obtain ⟨f0, e0⟩ := h0
  obtain ⟨x0, s0, c0⟩ := trod_shape 8 25 f0 _ _ (by kernel_rfl) e0
  obtain ⟨l0, y0, hi0, hd0⟩ := shape25b s0
  have z0 := arg_agg c0 y0
  have lt1 : ∀ x ∈ p1, x.block < W.heap.size := by obtain ⟨m, hm⟩ := h1; exact DataW.trod_lt m _ _ _ hm
  obtain ⟨a1, len1, cap1, rfl⟩ := okWide_slice Try.underlying26 (hval 1 26 v1 rfl rfl)
  have k1 := h1
  obtain ⟨f1, e1⟩ := h1
  obtain ⟨x1, s1, c1⟩ := trod_shape 8 26 f1 _ _ (by kernel_rfl) e1
  obtain ⟨l1, y1⟩ := shape26 s1
  have z1 := arg_one c1 rfl y1
  have lt2 : ∀ x ∈ p2, x.block < W.heap.size := by obtain ⟨m, hm⟩ := h2; exact DataW.trod_lt m _ _ _ hm
  obtain ⟨a2, rfl⟩ := okWide_agg (by rw [Try.underlying27]) (hval 2 27 v2 rfl rfl)
  have k2 := h2
  obtain ⟨f2, e2⟩ := h2
  obtain ⟨x2, s2, c2⟩ := trod_shape 8 27 f2 _ _ (by kernel_rfl) e2
  obtain ⟨l2_0, l2_1, y2⟩ := shape27 s2
  have z2 := arg_agg c2 y2
  clear hA0 hval0 hsz0
  refine ((diagTells_calls l0 l1 l2_0 l2_1 hi0 hd0).law (w := W) (vs := #[.agg a0, .slice a1 len1 cap1, .agg a2]) rfl (fun i pv hi => ?_)).mono fun e W' ⟨he, bel⟩ => ?_
  · match i, hi with
    | 0, hi => cases hi; exact z0
    | 1, hi => cases hi; exact z1
    | 2, hi => cases hi; exact z2
    | i + 3, hi => simp at hi
  subst he
  exact ⟨_, rfl, _, _, _, [], _, [], hW', trodAll_mk1 (shut_bool Try.underlying4 _), (trodAll_cons_mk (Below.trod laidOut (by kernel_rfl) (of_decide_eq_true (by kernel_rfl)) k0 bel lt0) (trodAll_cons_mk (Below.trod laidOut (by kernel_rfl) (of_decide_eq_true (by kernel_rfl)) k1 bel lt1) (trodAll_cons_mk (Below.trod laidOut (by kernel_rfl) (of_decide_eq_true (by kernel_rfl)) k2 bel lt2) trodAll_mk0))), rfl, bel.frame _, fun h => by cases h⟩
theorem over : Rows.diagTellsRow.holds Try.pinned (OpenSpec.ofChange Rows.diagTellsSpec) :=
  OpenClaim.holds_of_wide 3 Try.f3 rfl rfl rfl rfl rfl rfl rfl ⟨rfl, rfl, rfl, rfl, rfl⟩ rfl rfl rfl rfl rfl (by kernel_rfl) Try.func3 (facts_closed rfl rfl (by kernel_rfl))
    (of_decide_eq_true (by kernel_rfl)) (by unfold Func.isWrapper; first | (rw [if_pos (by decide +kernel)]; kernel_rfl) | (rw [if_neg (by decide +kernel)]; exact ⟨rfl, rfl⟩))
    (fun os started H enc _ => lifted os started H enc)
theorem proved : Rows.DiagTellsSaid := over
#print axioms proved
end Go.Proofs.Ytcdmhigmgpflbaa.PeDiagTells
namespace Go.Proofs.Ytcdmhigmgpflbaa
/-- The row of DiagTells. -/
theorem diagTells_holds : Rows.DiagTellsSaid := PeDiagTells.proved
end Go.Proofs.Ytcdmhigmgpflbaa

