/- The law TopText holds: whatever parts of a text are lost,doubled or come late: who receives it has the text,whole,or has none; and both come to an end. No condition. -/
import Derived.Test.YtcdmhigmgpflbaaTV4
import Derived.Test.YtcdmhigmgpflbaaCSb
import Derived.Test.YtcdmhigmgpflbaaPeH
import Derived.Test.YtcdmhigmgpflbaaPeR
import Derived.Test.YtcdmhigmgpflbaaRows
import Derived.WalkKit
import Derived.ProofKit
import Derived.OpenShut
import Derived.ShutString
import Derived.ChangeOld
import Derived.Below
import Derived.SizedLaws
import Derived.Carry
namespace Go.Proofs.Ytcdmhigmgpflbaa.PeTopText
open Go.Pe Go.RowKit Go.ChangeShapes Go.WideShapes Go.ChangeAt Go.Proofs.Ytcdmhigmgpflbaa.Pe
set_option maxRecDepth 20000
set_option linter.unusedVariables false
theorem own : ownKnob Try.prog.godebug = none := by kernel_rfl
theorem laidOut : laidOutB Try.prog = true := by kernel_rfl
set_option maxRecDepth 100000 in
theorem lifted (os : Os) (started : os.Started) (H : Type) (enc : TypeId × Value → H) :
    ReturnsInHanded {} Try.checked os 20 .any (Rows.topTextSpec.pre6 enc Try.prog Try.f20 Rows.topTextRow.domain false) (Rows.topTextSpec.post enc Try.prog Try.f20 false true false false) := by
  refine returnsInHanded_of_change_sized (C := Try.checked) own started (by kernel_rfl) Try.func20
    (ChangeSpec.witness6 (enc := enc) (C := Try.checked) false ⟨#[],#[.slice none 0 0,.int .u8 0,.int .u8 0,.slice none 0 0],[]⟩ 8 (by kernel_rfl) (by kernel_rfl) (by kernel_rfl) (by kernel_rfl)) ?_
  intro W base args ds gs before hval0 hW hcnd hsz0 _
  have hval : ∀ (j : Nat) t v,Try.f20.params[j]? = some t → args[j]? = some v → Value.okWide Try.prog W .any base t v := hval0
  have hW' := hW
  obtain ⟨p,q,hA0,hV,rfl,hfz,hnd⟩ := hW
  have hA : DataW.TrodAll enc Try.prog W 0 (fun _ => true) true Try.f20.params.toList args.toList ds p := hA0
  rw [Try.params20] at hA hval
  obtain ⟨v0,vs0,d0,ds0,p0,q0,hargs,rfl,rfl,h0,r0⟩ := trodAll_cons hA
  obtain ⟨v1,vs1,d1,ds1,p1,q1,rfl,rfl,rfl,h1,r1⟩ := trodAll_cons r0
  obtain ⟨v2,vs2,d2,ds2,p2,q2,rfl,rfl,rfl,h2,r2⟩ := trodAll_cons r1
  obtain ⟨v3,vs3,d3,ds3,p3,q3,rfl,rfl,rfl,h3,r3⟩ := trodAll_cons r2
  obtain ⟨rfl,rfl,rfl⟩ := trodAll_nil r3
  obtain rfl : args = #[v0,v1,v2,v3] := by cases args; simp_all
  obtain ⟨rfl,rfl⟩ := trodVars_none hV
  have lt0 : ∀ x ∈ p0,x.block < W.heap.size := by obtain ⟨m,hm⟩ := h0; exact DataW.trod_lt m _ _ _ hm
  obtain ⟨a0,len0,cap0,rfl⟩ := okWide_slice Try.underlying31 (hval 0 31 v0 rfl rfl)
  have k0 := h0
  obtain ⟨f0,e0⟩ := h0
  obtain ⟨x0,s0,c0⟩ := trod_shape 8 31 f0 _ _ (by kernel_rfl) e0
  obtain ⟨l0,y0⟩ := shape31 s0
  have z0 := arg_one c0 rfl y0
  have lt1 : ∀ x ∈ p1,x.block < W.heap.size := by obtain ⟨m,hm⟩ := h1; exact DataW.trod_lt m _ _ _ hm
  obtain ⟨a1,rfl⟩ := okWide_int Try.underlying5 (hval 1 5 v1 rfl rfl)
  have k1 := h1
  obtain ⟨f1,e1⟩ := h1
  obtain ⟨x1,s1,c1⟩ := trod_shape 8 5 f1 _ _ (by kernel_rfl) e1
  obtain ⟨l1,y1⟩ := shape5 s1
  have z1 := arg_one c1 rfl y1
  have lt2 : ∀ x ∈ p2,x.block < W.heap.size := by obtain ⟨m,hm⟩ := h2; exact DataW.trod_lt m _ _ _ hm
  obtain ⟨a2,rfl⟩ := okWide_int Try.underlying5 (hval 2 5 v2 rfl rfl)
  have k2 := h2
  obtain ⟨f2,e2⟩ := h2
  obtain ⟨x2,s2,c2⟩ := trod_shape 8 5 f2 _ _ (by kernel_rfl) e2
  obtain ⟨l2,y2⟩ := shape5 s2
  have z2 := arg_one c2 rfl y2
  have lt3 : ∀ x ∈ p3,x.block < W.heap.size := by obtain ⟨m,hm⟩ := h3; exact DataW.trod_lt m _ _ _ hm
  obtain ⟨a3,len3,cap3,rfl⟩ := okWide_slice Try.underlying58 (hval 3 58 v3 rfl rfl)
  have k3 := h3
  obtain ⟨f3,e3⟩ := h3
  obtain ⟨x3,s3,c3⟩ := trod_shape 8 58 f3 _ _ (by kernel_rfl) e3
  obtain ⟨l3,y3⟩ := shape58 s3
  have z3 := arg_one c3 rfl y3
  clear hA0 hval0 hsz0
  refine ((topText_calls l0 l1 l2 l3).law (w := W) (vs := #[.slice a0 len0 cap0,.int .u8 a1,.int .u8 a2,.slice a3 len3 cap3]) rfl (fun i pv hi => ?_)).mono fun e W' ⟨he,bel⟩ => ?_
  · match i,hi with
    | 0,hi => cases hi; exact z0
    | 1,hi => cases hi; exact z1
    | 2,hi => cases hi; exact z2
    | 3,hi => cases hi; exact z3
    | i + 4,hi => simp at hi
  subst he
  exact ⟨_,rfl,_,_,_,[],_,[],hW',trodAll_mk1 (shut_bool Try.underlying4 _),(trodAll_cons_mk (Below.trod laidOut (by kernel_rfl) (of_decide_eq_true (by kernel_rfl)) k0 bel lt0) (trodAll_cons_mk (Below.trod laidOut (by kernel_rfl) (of_decide_eq_true (by kernel_rfl)) k1 bel lt1) (trodAll_cons_mk (Below.trod laidOut (by kernel_rfl) (of_decide_eq_true (by kernel_rfl)) k2 bel lt2) (trodAll_cons_mk (Below.trod laidOut (by kernel_rfl) (of_decide_eq_true (by kernel_rfl)) k3 bel lt3) trodAll_mk0)))),rfl,bel.frame _,fun h => by cases h⟩
theorem over : Rows.topTextRow.holds Try.pinned (OpenSpec.ofChange Rows.topTextSpec) :=
  OpenClaim.holds_of_wide 20 Try.f20 rfl rfl rfl rfl rfl rfl rfl ⟨rfl,rfl,rfl,rfl,rfl⟩ rfl rfl rfl rfl rfl (by kernel_rfl) Try.func20 (facts_closed rfl rfl (by kernel_rfl))
    (of_decide_eq_true (by kernel_rfl)) (by unfold Func.isWrapper; first | (rw [if_pos (by decide +kernel)]; kernel_rfl) | (rw [if_neg (by decide +kernel)]; exact ⟨rfl,rfl⟩))
    (fun os started H enc _ => lifted os started H enc)
theorem proved : Rows.TopTextSaid := over
#print axioms proved
end Go.Proofs.Ytcdmhigmgpflbaa.PeTopText
namespace Go.Proofs.Ytcdmhigmgpflbaa
/-- The row of TopText. -/
theorem topText_holds : Rows.TopTextSaid := PeTopText.proved
end Go.Proofs.Ytcdmhigmgpflbaa


