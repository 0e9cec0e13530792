/- The law TesterTells holds: all questions,keys,whether an answer says yes,and any talk,are the document's. No condition. -/
import Derived.Test.YtcdmhigmgpflbaaGreatTZ5
import Derived.Test.YtcdmhigmgpflbaaGreatCSz
import Derived.Test.YtcdmhigmgpflbaaGreatPeH
import Derived.Test.YtcdmhigmgpflbaaGreatPeR
import Derived.Test.YtcdmhigmgpflbaaGreatRows
import Derived.WalkKit
import Derived.ProofKit
import Derived.OpenShut
import Derived.ShutString
import Derived.ChangeOld
import Derived.Below
import Derived.SizedLaws
import Derived.Carry
set_option maxRecDepth 20000
set_option linter.unusedVariables false
namespace Go.Proofs.YtcdmhigmgpflbaaGreat.PeTesterTells
open Go.Pe Go.RowKit Go.ChangeShapes Go.WideShapes Go.ChangeAt Go.Proofs.YtcdmhigmgpflbaaGreat.Pe
theorem own : ownKnob Tryz.prog.godebug = none := by kernel_rfl
theorem laidOut : laidOutB Tryz.prog = true := by kernel_rfl
set_option maxRecDepth 100000 in
theorem lifted (os : Os) (started : os.Started) (H : Type) (enc : TypeId × Value → H) :
    ReturnsInHanded {} Tryz.checked os 3 .any (Rows.testerTellsSpec.pre6 enc Tryz.prog Tryz.f3 Rows.testerTellsRow.domain false) (Rows.testerTellsSpec.post enc Tryz.prog Tryz.f3 false true false false) := by
  refine returnsInHanded_of_change_sized (C := Tryz.checked) own started (by kernel_rfl) Tryz.func3
    (ChangeSpec.witness6 (enc := enc) (C := Tryz.checked) false ⟨#[],#[.int .i64 0,.int .i64 0,.slice none 0 0,.slice none 0 0,.agg #[.int .i64 0,.bool false,.int .i64 0,.int .i64 0,.int .i64 0,.int .i64 0,.int .i64 0,.slice none 0 0,.slice none 0 0],.slice none 0 0,.slice none 0 0],[]⟩ 8 (by kernel_rfl) (by kernel_rfl) (by kernel_rfl) (by kernel_rfl)) ?_
  intro W base args ds gs before hval0 hW hcnd hsz0 _
  have hval : ∀ (j : Nat) t v,Tryz.f3.params[j]? = some t → args[j]? = some v → Value.okWide Tryz.prog W .any base t v := hval0
  have hW' := hW
  obtain ⟨p,q,hA0,hV,rfl,hfz,hnd⟩ := hW
  have hA : DataW.TrodAll enc Tryz.prog W 0 (fun _ => true) true Tryz.f3.params.toList args.toList ds p := hA0
  rw [Tryz.params3] at hA hval
  obtain ⟨v0,vs0,d0,ds0,p0,q0,hargs,rfl,rfl,h0,r0⟩ := trodAll_cons hA
  obtain ⟨v1,vs1,d1,ds1,p1,q1,rfl,rfl,rfl,h1,r1⟩ := trodAll_cons r0
  obtain ⟨v2,vs2,d2,ds2,p2,q2,rfl,rfl,rfl,h2,r2⟩ := trodAll_cons r1
  obtain ⟨v3,vs3,d3,ds3,p3,q3,rfl,rfl,rfl,h3,r3⟩ := trodAll_cons r2
  obtain ⟨v4,vs4,d4,ds4,p4,q4,rfl,rfl,rfl,h4,r4⟩ := trodAll_cons r3
  obtain ⟨v5,vs5,d5,ds5,p5,q5,rfl,rfl,rfl,h5,r5⟩ := trodAll_cons r4
  obtain ⟨v6,vs6,d6,ds6,p6,q6,rfl,rfl,rfl,h6,r6⟩ := trodAll_cons r5
  obtain ⟨rfl,rfl,rfl⟩ := trodAll_nil r6
  obtain rfl : args = #[v0,v1,v2,v3,v4,v5,v6] := by cases args; simp_all
  obtain ⟨rfl,rfl⟩ := trodVars_none hV
  have lt0 : ∀ x ∈ p0,x.block < W.heap.size := by obtain ⟨m,hm⟩ := h0; exact DataW.trod_lt m _ _ _ hm
  obtain ⟨a0,rfl⟩ := okWide_int Tryz.underlying3 (hval 0 3 v0 rfl rfl)
  have k0 := h0
  obtain ⟨f0,e0⟩ := h0
  obtain ⟨x0,s0,c0⟩ := trod_shape 8 3 f0 _ _ (by kernel_rfl) e0
  obtain ⟨l0,y0,b0⟩ := shape3b s0
  have z0 := arg_one c0 rfl y0
  have lt1 : ∀ x ∈ p1,x.block < W.heap.size := by obtain ⟨m,hm⟩ := h1; exact DataW.trod_lt m _ _ _ hm
  obtain ⟨a1,rfl⟩ := okWide_int Tryz.underlying3 (hval 1 3 v1 rfl rfl)
  have k1 := h1
  obtain ⟨f1,e1⟩ := h1
  obtain ⟨x1,s1,c1⟩ := trod_shape 8 3 f1 _ _ (by kernel_rfl) e1
  obtain ⟨l1,y1,b1⟩ := shape3b s1
  have z1 := arg_one c1 rfl y1
  have lt2 : ∀ x ∈ p2,x.block < W.heap.size := by obtain ⟨m,hm⟩ := h2; exact DataW.trod_lt m _ _ _ hm
  obtain ⟨a2,len2,cap2,rfl⟩ := okWide_slice Tryz.underlying22 (hval 2 22 v2 rfl rfl)
  have k2 := h2
  obtain ⟨f2,e2⟩ := h2
  obtain ⟨x2,s2,c2⟩ := trod_shape 8 22 f2 _ _ (by kernel_rfl) e2
  obtain ⟨l2,y2⟩ := shape22 s2
  have z2 := arg_one c2 rfl y2
  have lt3 : ∀ x ∈ p3,x.block < W.heap.size := by obtain ⟨m,hm⟩ := h3; exact DataW.trod_lt m _ _ _ hm
  obtain ⟨a3,len3,cap3,rfl⟩ := okWide_slice Tryz.underlying22 (hval 3 22 v3 rfl rfl)
  have k3 := h3
  obtain ⟨f3,e3⟩ := h3
  obtain ⟨x3,s3,c3⟩ := trod_shape 8 22 f3 _ _ (by kernel_rfl) e3
  obtain ⟨l3,y3⟩ := shape22 s3
  have z3 := arg_one c3 rfl y3
  have lt4 : ∀ x ∈ p4,x.block < W.heap.size := by obtain ⟨m,hm⟩ := h4; exact DataW.trod_lt m _ _ _ hm
  obtain ⟨a4,rfl⟩ := okWide_agg (by rw [Tryz.underlying26]) (hval 4 26 v4 rfl rfl)
  have k4 := h4
  obtain ⟨f4,e4⟩ := h4
  obtain ⟨x4,s4,c4⟩ := trod_shape 8 26 f4 _ _ (by kernel_rfl) e4
  obtain ⟨l4,y4⟩ := shape26 s4
  have z4 := arg_agg c4 y4
  have lt5 : ∀ x ∈ p5,x.block < W.heap.size := by obtain ⟨m,hm⟩ := h5; exact DataW.trod_lt m _ _ _ hm
  obtain ⟨a5,len5,cap5,rfl⟩ := okWide_slice Tryz.underlying27 (hval 5 27 v5 rfl rfl)
  have k5 := h5
  obtain ⟨f5,e5⟩ := h5
  obtain ⟨x5,s5,c5⟩ := trod_shape 8 27 f5 _ _ (by kernel_rfl) e5
  obtain ⟨l5,y5⟩ := shape27 s5
  have z5 := arg_one c5 rfl y5
  have lt6 : ∀ x ∈ p6,x.block < W.heap.size := by obtain ⟨m,hm⟩ := h6; exact DataW.trod_lt m _ _ _ hm
  obtain ⟨a6,len6,cap6,rfl⟩ := okWide_slice Tryz.underlying27 (hval 6 27 v6 rfl rfl)
  have k6 := h6
  obtain ⟨f6,e6⟩ := h6
  obtain ⟨x6,s6,c6⟩ := trod_shape 8 27 f6 _ _ (by kernel_rfl) e6
  obtain ⟨l6,y6⟩ := shape27 s6
  have z6 := arg_one c6 rfl y6
  clear hA0 hval0 hsz0
  refine ((tells23_calls l0 l1 l2 l3 l4 l5 l6 b0 b1).law (w := W) (vs := #[.int .i64 a0,.int .i64 a1,.slice a2 len2 cap2,.slice a3 len3 cap3,.agg a4,.slice a5 len5 cap5,.slice a6 len6 cap6]) rfl (fun i pv hi => ?_)).mono fun e W' ⟨he,bel⟩ => ?_
  · match i,hi with
    | 0,hi => cases hi; exact z0
    | 1,hi => cases hi; exact z1
    | 2,hi => cases hi; exact z2
    | 3,hi => cases hi; exact z3
    | 4,hi => cases hi; exact z4
    | 5,hi => cases hi; exact z5
    | 6,hi => cases hi; exact z6
    | i + 7,hi => simp at hi
  subst he
  exact ⟨_,rfl,_,_,_,[],_,[],hW',trodAll_mk1 (shut_bool Tryz.underlying4 _),(trodAll_cons_mk (Below.trod laidOut (by kernel_rfl) (of_decide_eq_true (by kernel_rfl)) k0 bel lt0) (trodAll_cons_mk (Below.trod laidOut (by kernel_rfl) (of_decide_eq_true (by kernel_rfl)) k1 bel lt1) (trodAll_cons_mk (Below.trod laidOut (by kernel_rfl) (of_decide_eq_true (by kernel_rfl)) k2 bel lt2) (trodAll_cons_mk (Below.trod laidOut (by kernel_rfl) (of_decide_eq_true (by kernel_rfl)) k3 bel lt3) (trodAll_cons_mk (Below.trod laidOut (by kernel_rfl) (of_decide_eq_true (by kernel_rfl)) k4 bel lt4) (trodAll_cons_mk (Below.trod laidOut (by kernel_rfl) (of_decide_eq_true (by kernel_rfl)) k5 bel lt5) (trodAll_cons_mk (Below.trod laidOut (by kernel_rfl) (of_decide_eq_true (by kernel_rfl)) k6 bel lt6) trodAll_mk0))))))),rfl,bel.frame _,fun h => by cases h⟩
theorem over : Rows.testerTellsRow.holds Tryz.pinned (OpenSpec.ofChange Rows.testerTellsSpec) :=
  OpenClaim.holds_of_wide 3 Tryz.f3 rfl rfl rfl rfl rfl rfl rfl ⟨rfl,rfl,rfl,rfl,rfl⟩ rfl rfl rfl rfl rfl (by kernel_rfl) Tryz.func3 (facts_closed rfl rfl (by kernel_rfl))
    (of_decide_eq_true (by kernel_rfl)) (by unfold Func.isWrapper; first | (rw [if_pos (by decide +kernel)]; kernel_rfl) | (rw [if_neg (by decide +kernel)]; exact ⟨rfl,rfl⟩))
    (fun os started H enc _ => lifted os started H enc)
theorem proved : Rows.TesterTellsSaid := over
#print axioms proved
end Go.Proofs.YtcdmhigmgpflbaaGreat.PeTesterTells
namespace Go.Proofs.YtcdmhigmgpflbaaGreat
theorem testerTells_holds : Rows.TesterTellsSaid := PeTesterTells.proved
end Go.Proofs.YtcdmhigmgpflbaaGreat
