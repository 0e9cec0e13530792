/- The law TpsendPasses holds: whatever is no flow, or no right one, is passed over by a sender; and so is each flow, while it is not asking. No condition. -/
import Derived.Test.YtefcpcepgflhdaaC9
import Derived.Test.YtefcpcepgflhdaaPeR
import Derived.Test.YtefcpcepgflhdaaRows
import Derived.WalkKit
import Derived.ProofKit
import Derived.OpenShut
import Derived.ShutString
import Derived.ChangeOld
import Derived.Below
import Derived.SizedLaws
import Derived.Carry
namespace Go.Proofs.Ytefcpcepgflhdaa.Pe
open Go.Pe Go.RowKit Go.ChangeShapes Go.WideShapes Go.ChangeAt
set_option maxRecDepth 20000
set_option linter.unusedVariables false
theorem own : ownKnob Try.prog.godebug = none := by kernel_rfl
theorem laidOut : laidOutB Try.prog = true := by kernel_rfl
theorem cells5 : Try.prog.cellsOf 5 = 1 := by kernel_rfl
theorem cells30 : Try.prog.cellsOf 30 = 7 := by kernel_rfl
theorem shape5 {m : Nat} {r : List PV} (h : Shape Try.prog (m + 1) 5 r) : ∃ b, r = rowB b := by
  rw [Shape, Try.underlying5] at h
  exact byte_row h
theorem shape22 {m : Nat} {pvs : List PV} (h : Shape Try.prog (m + 2) 22 pvs) : ∃ l, pvs = [bytesPV l] := by
  rw [Shape, Try.underlying22] at h
  obtain ⟨rows, rfl, _, h⟩ := h
  obtain ⟨l, rfl⟩ := rows_of rowB rows (fun r hr => shape5 (h r hr))
  exact ⟨l, by rw [cells5]; rfl⟩
theorem shape3 {m : Nat} {r : List PV} (h : Shape Try.prog (m + 1) 3 r) : ∃ n, r = [PI n] := by
  rw [Shape, Try.underlying3] at h
  obtain ⟨n, rfl, _⟩ := h
  exact ⟨n, rfl⟩
theorem shape30 {m : Nat} {r : List PV} (h : Shape Try.prog (m + 3) 30 r) : ∃ p : Pdu, r = p.row := by
  rw [Shape, Try.underlying30] at h
  simp only [ShapeFs] at h
  obtain ⟨a1, b1, rfl, h1, a2, b2, rfl, h2, a3, b3, rfl, h3, a4, b4, rfl, h4, a5, b5, rfl, h5, a6, b6, rfl, h6, a7, b7, rfl, h7, rfl⟩ := h
  obtain ⟨k, rfl⟩ := shape3 h1
  obtain ⟨l, rfl⟩ := shape3 h2
  obtain ⟨n, rfl⟩ := shape3 h3
  obtain ⟨s, rfl⟩ := shape3 h4
  obtain ⟨b, rfl⟩ := shape3 h5
  obtain ⟨g, rfl⟩ := shape3 h6
  obtain ⟨d, rfl⟩ := shape22 h7
  exact ⟨⟨k, l, n, s, b, g, d⟩, rfl⟩
theorem shape40 {m : Nat} {pvs : List PV} (h : Shape Try.prog (m + 4) 40 pvs) : ∃ l, pvs = [pdusPV l] := by
  rw [Shape, Try.underlying40] at h
  obtain ⟨rows, rfl, _, h⟩ := h
  obtain ⟨l, rfl⟩ := rows_of Pdu.row rows (fun r hr => shape30 (h r hr))
  exact ⟨l, by rw [cells30]; rfl⟩

set_option maxRecDepth 100000 in
theorem lifted (os : Os) (started : os.Started) (H : Type) (enc : TypeId × Value → H) :
    ReturnsInHanded {} Try.checked os 9 .any (Rows.tpsendPassesSpec.pre6 enc Try.prog Try.f9 Rows.tpsendPassesRow.domain false) (Rows.tpsendPassesSpec.post enc Try.prog Try.f9 false true false false) := by
  refine returnsInHanded_of_change_sized (C := Try.checked) own started (by kernel_rfl) Try.func9
    (ChangeSpec.witness6 (enc := enc) (C := Try.checked) false ⟨#[], #[.slice none 0 0, .slice none 0 0], []⟩ 8 (by kernel_rfl) (by kernel_rfl) (by kernel_rfl) (by kernel_rfl)) ?_
  intro W base args ds gs before hval0 hW hcnd hsz0 _
  have hval : ∀ (j : Nat) t v, Try.f9.params[j]? = some t → args[j]? = some v → Value.okWide Try.prog W .any base t v := hval0
  have hW' := hW
  obtain ⟨p, q, hA0, hV, rfl, hfz, hnd⟩ := hW
  have hA : DataW.TrodAll enc Try.prog W 0 (fun _ => true) true Try.f9.params.toList args.toList ds p := hA0
  rw [Try.params9] at hA hval
  obtain ⟨v0, vs0, d0, ds0, p0, q0, hargs, rfl, rfl, h0, r0⟩ := trodAll_cons hA
  obtain ⟨v1, vs1, d1, ds1, p1, q1, rfl, rfl, rfl, h1, r1⟩ := trodAll_cons r0
  obtain ⟨rfl, rfl, rfl⟩ := trodAll_nil r1
  obtain rfl : args = #[v0, v1] := by cases args; simp_all
  obtain ⟨rfl, rfl⟩ := trodVars_none hV
  have lt0 : ∀ x ∈ p0, x.block < W.heap.size := by obtain ⟨m, hm⟩ := h0; exact DataW.trod_lt m _ _ _ hm
  have lt1 : ∀ x ∈ p1, x.block < W.heap.size := by obtain ⟨m, hm⟩ := h1; exact DataW.trod_lt m _ _ _ hm
  obtain ⟨a0, len0, cap0, rfl⟩ := okWide_slice Try.underlying22 (hval 0 22 v0 rfl rfl)
  obtain ⟨a1, len1, cap1, rfl⟩ := okWide_slice Try.underlying40 (hval 1 40 v1 rfl rfl)
  have k0 := h0
  have k1 := h1
  obtain ⟨f0, e0⟩ := h0
  obtain ⟨f1, e1⟩ := h1
  obtain ⟨x0, s0, c0⟩ := trod_shape 6 22 f0 _ _ (by kernel_rfl) e0
  obtain ⟨x1, s1, c1⟩ := trod_shape 6 40 f1 _ _ (by kernel_rfl) e1
  obtain ⟨l0, y0⟩ := shape22 s0
  obtain ⟨l1, y1⟩ := shape40 s1
  have z0 := arg_slice c0 y0
  have z1 := arg_slice c1 y1
  clear hA0 hval0 hsz0
  refine ((passes_calls l0 l1).law (w := W) (vs := #[.slice a0 len0 cap0, .slice a1 len1 cap1]) rfl (fun i pv hi => ?_)).mono fun e W' ⟨he, bel⟩ => ?_
  · match i, hi with
    | 0, hi => cases hi; exact z0
    | 1, hi => cases hi; exact z1
    | i + 2, hi => simp at hi
  subst he
  exact ⟨_, rfl, _, _, _, [], _, [], hW', trodAll_mk1 (shut_bool Try.underlying4 _), (trodAll_cons_mk (Below.trod laidOut (by kernel_rfl) (of_decide_eq_true (by kernel_rfl)) k0 bel lt0) (trodAll_cons_mk (Below.trod laidOut (by kernel_rfl) (of_decide_eq_true (by kernel_rfl)) k1 bel lt1) trodAll_mk0)), rfl, bel.frame _, fun h => by cases h⟩
theorem over : Rows.tpsendPassesRow.holds Try.pinned (OpenSpec.ofChange Rows.tpsendPassesSpec) :=
  OpenClaim.holds_of_wide 9 Try.f9 rfl rfl rfl rfl rfl rfl rfl ⟨rfl, rfl, rfl, rfl, rfl⟩ rfl rfl rfl rfl rfl (by kernel_rfl) Try.func9 (by kernel_rfl)
    (of_decide_eq_true (by kernel_rfl)) (by unfold Func.isWrapper; first | (rw [if_pos (by decide +kernel)]; kernel_rfl) | (rw [if_neg (by decide +kernel)]; exact ⟨rfl, rfl⟩))
    (fun os started H enc _ => lifted os started H enc)
theorem proved : Rows.TpsendPassesSaid := over
#print axioms proved
end Go.Proofs.Ytefcpcepgflhdaa.Pe
namespace Go.Proofs.Ytefcpcepgflhdaa
/-- The row of TpsendPasses. -/
theorem tpsendPasses_holds : Rows.TpsendPassesSaid := Pe.proved
end Go.Proofs.Ytefcpcepgflhdaa
