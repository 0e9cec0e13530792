import Derived.Test.YtcdmhigmgpflbaaDI17
namespace Go.Proofs.Ytcdmhigmgpflbaa.Pe
open Go.Pe Go.RowKit
set_option maxRecDepth 20000
set_option maxHeartbeats 4000000
set_option linter.unusedSimpArgs false
set_option linter.unusedVariables false

end Go.Proofs.Ytcdmhigmgpflbaa.Pe


namespace Go.Proofs.Ytcdmhigmgpflbaa.Pe
open Go.Pe Go.RowKit
set_option maxRecDepth 20000
set_option maxHeartbeats 4000000
set_option linter.unusedSimpArgs false
set_option linter.unusedVariables false

/-- What a server that is right is. -/
structure RightS (s : Srv) : Prop where
  its : okIts none s.items = true
  ses : 1 ≤ s.ses ∧ s.ses ≤ 3
  seed : -1 ≤ s.seed ∧ s.seed ≤ 4294967295
  wrong : 0 ≤ s.wrong ∧ s.wrong ≤ 12
  quiet : 0 ≤ s.quiet ∧ s.quiet ≤ 51
  draw : 0 ≤ s.draw ∧ s.draw ≤ 4294967295
  sec : 0 ≤ s.sec ∧ s.sec ≤ 4294967295
  many : s.items.length ≤ 16
  dtc : rightL s.dtc = true
theorem rightS_iff {s : Srv} : rightS s = true ↔ RightS s := by
  constructor
  · intro h
    simp only [rightS,rightH,wit,Bool.and_eq_true,decide_eq_true_eq] at h
    obtain ⟨h1,h2,h3,h4,h5,h6,h7,h8,h9⟩ := h
    exact ⟨h1,h2,h3,h4,h5,h6,h7,by omega,h9⟩
  · rintro ⟨h1,h2,h3,h4,h5,h6,h7,h8,h9⟩
    simp only [rightS,rightH,wit,Bool.and_eq_true,decide_eq_true_eq]
    exact ⟨h1,h2,h3,h4,h5,h6,h7,by omega,h9⟩
theorem okIts_mem : ∀ {l : List Itm} {p : Option Int},okIts p l = true → ∀ x ∈ l,okIt x = true
  | [],_,_,x,hx => by cases hx
  | y :: l,p,h,x,hx => by
    simp only [okIts,Bool.and_eq_true] at h
    rcases List.mem_cons.1 hx with rfl | hx
    · exact h.1
    · exact okIts_mem h.2.2 x hx
theorem okIt_iff {x : Itm} : okIt x = true ↔ (0 ≤ x.id ∧ x.id ≤ 65535) ∧ (1 ≤ x.data.length ∧ x.data.length ≤ 64) := by
  simp only [okIt,wit,Bool.and_eq_true,decide_eq_true_eq]
  constructor <;> intro h <;> refine ⟨h.1,?_⟩ <;> omega
theorem rightL_len22 {l : List Trb} (h : rightL l = true) : l.length ≤ 16 := by
  simp [rightL] at h; omega
theorem RightS.fits {s : Srv} (h : RightS s) : s.fits :=
  ⟨by have := h.many; omega,fun x hx => by have := (okIt_iff.1 (okIts_mem h.its x hx)).2; omega,by have := rightL_len22 h.dtc; omega,h.wrong.1⟩
theorem RightS.tk {s : Srv} (h : RightS s) : s.tk := ⟨h.quiet,h.wrong⟩

/-! ### what is made is right -/
/-! ### what comes of a right one is right -/
end Go.Proofs.Ytcdmhigmgpflbaa.Pe


namespace Go.Proofs.Ytcdmhigmgpflbaa.Pe
open Go.Pe Go.RowKit
set_option maxRecDepth 20000
set_option maxHeartbeats 4000000
set_option linter.unusedSimpArgs false
set_option linter.unusedVariables false

theorem newD_at {secret draw : Int} {l : List Itm} {s : Srv} (h : newSrv secret draw l = s) : PureCalls Try.prog 35 [PI secret,PI draw,itmsPV l] s.pv := h ▸ newD_calls secret draw l
def hS : Srv := ⟨1,false,-1,0,0,5,7,[⟨258,true,[1,2]⟩],[]⟩
end Go.Proofs.Ytcdmhigmgpflbaa.Pe

