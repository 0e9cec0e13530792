import Derived.Test.YtcdmhigmgpflbaaTU1
import Derived.Test.YtcdmhigmgpflbaaPeR
import Derived.KernelRfl
namespace Go.Proofs.Ytcdmhigmgpflbaa.Pe
open Go.Pe Go.RowKit
set_option linter.unusedVariables false
set_option maxRecDepth 20000
theorem shape50 {m : Nat} {r : List PV} (h : Shape Try.prog (m + 1) 50 r) : ∃ b : UInt32,r = [.lit (.int .u32 b.toNat)] := by
  rw [Shape,Try.underlying50] at h
  exact u32_row h
theorem shape4 {m : Nat} {r : List PV} (h : Shape Try.prog (m + 1) 4 r) : ∃ b : Bool,r = [PB b] := by
  rw [Shape,Try.underlying4] at h
  exact h
theorem shape3 {m : Nat} {r : List PV} (h : Shape Try.prog (m + 1) 3 r) : ∃ n : Int,r = [PI n] := by
  rw [Shape,Try.underlying3] at h
  exact by obtain ⟨n,rfl,_⟩ := h; exact ⟨n,rfl⟩
theorem cells58 : Try.prog.cellsOf 3 = 1 := by kernel_rfl
theorem shape58 {m : Nat} {pvs : List PV} (h : Shape Try.prog (m + 2) 58 pvs) : ∃ l : List (Int),pvs = [intsPV l] := by
  rw [Shape,Try.underlying58] at h
  obtain ⟨rows,rfl,_,h⟩ := h
  obtain ⟨l,rfl⟩ := rows_of rowI rows (fun r hr => shape3 (h r hr))
  exact ⟨l,by rw [cells58] <;> rfl⟩
theorem shape106 {m : Nat} {r : List PV} (h : Shape Try.prog (m + 3) 106 r) : ∃ p : Way22,r = Way22.row p := by
  rw [Shape,Try.underlying106] at h
  simp only [ShapeFs] at h
  obtain ⟨a0,b0,rfl,h0,a1,b1,rfl,h1,rfl⟩ := h
  obtain ⟨x0,rfl⟩ := shape58 h0
  obtain ⟨x1,rfl⟩ := shape58 h1
  exact ⟨⟨x0,x1⟩,rfl⟩
theorem cells98 : Try.prog.cellsOf 106 = 2 := by kernel_rfl
theorem shape98b {m : Nat} {pvs : List PV} (h : Shape Try.prog (m + 4) 98 pvs) : ∃ l : List (Way22),pvs = [.im 2 (l.map Way22.row)] ∧ l.length ≤ 9223372036854775807 := by
  rw [Shape,Try.underlying98] at h
  obtain ⟨rows,rfl,hl,h⟩ := h
  obtain ⟨l,rfl⟩ := rows_of Way22.row rows (fun r hr => shape106 (h r hr))
  exact ⟨l,by rw [cells98] <;> rfl,by simpa [maxLen] using hl⟩
end Go.Proofs.Ytcdmhigmgpflbaa.Pe


