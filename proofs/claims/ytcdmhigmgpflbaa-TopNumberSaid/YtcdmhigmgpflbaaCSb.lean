import Derived.Test.YtcdmhigmgpflbaaDI20
import Derived.Test.YtcdmhigmgpflbaaSG4
import Derived.Test.YtcdmhigmgpflbaaPeR
import Derived.KernelRfl
namespace Go.Proofs.Ytcdmhigmgpflbaa.Pe
open Go.Pe Go.RowKit
set_option linter.unusedVariables false
set_option maxRecDepth 20000
theorem shape3 {m : Nat} {r : List PV} (h : Shape Try.prog (m + 1) 3 r) : ∃ n : Int,r = [PI n] := by
  rw [Shape,Try.underlying3] at h
  exact by obtain ⟨n,rfl,_⟩ := h; exact ⟨n,rfl⟩
theorem shape4 {m : Nat} {r : List PV} (h : Shape Try.prog (m + 1) 4 r) : ∃ b : Bool,r = [PB b] := by
  rw [Shape,Try.underlying4] at h
  exact h
theorem shape5 {m : Nat} {r : List PV} (h : Shape Try.prog (m + 1) 5 r) : ∃ b : UInt8,r = [.lit (.int .u8 b.toNat)] := by
  rw [Shape,Try.underlying5] at h
  exact byte_row h
theorem cells31 : Try.prog.cellsOf 5 = 1 := by kernel_rfl
theorem shape31 {m : Nat} {pvs : List PV} (h : Shape Try.prog (m + 2) 31 pvs) : ∃ l : List (UInt8),pvs = [bytesPV l] := by
  rw [Shape,Try.underlying31] at h
  obtain ⟨rows,rfl,_,h⟩ := h
  obtain ⟨l,rfl⟩ := rows_of rowB rows (fun r hr => shape5 (h r hr))
  exact ⟨l,by rw [cells31] <;> rfl⟩
theorem shape85 {m : Nat} {r : List PV} (h : Shape Try.prog (m + 2) 85 r) : ∃ p : Sgl,r = Sgl.cells p := by
  rw [Shape,Try.underlying85] at h
  simp only [ShapeFs] at h
  obtain ⟨a0,b0,rfl,h0,a1,b1,rfl,h1,a2,b2,rfl,h2,a3,b3,rfl,h3,a4,b4,rfl,h4,a5,b5,rfl,h5,rfl⟩ := h
  obtain ⟨x0,rfl⟩ := shape3 h0
  obtain ⟨x1,rfl⟩ := shape3 h1
  obtain ⟨x2,rfl⟩ := shape4 h2
  obtain ⟨x3,rfl⟩ := shape4 h3
  obtain ⟨x4,rfl⟩ := shape3 h4
  obtain ⟨x5,rfl⟩ := shape3 h5
  exact ⟨⟨x0,x1,x2,x3,x4,x5⟩,rfl⟩
theorem shape70 {m : Nat} {r : List PV} (h : Shape Try.prog (m + 1) 70 r) : ∃ b : UInt16,r = [.lit (.int .u16 b.toNat)] := by
  rw [Shape,Try.underlying70] at h
  exact u16_row h
end Go.Proofs.Ytcdmhigmgpflbaa.Pe


