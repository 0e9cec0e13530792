import Derived.Test.YtojmfbmcpjjheaaCPb
import Derived.Test.YtojmfbmcpjjheaaPeR
import Derived.KernelRfl
namespace Go.Proofs.Ytojmfbmcpjjheaa.Pe
open Go.Pe Go.RowKit
set_option linter.unusedVariables false
set_option maxRecDepth 20000
theorem shape5 {m : Nat} {r : List PV} (h : Shape Try.prog (m + 1) 5 r) : ∃ b : UInt8, r = [.lit (.int .u8 b.toNat)] := by
  rw [Shape, Try.underlying5] at h
  exact byte_row h
theorem cells22 : Try.prog.cellsOf 5 = 1 := by kernel_rfl
theorem shape22 {m : Nat} {pvs : List PV} (h : Shape Try.prog (m + 2) 22 pvs) : ∃ l : List (UInt8), pvs = [bytesPV l] := by
  rw [Shape, Try.underlying22] at h
  obtain ⟨rows, rfl, _, h⟩ := h
  obtain ⟨l, rfl⟩ := rows_of rowB rows (fun r hr => shape5 (h r hr))
  exact ⟨l, by rw [cells22] <;> rfl⟩
theorem shape3 {m : Nat} {r : List PV} (h : Shape Try.prog (m + 1) 3 r) : ∃ n : Int, r = [PI n] := by
  rw [Shape, Try.underlying3] at h
  exact by obtain ⟨n, rfl, _⟩ := h; exact ⟨n, rfl⟩
theorem shape29 {m : Nat} {r : List PV} (h : Shape Try.prog (m + 3) 29 r) : ∃ p : Pdu, r = Pdu.cells p := by
  rw [Shape, Try.underlying29] at h
  simp only [ShapeFs] at h
  obtain ⟨a0, b0, rfl, h0, a1, b1, rfl, h1, a2, b2, rfl, h2, a3, b3, rfl, h3, a4, b4, rfl, h4, a5, b5, rfl, h5, a6, b6, rfl, h6, rfl⟩ := h
  obtain ⟨x0, rfl⟩ := shape3 h0
  obtain ⟨x1, rfl⟩ := shape3 h1
  obtain ⟨x2, rfl⟩ := shape3 h2
  obtain ⟨x3, rfl⟩ := shape3 h3
  obtain ⟨x4, rfl⟩ := shape3 h4
  obtain ⟨x5, rfl⟩ := shape3 h5
  obtain ⟨x6, rfl⟩ := shape22 h6
  exact ⟨⟨x0, x1, x2, x3, x4, x5, x6⟩, rfl⟩
end Go.Proofs.Ytojmfbmcpjjheaa.Pe

