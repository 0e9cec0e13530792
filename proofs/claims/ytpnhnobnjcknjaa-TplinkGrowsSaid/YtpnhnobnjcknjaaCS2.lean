import Derived.Test.YtpnhnobnjcknjaaD4
import Derived.Test.YtpnhnobnjcknjaaPeR
import Derived.KernelRfl
namespace Go.Proofs.Ytpnhnobnjcknjaa.Pe
open Go.Pe Go.RowKit
set_option linter.unusedVariables false
set_option maxRecDepth 20000
theorem shape22 {m : Nat} {r : List PV} (h : Shape Try.prog (m + 1) 22 r) : ∃ b : UInt16, r = [.lit (.int .u16 b.toNat)] := by
  rw [Shape, Try.underlying22] at h
  exact u16_row h
theorem shape5 {m : Nat} {r : List PV} (h : Shape Try.prog (m + 1) 5 r) : ∃ b : UInt8, r = [.lit (.int .u8 b.toNat)] := by
  rw [Shape, Try.underlying5] at h
  exact byte_row h
theorem shape3 {m : Nat} {r : List PV} (h : Shape Try.prog (m + 1) 3 r) : ∃ n : Int, r = [PI n] := by
  rw [Shape, Try.underlying3] at h
  exact by obtain ⟨n, rfl, _⟩ := h; exact ⟨n, rfl⟩
theorem cells26 : Try.prog.cellsOf 5 = 1 := by kernel_rfl
theorem shape26 {m : Nat} {pvs : List PV} (h : Shape Try.prog (m + 2) 26 pvs) : ∃ l : List (UInt8), pvs = [bytesPV l] := by
  rw [Shape, Try.underlying26] at h
  obtain ⟨rows, rfl, _, h⟩ := h
  obtain ⟨l, rfl⟩ := rows_of rowB rows (fun r hr => shape5 (h r hr))
  exact ⟨l, by rw [cells26] <;> rfl⟩
theorem shape33 {m : Nat} {r : List PV} (h : Shape Try.prog (m + 3) 33 r) : ∃ p : Pdu, r = Pdu.cells p := by
  rw [Shape, Try.underlying33] at h
  simp only [ShapeFs] at h
  obtain ⟨a0, b0, rfl, h0, a1, b1, rfl, h1, a2, b2, rfl, h2, a3, b3, rfl, h3, a4, b4, rfl, h4, a5, b5, rfl, h5, a6, b6, rfl, h6, rfl⟩ := h
  obtain ⟨x0, rfl⟩ := shape3 h0
  obtain ⟨x1, rfl⟩ := shape3 h1
  obtain ⟨x2, rfl⟩ := shape3 h2
  obtain ⟨x3, rfl⟩ := shape3 h3
  obtain ⟨x4, rfl⟩ := shape3 h4
  obtain ⟨x5, rfl⟩ := shape3 h5
  obtain ⟨x6, rfl⟩ := shape26 h6
  exact ⟨⟨x0, x1, x2, x3, x4, x5, x6⟩, rfl⟩
theorem shape35 {m : Nat} {r : List PV} (h : Shape Try.prog (m + 4) 35 r) : ∃ p : Op19, r = Op19.row p := by
  rw [Shape, Try.underlying35] at h
  simp only [ShapeFs] at h
  obtain ⟨a0, b0, rfl, h0, a1, b1, rfl, h1, rfl⟩ := h
  obtain ⟨x0, rfl⟩ := shape5 h0
  obtain ⟨x1, rfl⟩ := shape33 h1
  exact ⟨⟨x0, x1⟩, rfl⟩
theorem cells23 : Try.prog.cellsOf 35 = 8 := by kernel_rfl
theorem shape23 {m : Nat} {pvs : List PV} (h : Shape Try.prog (m + 5) 23 pvs) : ∃ l : List (Op19), pvs = [.im 8 (l.map Op19.row)] := by
  rw [Shape, Try.underlying23] at h
  obtain ⟨rows, rfl, _, h⟩ := h
  obtain ⟨l, rfl⟩ := rows_of Op19.row rows (fun r hr => shape35 (h r hr))
  exact ⟨l, by rw [cells23] <;> rfl⟩
theorem cells64 : Try.prog.cellsOf 3 = 1 := by kernel_rfl
theorem shape64 {m : Nat} {pvs : List PV} (h : Shape Try.prog (m + 2) 64 pvs) : ∃ l : List (Int), pvs = [intsPV l] := by
  rw [Shape, Try.underlying64] at h
  obtain ⟨rows, rfl, _, h⟩ := h
  obtain ⟨l, rfl⟩ := rows_of rowI rows (fun r hr => shape3 (h r hr))
  exact ⟨l, by rw [cells64] <;> rfl⟩
theorem shape4 {m : Nat} {r : List PV} (h : Shape Try.prog (m + 1) 4 r) : ∃ b : Bool, r = [PB b] := by
  rw [Shape, Try.underlying4] at h
  exact h
theorem cells46 : Try.prog.cellsOf 4 = 1 := by kernel_rfl
theorem shape46 {m : Nat} {pvs : List PV} (h : Shape Try.prog (m + 2) 46 pvs) : ∃ l : List (Bool), pvs = [boolsPV l] := by
  rw [Shape, Try.underlying46] at h
  obtain ⟨rows, rfl, _, h⟩ := h
  obtain ⟨l, rfl⟩ := rows_of rowBo rows (fun r hr => shape4 (h r hr))
  exact ⟨l, by rw [cells46] <;> rfl⟩
end Go.Proofs.Ytpnhnobnjcknjaa.Pe

