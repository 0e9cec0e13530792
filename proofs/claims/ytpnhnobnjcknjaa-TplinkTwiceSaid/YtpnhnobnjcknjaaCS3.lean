import Derived.Test.YtpnhnobnjcknjaaE10a
import Derived.Test.YtpnhnobnjcknjaaPeR
import Derived.KernelRfl
namespace Go.Proofs.Ytpnhnobnjcknjaa.Pe
open Go.Pe Go.RowKit
set_option linter.unusedVariables false
set_option maxRecDepth 20000
theorem shape5 {m : Nat} {r : List PV} (h : Shape Try.prog (m + 1) 5 r) : ∃ b : UInt8, r = [.lit (.int .u8 b.toNat)] := by
  rw [Shape, Try.underlying5] at h
  exact byte_row h
theorem cells26 : Try.prog.cellsOf 5 = 1 := by kernel_rfl
theorem shape26 {m : Nat} {pvs : List PV} (h : Shape Try.prog (m + 2) 26 pvs) : ∃ l : List (UInt8), pvs = [bytesPV l] := by
  rw [Shape, Try.underlying26] at h
  obtain ⟨rows, rfl, _, h⟩ := h
  obtain ⟨l, rfl⟩ := rows_of rowB rows (fun r hr => shape5 (h r hr))
  exact ⟨l, by rw [cells26] <;> rfl⟩
theorem shape3 {m : Nat} {r : List PV} (h : Shape Try.prog (m + 1) 3 r) : ∃ n : Int, r = [PI n] := by
  rw [Shape, Try.underlying3] at h
  exact by obtain ⟨n, rfl, _⟩ := h; exact ⟨n, rfl⟩
theorem cells64 : Try.prog.cellsOf 3 = 1 := by kernel_rfl
theorem shape64 {m : Nat} {pvs : List PV} (h : Shape Try.prog (m + 2) 64 pvs) : ∃ l : List (Int), pvs = [intsPV l] := by
  rw [Shape, Try.underlying64] at h
  obtain ⟨rows, rfl, _, h⟩ := h
  obtain ⟨l, rfl⟩ := rows_of rowI rows (fun r hr => shape3 (h r hr))
  exact ⟨l, by rw [cells64] <;> rfl⟩
theorem shape22 {m : Nat} {r : List PV} (h : Shape Try.prog (m + 1) 22 r) : ∃ b : UInt16, r = [.lit (.int .u16 b.toNat)] := by
  rw [Shape, Try.underlying22] at h
  exact u16_row h
theorem shape4 {m : Nat} {r : List PV} (h : Shape Try.prog (m + 1) 4 r) : ∃ b : Bool, r = [PB b] := by
  rw [Shape, Try.underlying4] at h
  exact h
end Go.Proofs.Ytpnhnobnjcknjaa.Pe

