import Derived.Test.YtpnhnobnjcknjaaU2
import Derived.Test.YtpnhnobnjcknjaaPeR
import Derived.KernelRfl
namespace Go.Proofs.Ytpnhnobnjcknjaa.Pe
open Go.Pe Go.RowKit
set_option linter.unusedVariables false
set_option maxRecDepth 20000
theorem shape5 {m : Nat} {r : List PV} (h : Shape Try.prog (m + 1) 5 r) : ∃ b : UInt8, r = [.lit (.int .u8 b.toNat)] := by
  rw [Shape, Try.underlying5] at h
  exact byte_row h
theorem cells26 : Try.prog.cellsOf 5 = 1 := by kernel_rfl
theorem shape26 {m : Nat} {pvs : List PV} (h : Shape Try.prog (m + 2) 26 pvs) : ∃ l : List (UInt8), pvs = [bytesPV l] := by
  rw [Shape, Try.underlying26] at h
  obtain ⟨rows, rfl, _, h⟩ := h
  obtain ⟨l, rfl⟩ := rows_of rowB rows (fun r hr => shape5 (h r hr))
  exact ⟨l, by rw [cells26] <;> rfl⟩
theorem shape4 {m : Nat} {r : List PV} (h : Shape Try.prog (m + 1) 4 r) : ∃ b : Bool, r = [PB b] := by
  rw [Shape, Try.underlying4] at h
  exact h
theorem cells46 : Try.prog.cellsOf 4 = 1 := by kernel_rfl
theorem shape46 {m : Nat} {pvs : List PV} (h : Shape Try.prog (m + 2) 46 pvs) : ∃ l : List (Bool), pvs = [boolsPV l] := by
  rw [Shape, Try.underlying46] at h
  obtain ⟨rows, rfl, _, h⟩ := h
  obtain ⟨l, rfl⟩ := rows_of rowBo rows (fun r hr => shape4 (h r hr))
  exact ⟨l, by rw [cells46] <;> rfl⟩
end Go.Proofs.Ytpnhnobnjcknjaa.Pe

