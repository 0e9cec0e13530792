import Derived.Test.YtcdmhigmgpflbaaTU1
import Derived.Test.YtcdmhigmgpflbaaPeR
import Derived.KernelRfl
namespace Go.Proofs.Ytcdmhigmgpflbaa.Pe
open Go.Pe Go.RowKit
set_option linter.unusedVariables false
set_option maxRecDepth 20000
theorem shape4 {m : Nat} {r : List PV} (h : Shape Try.prog (m + 1) 4 r) : ∃ b : Bool,r = [PB b] := by
  rw [Shape,Try.underlying4] at h
  exact h
theorem shape5 {m : Nat} {r : List PV} (h : Shape Try.prog (m + 1) 5 r) : ∃ b : UInt8,r = [.lit (.int .u8 b.toNat)] := by
  rw [Shape,Try.underlying5] at h
  exact byte_row h
theorem shape70 {m : Nat} {r : List PV} (h : Shape Try.prog (m + 1) 70 r) : ∃ b : UInt16,r = [.lit (.int .u16 b.toNat)] := by
  rw [Shape,Try.underlying70] at h
  exact u16_row h
theorem cells110 : Try.prog.cellsOf 70 = 1 := by kernel_rfl
theorem shape110 {m : Nat} {pvs : List PV} (h : Shape Try.prog (m + 2) 110 pvs) : ∃ l : List (UInt16),pvs = [u16sPV l] := by
  rw [Shape,Try.underlying110] at h
  obtain ⟨rows,rfl,_,h⟩ := h
  obtain ⟨l,rfl⟩ := rows_of rowU16 rows (fun r hr => shape70 (h r hr))
  exact ⟨l,by rw [cells110] <;> rfl⟩
theorem cells111 : Try.prog.cellsOf 4 = 1 := by kernel_rfl
theorem shape111 {m : Nat} {pvs : List PV} (h : Shape Try.prog (m + 2) 111 pvs) : ∃ l : List (Bool),pvs = [boolsPV l] := by
  rw [Shape,Try.underlying111] at h
  obtain ⟨rows,rfl,_,h⟩ := h
  obtain ⟨l,rfl⟩ := rows_of rowBo rows (fun r hr => shape4 (h r hr))
  exact ⟨l,by rw [cells111] <;> rfl⟩
end Go.Proofs.Ytcdmhigmgpflbaa.Pe


