import Derived.Test.YtcdmhigmgpflbaaDI20
import Derived.Test.YtcdmhigmgpflbaaPeR
import Derived.KernelRfl
namespace Go.Proofs.Ytcdmhigmgpflbaa.Pe
open Go.Pe Go.RowKit
set_option linter.unusedVariables false
set_option maxRecDepth 20000
theorem shape5 {m : Nat} {r : List PV} (h : Shape Try.prog (m + 1) 5 r) : ∃ b : UInt8,r = [.lit (.int .u8 b.toNat)] := by
  rw [Shape,Try.underlying5] at h
  exact byte_row h
theorem cells31 : Try.prog.cellsOf 5 = 1 := by kernel_rfl
theorem shape31 {m : Nat} {pvs : List PV} (h : Shape Try.prog (m + 2) 31 pvs) : ∃ l : List (UInt8),pvs = [bytesPV l] := by
  rw [Shape,Try.underlying31] at h
  obtain ⟨rows,rfl,_,h⟩ := h
  obtain ⟨l,rfl⟩ := rows_of rowB rows (fun r hr => shape5 (h r hr))
  exact ⟨l,by rw [cells31] <;> rfl⟩
theorem shape50 {m : Nat} {r : List PV} (h : Shape Try.prog (m + 1) 50 r) : ∃ b : UInt32,r = [.lit (.int .u32 b.toNat)] := by
  rw [Shape,Try.underlying50] at h
  exact u32_row h
theorem shape70 {m : Nat} {r : List PV} (h : Shape Try.prog (m + 1) 70 r) : ∃ b : UInt16,r = [.lit (.int .u16 b.toNat)] := by
  rw [Shape,Try.underlying70] at h
  exact u16_row h
end Go.Proofs.Ytcdmhigmgpflbaa.Pe


