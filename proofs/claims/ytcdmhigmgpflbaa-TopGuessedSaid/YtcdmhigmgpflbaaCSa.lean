import Derived.Test.YtcdmhigmgpflbaaTU1
import Derived.Test.YtcdmhigmgpflbaaPeR
import Derived.KernelRfl
namespace Go.Proofs.Ytcdmhigmgpflbaa.Pe
open Go.Pe Go.RowKit
set_option linter.unusedVariables false
set_option maxRecDepth 20000
theorem shape50 {m : Nat} {r : List PV} (h : Shape Try.prog (m + 1) 50 r) : ∃ b : UInt32,r = [.lit (.int .u32 b.toNat)] := by
  rw [Shape,Try.underlying50] at h
  exact u32_row h
theorem shape5 {m : Nat} {r : List PV} (h : Shape Try.prog (m + 1) 5 r) : ∃ b : UInt8,r = [.lit (.int .u8 b.toNat)] := by
  rw [Shape,Try.underlying5] at h
  exact byte_row h
theorem cells108 : Try.prog.cellsOf 50 = 1 := by kernel_rfl
theorem shape108 {m : Nat} {pvs : List PV} (h : Shape Try.prog (m + 2) 108 pvs) : ∃ l : List (UInt32),pvs = [u32sPV l] := by
  rw [Shape,Try.underlying108] at h
  obtain ⟨rows,rfl,_,h⟩ := h
  obtain ⟨l,rfl⟩ := rows_of rowU32 rows (fun r hr => shape50 (h r hr))
  exact ⟨l,by rw [cells108] <;> rfl⟩
end Go.Proofs.Ytcdmhigmgpflbaa.Pe


