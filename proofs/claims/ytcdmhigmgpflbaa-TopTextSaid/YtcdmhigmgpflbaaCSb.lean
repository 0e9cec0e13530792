import Derived.Test.YtcdmhigmgpflbaaDI20
import Derived.Test.YtcdmhigmgpflbaaSG4
import Derived.Test.YtcdmhigmgpflbaaPeR
import Derived.KernelRfl
namespace Go.Proofs.Ytcdmhigmgpflbaa.Pe
open Go.Pe Go.RowKit
set_option linter.unusedVariables false
set_option maxRecDepth 20000
theorem shape3 {m : Nat} {r : List PV} (h : Shape Try.prog (m + 1) 3 r) : ∃ n : Int,r = [PI n] := by
  rw [Shape,Try.underlying3] at h
  exact by obtain ⟨n,rfl,_⟩ := h; exact ⟨n,rfl⟩
theorem shape5 {m : Nat} {r : List PV} (h : Shape Try.prog (m + 1) 5 r) : ∃ b : UInt8,r = [.lit (.int .u8 b.toNat)] := by
  rw [Shape,Try.underlying5] at h
  exact byte_row h
theorem cells31 : Try.prog.cellsOf 5 = 1 := by kernel_rfl
theorem shape31 {m : Nat} {pvs : List PV} (h : Shape Try.prog (m + 2) 31 pvs) : ∃ l : List (UInt8),pvs = [bytesPV l] := by
  rw [Shape,Try.underlying31] at h
  obtain ⟨rows,rfl,_,h⟩ := h
  obtain ⟨l,rfl⟩ := rows_of rowB rows (fun r hr => shape5 (h r hr))
  exact ⟨l,by rw [cells31] <;> rfl⟩
theorem cells58 : Try.prog.cellsOf 3 = 1 := by kernel_rfl
theorem shape58 {m : Nat} {pvs : List PV} (h : Shape Try.prog (m + 2) 58 pvs) : ∃ l : List (Int),pvs = [intsPV l] := by
  rw [Shape,Try.underlying58] at h
  obtain ⟨rows,rfl,_,h⟩ := h
  obtain ⟨l,rfl⟩ := rows_of rowI rows (fun r hr => shape3 (h r hr))
  exact ⟨l,by rw [cells58] <;> rfl⟩
end Go.Proofs.Ytcdmhigmgpflbaa.Pe


