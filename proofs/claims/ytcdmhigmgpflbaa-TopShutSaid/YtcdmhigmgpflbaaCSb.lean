import Derived.Test.YtcdmhigmgpflbaaDI20
import Derived.Test.YtcdmhigmgpflbaaSG4
import Derived.Test.YtcdmhigmgpflbaaPeR
import Derived.KernelRfl
namespace Go.Proofs.Ytcdmhigmgpflbaa.Pe
open Go.Pe Go.RowKit
set_option linter.unusedVariables false
set_option maxRecDepth 20000
theorem shape50 {m : Nat} {r : List PV} (h : Shape Try.prog (m + 1) 50 r) : ∃ b : UInt32,r = [.lit (.int .u32 b.toNat)] := by
  rw [Shape,Try.underlying50] at h
  exact u32_row h
theorem shape3 {m : Nat} {r : List PV} (h : Shape Try.prog (m + 1) 3 r) : ∃ n : Int,r = [PI n] := by
  rw [Shape,Try.underlying3] at h
  exact by obtain ⟨n,rfl,_⟩ := h; exact ⟨n,rfl⟩
theorem shape4 {m : Nat} {r : List PV} (h : Shape Try.prog (m + 1) 4 r) : ∃ b : Bool,r = [PB b] := by
  rw [Shape,Try.underlying4] at h
  exact h
theorem shape5 {m : Nat} {r : List PV} (h : Shape Try.prog (m + 1) 5 r) : ∃ b : UInt8,r = [.lit (.int .u8 b.toNat)] := by
  rw [Shape,Try.underlying5] at h
  exact byte_row h
theorem cells31 : Try.prog.cellsOf 5 = 1 := by kernel_rfl
theorem shape31 {m : Nat} {pvs : List PV} (h : Shape Try.prog (m + 2) 31 pvs) : ∃ l : List (UInt8),pvs = [bytesPV l] := by
  rw [Shape,Try.underlying31] at h
  obtain ⟨rows,rfl,_,h⟩ := h
  obtain ⟨l,rfl⟩ := rows_of rowB rows (fun r hr => shape5 (h r hr))
  exact ⟨l,by rw [cells31] <;> rfl⟩
theorem shape47 {m : Nat} {r : List PV} (h : Shape Try.prog (m + 3) 47 r) : ∃ p : Itm,r = Itm.cells p := by
  rw [Shape,Try.underlying47] at h
  simp only [ShapeFs] at h
  obtain ⟨a0,b0,rfl,h0,a1,b1,rfl,h1,a2,b2,rfl,h2,rfl⟩ := h
  obtain ⟨x0,rfl⟩ := shape3 h0
  obtain ⟨x1,rfl⟩ := shape4 h1
  obtain ⟨x2,rfl⟩ := shape31 h2
  exact ⟨⟨x0,x1,x2⟩,rfl⟩
theorem cells22 : Try.prog.cellsOf 47 = 3 := by kernel_rfl
theorem shape22 {m : Nat} {pvs : List PV} (h : Shape Try.prog (m + 4) 22 pvs) : ∃ l : List (Itm),pvs = [.im 3 (l.map Itm.cells)] := by
  rw [Shape,Try.underlying22] at h
  obtain ⟨rows,rfl,_,h⟩ := h
  obtain ⟨l,rfl⟩ := rows_of Itm.cells rows (fun r hr => shape47 (h r hr))
  exact ⟨l,by rw [cells22] <;> rfl⟩
theorem cells57 : Try.prog.cellsOf 31 = 1 := by kernel_rfl
theorem shape57 {m : Nat} {pvs : List PV} (h : Shape Try.prog (m + 3) 57 pvs) : ∃ l : List (List UInt8),pvs = [bytessPV l] := by
  rw [Shape,Try.underlying57] at h
  obtain ⟨rows,rfl,_,h⟩ := h
  obtain ⟨l,rfl⟩ := rows_of rowBs rows (fun r hr => shape31 (h r hr))
  exact ⟨l,by rw [cells57] <;> rfl⟩
theorem shape161 {m : Nat} {r : List PV} (h : Shape Try.prog (m + 2) 161 r) : ∃ p : Trb,r = Trb.cells p := by
  rw [Shape,Try.underlying161] at h
  simp only [ShapeFs] at h
  obtain ⟨a0,b0,rfl,h0,a1,b1,rfl,h1,a2,b2,rfl,h2,a3,b3,rfl,h3,rfl⟩ := h
  obtain ⟨x0,rfl⟩ := shape3 h0
  obtain ⟨x1,rfl⟩ := shape3 h1
  obtain ⟨x2,rfl⟩ := shape3 h2
  obtain ⟨x3,rfl⟩ := shape3 h3
  exact ⟨⟨x0,x1,x2,x3⟩,rfl⟩
theorem cells23 : Try.prog.cellsOf 161 = 4 := by kernel_rfl
theorem shape23 {m : Nat} {pvs : List PV} (h : Shape Try.prog (m + 3) 23 pvs) : ∃ l : List (Trb),pvs = [.im 4 (l.map Trb.cells)] := by
  rw [Shape,Try.underlying23] at h
  obtain ⟨rows,rfl,_,h⟩ := h
  obtain ⟨l,rfl⟩ := rows_of Trb.cells rows (fun r hr => shape161 (h r hr))
  exact ⟨l,by rw [cells23] <;> rfl⟩
end Go.Proofs.Ytcdmhigmgpflbaa.Pe


