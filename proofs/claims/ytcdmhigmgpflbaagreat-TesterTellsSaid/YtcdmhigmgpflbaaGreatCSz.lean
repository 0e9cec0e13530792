import Derived.Test.YtcdmhigmgpflbaaGreatDI20
import Derived.Test.YtcdmhigmgpflbaaGreatTZ3
import Derived.Test.YtcdmhigmgpflbaaGreatPeR
import Derived.KernelRfl
set_option linter.unusedVariables false
set_option maxRecDepth 20000
namespace Go.Proofs.YtcdmhigmgpflbaaGreat.Pe
open Go.Pe Go.RowKit
theorem shape3 {m : Nat} {r : List PV} (h : Shape Tryz.prog (m + 1) 3 r) : ∃ n : Int,r = [PI n] := by
  rw [Shape,Tryz.underlying3] at h
  exact by obtain ⟨n,rfl,_⟩ := h; exact ⟨n,rfl⟩
theorem shape3b {m : Nat} {r : List PV} (h : Shape Tryz.prog (m + 1) 3 r) : ∃ n : Int,r = [PI n] ∧ Fits n := by
  rw [Shape,Tryz.underlying3] at h
  obtain ⟨n,rfl,hw⟩ := h
  exact ⟨n,rfl,by simpa [Fits,Lit.wf,IntKind.min,IntKind.max,IntKind.signed,IntKind.bits] using hw⟩
theorem shape5 {m : Nat} {r : List PV} (h : Shape Tryz.prog (m + 1) 5 r) : ∃ b : UInt8,r = [.lit (.int .u8 b.toNat)] := by
  rw [Shape,Tryz.underlying5] at h
  exact byte_row h
theorem cells22 : Tryz.prog.cellsOf 5 = 1 := by kernel_rfl
theorem shape22 {m : Nat} {pvs : List PV} (h : Shape Tryz.prog (m + 2) 22 pvs) : ∃ l : List (UInt8),pvs = [bytesPV l] := by
  rw [Shape,Tryz.underlying22] at h
  obtain ⟨rows,rfl,_,h⟩ := h
  obtain ⟨l,rfl⟩ := rows_of rowB rows (fun r hr => shape5 (h r hr))
  exact ⟨l,by rw [cells22] <;> rfl⟩
theorem shape4 {m : Nat} {r : List PV} (h : Shape Tryz.prog (m + 1) 4 r) : ∃ b : Bool,r = [PB b] := by
  rw [Shape,Tryz.underlying4] at h
  exact h
theorem shape59 {m : Nat} {r : List PV} (h : Shape Tryz.prog (m + 3) 59 r) : ∃ p : Itm,r = Itm.cells p := by
  rw [Shape,Tryz.underlying59] at h
  simp only [ShapeFs] at h
  obtain ⟨a0,b0,rfl,h0,a1,b1,rfl,h1,a2,b2,rfl,h2,rfl⟩ := h
  obtain ⟨x0,rfl⟩ := shape3 h0
  obtain ⟨x1,rfl⟩ := shape4 h1
  obtain ⟨x2,rfl⟩ := shape22 h2
  exact ⟨⟨x0,x1,x2⟩,rfl⟩
theorem cells23 : Tryz.prog.cellsOf 59 = 3 := by kernel_rfl
theorem shape23 {m : Nat} {pvs : List PV} (h : Shape Tryz.prog (m + 4) 23 pvs) : ∃ l : List (Itm),pvs = [.im 3 (l.map Itm.cells)] := by
  rw [Shape,Tryz.underlying23] at h
  obtain ⟨rows,rfl,_,h⟩ := h
  obtain ⟨l,rfl⟩ := rows_of Itm.cells rows (fun r hr => shape59 (h r hr))
  exact ⟨l,by rw [cells23] <;> rfl⟩
theorem shape102 {m : Nat} {r : List PV} (h : Shape Tryz.prog (m + 2) 102 r) : ∃ p : Trb,r = Trb.cells p := by
  rw [Shape,Tryz.underlying102] at h
  simp only [ShapeFs] at h
  obtain ⟨a0,b0,rfl,h0,a1,b1,rfl,h1,a2,b2,rfl,h2,a3,b3,rfl,h3,rfl⟩ := h
  obtain ⟨x0,rfl⟩ := shape3 h0
  obtain ⟨x1,rfl⟩ := shape3 h1
  obtain ⟨x2,rfl⟩ := shape3 h2
  obtain ⟨x3,rfl⟩ := shape3 h3
  exact ⟨⟨x0,x1,x2,x3⟩,rfl⟩
theorem cells24 : Tryz.prog.cellsOf 102 = 4 := by kernel_rfl
theorem shape24 {m : Nat} {pvs : List PV} (h : Shape Tryz.prog (m + 3) 24 pvs) : ∃ l : List (Trb),pvs = [.im 4 (l.map Trb.cells)] := by
  rw [Shape,Tryz.underlying24] at h
  obtain ⟨rows,rfl,_,h⟩ := h
  obtain ⟨l,rfl⟩ := rows_of Trb.cells rows (fun r hr => shape102 (h r hr))
  exact ⟨l,by rw [cells24] <;> rfl⟩
theorem shape26 {m : Nat} {r : List PV} (h : Shape Tryz.prog (m + 5) 26 r) : ∃ p : Srv,r = Srv.cells p := by
  rw [Shape,Tryz.underlying26] at h
  simp only [ShapeFs] at h
  obtain ⟨a0,b0,rfl,h0,a1,b1,rfl,h1,a2,b2,rfl,h2,a3,b3,rfl,h3,a4,b4,rfl,h4,a5,b5,rfl,h5,a6,b6,rfl,h6,a7,b7,rfl,h7,a8,b8,rfl,h8,rfl⟩ := h
  obtain ⟨x0,rfl⟩ := shape3 h0
  obtain ⟨x1,rfl⟩ := shape4 h1
  obtain ⟨x2,rfl⟩ := shape3 h2
  obtain ⟨x3,rfl⟩ := shape3 h3
  obtain ⟨x4,rfl⟩ := shape3 h4
  obtain ⟨x5,rfl⟩ := shape3 h5
  obtain ⟨x6,rfl⟩ := shape3 h6
  obtain ⟨x7,rfl⟩ := shape23 h7
  obtain ⟨x8,rfl⟩ := shape24 h8
  exact ⟨⟨x0,x1,x2,x3,x4,x5,x6,x7,x8⟩,rfl⟩
theorem cells27 : Tryz.prog.cellsOf 3 = 1 := by kernel_rfl
theorem shape27 {m : Nat} {pvs : List PV} (h : Shape Tryz.prog (m + 2) 27 pvs) : ∃ l : List (Int),pvs = [intsPV l] := by
  rw [Shape,Tryz.underlying27] at h
  obtain ⟨rows,rfl,_,h⟩ := h
  obtain ⟨l,rfl⟩ := rows_of rowI rows (fun r hr => shape3 (h r hr))
  exact ⟨l,by rw [cells27] <;> rfl⟩
end Go.Proofs.YtcdmhigmgpflbaaGreat.Pe
