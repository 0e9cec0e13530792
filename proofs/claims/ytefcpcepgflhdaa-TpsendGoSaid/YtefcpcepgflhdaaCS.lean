import Derived.Test.YtefcpcepgflhdaaC11
import Derived.Test.YtefcpcepgflhdaaPeR
import Derived.KernelRfl
namespace Go.Proofs.Ytefcpcepgflhdaa.Pe
open Go.Pe Go.RowKit
set_option linter.unusedVariables false
theorem cells5 : Try.prog.cellsOf 5 = 1 := by kernel_rfl
theorem cells30 : Try.prog.cellsOf 30 = 7 := by kernel_rfl
theorem cells38 : Try.prog.cellsOf 38 = 9 := by kernel_rfl
theorem shape5 {m : Nat} {r : List PV} (h : Shape Try.prog (m + 1) 5 r) : ∃ b, r = rowB b := by
  rw [Shape, Try.underlying5] at h
  exact byte_row h
theorem shape22 {m : Nat} {pvs : List PV} (h : Shape Try.prog (m + 2) 22 pvs) : ∃ l, pvs = [bytesPV l] := by
  rw [Shape, Try.underlying22] at h
  obtain ⟨rows, rfl, _, h⟩ := h
  obtain ⟨l, rfl⟩ := rows_of rowB rows (fun r hr => shape5 (h r hr))
  exact ⟨l, by rw [cells5]; rfl⟩
theorem shape3 {m : Nat} {r : List PV} (h : Shape Try.prog (m + 1) 3 r) : ∃ n, r = [PI n] := by
  rw [Shape, Try.underlying3] at h
  obtain ⟨n, rfl, _⟩ := h
  exact ⟨n, rfl⟩
theorem shape30 {m : Nat} {r : List PV} (h : Shape Try.prog (m + 3) 30 r) : ∃ p : Pdu, r = p.row := by
  rw [Shape, Try.underlying30] at h
  simp only [ShapeFs] at h
  obtain ⟨a1, b1, rfl, h1, a2, b2, rfl, h2, a3, b3, rfl, h3, a4, b4, rfl, h4, a5, b5, rfl, h5, a6, b6, rfl, h6, a7, b7, rfl, h7, rfl⟩ := h
  obtain ⟨k, rfl⟩ := shape3 h1
  obtain ⟨l, rfl⟩ := shape3 h2
  obtain ⟨n, rfl⟩ := shape3 h3
  obtain ⟨s, rfl⟩ := shape3 h4
  obtain ⟨b, rfl⟩ := shape3 h5
  obtain ⟨g, rfl⟩ := shape3 h6
  obtain ⟨d, rfl⟩ := shape22 h7
  exact ⟨⟨k, l, n, s, b, g, d⟩, rfl⟩
theorem shape40 {m : Nat} {pvs : List PV} (h : Shape Try.prog (m + 4) 40 pvs) : ∃ l, pvs = [pdusPV l] := by
  rw [Shape, Try.underlying40] at h
  obtain ⟨rows, rfl, _, h⟩ := h
  obtain ⟨l, rfl⟩ := rows_of Pdu.row rows (fun r hr => shape30 (h r hr))
  exact ⟨l, by rw [cells30]; rfl⟩
theorem shape38 {m : Nat} {r : List PV} (h : Shape Try.prog (m + 4) 38 r) : ∃ o : OpS, r = o.row := by
  rw [Shape, Try.underlying38] at h
  simp only [ShapeFs] at h
  obtain ⟨a1, b1, rfl, h1, a2, b2, rfl, h2, a3, b3, rfl, h3, rfl⟩ := h
  obtain ⟨k, rfl⟩ := shape3 h1
  obtain ⟨p, rfl⟩ := shape30 h2
  obtain ⟨n, rfl⟩ := shape5 h3
  exact ⟨⟨k, p, n⟩, rfl⟩
theorem shape23 {m : Nat} {pvs : List PV} (h : Shape Try.prog (m + 5) 23 pvs) : ∃ l, pvs = [opsPV l] := by
  rw [Shape, Try.underlying23] at h
  obtain ⟨rows, rfl, _, h⟩ := h
  obtain ⟨l, rfl⟩ := rows_of OpS.row rows (fun r hr => shape38 (h r hr))
  exact ⟨l, by rw [cells38]; rfl⟩
end Go.Proofs.Ytefcpcepgflhdaa.Pe
