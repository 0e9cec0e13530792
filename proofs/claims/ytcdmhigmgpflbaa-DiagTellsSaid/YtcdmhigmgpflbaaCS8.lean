import Derived.Test.YtcdmhigmgpflbaaCS7
namespace Go.Proofs.Ytcdmhigmgpflbaa.Pe
open Go.Pe Go.RowKit
set_option linter.unusedVariables false
set_option maxRecDepth 20000
theorem shape22b {m : Nat} {pvs : List PV} (h : Shape Try.prog (m + 4) 22 pvs) : ∃ l : List (Itm), pvs = [.im 3 (l.map Itm.cells)] ∧ l.length ≤ 9223372036854775807 := by
  rw [Shape, Try.underlying22] at h
  obtain ⟨rows, rfl, hl, h⟩ := h
  obtain ⟨l, rfl⟩ := rows_of Itm.cells rows (fun r hr => shape47 (h r hr))
  exact ⟨l, by rw [cells22] <;> rfl, by simpa [maxLen] using hl⟩
theorem shape23b {m : Nat} {pvs : List PV} (h : Shape Try.prog (m + 3) 23 pvs) : ∃ l : List (Trb), pvs = [.im 4 (l.map Trb.cells)] ∧ l.length ≤ 9223372036854775807 := by
  rw [Shape, Try.underlying23] at h
  obtain ⟨rows, rfl, hl, h⟩ := h
  obtain ⟨l, rfl⟩ := rows_of Trb.cells rows (fun r hr => shape161 (h r hr))
  exact ⟨l, by rw [cells23] <;> rfl, by simpa [maxLen] using hl⟩
theorem shape25b {m : Nat} {r : List PV} (h : Shape Try.prog (m + 5) 25 r) : ∃ p : Srv, r = Srv.cells p ∧ p.items.length ≤ 9223372036854775807 ∧ p.dtc.length ≤ 9223372036854775807 := by
  rw [Shape, Try.underlying25] at h
  simp only [ShapeFs] at h
  obtain ⟨a0, b0, rfl, h0, a1, b1, rfl, h1, a2, b2, rfl, h2, a3, b3, rfl, h3, a4, b4, rfl, h4, a5, b5, rfl, h5, a6, b6, rfl, h6, a7, b7, rfl, h7, a8, b8, rfl, h8, rfl⟩ := h
  obtain ⟨x0, rfl⟩ := shape3 h0
  obtain ⟨x1, rfl⟩ := shape4 h1
  obtain ⟨x2, rfl⟩ := shape3 h2
  obtain ⟨x3, rfl⟩ := shape3 h3
  obtain ⟨x4, rfl⟩ := shape3 h4
  obtain ⟨x5, rfl⟩ := shape3 h5
  obtain ⟨x6, rfl⟩ := shape3 h6
  obtain ⟨x7, rfl, l7⟩ := shape22b h7
  obtain ⟨x8, rfl, l8⟩ := shape23b h8
  exact ⟨⟨x0, x1, x2, x3, x4, x5, x6, x7, x8⟩, rfl, l7, l8⟩
end Go.Proofs.Ytcdmhigmgpflbaa.Pe
