/- A type's row of the table, out of what the loaded program tells. -/
import Derived.Test.YtpnhnobnjcknjaaPe17
set_option linter.unusedVariables false
set_option linter.unusedSimpArgs false
namespace Go.Pe
open Go.RowKit

def mkZ : List (Option Nat) → List Value → List PV
  | some s :: ch, .slice none 0 0 :: vs => .im s [] :: mkZ ch vs
  | _ :: ch, v :: vs => .lit v :: mkZ ch vs
  | _, _ => []
theorem mkZ_rep : ∀ (ch : List (Option Nat)) (vs : List Value), ch.length = vs.length → ZRep (mkZ ch vs) vs
  | [], [], _ => ⟨rfl, by simp [mkZ]⟩
  | [], _ :: _, h => by simp at h
  | _ :: _, [], h => by simp at h
  | c :: ch, v :: vs, h => by
    obtain ⟨q1, q2⟩ := mkZ_rep ch vs (by simpa using h)
    have step : ∀ x, (x = .lit v ∨ ((∃ s, x = .im s []) ∧ v = .slice none 0 0)) → ZRep (x :: mkZ ch vs) (v :: vs) := by
      intro x hx
      refine ⟨by simp [q1], fun j y hj => ?_⟩
      cases j with
      | zero => cases hj; exact hx
      | succ j => exact q2 j y (by simpa using hj)
    unfold mkZ
    split
    · rename_i h1 h2
      cases h1
      cases h2
      exact step _ (.inr ⟨⟨_, rfl⟩, rfl⟩)
    · rename_i h1 h2
      cases h1
      cases h2
      exact step _ (.inl rfl)
    · rename_i h1 h2
      exact absurd rfl (h2 c ch v vs rfl)

theorem TypeOK.of {P : Program} {t : TypeId} {ti : TI} {d : TypeDesc} {size bytes : Nat} {z : Value} (hd : P.underlying t = some d) (hi : (P.info? t).map (fun i => (i.size, i.bytes, i.zero)) = some (size, bytes, some z)) (hf : ti.desc.fits d) (ha : isAggD d = ti.agg)
    (hs : size = ti.size) (hb : bytes = ti.bytes) (hz : z.cells.toList = ti.zero) (hl : ti.zero.length = ti.size) (h1 : ti.zero.all (·.oneCell') = true) (ch : List (Option Nat)) (hch : ch.length = ti.zero.length) (hzp : ti.zpv = mkZ ch ti.zero) : TypeOK P t ti := by
  cases hq : P.info? t with
  | none => rw [hq] at hi; cases hi
  | some i =>
    rw [hq] at hi
    simp only [Option.map_some, Option.some.injEq, Prod.mk.injEq] at hi
    obtain ⟨i1, i2, i3⟩ := hi
    exact ⟨⟨d, hd, hf, ha⟩, ⟨i, z, hq, i1.trans hs, i2.trans hb, i3, hz, hl, List.all_eq_true.1 h1⟩, by rw [hzp]; exact mkZ_rep ch _ hch⟩

end Go.Pe
