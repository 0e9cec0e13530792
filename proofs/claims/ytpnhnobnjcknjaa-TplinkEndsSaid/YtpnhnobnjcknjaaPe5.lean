/- What an operation that gives a value, and writes no memory, gives on abstract values; and that the model's operation gives a value that stands for it. -/
import Derived.Test.YtpnhnobnjcknjaaPe4
set_option linter.unusedVariables false
set_option linter.unusedSimpArgs false
namespace Go.Pe
open Go.RowKit

/-! ### a value's cells -/
def cellsA : PV → Option (List PV)
  | .agg cs => some cs
  | .lit v => if v.oneCell' then some [.lit v] else none
  | .any | .tup _ => none
  | pv => some [pv]
def splice {α : Type} (cs : List α) (off : Nat) (vs : List α) : List α := cs.take off ++ vs ++ cs.drop (off + vs.length)

theorem cells_one {v : Value} (h : v.oneCell' = true) : v.cells = #[v] := by cases v <;> first | rfl | (simp [Value.oneCell'] at h)

theorem Rep.cells {N : Nat → Prop} {w : World} {β : Ref} {pv : PV} {v : Value} {vs : List PV} (h : Rep N w β pv v) (hc : cellsA pv = some vs) :
    v.cells.size = vs.length ∧ ∀ j x, vs[j]? = some x → Rep N w β x (v.cells.getD j undef) := by
  have one : isCell pv = true → some [pv] = some vs → v.cells.size = vs.length ∧ ∀ j x, vs[j]? = some x → Rep N w β x (v.cells.getD j undef) := by
    intro h1 h2
    cases h2
    have hv := h.cell h1
    rw [cells_one hv]
    refine ⟨rfl, fun j x hj => ?_⟩
    cases j with
    | zero => cases hj; exact h
    | succ j => simp at hj
  cases pv <;> simp only [cellsA, reduceCtorEq] at hc <;> try exact one rfl hc
  · rename_i x
    split at hc
    · rename_i hx
      exact one hx hc
    · cases hc
  · cases hc
    obtain ⟨us, rfl, hl, he⟩ := h.agg_eq
    exact ⟨hl, he⟩

/-! ### struct and array values -/
def fillA (T : Tab) (place : Nat → Option (Nat × TypeId)) (cs : List PV) : List (Nat × PV) → Option (List PV)
  | [] => some cs
  | (i, v) :: rest => match place i with
    | none => none
    | some (off, ft) => match T ft with
      | none => none
      | some fi => match cellsA v with
        | none => none
        | some vs => if vs.length = fi.size ∧ off + vs.length ≤ cs.length then fillA T place (splice cs off vs) rest else none

theorem fold_set (off : Nat) : ∀ (l : List Value) (s : Nat) (cells : Array Value), off + s + l.length ≤ cells.size →
    ∀ k, ((l.zipIdx s).foldl (fun cs (x : Value × Nat) => cs.setIfInBounds (off + x.2) x.1) cells).getD k undef = if off + s ≤ k ∧ k < off + s + l.length then l.getD (k - (off + s)) undef else cells.getD k undef
  | [], s, cells, _, k => by
    have : ¬ (off + s ≤ k ∧ k < off + s) := by omega
    simp [this]
  | x :: l, s, cells, hl, k => by
    simp only [List.length_cons] at hl
    rw [List.zipIdx_cons, List.foldl_cons, fold_set off l (s + 1) _ (by simp; omega)]
    by_cases h1 : off + (s + 1) ≤ k ∧ k < off + (s + 1) + l.length
    · rw [if_pos h1, if_pos (by simp; omega)]
      obtain ⟨m, rfl⟩ : ∃ m, k = off + s + 1 + m := ⟨k - (off + s + 1), by omega⟩
      have e1 : off + s + 1 + m - (off + (s + 1)) = m := by omega
      have e2 : off + s + 1 + m - (off + s) = m + 1 := by omega
      rw [e1, e2]
      simp
    · rw [if_neg h1]
      by_cases h2 : k = off + s
      · subst h2
        rw [if_pos (by simp)]
        simp [Array.getD, show off + s < cells.size by omega]
      · rw [if_neg (by simp; omega)]
        simp only [Array.getD_eq_getD_getElem?]
        rw [Array.getElem?_setIfInBounds_ne (Ne.symm h2)]
theorem fold_set_size (off : Nat) : ∀ (l : List Value) (s : Nat) (cells : Array Value), ((l.zipIdx s).foldl (fun cs (x : Value × Nat) => cs.setIfInBounds (off + x.2) x.1) cells).size = cells.size
  | [], s, cells => rfl
  | x :: l, s, cells => by rw [List.zipIdx_cons, List.foldl_cons, fold_set_size off l]; simp

theorem splice_get {α : Type} {cs vs : List α} {off : Nat} (h : off + vs.length ≤ cs.length) (k : Nat) : (splice cs off vs)[k]? = if off ≤ k ∧ k < off + vs.length then vs[k - off]? else cs[k]? := by
  unfold splice
  by_cases h1 : k < off
  · rw [List.append_assoc, List.getElem?_append_left (by simp; omega), List.getElem?_take_of_lt h1, if_neg (by omega)]
  · by_cases h2 : k < off + vs.length
    · rw [List.append_assoc, List.getElem?_append_right (by simp; omega), List.getElem?_append_left (by simp; omega), if_pos (by omega)]
      congr 1
      simp
      omega
    · rw [List.getElem?_append_right (by simp; omega), List.getElem?_drop, if_neg (by omega)]
      congr 1
      simp
      omega
theorem splice_length {α : Type} {cs vs : List α} {off : Nat} (h : off + vs.length ≤ cs.length) : (splice cs off vs).length = cs.length := by
  unfold splice
  simp
  omega

theorem fill_run {P : Program} {T : Tab} (hT : TabOK P T) {N : Nat → Prop} {w : World} {β : Ref} {place : Nat → Option (Nat × TypeId)} {place' : Nat → Option (Nat × Nat)}
    (hp : ∀ i off ft fi, place i = some (off, ft) → T ft = some fi → place' i = some (off, fi.size)) :
    ∀ (ps : List (Nat × PV)) (qs : List (Nat × Value)) (cs : List PV) (cells : Array Value) (out : List PV), fillA T place cs ps = some out → ps.length = qs.length →
      (∀ (i : Nat) (p : Nat × PV) (q : Nat × Value), ps[i]? = some p → qs[i]? = some q → p.1 = q.1 ∧ Rep N w β p.2 q.2) → cells.size = cs.length → (∀ j x, cs[j]? = some x → Rep N w β x (cells.getD j undef)) →
      ∃ r, Instr.fill place' cells qs = some r ∧ r.size = out.length ∧ ∀ j x, out[j]? = some x → Rep N w β x (r.getD j undef)
  | [], [], cs, cells, out, h, _, _, hs, hc => by
    simp only [fillA, Option.some.injEq] at h
    subst h
    exact ⟨cells, rfl, hs, hc⟩
  | [], _ :: _, _, _, _, _, hl, _, _, _ => by simp at hl
  | _ :: _, [], _, _, _, _, hl, _, _, _ => by simp at hl
  | (i, pv) :: ps, (i', v) :: qs, cs, cells, out, h, hl, hr, hs, hc => by
    have h0 := hr 0 _ _ rfl rfl
    obtain ⟨he, hrep⟩ := h0
    simp only at he hrep
    subst he
    simp only [fillA] at h
    split at h
    · cases h
    · rename_i off ft hpl
      split at h
      · cases h
      · rename_i fi hti
        split at h
        · cases h
        · rename_i vs hvs
          split at h
          · rename_i hsz
            obtain ⟨hsz1, hsz2⟩ := hsz
            obtain ⟨hcs, hcr⟩ := hrep.cells hvs
            have hgood : ¬ (v.cells.size ≠ fi.size || off + v.cells.size > cells.size) = true := by
              simp
              omega
            simp only [Instr.fill, hp i off ft fi hpl hti]
            rw [if_neg hgood]
            have hfold : (v.cells.zipIdx.foldl (fun cs (x : Value × Nat) => cs.setIfInBounds (off + x.2) x.1) cells) = ((v.cells.toList.zipIdx 0).foldl (fun cs (x : Value × Nat) => cs.setIfInBounds (off + x.2) x.1) cells) := by
              rw [← Array.foldl_toList, Array.toList_zipIdx]
            have hlen : off + 0 + v.cells.toList.length ≤ cells.size := by simp; omega
            refine fill_run hT hp ps qs _ _ out h (by simpa using hl) (fun k p q hk hq => hr (k + 1) p q (by simpa using hk) (by simpa using hq)) ?_ ?_
            · rw [splice_length (by omega)]
              have := fold_set_size off v.cells.toList 0 cells
              rw [← hfold] at this
              rw [← hs]
              exact this
            · intro j x hj
              rw [splice_get (by omega)] at hj
              have hg := fold_set off v.cells.toList 0 cells hlen j
              rw [← hfold] at hg
              refine (?_ : Rep N w β x ((v.cells.zipIdx.foldl (fun cs (x : Value × Nat) => cs.setIfInBounds (off + x.2) x.1) cells).getD j undef))
              rw [hg]
              by_cases hjr : off ≤ j ∧ j < off + vs.length
              · rw [if_pos hjr] at hj
                rw [if_pos (by simp; omega)]
                have := hcr (j - off) x hj
                simpa [Array.getD_eq_getD_getElem?, List.getD_eq_getElem?_getD] using this
              · rw [if_neg hjr] at hj
                rw [if_neg (by simp; omega)]
                exact hc j x hj
          · cases h

end Go.Pe
