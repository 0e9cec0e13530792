/- What an operation reads; that it gives the same wherever what it reads is the same. -/
import Derived.Test.YtpnhnobnjcknjaaPe13
import Derived.Calls
set_option linter.unusedVariables false
set_option linter.unusedSimpArgs false
namespace Go.Pe
open Go.RowKit

mutual
def deepB : PV → List Nat
  | .own b _ => [b]
  | .agg cs => deepL cs
  | .tup cs => deepL cs
  | _ => []
def deepL : List PV → List Nat
  | [] => []
  | x :: l => deepB x ++ deepL l
end
def topB : PV → List Nat
  | .ptr b _ => [b]
  | .mapp b => [b]
  | .aptr b _ _ _ _ => [b]
  | .own b _ => [b]
  | _ => []
def rdOps (E : Env) : List Operand → List Nat
  | [] => []
  | x :: l => deepB (ev E x) ++ rdOps E l
def rdSt : PV → PV → List Nat
  | .aptr b _ _ _ _, y => b :: deepB y
  | x, _ => topB x
def rdA (E : Env) : Op → List Nat
  | .load _ x => topB (ev E x)
  | .nilCheck x => topB (ev E x)
  | .convert _ _ x => topB (ev E x)
  | .fieldAddr _ x _ => topB (ev E x)
  | .slice _ x _ _ _ => topB (ev E x)
  | .indexAddr _ x _ => topB (ev E x)
  | .lookup _ x _ _ => topB (ev E x)
  | .insert _ x _ _ => topB (ev E x)
  | .mapUpdate _ x _ _ => topB (ev E x)
  | .store _ x y => rdSt (ev E x) (ev E y)
  | .buildSlice _ _ ps => rdOps E (ps.toList.map (·.2))
  | .call c => rdOps E c.args.toList
  | _ => []

section
variable {T : Tab} {E E' : Env} {H H' : Heap}

theorem rdOps_mem {l : List Operand} {x : Operand} {b : Nat} (hx : x ∈ l) (hb : b ∈ deepB (ev E x)) : b ∈ rdOps E l := by
  induction l with
  | nil => simp at hx
  | cons y l ih =>
    simp only [rdOps]
    rcases List.mem_cons.1 hx with rfl | hx
    · exact List.mem_append_left _ hb
    · exact List.mem_append_right _ (ih hx)
theorem deepL_mem {l : List PV} {x : PV} {b : Nat} (hx : x ∈ l) (hb : b ∈ deepB x) : b ∈ deepL l := by
  induction l with
  | nil => simp at hx
  | cons y l ih =>
    simp only [deepL]
    rcases List.mem_cons.1 hx with rfl | hx
    · exact List.mem_append_left _ hb
    · exact List.mem_append_right _ (ih hx)

theorem asIm_congr {size : Nat} {pv : PV} (h : ∀ b ∈ deepB pv, H' b = H b) : asIm H' size pv = asIm H size pv := by
  cases pv <;> simp only [asIm]
  rename_i b ver
  rw [h b (by simp [deepB])]
theorem lenA_congr {pv : PV} (h : ∀ b ∈ deepB pv, H' b = H b) : lenA H' pv = lenA H pv := by
  cases pv <;> simp only [lenA]
  rename_i b ver
  rw [h b (by simp [deepB])]
theorem stepIn_congr {off : Nat} {pv : PV} (h : ∀ b ∈ topB pv, H' b = H b) : stepIn H' off pv = stepIn H off pv := by
  cases pv <;> simp only [stepIn]
  rename_i b ver row o size
  rw [h b (by simp [topB])]
theorem topB_deep {pv : PV} : ∀ b ∈ deepB pv, (match pv with | .own .. => True | _ => False) → b ∈ topB pv := by
  intro b hb
  cases pv <;> simp [topB, deepB] at *
  exact hb
theorem frzC_congr {pv : PV} (h : ∀ b ∈ deepB pv, H' b = H b) : frzC H' pv = frzC H pv := by
  cases pv <;> simp only [frzC]
  rename_i b ver
  rw [h b (by simp [deepB])]
theorem frzOne_congr {pv : PV} (h : ∀ b ∈ deepB pv, H' b = H b) : frzOne H' pv = frzOne H pv := by
  cases pv <;> simp only [frzOne]
  rename_i b ver
  rw [h b (by simp [deepB])]
theorem frzCs_congr : ∀ {l : List PV}, (∀ b ∈ deepL l, H' b = H b) → frzCs H' l = frzCs H l ∧ frzEff H' l = frzEff H l
  | [], _ => ⟨rfl, rfl⟩
  | x :: l, h => by
    simp only [deepL, List.mem_append] at h
    obtain ⟨q1, q2⟩ := frzCs_congr (l := l) (fun b hb => h b (.inr hb))
    have q3 := frzC_congr (pv := x) (fun b hb => h b (.inl hb))
    have q4 := frzOne_congr (pv := x) (fun b hb => h b (.inl hb))
    refine ⟨by simp only [frzCs, q1, q3], ?_⟩
    simp only [frzEff, List.flatMap_cons] at q2 ⊢
    rw [q2, q4]
theorem cells_deep {pv : PV} {vs : List PV} (h : cellsA pv = some vs) : ∀ b ∈ deepL vs, b ∈ deepB pv := by
  intro b hb
  cases pv <;> simp only [cellsA, reduceCtorEq] at h
  case lit v =>
    split at h
    · cases h; (simp [deepL, deepB] at hb)
    · cases h
  case agg cs => cases h; simpa [deepB] using hb
  all_goals (simp only [Option.some.injEq] at h; subst h; first | (simp [deepL, deepB] at hb; done) | (simpa [deepL, deepB] using hb))
theorem litRowsA_congr {size : Nat} : ∀ {l : List PV}, (∀ b ∈ deepL l, H' b = H b) → litRowsA H' size l = litRowsA H size l ∧ frzEff H' (litCells l) = frzEff H (litCells l)
  | [], _ => ⟨rfl, rfl⟩
  | x :: l, h => by
    simp only [deepL, List.mem_append] at h
    obtain ⟨q1, q2⟩ := litRowsA_congr (size := size) (l := l) (fun b hb => h b (.inr hb))
    have hx : ∀ vs, cellsA x = some vs → frzCs H' vs = frzCs H vs ∧ frzEff H' vs = frzEff H vs := fun vs hv => frzCs_congr (fun b hb => h b (.inl (cells_deep hv b hb)))
    refine ⟨?_, ?_⟩
    · simp only [litRowsA]
      cases hc : cellsA x with
      | none => rfl
      | some vs => simp only [(hx vs hc).1, q1]
    · have e : litCells (x :: l) = (cellsA x).getD [] ++ litCells l := by simp [litCells]
      have e2 : ∀ G : Heap, frzEff G (litCells (x :: l)) = frzEff G ((cellsA x).getD []) ++ frzEff G (litCells l) := fun G => by rw [e]; simp [frzEff]
      rw [e2, e2, q2]
      congr 1
      cases hc : cellsA x with
      | none => rfl
      | some vs => exact (hx vs hc).2

theorem boundA_congr {o : Option Operand} {d : Int} (h : ∀ x, o = some x → ev E' x = ev E x) : boundA E' o d = boundA E o d := by
  cases o with
  | none => rfl
  | some x => simp only [boundA, h x rfl]
theorem mxOK_congr {hi mx : Option Operand} {h len : Int} (hm : ∀ x, mx = some x → ev E' x = ev E x) : mxOK E' hi mx h len = mxOK E hi mx h len := by
  cases mx with
  | none => rfl
  | some x => simp only [mxOK, hm x rfl]

/-- The same operands, and the same blocks among those that are read: the same value. -/
theorem evVal_congr {op : Op} (hE : ∀ x ∈ op.operands.toList, ev E' x = ev E x) (hH : ∀ b ∈ rdA E op, H' b = H b) : evVal T E' H' op = evVal T E H op := by
  cases op <;> simp only [evVal]
  case move x => rw [hE x (by simp [Op.operands])]
  case assign x => rw [hE x (by simp [Op.operands])]
  case pick c x y => rw [hE c (by simp [Op.operands]), hE x (by simp [Op.operands]), hE y (by simp [Op.operands])]
  case build t ps =>
    have : (ps.toList.map fun p => (p.1, ev E' p.2)) = (ps.toList.map fun p => (p.1, ev E p.2)) := by
      apply List.map_congr_left
      intro p hp
      rw [hE p.2 (by simp only [Op.operands]; exact List.mem_map.2 ⟨p, hp, rfl⟩)]
    simp only [buildA, this]
  case load t x =>
    rw [hE x (by simp [Op.operands])]
    simp only [rdA] at hH
    generalize ev E x = q at hH
    cases q <;> simp only [topB, List.mem_singleton, forall_eq] at hH ⊢
    · rw [hH]
    · rw [hH]
  case nilCheck x =>
    rw [hE x (by simp [Op.operands])]
    simp only [rdA] at hH
    have h5 := stepIn_congr (off := 0) hH
    generalize ev E x = q at h5
    cases q <;> simp only [nilA] <;> exact h5
  case binOp o t x y t' => rw [hE x (by simp [Op.operands]), hE y (by simp [Op.operands])]
  case unOp o t x => rw [hE x (by simp [Op.operands])]
  case convert s d x =>
    rw [hE x (by simp [Op.operands])]
    simp only [rdA] at hH
    have : ∀ size, asIm H' size (ev E x) = asIm H size (ev E x) := fun size => by
      generalize ev E x = q at hH
      cases q <;> simp only [asIm]
      rename_i b ver
      rw [hH b (by simp [topB])]
    simp only [convA, this 1]
  case makeFunc f first cap =>
    have h1 : first.toList.map (ev E') = first.toList.map (ev E) := List.map_congr_left fun x hx => hE x (by simp only [Op.operands, Array.toList_append]; exact List.mem_append_left _ hx)
    have h2 : cap.toList.map (ev E') = cap.toList.map (ev E) := List.map_congr_left fun x hx => hE x (by simp only [Op.operands, Array.toList_append]; exact List.mem_append_right _ hx)
    rw [h1, h2]
  case slice t x lo hi mx =>
    have h1 := hE x (by simp [Op.operands])
    have h2 : ∀ d, boundA E' lo d = boundA E lo d := fun d => boundA_congr (fun y hy => hE y (by simp [Op.operands, hy]))
    have h3 : ∀ d, boundA E' hi d = boundA E hi d := fun d => boundA_congr (fun y hy => hE y (by simp [Op.operands, hy]))
    have h4 : ∀ h len, mxOK E' hi mx h len = mxOK E hi mx h len := fun h len => mxOK_congr (fun y hy => hE y (by simp [Op.operands, hy]))
    simp only [sliceA, h1, h2, h3, h4]
  case fieldAddr s x f =>
    rw [hE x (by simp [Op.operands])]
    simp only [rdA] at hH
    have : ∀ off, stepIn H' off (ev E x) = stepIn H off (ev E x) := fun off => stepIn_congr hH
    simp only [this]
  case field t x f => rw [hE x (by simp [Op.operands])]
  case indexAddr t x i =>
    rw [hE x (by simp [Op.operands]), hE i (by simp [Op.operands])]
    simp only [rdA] at hH
    generalize ev E x = q at hH
    cases q <;> simp only [topB, List.mem_singleton, forall_eq] at hH ⊢
    rw [hH]
  case index t x i => rw [hE x (by simp [Op.operands]), hE i (by simp [Op.operands])]
  case makeInterface t x => rw [hE x (by simp [Op.operands])]
  case lookup t x i c =>
    rw [hE x (by simp [Op.operands]), hE i (by simp [Op.operands])]
    simp only [rdA] at hH
    generalize ev E x = q at hH
    generalize ev E i = r
    cases q <;> first | (cases T t <;> rfl) | (simp only [topB, List.mem_singleton, forall_eq] at hH; cases T t <;> first | rfl | (cases r <;> first | rfl | (rename_i v; cases v <;> first | rfl | (dsimp only; rw [hH]))))
  case extract x i => rw [hE x (by simp [Op.operands])]
  case call c =>
    obtain ⟨callee, args, ats⟩ := c
    simp only [rdA] at hH
    have hargs : ∀ x ∈ args.toList, ev E' x = ev E x := fun x hx => hE x (by simp only [Op.operands, Call.operands, Array.toList_append]; exact List.mem_append_right _ hx)
    have hlen : ∀ x ∈ args.toList, lenA H' (ev E x) = lenA H (ev E x) := fun x hx => lenA_congr (fun b hb => hH b (rdOps_mem hx hb))
    unfold callA
    simp only
    generalize args.toList = l at hargs hlen
    match callee, l, ats.toList with
    | .builtin .len, [x], [t] => simp only [hargs x (by simp), hlen x (by simp)]
    | .builtin .cap, [x], [t] => simp only [hargs x (by simp)]
    | .builtin .min, [x, y], _ => simp only [hargs x (by simp), hargs y (by simp)]
    | .builtin .max, [x, y], _ => simp only [hargs x (by simp), hargs y (by simp)]
    | _, _, _ =>
      split
      · rename_i x t
        simp only [hargs x (by simp), hlen x (by simp)]
      · rename_i x t
        simp only [hargs x (by simp)]
      · rename_i x y
        simp only [hargs x (by simp), hargs y (by simp)]
      · rename_i x y
        simp only [hargs x (by simp), hargs y (by simp)]
      · rfl

theorem evMem_congr {fresh : Nat} {op : Op} (hE : ∀ x ∈ op.operands.toList, ev E' x = ev E x) (hH : ∀ b ∈ rdA E op, H' b = H b) : evMem T fresh E' H' op = evMem T fresh E H op := by
  cases op <;> simp only [evMem]
  case box t x => rw [hE x (by simp [Op.operands])]
  case buildSlice t len ps =>
    simp only [rdA] at hH
    have h1 : (ps.toList.map fun p => ev E' p.2) = (ps.toList.map fun p => ev E p.2) := List.map_congr_left fun p hp => hE p.2 (by simp only [Op.operands]; exact List.mem_map.2 ⟨p, hp, rfl⟩)
    have h2 : ∀ b ∈ deepL (ps.toList.map fun p => ev E p.2), H' b = H b := by
      intro b hb
      refine hH b ?_
      have : ∀ (l : List (Nat × Operand)), b ∈ deepL (l.map fun p => ev E p.2) → b ∈ rdOps E (l.map (·.2)) := by
        intro l
        induction l with
        | nil => simp [deepL]
        | cons p l ih =>
          simp only [List.map_cons, deepL, rdOps, List.mem_append]
          exact Or.imp_right ih
      exact this _ hb
    have h3 := fun size => (litRowsA_congr (size := size) h2).1
    have h4 := (litRowsA_congr (size := 0) h2).2
    simp only [h1, h3, h4]
  case store t x y =>
    rw [hE x (by simp [Op.operands]), hE y (by simp [Op.operands])]
    simp only [rdA] at hH
    generalize ev E x = q at hH
    cases q <;> simp only [rdSt, topB, List.mem_singleton, List.mem_cons, forall_eq, forall_eq_or_imp] at hH ⊢
    · rw [hH.1]
    · rw [hH.1]
      cases hc : cellsA (ev E y) with
      | none => cases T t <;> rfl
      | some vs =>
        have h5 := frzCs_congr (H := H) (H' := H') (l := vs) (fun b hb => hH.2 b (cells_deep hc b hb))
        cases T t with
        | none => rfl
        | some ti => simp only [h5.1, h5.2]
  case makeSlice t l c => rw [hE l (by simp [Op.operands]), hE c (by simp [Op.operands])]
  case slice t x lo hi mx =>
    have h1 := hE x (by simp [Op.operands])
    have h2 : ∀ d, boundA E' lo d = boundA E lo d := fun d => boundA_congr (fun y hy => hE y (by simp [Op.operands, hy]))
    have h3 : ∀ d, boundA E' hi d = boundA E hi d := fun d => boundA_congr (fun y hy => hE y (by simp [Op.operands, hy]))
    have h4 : ∀ h len, mxOK E' hi mx h len = mxOK E hi mx h len := fun h len => mxOK_congr (fun y hy => hE y (by simp [Op.operands, hy]))
    simp only [rdA] at hH
    simp only [h1, h2, h3, h4]
    generalize ev E x = q at hH
    cases T t with
    | none => rfl
    | some ti =>
      simp only
      cases ti.desc <;> cases q <;> first | rfl | (simp only [topB, List.mem_singleton, forall_eq] at hH; simp only [hH])
  case convert s d x =>
    rw [hE x (by simp [Op.operands])]
    simp only [rdA] at hH
    generalize ev E x = q at hH
    cases T s with
    | none => rfl
    | some ts =>
      cases T d with
      | none => rfl
      | some td =>
        cases q <;> first | rfl | (simp only [topB, List.mem_singleton, forall_eq] at hH; simp only [hH]) | (rename_i v; cases v <;> rfl)
  case call c =>
    obtain ⟨callee, args, ats⟩ := c
    simp only [rdA] at hH
    have hargs : ∀ x ∈ args.toList, ev E' x = ev E x := fun x hx => hE x (by simp only [Op.operands, Call.operands, Array.toList_append]; exact List.mem_append_right _ hx)
    have hb : ∀ x ∈ args.toList, ∀ b ∈ deepB (ev E x), H' b = H b := fun x hx b hb => hH b (rdOps_mem hx hb)
    simp only
    generalize args.toList = l at hargs hb
    split
    · rename_i x y t t' _
      have h1 : ∀ size, srcA T H' size t' (ev E y) = srcA T H size t' (ev E y) := fun size => by
        simp only [srcA, asIm_congr (hb y (by simp))]
      have h3 := hb x (by simp)
      have h4 : ∀ m, appendZ T fresh E' H' t x m = appendZ T fresh E H t x m := fun m => by
        simp only [appendZ, hargs x (by simp)]
        generalize ev E x = q at h3
        cases q <;> simp only [deepB, List.mem_singleton, forall_eq] at h3 ⊢
        rw [h3]
      simp only [h4, appendA, hargs x (by simp), hargs y (by simp), h1]
      have h2 := hb x (by simp)
      generalize ev E x = q at h2
      cases q <;> simp only [deepB, List.mem_singleton, forall_eq] at h2 ⊢
      rw [h2]
    · rfl
  case insert t m k x =>
    simp only [insA, hE m (by simp [Op.operands]), hE k (by simp [Op.operands]), hE x (by simp [Op.operands])]
    simp only [rdA] at hH
    generalize ev E m = q at hH
    generalize ev E k = r
    cases q <;> first | (cases T t <;> rfl) | (simp only [topB, List.mem_singleton, forall_eq] at hH; cases T t <;> first | rfl | (cases r <;> first | rfl | (rename_i v; cases v <;> first | rfl | (dsimp only; rw [hH]))))
  case mapUpdate t m k x =>
    simp only [insA, hE m (by simp [Op.operands]), hE k (by simp [Op.operands]), hE x (by simp [Op.operands])]
    simp only [rdA] at hH
    generalize ev E m = q at hH
    generalize ev E k = r
    cases q <;> first | (cases T t <;> rfl) | (simp only [topB, List.mem_singleton, forall_eq] at hH; cases T t <;> first | rfl | (cases r <;> first | rfl | (rename_i v; cases v <;> first | rfl | (dsimp only; rw [hH]))))
  case makeMap t r => cases r <;> rfl
end

end Go.Pe
