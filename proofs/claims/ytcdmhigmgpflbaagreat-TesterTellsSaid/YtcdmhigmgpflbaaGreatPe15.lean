import Derived.Test.YtcdmhigmgpflbaaGreatPeF
import Derived.Test.YtcdmhigmgpflbaaGreatPe13
import Derived.Calls
set_option linter.unusedVariables false
set_option linter.unusedSimpArgs false
open List renaming getElem?_eq_getElem → yBh
namespace Go.Pe
open Go.RowKit
def Blk.refsIn (ok : Nat → Bool) : Blk → Bool
  | .box _ cs => refsInL ok cs
  | .arr .. => true
  | .map es => refsInL ok (es.map (·.2))
  | .obj .. => true
section
variable {P : Program} {T : Tab} {C : Ctx} {β : Ref} {a : Act} {w : World}
mutual
theorem refsIn_both {p q r : Nat → Bool} : ∀ {x : PV},refsIn p x = true → refsIn q x = true → (∀ b,p b = true → q b = true → r b = true) → refsIn r x = true
  | .ptr b _,h1,h2,h => h b h1 h2
  | .mapp b,h1,h2,h => h b h1 h2
  | .aptr b _ _ _ _,h1,h2,h => h b h1 h2
  | .own b _,h1,h2,h => h b h1 h2
  | .sub b _ _ _ _,h1,h2,h => h b h1 h2
  | .agg cs,h1,h2,h => refsInL_both h1 h2 h
  | .tup cs,h1,h2,h => refsInL_both h1 h2 h
  | .fn _ a c,h1,h2,h => by
    simp only [refsIn,Bool.and_eq_true] at h1 h2 ⊢
    exact ⟨refsInL_both h1.1 h2.1 h,refsInL_both h1.2 h2.2 h⟩
  | .iface _ v,h1,h2,h => refsIn_both (x := v) h1 h2 h
  | .any,_,_,_ => rfl
  | .lit _,_,_,_ => rfl
  | .im _ _,_,_,_ => rfl
  | .iptr _,_,_,_ => rfl
theorem refsInL_both {p q r : Nat → Bool} : ∀ {l : List PV},refsInL p l = true → refsInL q l = true → (∀ b,p b = true → q b = true → r b = true) → refsInL r l = true
  | [],_,_,_ => rfl
  | x :: l,h1,h2,h => by
    simp only [refsInL,Bool.and_eq_true] at h1 h2 ⊢
    exact ⟨refsIn_both h1.1 h2.1 h,refsInL_both h1.2 h2.2 h⟩
end
def restrict (ok : Nat → Bool) (β : Ref) : Ref := fun b => if ok b then β b else none
theorem Rep.restrict {N : Nat → Prop} {ok : Nat → Bool} {pv : PV} {v : Value} (h : Rep N w β pv v) (hr : refsIn ok pv = true) : Rep N w (Pe.restrict ok β) pv v := by
  induction h with
  | i h => exact .i h
  | any v => exact .any v
  | agg cs vs hl h ih => exact .agg cs vs hl (fun i pv hi => ih i pv hi (refsInL_mem hr (List.mem_of_getElem? hi)))
  | tup cs vs hl h ih => exact .tup cs vs hl (fun i pv hi => ih i pv hi (refsInL_mem hr (List.mem_of_getElem? hi)))
  | ptr b off k h => exact .ptr b off k (by simp only [refsIn] at hr; simp [Pe.restrict,hr,h])
  | mapp b k h => exact .mapp b k (by simp only [refsIn] at hr; simp [Pe.restrict,hr,h])
  | aptr b ver row off size ver' u v h1 h2 h3 h4 => exact .aptr b ver row off size ver' u v (by simp only [refsIn] at hr; simp [Pe.restrict,hr,h1]) h2 h3 h4
  | iptr cs a vals h1 => exact .iptr cs a vals h1
  | own b ver ver' u v h1 h2 h3 h4 => exact .own b ver ver' u v (by simp only [refsIn] at hr; simp [Pe.restrict,hr,h1]) h2 h3 h4
  | sub b ver lo n size ver' u v h1 h2 h3 h4 => exact .sub b ver lo n size ver' u v (by simp only [refsIn] at hr; simp [Pe.restrict,hr,h1]) h2 h3 h4
  | fn f first cap vs us hl hl' h h' ih ih' =>
    simp only [refsIn,Bool.and_eq_true] at hr
    exact .fn f first cap vs us hl hl' (fun i pv hi => ih i pv hi (refsInL_mem hr.1 (List.mem_of_getElem? hi))) (fun i pv hi => ih' i pv hi (refsInL_mem hr.2 (List.mem_of_getElem? hi)))
  | iface t pv v h ih => exact .iface t pv v (ih (by simpa [refsIn] using hr))
theorem Rep.fewer {N N' : Nat → Prop} (hN : ∀ k,N' k → N k) {pv : PV} {v : Value} (h : Rep N w β pv v) : Rep N' w β pv v := h.mono (Keeps.refl _ _) (fun k _ => hN k) (Later.refl _) (fun _ _ h => h)
theorem Sim.weakG {n bs : Nat} {E E' : Env} {H H' : Heap} (h : Sim C n E H β a w) (hgb : C.gb ≤ bs) (h1c : ∀ b,(H b).isSome = true → b < bs → (H' b).isSome = true)
    (h2 : ∀ t pv,E' t = some pv → E t = some pv ∧ refsIn (fun b => (H' b).isSome) pv = true) (h3 : ∀ b x,H' b = some x → H b = some x ∧ x.refsIn (fun b => (H' b).isSome) = true) : Sim C n E' H' (restrict (fun b => (H' b).isSome) β) a w := by
  have hH : ∀ b x,H' b = some x → H b = some x := fun b x hb => (h3 b x hb).1
  have hres : ∀ {b r},restrict (fun b => (H' b).isSome) β b = some r → β b = some r := by
    intro b r hb
    unfold restrict at hb
    split at hb
    · exact hb
    · cases hb
  have hin : ∀ b x,H' b = some x → restrict (fun b => (H' b).isSome) β b = β b := by
    intro b x hb
    simp [restrict,hb]
  have hN : ∀ k,NN C H' (restrict (fun b => (H' b).isSome) β) k → NN C H β k := by
    rintro k (hk | ⟨b,x,ver,u,q1,q2,q3,q4⟩)
    · exact .inl hk
    · exact .inr ⟨b,x,ver,u,hH b x q1,q2,hres q3,q4⟩
  refine ⟨h.nt,h.df,fun t pv ht => ?_,fun b x hb => ?_,fun b b' x x' hne hb hb' ver u ver' u' k q1 q2 => h.sep b b' x x' hne (hH b x hb) (hH b' x' hb') ver u ver' u' k (hres q1) (hres q2),fun b ver u k q1 => h.lies b ver u k (hres q1),fun b hb => ?_,h.below,h.nxb,h.bs,fun pv v hg => ?_,h.gr⟩
  · have hm := h2 t pv ht
    obtain ⟨q1,q2⟩ := h.env t pv hm.1
    exact ⟨q1,(q2.fewer hN).restrict hm.2⟩
  · have hx := h.blk b x (hH b x hb)
    have href := (h3 b x hb).2
    cases x with
    | box T0 cs =>
      obtain ⟨k,cells,p1,p2,p3,p4,p5⟩ := hx
      exact ⟨k,cells,(hin b _ hb).trans p1,p2,p3,p4,fun j pv hj => ⟨((p5 j pv hj).1.fewer hN).restrict (refsInL_mem href (List.mem_of_getElem? hj)),(p5 j pv hj).2⟩⟩
    | map es =>
      obtain ⟨k,ents,clock,p1,p2,p3,p4,p5⟩ := hx
      refine ⟨k,ents,clock,(hin b _ hb).trans p1,p2,p3,p4,fun j kv pv hj => ?_⟩
      obtain ⟨e,q1,q2,q3⟩ := p5 j kv pv hj
      exact ⟨e,q1,q2,(q3.fewer hN).restrict (refsInL_mem href (List.mem_map.2 ⟨(kv,pv),List.mem_of_getElem? hj,rfl⟩))⟩
    | obj k o => exact ⟨(hin b _ hb).trans hx.1,hx.2⟩
    | arr T0 size rows ver f =>
      obtain ⟨u,xs,p1,p2,p3,p4⟩ := hx
      exact ⟨u,xs,(hin b _ hb).trans p1,p2,p3,fun i r j pv hi hj => ⟨(p4 i r j pv hi hj).1.mono (Keeps.refl _ _) (fun k _ => hN k),(p4 i r j pv hi hj).2⟩⟩
  · simp [restrict,hb]
  · have hr := h.gh pv v hg
    refine (hr.fewer hN).restrict ?_
    have q1 := h.gr pv v hg
    have q2 := hr.refs (ok := fun b => (H b).isSome) (fun b r hr' => by
      cases hx : H b with
      | none => rw [h.fr b hx] at hr'; cases hr'
      | some x => rfl)
    refine refsIn_both q1 q2 (fun b h1 h2 => ?_)
    simp only [decide_eq_true_eq] at h1
    exact h1c b h2 (by omega)
theorem Sim.weakF {n bs : Nat} {E : Env} {H : Heap} {s : St} (h : Sim C n E H β a w) (hgb : C.gb ≤ bs) (h1 : n = s.n) (h1c : ∀ b,(H b).isSome = true → b < bs → (lk b s.hp).isSome = true)
    (h2 : ∀ x ∈ s.env,E x.1 = lk x.1 s.env ∧ refsIn (fun b => (lk b s.hp).isSome) x.2 = true) (h3 : ∀ x ∈ s.hp,H x.1 = lk x.1 s.hp ∧ x.2.refsIn (fun b => (lk b s.hp).isSome) = true) : Sim C s.n s.E s.H (restrict (fun b => (lk b s.hp).isSome) β) a w := by
  subst h1
  exact h.weakG hgb h1c (fun t pv ht => by obtain ⟨q1,q2⟩ := h2 (t,pv) (lk_mem ht); exact ⟨q1.trans ht,q2⟩) (fun b x hb => by obtain ⟨q1,q2⟩ := h3 (b,x) (lk_mem hb); exact ⟨q1.trans hb,q2⟩)
theorem Sim.blk_refs {n : Nat} {E : Env} {H : Heap} (h : Sim C n E H β a w) {b : Nat} {x : Blk} (hb : H b = some x) : x.refsIn (fun b => (H b).isSome) = true := by
  have hok : ∀ c r,β c = some r → (H c).isSome = true := by
    intro c r hr
    cases hx : H c with
    | none => rw [h.fr c hx] at hr; cases hr
    | some x => rfl
  have hx := h.blk b x hb
  cases x with
  | box T0 cs =>
    obtain ⟨k,cells,p1,p2,p3,p4,p5⟩ := hx
    refine refsInL_all fun pv hpv => ?_
    obtain ⟨i,hi,rfl⟩ := List.getElem_of_mem hpv
    exact (p5 i _ (yBh hi)).1.refs hok
  | map es =>
    obtain ⟨k,ents,clock,p1,p2,p3,p4,p5⟩ := hx
    refine refsInL_all fun pv hpv => ?_
    obtain ⟨e,he,rfl⟩ := List.mem_map.1 hpv
    obtain ⟨i,hi,rfl⟩ := List.getElem_of_mem he
    obtain ⟨e',_,_,q3⟩ := p5 i es[i].1 es[i].2 (yBh hi)
    exact q3.refs hok
  | obj k o => rfl
  | arr T0 size rows ver f => rfl
end
end Go.Pe
namespace Go.Pe
open Go.RowKit
mutual
def deepB : PV → List Nat
  | .own b _ => [b]
  | .sub b _ _ _ _ => [b]
  | .agg cs => deepL cs
  | .tup cs => deepL cs
  | _ => []
def deepL : List PV → List Nat
  | [] => []
  | x :: l => deepB x ++ deepL l
end
def topB : PV → List Nat
  | .ptr b _ => [b]
  | .mapp b => [b]
  | .aptr b _ _ _ _ => [b]
  | .own b _ => [b]
  | .sub b _ _ _ _ => [b]
  | _ => []
def rdOps (E : Env) : List Operand → List Nat
  | [] => []
  | x :: l => deepB (ev E x) ++ rdOps E l
def rdSt : PV → PV → List Nat
  | .aptr b _ _ _ _,y => b :: deepB y
  | x,_ => topB x
def rdA (E : Env) : Op → List Nat
  | .load _ x => topB (ev E x)
  | .nilCheck x => topB (ev E x)
  | .convert _ _ x => topB (ev E x)
  | .fieldAddr _ x _ => topB (ev E x)
  | .slice _ x _ _ _ => topB (ev E x)
  | .indexAddr _ x _ => topB (ev E x)
  | .lookup _ x _ _ => topB (ev E x)
  | .insert _ x _ _ => topB (ev E x)
  | .mapUpdate _ x _ _ => topB (ev E x)
  | .store _ x y => rdSt (ev E x) (ev E y)
  | .buildSlice _ _ ps => rdOps E (ps.toList.map (·.2))
  | .call c => rdOps E c.args.toList
  | _ => []
section
variable {T : Tab} {E E' : Env} {H H' : Heap}
theorem rdOps_mem {l : List Operand} {x : Operand} {b : Nat} (hx : x ∈ l) (hb : b ∈ deepB (ev E x)) : b ∈ rdOps E l := by
  induction l with
  | nil => simp at hx
  | cons y l ih =>
    simp only [rdOps]
    rcases List.mem_cons.1 hx with rfl | hx
    · exact List.mem_append_left _ hb
    · exact List.mem_append_right _ (ih hx)
theorem deepL_mem {l : List PV} {x : PV} {b : Nat} (hx : x ∈ l) (hb : b ∈ deepB x) : b ∈ deepL l := by
  induction l with
  | nil => simp at hx
  | cons y l ih =>
    simp only [deepL]
    rcases List.mem_cons.1 hx with rfl | hx
    · exact List.mem_append_left _ hb
    · exact List.mem_append_right _ (ih hx)
theorem asIm_congr {size : Nat} {pv : PV} (h : ∀ b ∈ deepB pv,H' b = H b) : asIm H' size pv = asIm H size pv := by
  cases pv <;> simp only [asIm]
  · rename_i b ver
    rw [h b (by simp [deepB])]
  · rename_i b ver lo n s
    rw [h b (by simp [deepB])]
theorem lenA_congr {pv : PV} (h : ∀ b ∈ deepB pv,H' b = H b) : lenA H' pv = lenA H pv := by
  cases pv <;> simp only [lenA]
  rename_i b ver
  rw [h b (by simp [deepB])]
theorem stepIn_congr {off : Nat} {pv : PV} (h : ∀ b ∈ topB pv,H' b = H b) : stepIn H' off pv = stepIn H off pv := by
  cases pv <;> simp only [stepIn]
  rename_i b ver row o size
  rw [h b (by simp [topB])]
theorem topB_deep {pv : PV} : ∀ b ∈ deepB pv,(match pv with | .own .. => True | _ => False) → b ∈ topB pv := by
  intro b hb
  cases pv <;> simp [topB,deepB] at *
  exact hb
theorem frzC_congr {pv : PV} (h : ∀ b ∈ deepB pv,H' b = H b) : frzC H' pv = frzC H pv := by
  cases pv <;> simp only [frzC]
  rename_i b ver
  rw [h b (by simp [deepB])]
theorem frzOne_congr {pv : PV} (h : ∀ b ∈ deepB pv,H' b = H b) : frzOne H' pv = frzOne H pv := by
  cases pv <;> simp only [frzOne]
  rename_i b ver
  rw [h b (by simp [deepB])]
theorem frzCs_congr : ∀ {l : List PV},(∀ b ∈ deepL l,H' b = H b) → frzCs H' l = frzCs H l ∧ frzEff H' l = frzEff H l
  | [],_ => ⟨rfl,rfl⟩
  | x :: l,h => by
    simp only [deepL,List.mem_append] at h
    obtain ⟨q1,q2⟩ := frzCs_congr (l := l) (fun b hb => h b (.inr hb))
    have q3 := frzC_congr (pv := x) (fun b hb => h b (.inl hb))
    have q4 := frzOne_congr (pv := x) (fun b hb => h b (.inl hb))
    refine ⟨by simp only [frzCs,q1,q3],?_⟩
    simp only [frzEff,List.flatMap_cons] at q2 ⊢
    rw [q2,q4]
theorem cells_deep {pv : PV} {vs : List PV} (h : cellsA pv = some vs) : ∀ b ∈ deepL vs,b ∈ deepB pv := by
  intro b hb
  cases pv <;> simp only [cellsA,reduceCtorEq] at h
  case lit v =>
    split at h
    · cases h; (simp [deepL,deepB] at hb)
    · cases h
  case agg cs => cases h; simpa [deepB] using hb
  all_goals (simp only [Option.some.injEq] at h; subst h; first | (simp [deepL,deepB] at hb; done) | (simpa [deepL,deepB] using hb))
theorem litRowsA_congr {size : Nat} : ∀ {l : List PV},(∀ b ∈ deepL l,H' b = H b) → litRowsA H' size l = litRowsA H size l ∧ frzEff H' (litCells l) = frzEff H (litCells l)
  | [],_ => ⟨rfl,rfl⟩
  | x :: l,h => by
    simp only [deepL,List.mem_append] at h
    obtain ⟨q1,q2⟩ := litRowsA_congr (size := size) (l := l) (fun b hb => h b (.inr hb))
    have hx : ∀ vs,cellsA x = some vs → frzCs H' vs = frzCs H vs ∧ frzEff H' vs = frzEff H vs := fun vs hv => frzCs_congr (fun b hb => h b (.inl (cells_deep hv b hb)))
    refine ⟨?_,?_⟩
    · simp only [litRowsA]
      cases hc : cellsA x with
      | none => rfl
      | some vs => simp only [(hx vs hc).1,q1]
    · have e : litCells (x :: l) = (cellsA x).getD [] ++ litCells l := by simp [litCells]
      have e2 : ∀ G : Heap,frzEff G (litCells (x :: l)) = frzEff G ((cellsA x).getD []) ++ frzEff G (litCells l) := fun G => by rw [e]; simp [frzEff]
      rw [e2,e2,q2]
      congr 1
      cases hc : cellsA x with
      | none => rfl
      | some vs => exact (hx vs hc).2
theorem boundA_congr {o : Option Operand} {d : Int} (h : ∀ x,o = some x → ev E' x = ev E x) : boundA E' o d = boundA E o d := by
  cases o with
  | none => rfl
  | some x => simp only [boundA,h x rfl]
theorem mxOK_congr {hi mx : Option Operand} {h len : Int} (hm : ∀ x,mx = some x → ev E' x = ev E x) : mxOK E' hi mx h len = mxOK E hi mx h len := by
  cases mx with
  | none => rfl
  | some x => simp only [mxOK,hm x rfl]
theorem evVal_congr {op : Op} (hE : ∀ x ∈ op.operands.toList,ev E' x = ev E x) (hH : ∀ b ∈ rdA E op,H' b = H b) : evVal T E' H' op = evVal T E H op := by
  cases op <;> simp only [evVal]
  case move x => rw [hE x (by simp [Op.operands])]
  case assign x => rw [hE x (by simp [Op.operands])]
  case pick c x y => rw [hE c (by simp [Op.operands]),hE x (by simp [Op.operands]),hE y (by simp [Op.operands])]
  case build t ps =>
    have : (ps.toList.map fun p => (p.1,ev E' p.2)) = (ps.toList.map fun p => (p.1,ev E p.2)) := by
      apply List.map_congr_left
      intro p hp
      rw [hE p.2 (by simp only [Op.operands]; exact List.mem_map.2 ⟨p,hp,rfl⟩)]
    simp only [buildA,this]
  case load t x =>
    rw [hE x (by simp [Op.operands])]
    simp only [rdA] at hH
    generalize ev E x = q at hH
    cases q <;> simp only [topB,List.mem_singleton,forall_eq] at hH ⊢
    · rw [hH]
    · rw [hH]
  case nilCheck x =>
    rw [hE x (by simp [Op.operands])]
    simp only [rdA] at hH
    have h5 := stepIn_congr (off := 0) hH
    generalize ev E x = q at h5
    cases q <;> simp only [nilA] <;> exact h5
  case binOp o t x y t' => rw [hE x (by simp [Op.operands]),hE y (by simp [Op.operands])]
  case unOp o t x => rw [hE x (by simp [Op.operands])]
  case convert s d x =>
    rw [hE x (by simp [Op.operands])]
    simp only [rdA] at hH
    have : ∀ size,asIm H' size (ev E x) = asIm H size (ev E x) := fun size => by
      generalize ev E x = q at hH
      cases q <;> simp only [asIm]
      · rename_i b ver
        rw [hH b (by simp [topB])]
      · rename_i b ver lo n s
        rw [hH b (by simp [topB])]
    simp only [convA,this 1]
  case makeFunc f first cap =>
    have h1 : first.toList.map (ev E') = first.toList.map (ev E) := List.map_congr_left fun x hx => hE x (by simp only [Op.operands,Array.toList_append]; exact List.mem_append_left _ hx)
    have h2 : cap.toList.map (ev E') = cap.toList.map (ev E) := List.map_congr_left fun x hx => hE x (by simp only [Op.operands,Array.toList_append]; exact List.mem_append_right _ hx)
    rw [h1,h2]
  case slice t x lo hi mx =>
    have h1 := hE x (by simp [Op.operands])
    have h2 : ∀ d,boundA E' lo d = boundA E lo d := fun d => boundA_congr (fun y hy => hE y (by simp [Op.operands,hy]))
    have h3 : ∀ d,boundA E' hi d = boundA E hi d := fun d => boundA_congr (fun y hy => hE y (by simp [Op.operands,hy]))
    have h4 : ∀ h len,mxOK E' hi mx h len = mxOK E hi mx h len := fun h len => mxOK_congr (fun y hy => hE y (by simp [Op.operands,hy]))
    simp only [sliceA,h1,h2,h3,h4]
  case fieldAddr s x f =>
    rw [hE x (by simp [Op.operands])]
    simp only [rdA] at hH
    have : ∀ off,stepIn H' off (ev E x) = stepIn H off (ev E x) := fun off => stepIn_congr hH
    simp only [this]
  case field t x f => rw [hE x (by simp [Op.operands])]
  case indexAddr t x i =>
    rw [hE x (by simp [Op.operands]),hE i (by simp [Op.operands])]
    simp only [rdA] at hH
    generalize ev E x = q at hH
    cases q <;> simp only [topB,List.mem_singleton,forall_eq] at hH ⊢
    rw [hH]
  case index t x i => rw [hE x (by simp [Op.operands]),hE i (by simp [Op.operands])]
  case makeInterface t x => rw [hE x (by simp [Op.operands])]
  case lookup t x i c =>
    rw [hE x (by simp [Op.operands]),hE i (by simp [Op.operands])]
    simp only [rdA] at hH
    generalize ev E x = q at hH
    generalize ev E i = r
    cases q <;> first | (cases T t <;> rfl) | (simp only [topB,List.mem_singleton,forall_eq] at hH; cases T t <;> first | rfl | (cases r <;> first | rfl | (rename_i v; cases v <;> first | rfl | (dsimp only; rw [hH]))))
  case extract x i => rw [hE x (by simp [Op.operands])]
  case call c =>
    obtain ⟨callee,args,ats⟩ := c
    simp only [rdA] at hH
    have hargs : ∀ x ∈ args.toList,ev E' x = ev E x := fun x hx => hE x (by simp only [Op.operands,Call.operands,Array.toList_append]; exact List.mem_append_right _ hx)
    have hlen : ∀ x ∈ args.toList,lenA H' (ev E x) = lenA H (ev E x) := fun x hx => lenA_congr (fun b hb => hH b (rdOps_mem hx hb))
    unfold callA
    simp only
    generalize args.toList = l at hargs hlen
    match callee,l,ats.toList with
    | .builtin .len,[x],[t] => simp only [hargs x (by simp),hlen x (by simp)]
    | .builtin .cap,[x],[t] => simp only [hargs x (by simp)]
    | .builtin .min,[x,y],_ => simp only [hargs x (by simp),hargs y (by simp)]
    | .builtin .max,[x,y],_ => simp only [hargs x (by simp),hargs y (by simp)]
    | _,_,_ =>
      split
      · rename_i x t
        simp only [hargs x (by simp),hlen x (by simp)]
      · rename_i x t
        simp only [hargs x (by simp)]
      · rename_i x y
        simp only [hargs x (by simp),hargs y (by simp)]
      · rename_i x y
        simp only [hargs x (by simp),hargs y (by simp)]
      · rfl
theorem evMem_congr {fresh : Nat} {op : Op} (hE : ∀ x ∈ op.operands.toList,ev E' x = ev E x) (hH : ∀ b ∈ rdA E op,H' b = H b) : evMem T fresh E' H' op = evMem T fresh E H op := by
  cases op <;> simp only [evMem]
  case box t x => rw [hE x (by simp [Op.operands])]
  case buildSlice t len ps =>
    simp only [rdA] at hH
    have h1 : (ps.toList.map fun p => ev E' p.2) = (ps.toList.map fun p => ev E p.2) := List.map_congr_left fun p hp => hE p.2 (by simp only [Op.operands]; exact List.mem_map.2 ⟨p,hp,rfl⟩)
    have h2 : ∀ b ∈ deepL (ps.toList.map fun p => ev E p.2),H' b = H b := by
      intro b hb
      refine hH b ?_
      have : ∀ (l : List (Nat × Operand)),b ∈ deepL (l.map fun p => ev E p.2) → b ∈ rdOps E (l.map (·.2)) := by
        intro l
        induction l with
        | nil => simp [deepL]
        | cons p l ih =>
          simp only [List.map_cons,deepL,rdOps,List.mem_append]
          exact Or.imp_right ih
      exact this _ hb
    have h3 := fun size => (litRowsA_congr (size := size) h2).1
    have h4 := (litRowsA_congr (size := 0) h2).2
    simp only [h1,h3,h4]
  case store t x y =>
    rw [hE x (by simp [Op.operands]),hE y (by simp [Op.operands])]
    simp only [rdA] at hH
    generalize ev E x = q at hH
    cases q <;> simp only [rdSt,topB,List.mem_singleton,List.mem_cons,forall_eq,forall_eq_or_imp] at hH ⊢
    · rw [hH.1]
    · rw [hH.1]
      cases hc : cellsA (ev E y) with
      | none => cases T t <;> rfl
      | some vs =>
        have h5 := frzCs_congr (H := H) (H' := H') (l := vs) (fun b hb => hH.2 b (cells_deep hc b hb))
        cases T t with
        | none => rfl
        | some ti => simp only [h5.1,h5.2]
  case makeSlice t l c => rw [hE l (by simp [Op.operands]),hE c (by simp [Op.operands])]
  case slice t x lo hi mx =>
    have h1 := hE x (by simp [Op.operands])
    have h2 : ∀ d,boundA E' lo d = boundA E lo d := fun d => boundA_congr (fun y hy => hE y (by simp [Op.operands,hy]))
    have h3 : ∀ d,boundA E' hi d = boundA E hi d := fun d => boundA_congr (fun y hy => hE y (by simp [Op.operands,hy]))
    have h4 : ∀ h len,mxOK E' hi mx h len = mxOK E hi mx h len := fun h len => mxOK_congr (fun y hy => hE y (by simp [Op.operands,hy]))
    simp only [rdA] at hH
    simp only [h1,h2,h3,h4]
    generalize ev E x = q at hH
    cases T t with
    | none => rfl
    | some ti =>
      simp only
      cases ti.desc <;> cases q <;> first | rfl | (simp only [topB,List.mem_singleton,forall_eq] at hH; simp only [hH])
  case convert s d x =>
    rw [hE x (by simp [Op.operands])]
    simp only [rdA] at hH
    generalize ev E x = q at hH
    cases T s with
    | none => rfl
    | some ts =>
      cases T d with
      | none => rfl
      | some td =>
        cases q <;> first | rfl | (simp only [topB,List.mem_singleton,forall_eq] at hH; simp only [hH]) | (rename_i v; cases v <;> rfl)
  case call c =>
    obtain ⟨callee,args,ats⟩ := c
    simp only [rdA] at hH
    have hargs : ∀ x ∈ args.toList,ev E' x = ev E x := fun x hx => hE x (by simp only [Op.operands,Call.operands,Array.toList_append]; exact List.mem_append_right _ hx)
    have hb : ∀ x ∈ args.toList,∀ b ∈ deepB (ev E x),H' b = H b := fun x hx b hb => hH b (rdOps_mem hx hb)
    simp only
    generalize args.toList = l at hargs hb
    split
    · rename_i x t _
      have h3 := hb x (by simp)
      simp only [clearA,hargs x (by simp)]
      generalize ev E x = q at h3
      cases q <;> first | rfl | (simp only [deepB,List.mem_singleton,forall_eq] at h3; simp only [h3])
    · rename_i x y t t' _
      have h1 : ∀ size,srcA T H' size t' (ev E y) = srcA T H size t' (ev E y) := fun size => by
        simp only [srcA,asIm_congr (hb y (by simp))]
      have h3 := hb x (by simp)
      have h4 : ∀ m,appendZ T fresh E' H' t x m = appendZ T fresh E H t x m := fun m => by
        simp only [appendZ,hargs x (by simp)]
        generalize ev E x = q at h3
        cases q <;> simp only [deepB,List.mem_singleton,forall_eq] at h3 ⊢
        rw [h3]
      simp only [h4,appendA,hargs x (by simp),hargs y (by simp),h1]
      have h2 := hb x (by simp)
      generalize ev E x = q at h2
      cases q <;> simp only [deepB,List.mem_singleton,forall_eq] at h2 ⊢
      rw [h2]
    · rfl
  case insert t m k x =>
    simp only [insA,hE m (by simp [Op.operands]),hE k (by simp [Op.operands]),hE x (by simp [Op.operands])]
    simp only [rdA] at hH
    generalize ev E m = q at hH
    generalize ev E k = r
    cases q <;> first | (cases T t <;> rfl) | (simp only [topB,List.mem_singleton,forall_eq] at hH; cases T t <;> first | rfl | (cases r <;> first | rfl | (rename_i v; cases v <;> first | rfl | (dsimp only; rw [hH]))))
  case mapUpdate t m k x =>
    simp only [insA,hE m (by simp [Op.operands]),hE k (by simp [Op.operands]),hE x (by simp [Op.operands])]
    simp only [rdA] at hH
    generalize ev E m = q at hH
    generalize ev E k = r
    cases q <;> first | (cases T t <;> rfl) | (simp only [topB,List.mem_singleton,forall_eq] at hH; cases T t <;> first | rfl | (cases r <;> first | rfl | (rename_i v; cases v <;> first | rfl | (dsimp only; rw [hH]))))
  case makeMap t r => cases r <;> rfl
end
end Go.Pe
namespace Go.Pe
open Go.RowKit
section
variable {H H' : Heap}
mutual
theorem FrzR_congr : ∀ {x q : PV},FrzR H x q → (∀ b ∈ deepB x,H' b = H b) → FrzR H' x q
  | .lit v,q,h,_ => by simpa [FrzR] using h
  | .im _ _,q,h,_ => by simpa [FrzR] using h
  | .own b ver,q,h,hb => by
    simp only [FrzR] at h ⊢
    obtain ⟨T0,s,rows,f,h1,h2⟩ := h
    exact ⟨T0,s,rows,f,by rw [hb b (by simp [deepB])]; exact h1,h2⟩
  | .agg cs,q,h,hb => by
    simp only [FrzR] at h ⊢
    obtain ⟨ds,h1,h2⟩ := h
    exact ⟨ds,h1,FrzRL_congr h2 (by simpa [deepB] using hb)⟩
  | .tup cs,q,h,hb => by
    simp only [FrzR] at h ⊢
    obtain ⟨ds,h1,h2⟩ := h
    exact ⟨ds,h1,FrzRL_congr h2 (by simpa [deepB] using hb)⟩
  | .any,_,h,_ => by simp [FrzR] at h
  | .ptr _ _,_,h,_ => by simp [FrzR] at h
  | .mapp _,_,h,_ => by simp [FrzR] at h
  | .aptr ..,_,h,_ => by simp [FrzR] at h
  | .sub ..,_,h,_ => by simp [FrzR] at h
  | .iptr _,_,h,_ => by simp [FrzR] at h
  | .fn ..,_,h,_ => by simp [FrzR] at h
  | .iface ..,_,h,_ => by simp [FrzR] at h
theorem FrzRL_congr : ∀ {l q : List PV},FrzRL H l q → (∀ b ∈ deepL l,H' b = H b) → FrzRL H' l q
  | [],q,h,_ => by simpa [FrzRL] using h
  | x :: l,q,h,hb => by
    simp only [FrzRL] at h ⊢
    simp only [deepL,List.mem_append] at hb
    obtain ⟨y,m,h1,h2,h3⟩ := h
    exact ⟨y,m,h1,FrzR_congr h2 (fun b hb' => hb b (.inl hb')),FrzRL_congr h3 (fun b hb' => hb b (.inr hb'))⟩
end
mutual
theorem frzD_congr : ∀ {x : PV},(∀ b ∈ deepB x,H' b = H b) → frzD H' x = frzD H x
  | .own b ver,hb => by simp only [frzD,frzOne]; rw [hb b (by simp [deepB])]
  | .agg cs,hb => by simp only [frzD]; exact frzDL_congr (by simpa [deepB] using hb)
  | .tup cs,hb => by simp only [frzD]; exact frzDL_congr (by simpa [deepB] using hb)
  | .any,_ => rfl
  | .lit _,_ => rfl
  | .im _ _,_ => rfl
  | .ptr _ _,_ => rfl
  | .mapp _,_ => rfl
  | .aptr ..,_ => rfl
  | .sub ..,_ => rfl
  | .iptr _,_ => rfl
  | .fn ..,_ => rfl
  | .iface ..,_ => rfl
theorem frzDL_congr : ∀ {l : List PV},(∀ b ∈ deepL l,H' b = H b) → frzDL H' l = frzDL H l
  | [],_ => rfl
  | x :: l,hb => by
    simp only [deepL,List.mem_append] at hb
    simp only [frzDL]
    rw [frzD_congr (fun b h => hb b (.inl h)),frzDL_congr (fun b h => hb b (.inr h))]
end
end
def calleeA : PV → List PV → Option (FuncId × List PV)
  | .lit (.func (.func g) p q),args => if p.size = 0 ∧ q.size = 0 then some (g,args) else none
  | .fn (.func g) first cap,args => some (g,first ++ args ++ cap)
  | _,_ => none
def callOf (E : Env) : Op → Option (FuncId × List PV)
  | .call { callee := .value f,args,.. } => calleeA (ev E f) (args.toList.map (ev E))
  | _ => none
def isCallV : Op → Bool
  | .call { callee := .value _,.. } => true
  | _ => false
def ptrsOf : List PV → List Nat
  | [] => []
  | .ptr b _ :: l => b :: ptrsOf l
  | _ :: l => ptrsOf l
def footL (args : List PV) : List Nat := deepL args ++ ptrsOf args
def FinH (H : Heap) : Prop := ∃ hp,H = hpF hp
def EffCalls (P : Program) (g : FuncId) (args : List PV) (H0 : Heap) (pv : PV) (eff : List (Nat × Blk)) : Prop :=
  Callable P g ∧ ∀ (C : Ctx) (β : Ref) (w : World) (vs : Array Value) (H : Heap),FinH H → (∀ b ∈ footL args,H b = H0 b) → SimH C H β w → vs.size = args.length → (∀ i pv,args[i]? = some pv → Rep (NN C H β) w β pv (vs.getD i undef)) →
    Calls P g vs w fun e w' => ∃ v β',e = .returned v ∧ SimH C (applyEff H eff) β' w' ∧ Rep (NN C (applyEff H eff) β') w' β' pv v
theorem EffCalls.of {P : Program} {g : FuncId} {args : List PV} {H0 : Heap} {pv : PV} {eff : List (Nat × Blk)} (hc : Callable P g)
    (h : ∀ hp nx,(∀ b ∈ footL args,lk b hp = H0 b) → (∀ x ∈ hp,x.1 < nx) → CallA P g args hp nx (fun r hp' _ => r = pv ∧ ∀ b,lk b hp' = applyEff (hpF hp) eff b) noP) : EffCalls P g args H0 pv eff := by
  refine ⟨hc,fun C β w vs H hfin hH hs hl hv => ?_⟩
  obtain ⟨hp,rfl⟩ := hfin
  obtain ⟨nx,hgb,hx⟩ : ∃ nx,C.gb ≤ nx ∧ ∀ x ∈ hp,x.1 < nx := by
    have : ∃ m,∀ x ∈ hp,x.1 < m := by
      clear hH hs hv
      induction hp with
      | nil => exact ⟨0,by simp⟩
      | cons x l ih =>
        obtain ⟨m,hm⟩ := ih
        refine ⟨max m (x.1 + 1),fun y hy => ?_⟩
        rcases List.mem_cons.1 hy with rfl | hy
        · omega
        · have := hm y hy; omega
    obtain ⟨m,hm⟩ := this
    exact ⟨max m C.gb,by omega,fun x hx => by have := hm x hx; omega⟩
  refine ((h hp nx hH hx).2 C β w vs hgb hs hl hv).mono ?_
  rintro e w' ⟨v,r,hp',nx',β',he,hs',hr⟩
  rcases he with ⟨rfl,rfl,hK⟩ | ⟨_,hK⟩
  · have e : hpF hp' = applyEff (hpF hp) eff := funext hK
    rw [e] at hs' hr
    exact ⟨v,β',rfl,hs',hr⟩
  · exact hK.elim
def PanCalls (P : Program) (g : FuncId) (args : List PV) (H0 : Heap) (pv : PV) (eff : List (Nat × Blk)) : Prop :=
  Callable P g ∧ ∀ (C : Ctx) (β : Ref) (w : World) (vs : Array Value) (H : Heap),FinH H → (∀ b ∈ footL args,H b = H0 b) → SimH C H β w → vs.size = args.length → (∀ i pv,args[i]? = some pv → Rep (NN C H β) w β pv (vs.getD i undef)) →
    Calls P g vs w fun e w' => ∃ v β',e = .panicked [{ v,recovered := false }] ∧ SimH C (applyEff H eff) β' w' ∧ Rep (NN C (applyEff H eff) β') w' β' pv v
theorem FinH.bound {C : Ctx} {hp : List (Nat × Blk)} : ∃ gb,C.gb ≤ gb ∧ ∀ x ∈ hp,x.1 < gb := by
  have : ∃ m,∀ x ∈ hp,x.1 < m := by
    induction hp with
    | nil => exact ⟨0,by simp⟩
    | cons x l ih =>
      obtain ⟨m,hm⟩ := ih
      refine ⟨max m (x.1 + 1),fun y hy => ?_⟩
      rcases List.mem_cons.1 hy with rfl | hy
      · omega
      · have := hm y hy; omega
  obtain ⟨m,hm⟩ := this
  exact ⟨max m C.gb,by omega,fun x hx => by have := hm x hx; omega⟩
def OpOK (P : Program) (T : Tab) (E : Env) (H : Heap) (fresh : Nat) (op : Op) (pv : PV) (eff : List (Nat × Blk)) : Prop :=
  (isCallV op = false ∧ ∃ ok,evVal T E H op = some (ok,pv) ∧ ok ∧ eff = []) ∨
  (isCallV op = false ∧ evVal T E H op = none ∧ H fresh = none ∧ ∃ ok,evMem T fresh E H op = some (ok,pv,eff) ∧ ok) ∨
  (∃ g args args',callOf E op = some (g,args) ∧ PureCalls P g args' pv ∧ FrzRL H args args' ∧ eff = if noSl pv then [] else frzDL H args) ∨
  (∃ g args,callOf E op = some (g,args) ∧ EffCalls P g args H pv eff)
def rdOp (E : Env) : Op → List Nat
  | .call { callee := .value f,args,.. } => footL (match calleeA (ev E f) (args.toList.map (ev E)) with | some (_,l) => l | none => [])
  | op => rdA E op
section
variable {P : Program} {T : Tab} {C : Ctx} {n : Nat} {E E' : Env} {H H' : Heap} {β : Ref} {a : Act} {w : World}
theorem callOf_congr {op : Op} (hE : ∀ x ∈ op.operands.toList,ev E' x = ev E x) : callOf E' op = callOf E op := by
  unfold callOf
  split
  · rename_i f args ats
    have h1 : ev E' f = ev E f := hE f (by simp [Op.operands,Call.operands])
    have h2 : args.toList.map (ev E') = args.toList.map (ev E) := List.map_congr_left fun x hx => hE x (by simp only [Op.operands,Call.operands,Array.toList_append]; exact List.mem_append_right _ hx)
    rw [h1,h2]
  · rfl
theorem OpOK.congr {fresh : Nat} {op : Op} {pv : PV} {eff : List (Nat × Blk)} (h : OpOK P T E H fresh op pv eff) (hE : ∀ x ∈ op.operands.toList,ev E' x = ev E x) (hH : ∀ b ∈ rdOp E op,H' b = H b) (hf : isCallV op = false → evVal T E H op = none → H' fresh = H fresh) : OpOK P T E' H' fresh op pv eff := by
  have hrd : isCallV op = false → rdOp E op = rdA E op := by
    intro hc
    unfold rdOp
    split
    · simp [isCallV] at hc
    · rfl
  have hfoot : ∀ {g args},callOf E op = some (g,args) → ∀ b ∈ footL args,H' b = H b := by
    intro g args h1 b hb
    refine hH b ?_
    unfold callOf at h1
    unfold rdOp
    split at h1
    · simp only [h1]
      exact hb
    · cases h1
  rcases h with ⟨hc,ok,h1,h2,h3⟩ | ⟨hc,h1,h2,ok,h3,h4⟩ | ⟨g,args,args',h1,h2,h3,h4⟩ | ⟨g,args,h1,h2⟩
  · exact .inl ⟨hc,ok,by rw [evVal_congr hE (by rw [← hrd hc]; exact hH)]; exact h1,h2,h3⟩
  · exact .inr (.inl ⟨hc,by rw [evVal_congr hE (by rw [← hrd hc]; exact hH)]; exact h1,by rw [hf hc h1]; exact h2,ok,by rw [evMem_congr hE (by rw [← hrd hc]; exact hH)]; exact h3,h4⟩)
  · have hb : ∀ b ∈ deepL args,H' b = H b := fun b hb => hfoot h1 b (List.mem_append_left _ hb)
    refine .inr (.inr (.inl ⟨g,args,args',by rw [callOf_congr hE]; exact h1,h2,FrzRL_congr h3 hb,?_⟩))
    rw [frzDL_congr hb]
    exact h4
  · exact .inr (.inr (.inr ⟨g,args,by rw [callOf_congr hE]; exact h1,h2.1,fun C β w vs H1 hf hH1 => h2.2 C β w vs H1 hf (fun b hb => (hH1 b hb).trans (hfoot h1 b hb))⟩))
theorem PureCalls.wp {g : FuncId} {args args' : List PV} {r : PV} {o : Oper} {vs : Array Value} {Q : Exit → Act → World → Prop} (h : PureCalls P g args' r) (hf : FrzRL H args args') (hs : Sim C n E H β a w) (hd : ∀ d,o.dst = some d → d < n)
    (hrun : (execOp a.eval o).run P w = (callFunc g vs).run P w) (hl : vs.size = args.length) (hv : ∀ i pv,args[i]? = some pv → Rep (NN C H β) w β pv (vs.getD i undef)) :
    o.wp P a w (fun a' w' => ∃ v,a' = a.put o.dst v ∧ Sim C n E (applyEff H (if noSl r then [] else frzDL H args)) β a w' ∧ Rep (NN C (applyEff H (if noSl r then [] else frzDL H args)) β) w' β r v) Q := by
  unfold Oper.wp
  rw [hrun,callFunc_run h.1 w]
  obtain ⟨q1,q2⟩ := FrzRL_get hf
  have hfz := Frz.all (frzDL H args) H (frzDL_list _ args) ⟨hs,fun _ h => h,fun _ _ h => .inl h,fun _ h => h⟩
  have hN : ∀ k,NN C (applyEff H (frzDL H args)) β k → k < w.heap.size := by
    rintro k (hk | ⟨b,x,ver,u,p1,p2,p3,p4⟩)
    · have := hs.nxb k hk; have := hs.bs; omega
    · exact hs.lies b ver u k p3 p4
  refine (h.2 (NN C (applyEff H (frzDL H args)) β) w vs hN (by omega) (fun i y hy => ?_)).mono ?_
  · obtain ⟨x,hx,hxy⟩ := q2 i y hy
    exact hfz.data (hv i x hx) y hxy (fun e he => applyEff_mem _ _ _ (frzDL_list _ args) (frzDL_mem (List.mem_of_getElem? hx) he))
  · rintro e w' ⟨v,rfl,hr,hb⟩
    have hk : ∀ N,Keeps N w w' := fun N => ⟨hb.os,hb.tape,hb.output,hb.size,fun k hk _ => hb.block k hk⟩
    have move : ∀ {H : Heap},Sim C n E H β a w → Sim C n E H β a w' := fun {H} hs => hs.world (hk _) (hs.keeps_below (hk _)) (fun b x hx _ => (hs.blk b x hx).later (hk _) (fun _ _ h => h) (Later.refl _) (fun _ _ h => h) rfl
      (fun ver u k h1 h2 => hb.block k (hs.lies b ver u k h1 h2)))
    refine ⟨v,rfl,?_⟩
    cases hn : noSl r with
    | true => exact ⟨move hs,.i (hr.anywhere hn)⟩
    | false => exact ⟨move hfz.sim,.i hr⟩
def updO (E : Env) (d : Option Nat) (pv : PV) : Env := match d with | none => E | some d => upd E d pv
theorem Sim.putO (h : Sim C n E H β a w) {o : Option Nat} (hd : ∀ d,o = some d → d < n) {pv : PV} {v : Value} (hr : Rep (NN C H β) w β pv v) : Sim C n (updO E o pv) H β (a.put o v) w := by
  cases o with
  | none => exact h
  | some d => exact h.put (hd d rfl) hr
theorem OpOK.wp (hT : TabOK P T) {o : Oper} {fresh : Nat} {pv : PV} {eff : List (Nat × Blk)} {Q : Exit → Act → World → Prop} (h : OpOK P T E H fresh o.op pv eff) (hfin : FinH H) (hd : ∀ d,o.dst = some d → d < n) (hs : Sim C n E H β a w) :
    o.wp P a w (fun a' w' => ∃ β',Sim C n (updO E o.dst pv) (applyEff H eff) β' a' w') Q := by
  rcases h with ⟨_,ok,h1,h2,rfl⟩ | ⟨_,_,hfr,ok,h1,h2⟩ | h4
  · obtain ⟨u,hrun,hr⟩ := evVal_sound hT hs h1 h2
    unfold Oper.wp
    rw [hrun]
    exact ⟨β,hs.putO hd hr⟩
  · obtain ⟨nx,w',β',hrun,hsim,hres⟩ := evMem_sound hT hs hfr h1 h2
    unfold Oper.wp
    rw [hrun]
    rcases hres with ⟨u,rfl,hr⟩ | ⟨rfl,rfl⟩
    · exact ⟨β',hsim.putO hd hr⟩
    · exact ⟨β',hsim.putO hd (.any _)⟩
  · obtain ⟨dst,op,ty,pos,after,guard⟩ := o
    obtain ⟨g,args,h1,hrest⟩ : ∃ g args,callOf E op = some (g,args) ∧ ((∃ args',PureCalls P g args' pv ∧ FrzRL H args args' ∧ eff = if noSl pv then [] else frzDL H args) ∨ EffCalls P g args H pv eff) := by
      rcases h4 with ⟨g,args,args',h1,h2,h3,h4⟩ | ⟨g,args,h1,h2⟩
      · exact ⟨g,args,h1,.inl ⟨args',h2,h3,h4⟩⟩
      · exact ⟨g,args,h1,.inr h2⟩
    clear h4
    unfold callOf at h1
    split at h1
    · rename_i f fargs ats
      have hrf := hs.ev f
      have hargs : ∀ i pv,(fargs.toList.map (ev E))[i]? = some pv → Rep (NN C H β) w β pv ((fargs.map a.eval).getD i undef) := by
        intro i pv hi
        simp only [List.getElem?_map,Option.map_eq_some_iff] at hi
        obtain ⟨x,hx,rfl⟩ := hi
        have hx' : fargs[i]? = some x := by simpa using hx
        have : (fargs.map a.eval).getD i undef = a.eval x := by simp [Array.getD_eq_getD_getElem?,hx']
        rw [this]
        exact hs.ev x
      have fin : ∀ (vs : Array Value),(execOp a.eval ⟨dst,.call ⟨.value f,fargs,ats⟩,ty,pos,after,guard⟩).run P w = (callFunc g vs).run P w → vs.size = args.length → (∀ i pv,args[i]? = some pv → Rep (NN C H β) w β pv (vs.getD i undef)) →
          Oper.wp P ⟨dst,.call ⟨.value f,fargs,ats⟩,ty,pos,after,guard⟩ a w (fun a' w' => ∃ β',Sim C n (updO E dst pv) (applyEff H eff) β' a' w') Q := by
        intro vs e1 e2 e3
        rcases hrest with ⟨args',h2,h3,rfl⟩ | hE
        rotate_left 1
        · unfold Oper.wp
          rw [e1,callFunc_run hE.1 w]
          obtain ⟨hp,rfl⟩ := hfin
          obtain ⟨gb,hgb,hx⟩ : ∃ gb,C.gb ≤ gb ∧ ∀ x ∈ hp,x.1 < gb := by
            have : ∃ m,∀ x ∈ hp,x.1 < m := by
              clear e1 e2 e3 hE hs hrf hargs
              induction hp with
              | nil => exact ⟨0,by simp⟩
              | cons x l ih =>
                obtain ⟨m,hm⟩ := ih
                refine ⟨max m (x.1 + 1),fun y hy => ?_⟩
                rcases List.mem_cons.1 hy with rfl | hy
                · omega
                · have := hm y hy; omega
            obtain ⟨m,hm⟩ := this
            exact ⟨max m C.gb,by omega,fun x hx => by have := hm x hx; omega⟩
          refine (hE.2 (C.with E a gb) β w vs (hpF hp) ⟨hp,rfl⟩ (fun _ _ => rfl) (hs.lend hgb (fun b x hb => hx (b,x) (lk_mem hb))) e2 e3).mono ?_
          rintro e w' ⟨v,β',rfl,hs',hr⟩
          exact ⟨β',(hs.back hs').putO hd hr⟩
        refine Oper.wp_mono ?_ (h2.wp (o := ⟨dst,.call ⟨.value f,fargs,ats⟩,ty,pos,after,guard⟩) h3 hs hd e1 e2 e3)
        rintro a' w' ⟨v,rfl,q1,q2⟩
        exact ⟨β,q1.putO hd q2⟩
      generalize hpv : ev E f = fv at h1 hrf
      unfold calleeA at h1
      split at h1
      · rename_i g' p q
        split at h1
        · rename_i hpq
          simp only [Option.some.injEq,Prod.mk.injEq] at h1
          obtain ⟨rfl,rfl⟩ := h1
          have ep : p = #[] := Array.eq_empty_of_size_eq_zero hpq.1
          have eq : q = #[] := Array.eq_empty_of_size_eq_zero hpq.2
          subst ep eq
          refine fin (fargs.map a.eval) ?_ (by simp) hargs
          simp [execOp,resolve,Deferred.ofValue,hrf.lit_eq,invoke]
        · cases h1
      · rename_i g' first cap
        simp only [Option.some.injEq,Prod.mk.injEq] at h1
        obtain ⟨rfl,rfl⟩ := h1
        generalize hvf : a.eval f = vf at hrf
        cases hrf with
        | i hi => cases hi
        | fn _ _ _ vs us hl hl' h1' h2' =>
          refine fin (vs ++ fargs.map a.eval ++ us) ?_ (by simp; omega) ?_
          · simp [execOp,resolve,Deferred.ofValue,hvf,invoke]
          · intro i pv hi
            simp only [Array.getD_eq_getD_getElem?] at h1' h2' hargs ⊢
            by_cases c1 : i < first.length
            · rw [List.append_assoc,List.getElem?_append_left c1] at hi
              rw [Array.append_assoc,Array.getElem?_append_left (by omega)]
              exact h1' i pv hi
            · by_cases c2 : i < first.length + fargs.size
              · rw [List.append_assoc,List.getElem?_append_right (by omega),List.getElem?_append_left (by simp; omega)] at hi
                rw [Array.append_assoc,Array.getElem?_append_right (by omega),Array.getElem?_append_left (by simp; omega),hl]
                exact hargs _ pv hi
              · rw [List.getElem?_append_right (by simp; omega)] at hi
                rw [Array.getElem?_append_right (by simp; omega)]
                have e : i - (vs ++ Array.map a.eval fargs).size = i - (first ++ List.map (ev E) fargs.toList).length := by simp; omega
                rw [e]
                exact h2' _ pv hi
      · cases h1
    · cases h1
theorem callOf_run {o : Oper} {g : FuncId} {args : List PV} (h1 : callOf E o.op = some (g,args)) (hs : Sim C n E H β a w) :
    ∃ vs : Array Value,(execOp a.eval o).run P w = (callFunc g vs).run P w ∧ vs.size = args.length ∧ ∀ i pv,args[i]? = some pv → Rep (NN C H β) w β pv (vs.getD i undef) := by
  obtain ⟨dst,op,ty,pos,after,guard⟩ := o
  unfold callOf at h1
  split at h1
  · rename_i f fargs ats heq
    simp only at heq
    subst heq
    have hrf := hs.ev f
    have hargs : ∀ i pv,(fargs.toList.map (ev E))[i]? = some pv → Rep (NN C H β) w β pv ((fargs.map a.eval).getD i undef) := by
      intro i pv hi
      simp only [List.getElem?_map,Option.map_eq_some_iff] at hi
      obtain ⟨x,hx,rfl⟩ := hi
      have hx' : fargs[i]? = some x := by simpa using hx
      have : (fargs.map a.eval).getD i undef = a.eval x := by simp [Array.getD_eq_getD_getElem?,hx']
      rw [this]
      exact hs.ev x
    generalize hpv : ev E f = fv at h1 hrf
    unfold calleeA at h1
    split at h1
    · rename_i g' p q
      split at h1
      · rename_i hpq
        simp only [Option.some.injEq,Prod.mk.injEq] at h1
        obtain ⟨rfl,rfl⟩ := h1
        have ep : p = #[] := Array.eq_empty_of_size_eq_zero hpq.1
        have eq : q = #[] := Array.eq_empty_of_size_eq_zero hpq.2
        subst ep eq
        refine ⟨fargs.map a.eval,?_,by simp,hargs⟩
        simp [execOp,resolve,Deferred.ofValue,hrf.lit_eq,invoke]
      · cases h1
    · rename_i g' first cap
      simp only [Option.some.injEq,Prod.mk.injEq] at h1
      obtain ⟨rfl,rfl⟩ := h1
      generalize hvf : a.eval f = vf at hrf
      cases hrf with
      | i hi => cases hi
      | fn _ _ _ vs us hl hl' h1' h2' =>
        refine ⟨vs ++ fargs.map a.eval ++ us,?_,by simp; omega,?_⟩
        · simp [execOp,resolve,Deferred.ofValue,hvf,invoke]
        · intro i pv hi
          simp only [Array.getD_eq_getD_getElem?] at h1' h2' hargs ⊢
          by_cases c1 : i < first.length
          · rw [List.append_assoc,List.getElem?_append_left c1] at hi
            rw [Array.append_assoc,Array.getElem?_append_left (by omega)]
            exact h1' i pv hi
          · by_cases c2 : i < first.length + fargs.size
            · rw [List.append_assoc,List.getElem?_append_right (by omega),List.getElem?_append_left (by simp; omega)] at hi
              rw [Array.append_assoc,Array.getElem?_append_right (by omega),Array.getElem?_append_left (by simp; omega),hl]
              exact hargs _ pv hi
            · rw [List.getElem?_append_right (by simp; omega)] at hi
              rw [Array.getElem?_append_right (by simp; omega)]
              have e : i - (vs ++ Array.map a.eval fargs).size = i - (first ++ List.map (ev E) fargs.toList).length := by simp; omega
              rw [e]
              exact h2' _ pv hi
    · cases h1
  · cases h1
theorem PanCalls.wp {o : Oper} {g : FuncId} {args : List PV} {pv : PV} {eff : List (Nat × Blk)} {K : Act → World → Prop} {Q : Exit → Act → World → Prop} (hE : PanCalls P g args H pv eff) (h1 : callOf E o.op = some (g,args)) (hfin : FinH H) (hs : Sim C n E H β a w)
    (hQ : ∀ β' w' v,Sim C n E (applyEff H eff) β' a w' → Rep (NN C (applyEff H eff) β') w' β' pv v → Q (.panic [{ v,recovered := false }]) a w') : o.wp P a w K Q := by
  obtain ⟨vs,e1,e2,e3⟩ := callOf_run (P := P) h1 hs
  unfold Oper.wp
  rw [e1,callFunc_run hE.1 w]
  obtain ⟨hp,rfl⟩ := hfin
  obtain ⟨gb,hgb,hx⟩ := FinH.bound (C := C) (hp := hp)
  refine (hE.2 (C.with E a gb) β w vs (hpF hp) ⟨hp,rfl⟩ (fun _ _ => rfl) (hs.lend hgb (fun b x hb => hx (b,x) (lk_mem hb))) e2 e3).mono ?_
  rintro e w' ⟨v,β',rfl,hs',hr⟩
  exact hQ β' w' v (hs.back hs') hr
theorem PanCalls.congr {g : FuncId} {args : List PV} {pv : PV} {eff : List (Nat × Blk)} (h : PanCalls P g args H pv eff) (hb : ∀ b ∈ footL args,H' b = H b) : PanCalls P g args H' pv eff :=
  ⟨h.1,fun C β w vs H1 hf hH1 => h.2 C β w vs H1 hf (fun b hb' => (hH1 b hb').trans (hb b hb'))⟩
end
end Go.Pe
namespace Go.Pe
open Go.RowKit
section
variable {V : Type}
def pref (W : Nat → Nat → Option V) (D : Nat → Bool) (σ : Nat → Option V) : Nat → Nat → Option V
  | 0 => σ
  | i + 1 => fun t => if D i then (match W i t with | some v => some v | none => pref W D σ i t) else pref W D σ i t
theorem pref_agree {W : Nat → Nat → Option V} {D : Nat → Bool} {σ : Nat → Option V} {t i : Nat} : ∀ {n : Nat},(∀ j,j < n → (W j t).isSome = true → (D j = true ↔ j < i)) → pref W D σ n t = pref W (fun _ => true) σ (min n i) t
  | 0,_ => by simp [pref]
  | n + 1,h => by
    have ih := pref_agree (W := W) (D := D) (σ := σ) (t := t) (i := i) (n := n) (fun j hj => h j (by omega))
    simp only [pref]
    by_cases hlt : n < i
    · have e : min (n + 1) i = n + 1 := by omega
      have e' : min n i = n := by omega
      rw [e]
      rw [e'] at ih
      simp only [pref,if_true]
      cases hw : W n t with
      | none => simp only [ih]; split <;> rfl
      | some v =>
        have := (h n (by omega) (by simp [hw])).2 hlt
        simp [this]
    · have e : min (n + 1) i = min n i := by omega
      rw [e,← ih]
      cases hw : W n t with
      | none => simp
      | some v =>
        have := (h n (by omega) (by simp [hw])).1
        have hD : D n = false := by
          cases hd : D n with
          | false => rfl
          | true => exact absurd (this hd) hlt
        simp [hD]
theorem pref_add {W : Nat → Nat → Option V} {D D' : Nat → Bool} {σ : Nat → Option V} {i : Nat} (hi : D i = false) (hD' : ∀ k,D' k = (k == i || D k)) : ∀ {n : Nat},(∀ j,i < j → j < n → D j = true → ∀ t,(W i t).isSome = true → W j t = none) →
    ∀ t,pref W D' σ n t = if i < n then (match W i t with | some v => some v | none => pref W D σ n t) else pref W D σ n t
  | 0,_,t => by simp [pref]
  | n + 1,h,t => by
    have ih := pref_add hi hD' (σ := σ) (n := n) (fun j h1 h2 => h j h1 (by omega)) t
    simp only [pref,hD',ih]
    by_cases hni : n = i
    · subst hni
      simp only [beq_self_eq_true,Bool.true_or,if_true,hi,Nat.lt_irrefl,if_false,Bool.false_eq_true,Nat.lt_succ_self]
    · have e : (n == i) = false := by simp [hni]
      simp only [e,Bool.false_or]
      by_cases hlt : i < n
      · have h1 : i < n + 1 := by omega
        simp only [hlt,h1,if_true]
        cases hd : D n with
        | false => simp
        | true =>
          simp only [if_true]
          cases hw : W i t with
          | none => rfl
          | some v => simp only [h n hlt (by omega) hd t (by simp [hw])]
      · have h1 : ¬ i < n + 1 := by omega
        simp only [hlt,h1,if_false]
end
def WE (dst : Option Nat) (pv : PV) : Nat → Option PV := fun t => if dst = some t then some pv else none
theorem updO_eq (E : Env) (d : Option Nat) (pv : PV) (t : Nat) : updO E d pv t = match WE d pv t with | some v => some v | none => E t := by
  cases d with
  | none => simp [updO,WE]
  | some d =>
    by_cases h : t = d
    · subst h; simp [updO,WE,upd]
    · have : ¬ (some d = some t) := by simp; omega
      simp [updO,WE,upd,h,this]
def WH : List (Nat × Blk) → Nat → Option Blk
  | [],_ => none
  | x :: l,b => match WH l b with
    | some y => some y
    | none => if b = x.1 then some x.2 else none
theorem applyEff_eq : ∀ (l : List (Nat × Blk)) (H : Heap) (b : Nat),applyEff H l b = match WH l b with | some x => some x | none => H b
  | [],_,_ => rfl
  | x :: l,H,b => by
    show applyEff (upd H x.1 x.2) l b = _
    rw [applyEff_eq l]
    simp only [WH]
    cases WH l b with
    | some y => rfl
    | none => simp only [upd]; split <;> rfl
theorem WH_mem : ∀ {l : List (Nat × Blk)} {b : Nat},(WH l b).isSome = true → b ∈ l.map (·.1)
  | [],_,h => by simp [WH] at h
  | x :: l,b,h => by
    simp only [WH] at h
    cases hw : WH l b with
    | some y => exact List.mem_cons_of_mem _ (WH_mem (by simp [hw]))
    | none =>
      rw [hw] at h
      simp only at h
      split at h
      · rename_i e; subst e; exact List.mem_cons_self
      · simp at h
def maskOf (acc : List Nat) (n : Nat) (o : Oper) : Nat := o.after.toList.foldl (fun m e => if Region.binds .any e then m ||| (1 <<< e.on) ||| (if e.on < n then acc.getD (n - 1 - e.on) 0 else 0) else m) 0
def masksGo : List Oper → Nat → List Nat → List Nat
  | [],_,acc => acc
  | o :: os,n,acc => masksGo os (n + 1) (maskOf acc n o :: acc)
def masks (ops : Array Oper) : List Nat := masksGo ops.toList 0 []
def bef (n : Nat) (ms : List Nat) (j i : Nat) : Bool := decide (i < n) && (ms.getD (n - 1 - i) 0).testBit j
def before (ops : Array Oper) (j i : Nat) : Bool := bef ops.size (masks ops) j i
def force (n : Nat) (k : Nat → Bool) : Bool := match n with
  | 0 => k 0
  | m + 1 => k (m + 1)
theorem force_eq (n : Nat) (k : Nat → Bool) : force n k = k n := by cases n <;> rfl
def maskS (acc : List Nat) (n : Nat) : List Edge → Nat → (Nat → Bool) → Bool
  | [],m,k => k m
  | e :: l,m,k => force (if Region.binds .any e then m ||| (1 <<< e.on) ||| (if e.on < n then acc.getD (n - 1 - e.on) 0 else 0) else m) fun m' => maskS acc n l m' k
def masksS : List Oper → Nat → List Nat → (List Nat → Bool) → Bool
  | [],_,acc,k => k acc
  | o :: os,n,acc,k => maskS acc n o.after.toList 0 fun m => force (n + 1) fun n' => masksS os n' (m :: acc) k
def withMasks (ops : Array Oper) (k : List Nat → Bool) : Bool := masksS ops.toList 0 [] k
theorem maskS_eq (acc : List Nat) (n : Nat) : ∀ (l : List Edge) (m : Nat) (k : Nat → Bool),maskS acc n l m k = k (l.foldl (fun m e => if Region.binds .any e then m ||| (1 <<< e.on) ||| (if e.on < n then acc.getD (n - 1 - e.on) 0 else 0) else m) m)
  | [],m,k => rfl
  | e :: l,m,k => by
    rw [maskS,force_eq,maskS_eq acc n l]
    rfl
theorem masksS_eq : ∀ (l : List Oper) (n : Nat) (acc : List Nat) (k : List Nat → Bool),masksS l n acc k = k (masksGo l n acc)
  | [],_,_,_ => rfl
  | o :: l,n,acc,k => by
    rw [masksS,maskS_eq,force_eq,masksS_eq l]
    rfl
theorem withMasks_eq (ops : Array Oper) (k : List Nat → Bool) : withMasks ops k = k (masks ops) := masksS_eq _ _ _ _
def Closed (ops : Array Oper) (D : Nat → Bool) : Prop := ∀ i o,ops[i]? = some o → D i = true → ∀ e ∈ o.after,Region.binds .any e = true → D e.on = true
theorem fold_mask (acc : List Nat) (n j : Nat) : ∀ (l : List Edge) (m : Nat),(l.foldl (fun m e => if Region.binds .any e then m ||| (1 <<< e.on) ||| (if e.on < n then acc.getD (n - 1 - e.on) 0 else 0) else m) m).testBit j = true →
    m.testBit j = true ∨ ∃ e ∈ l,Region.binds .any e = true ∧ (e.on = j ∨ (e.on < n ∧ (acc.getD (n - 1 - e.on) 0).testBit j = true))
  | [],m,h => .inl h
  | e :: l,m,h => by
    rw [List.foldl_cons] at h
    rcases fold_mask acc n j l _ h with h | ⟨e',he',h'⟩
    · split at h
      · rename_i hb
        rw [Nat.testBit_or,Nat.testBit_or,Nat.shiftLeft_eq,Nat.one_mul,Nat.testBit_two_pow] at h
        simp only [Bool.or_eq_true,decide_eq_true_eq] at h
        rcases h with (h | h) | h
        · exact .inl h
        · exact .inr ⟨e,List.mem_cons_self,hb,.inl h⟩
        · split at h
          · rename_i hn
            exact .inr ⟨e,List.mem_cons_self,hb,.inr ⟨hn,h⟩⟩
          · simp at h
      · exact .inl h
    · exact .inr ⟨e',List.mem_cons_of_mem _ he',h'⟩
def MaskOK (ops : Array Oper) (n : Nat) (acc : List Nat) : Prop := ∀ (i : Nat),i < n → ∀ (j : Nat),(acc.getD (n - 1 - i) 0).testBit j = true → ∀ (D : Nat → Bool),Closed ops D → ∀ (o : Oper),ops[i]? = some o → (∀ e ∈ o.after,Region.binds .any e = true → D e.on = true) → D j = true
theorem masksGo_ok {ops : Array Oper} : ∀ (l : List Oper) (n : Nat) (acc : List Nat),ops.toList.drop n = l → n ≤ ops.size → MaskOK ops n acc → MaskOK ops (n + l.length) (masksGo l n acc)
  | [],n,acc,_,_,h => h
  | o :: l,n,acc,hl,hsz,h => by
    have hk : ops[n]? = some o := by
      have := congrArg (·[0]?) hl
      simpa using this
    have hlt := (Array.getElem?_eq_some_iff.1 hk).1
    have := masksGo_ok (ops := ops) l (n + 1) (maskOf acc n o :: acc) (by have := congrArg List.tail hl; simpa using this) (by omega) ?_
    · rw [show n + (o :: l).length = n + 1 + l.length by simp; omega]
      exact this
    · intro i hi j hj D hD o' ho' hp
      by_cases hin : i < n
      · refine h i hin j ?_ D hD o' ho' hp
        rw [show n + 1 - 1 - i = (n - 1 - i) + 1 by omega,List.getD_cons_succ] at hj
        exact hj
      · have : i = n := by omega
        subst this
        rw [hk] at ho'
        cases ho'
        rw [show i + 1 - 1 - i = 0 by omega,List.getD_cons_zero] at hj
        rcases fold_mask acc i j _ _ hj with h0 | ⟨e,he,hb,rfl | ⟨hen,hr⟩⟩
        · simp at h0
        · exact hp e (by simpa using he) hb
        · have hDe := hp e (by simpa using he) hb
          have ho2 : ops[e.on]? = some ops[e.on] := Array.getElem?_eq_getElem (by omega)
          exact h e.on hen j hr D hD _ ho2 (hD _ _ ho2 hDe)
theorem before_closed {ops : Array Oper} {D : Nat → Bool} (hD : Closed ops D) {j i : Nat} (h : before ops j i = true) {o : Oper} (ho : ops[i]? = some o) (hp : ∀ e ∈ o.after,Region.binds .any e = true → D e.on = true) : D j = true := by
  have hm := masksGo_ok (ops := ops) ops.toList 0 [] rfl (by simp) (fun i hi => by omega)
  unfold before bef at h
  simp only [Bool.and_eq_true,decide_eq_true_eq] at h
  have hsz : 0 + ops.toList.length = ops.size := by simp
  rw [hsz] at hm
  exact hm i h.1 j h.2 D hD o ho hp
structure Rc where
  pv : PV
  eff : List (Nat × Blk)
  rd : List Nat
  run : Bool
  pan : Bool
def shB : Blk → Option (TypeId × Nat × Nat × Nat)
  | .arr t s rows ver _ => some (t,s,rows.length,ver)
  | _ => none
def isStO : Op → Bool
  | .store .. => true
  | _ => false
def isLnO : Op → Bool
  | .call { callee := .builtin .len,.. } => true
  | _ => false
def isSt (ops : Array Oper) (i : Nat) : Bool := match ops[i]? with
  | some o => isStO o.op
  | none => false
def isLn (ops : Array Oper) (i : Nat) : Bool := match ops[i]? with
  | some o => isLnO o.op
  | none => false
def okPair (ops : Array Oper) (j : Nat) (rd wr : List Nat) (i : Nat) (rd' wr' : List Nat) : Prop :=
  (wr.all (fun b => !rd'.contains b && !wr'.contains b) && rd.all (fun b => !wr'.contains b)) = true ∨ before ops j i = true
def slotsOKm (ops : Array Oper) (ms : List Nat) : Bool :=
  (List.range ops.size).all fun i => match ops[i]? with
    | none => true
    | some o => o.after.toList.all (fun e => !Region.binds .any e || decide (e.on < i)) && (List.range i).all fun j => match ops[j]? with
      | none => true
      | some o' => Oper.apart ops o' o || bef ops.size ms j i
def slotsOK (ops : Array Oper) : Bool := withMasks ops (slotsOKm ops)
def wantF (all : List Oper) (E : Env) (o : Oper) : Option Bool :=
  match o.guard with
  | none => some true
  | some (j,want) => match (all[j]?).bind (·.dst) with
    | none => none
    | some d => match E d with
      | some (.lit (.bool b)) => some (b == want)
      | some (.lit (.tuple _)) => some false
      | _ => none
def FrR (ops : Array Oper) (rs : List Rc) (i : Nat) (r : Rc) : Prop := isLn ops i = true ∧ ∀ j q,rs[j]? = some q → isSt ops j = true ∨ ∀ b ∈ r.rd,b ∉ q.eff.map (·.1)
structure RcOK (P : Program) (T : Tab) (ops : Array Oper) (n : Nat) (E : Env) (H : Heap) (fresh : Nat) (o : Oper) (r : Rc) : Prop where
  dst : ∀ d,o.dst = some d → d < n
  want : wantF ops.toList E o = some r.run
  op : r.run = true → r.pan = false → OpOK P T E H fresh o.op r.pv r.eff ∧ (∀ b ∈ rdOp E o.op,b ∈ r.rd) ∧ (isCallV o.op = false → evVal T E H o.op = none → fresh ∈ r.rd)
  skip : r.run = false → r.pv = .lit (.tuple #[]) ∧ r.eff = []
  pn : r.pan = true → r.run = true ∧ ∃ g args,callOf E o.op = some (g,args) ∧ PanCalls P g args H r.pv r.eff ∧ ∀ b ∈ footL args,b ∈ r.rd
section
variable {P : Program} {T : Tab} {C : Ctx} {n : Nat} {E : Env} {H : Heap} {β : Ref} {a : Act} {w : World}
theorem wantedF {ops : Array Oper} {o : Oper} {b : Bool} (h : wantF ops.toList E o = some b) (hs : Sim C n E H β a w) : Region.wanted o (yielded ops a.tmps) = b := by
  unfold wantF at h
  unfold Region.wanted
  split at h
  · rename_i hg
    cases h
    rw [hg]
  · rename_i j want hg
    rw [hg]
    split at h
    · cases h
    · rename_i d hd
      split at h
      · rename_i bb hlk
        cases h
        obtain ⟨hlt,hr⟩ := hs.env d _ hlk
        have hv := hr.lit_eq
        have hd' : (ops[j]?).bind (·.dst) = some d := by simpa using hd
        have hlt' : d < a.tmps.size := by rw [hs.nt]; exact hlt
        have hget : a.tmps[d]? = some (.bool bb) := by
          rw [Array.getElem?_eq_getElem hlt']
          simp only [Array.getD,hlt',dif_pos] at hv
          rw [← hv]
          rfl
        simp [yielded,hd',hget]
      · rename_i p hlk
        cases h
        obtain ⟨hlt,hr⟩ := hs.env d _ hlk
        have hv := hr.lit_eq
        have hd' : (ops[j]?).bind (·.dst) = some d := by simpa using hd
        have hlt' : d < a.tmps.size := by rw [hs.nt]; exact hlt
        have hget : a.tmps[d]? = some (.tuple p) := by
          rw [Array.getElem?_eq_getElem hlt']
          simp only [Array.getD,hlt',dif_pos] at hv
          rw [← hv]
          rfl
        simp [yielded,hd',hget]
      · cases h
theorem wantF_congr {ops : Array Oper} {E E' : Env} {o : Oper} (h : ∀ t ∈ o.looksAt ops,E' t = E t) : wantF ops.toList E' o = wantF ops.toList E o := by
  unfold wantF
  cases hg : o.guard with
  | none => rfl
  | some g =>
    obtain ⟨j,want⟩ := g
    simp only
    cases hd : (ops.toList[j]?).bind (·.dst) with
    | none => rfl
    | some d =>
      simp only
      have hd' : (ops[j]?).bind (·.dst) = some d := by simpa using hd
      rw [h d (by simp [Oper.looksAt,hg,hd'])]
theorem ev_congr {ops : Array Oper} {E E' : Env} {o : Oper} (h : ∀ t ∈ o.looksAt ops,E' t = E t) : ∀ x ∈ o.op.operands.toList,ev E' x = ev E x := by
  intro x hx
  cases x with
  | tmp t =>
    simp only [ev]
    rw [h t (by
      simp only [Oper.looksAt,List.mem_append,List.mem_filterMap]
      exact .inl ⟨.tmp t,hx,rfl⟩)]
  | const v => rfl
  | global g => rfl
  | func f => rfl
structure DrawOK (P : Program) (T : Tab) (ops : Array Oper) (n nx0 m : Nat) (E : Env) (H : Heap) (rs : List Rc) : Prop where
  len : rs.length = m
  hm : m ≤ ops.size
  tail : ∀ k,m ≤ k → k < ops.size → (∀ j,j < k → before ops j k = true) ∨ ∃ p r,rs[p]? = some r ∧ r.pan = true ∧ before ops p k = true
  slots : slotsOK ops = true
  rc : ∀ i o r,ops[i]? = some o → rs[i]? = some r → RcOK P T ops n (pref (fun i => WE ((ops[i]?).bind (·.dst)) ((rs[i]?.map (·.pv)).getD .any)) (fun _ => true) E i) (pref (fun i => WH ((rs[i]?.map (·.eff)).getD [])) (fun _ => true) H i) (nx0 + i) o r
  pair : ∀ j i r r',j < i → rs[j]? = some r → rs[i]? = some r' → okPair ops j r.rd (r.eff.map (·.1)) i r'.rd (r'.eff.map (·.1)) ∨ FrR ops rs j r ∨ FrR ops rs i r'
theorem slotsOK_edges {ops : Array Oper} (h : slotsOK ops = true) {i : Nat} {o : Oper} (ho : ops[i]? = some o) {e : Edge} (he : e ∈ o.after) (hb : Region.binds .any e = true) : e.on < i := by
  unfold slotsOK at h
  rw [withMasks_eq] at h
  unfold slotsOKm at h
  have hi : i < ops.size := (Array.getElem?_eq_some_iff.1 ho).1
  have := List.all_eq_true.1 h i (by simp [hi])
  simp only [ho,Bool.and_eq_true] at this
  have := List.all_eq_true.1 this.1 e (by simpa using he)
  simpa [hb] using this
theorem slotsOK_pair {ops : Array Oper} (h : slotsOK ops = true) {i j : Nat} {o o' : Oper} (hj : j < i) (ho : ops[i]? = some o) (ho' : ops[j]? = some o') : Oper.apart ops o' o = true ∨ before ops j i = true := by
  unfold slotsOK at h
  rw [withMasks_eq] at h
  unfold slotsOKm at h
  have hi : i < ops.size := (Array.getElem?_eq_some_iff.1 ho).1
  have := List.all_eq_true.1 h i (by simp [hi])
  simp only [ho,Bool.and_eq_true] at this
  have := List.all_eq_true.1 this.2 j (by simp [hj])
  simpa [ho',before] using this
theorem okPair_spec {ops : Array Oper} {j i : Nat} {rd wr rd' wr' : List Nat} (h : okPair ops j rd wr i rd' wr') (hb : before ops j i = false) : (∀ b ∈ wr,b ∉ rd' ∧ b ∉ wr') ∧ ∀ b ∈ rd,b ∉ wr' := by
  rcases h with h | h
  · simp only [Bool.and_eq_true,List.all_eq_true,Bool.not_eq_true',List.contains_eq_mem,decide_eq_false_iff_not] at h
    exact h
  · rw [hb] at h; cases h
theorem fin_pref {rs : List Rc} {D : Nat → Bool} {H0 : Heap} (h : FinH H0) : ∀ m,FinH (pref (fun i => WH ((rs[i]?.map (·.eff)).getD [])) D H0 m)
  | 0 => h
  | m + 1 => by
    obtain ⟨hp,e⟩ := fin_pref (rs := rs) (D := D) h m
    cases hD : D m with
    | false => refine ⟨hp,?_⟩; funext t; simp only [pref,hD]; exact congrFun e t
    | true =>
      refine ⟨addL ((rs[m]?.map (·.eff)).getD []) hp,?_⟩
      rw [hpF_addL,← e]
      funext t
      rw [applyEff_eq]
      simp only [pref,hD,if_true]
      cases WH ((rs[m]?.map (·.eff)).getD []) t <;> rfl
theorem WH_val {l : List (Nat × Blk)} {b : Nat} {x : Blk} (h : WH l b = some x) : (b,x) ∈ l := by
  induction l with
  | nil => cases h
  | cons y l ih =>
    simp only [WH] at h
    cases hw : WH l b with
    | some z => rw [hw] at h; cases h; exact List.mem_cons_of_mem _ (ih hw)
    | none =>
      rw [hw] at h
      simp only at h
      split at h
      · rename_i e; cases h; subst e; exact List.mem_cons_self
      · cases h
theorem frzEff_sh {H : Heap} {l : List PV} {x : Nat × Blk} (h : x ∈ frzEff H l) : ∃ y,H x.1 = some y ∧ shB x.2 = shB y := by
  unfold frzEff at h
  obtain ⟨pv,hm,h⟩ := List.mem_flatMap.1 h
  clear hm
  cases pv <;> simp only [frzOne,List.not_mem_nil] at h
  rename_i b ver
  cases hb : H b with
  | none => rw [hb] at h; cases h
  | some z =>
    rw [hb] at h
    cases z <;> simp only [List.not_mem_nil,List.mem_singleton] at h
    subst h
    exact ⟨_,hb,rfl⟩
theorem OpOK.soft {fresh : Nat} {op : Op} {pv : PV} {eff : List (Nat × Blk)} (h : OpOK P T E H fresh op pv eff) (hop : isStO op = true) {b : Nat} {x : Blk} (hx : WH eff b = some x) : ∃ y,H b = some y ∧ shB x = shB y := by
  cases op <;> simp only [isStO,Bool.false_eq_true] at hop
  rename_i t p q
  have hx' := WH_val hx
  rcases h with ⟨_,ok,h1,_,_⟩ | ⟨_,_,_,ok,h1,h2⟩ | ⟨g,args,args',h1,_⟩ | ⟨g,args,h1,_⟩
  · simp only [evVal] at h1; cases h1
  · simp only [evMem] at h1
    cases hT : T t with
    | none => rw [hT] at h1; cases h1
    | some ti =>
      rw [hT] at h1
      cases hc : cellsA (ev E q) with
      | none => rw [hc] at h1; cases h1
      | some vs =>
        rw [hc] at h1
        simp only at h1
        cases hp : ev E p <;> rw [hp] at h1 <;> first | (exfalso; simp only [reduceCtorEq] at h1; done) | skip
        · rename_i b0 off
          dsimp only at h1
          cases hb : H b0 with
          | none => rw [hb] at h1; cases h1
          | some z =>
            rw [hb] at h1
            cases z <;> simp only [reduceCtorEq,Option.some.injEq,Prod.mk.injEq] at h1
            obtain ⟨_,_,rfl⟩ := h1
            simp only [List.mem_singleton,Prod.mk.injEq] at hx'
            obtain ⟨rfl,rfl⟩ := hx'
            exact ⟨_,hb,rfl⟩
        · rename_i b0 ver row off size
          dsimp only at h1
          cases hb : H b0 with
          | none => rw [hb] at h1; cases h1
          | some z =>
            rw [hb] at h1
            cases z <;> first | (exfalso; simp only [reduceCtorEq] at h1; done) | skip
            rename_i T0 s rows ver' f
            cases hf : frzCs H vs with
            | none => rw [hf] at h1; cases h1
            | some us =>
              rw [hf] at h1
              simp only [Option.some.injEq,Prod.mk.injEq] at h1
              obtain ⟨hok,_,rfl⟩ := h1
              subst hok
              rcases List.mem_append.1 hx' with hx' | hx'
              · exact frzEff_sh hx'
              · simp only [List.mem_singleton,Prod.mk.injEq] at hx'
                obtain ⟨rfl,rfl⟩ := hx'
                exact ⟨_,hb,by simp [shB,h2.2.2.1]⟩
  · simp [callOf] at h1
  · simp [callOf] at h1
theorem lenA_sh {H' : Heap} {pv : PV} (h : ∀ b ∈ deepB pv,(H' b).bind shB = (H b).bind shB) : lenA H' pv = lenA H pv := by
  cases pv <;> simp only [lenA]
  rename_i b ver
  have := h b (by simp [deepB])
  cases h1 : H' b with
  | none =>
    rw [h1] at this
    cases h2 : H b with
    | none => rfl
    | some y =>
      rw [h2] at this
      cases y <;> simp [shB] at this ⊢
  | some x =>
    rw [h1] at this
    cases h2 : H b with
    | none =>
      rw [h2] at this
      cases x <;> simp [shB] at this ⊢
    | some y =>
      rw [h2] at this
      cases x <;> cases y <;> simp [shB] at this ⊢
      rw [this.2.2.1,this.2.2.2]
theorem OpOK.lenEff {fresh : Nat} {op : Op} {pv : PV} {eff : List (Nat × Blk)} (h : OpOK P T E H fresh op pv eff) (hop : isLnO op = true) : isCallV op = false ∧ (∃ ok,evVal T E H op = some (ok,pv) ∧ ok) ∧ eff = [] := by
  unfold isLnO at hop
  split at hop
  · rename_i args ats
    rcases h with ⟨h0,ok,h1,h2,h3⟩ | ⟨_,_,_,ok,h1,h2⟩ | ⟨g,args,args',h1,_⟩ | ⟨g,args,h1,_⟩
    · exact ⟨h0,⟨ok,h1,h2⟩,h3⟩
    · simp [evMem] at h1
    · simp [callOf] at h1
    · simp [callOf] at h1
  · cases hop
theorem OpOK.lenCongr {H' : Heap} {E' : Env} {fresh : Nat} {op : Op} {pv : PV} {eff : List (Nat × Blk)} (h : OpOK P T E H fresh op pv eff) (hop : isLnO op = true) (hE : ∀ x ∈ op.operands.toList,ev E' x = ev E x) (hH : ∀ b ∈ rdOp E op,(H' b).bind shB = (H b).bind shB) : OpOK P T E' H' fresh op pv eff := by
  obtain ⟨h0,⟨ok,h1,h2⟩,h3⟩ := h.lenEff hop
  refine .inl ⟨h0,ok,?_,h2,h3⟩
  rw [← h1]
  unfold isLnO at hop
  split at hop
  · rename_i args ats
    have hargs : ∀ x ∈ args.toList,ev E' x = ev E x := fun x hx => hE x (by simp only [Op.operands,Call.operands,Array.toList_append]; exact List.mem_append_right _ hx)
    have hlen : ∀ x ∈ args.toList,lenA H' (ev E x) = lenA H (ev E x) := fun x hx => lenA_sh (fun b hb => hH b (by simp only [rdOp,rdA]; exact rdOps_mem hx hb))
    simp only [evVal,callA]
    generalize args.toList = l at hargs hlen
    match l,ats.toList with
    | [x],[t] => simp only [hargs x (by simp),hlen x (by simp)]
    | [],_ => rfl
    | [_],[] => rfl
    | [_],_ :: _ :: _ => rfl
    | _ :: _ :: _,_ => rfl
  · cases hop
theorem callOf_len {op : Op} {q : FuncId × List PV} (h : isLnO op = true) : callOf E op ≠ some q := by
  unfold isLnO at h
  split at h
  · simp [callOf]
  · cases h
theorem callOf_st {op : Op} {q : FuncId × List PV} (h : isStO op = true) : callOf E op ≠ some q := by
  cases op <;> simp [isStO] at h
  simp [callOf]
section
variable {W : Nat → Nat → Option Blk} {σ : Nat → Option Blk} {b : Nat}
theorem pref_shT : ∀ {n : Nat},(∀ j x,j < n → W j b = some x → ∃ y,pref W (fun _ => true) σ j b = some y ∧ shB x = shB y) → (pref W (fun _ => true) σ n b).bind shB = (σ b).bind shB
  | 0,_ => rfl
  | n + 1,h => by
    have ih := pref_shT (n := n) (fun j x hj hw => h j x (by omega) hw)
    simp only [pref,if_true]
    cases hw : W n b with
    | none => exact ih
    | some x =>
      obtain ⟨y,h1,h2⟩ := h n x (by omega) hw
      rw [h1] at ih
      rw [← ih]
      exact h2
theorem pref_shD {D : Nat → Bool} : ∀ {n : Nat},(∀ j x,j < n → W j b = some x → ∃ y,pref W (fun _ => true) σ j b = some y ∧ shB x = shB y) → (pref W D σ n b).bind shB = (σ b).bind shB
  | 0,_ => rfl
  | n + 1,h => by
    have ih := pref_shD (D := D) (n := n) (fun j x hj hw => h j x (by omega) hw)
    simp only [pref]
    cases hd : D n with
    | false => exact ih
    | true =>
      simp only [if_true]
      cases hw : W n b with
      | none => exact ih
      | some x =>
        obtain ⟨y,h1,h2⟩ := h n x (by omega) hw
        have := pref_shT (n := n) (fun j x hj hw => h j x (by omega) hw)
        rw [h1] at this
        rw [← this]
        exact h2
end
theorem draw_any (hT : TabOK P T) {ops : Array Oper} {nx0 m : Nat} {E0 : Env} {H0 : Heap} (hfin : FinH H0) {rs : List Rc} (hd : DrawOK P T ops n nx0 m E0 H0 rs) {Q : Exit → Act → World → Prop}
    (hQ : ∀ fuel (listed : Array Bool) β a w,listed.size = ops.size → listed.toList.count false = fuel → (∀ i,i < ops.size → listed.getD i false = decide (i < m)) → Closed ops (fun i => listed.getD i false) → (∀ i r,rs[i]? = some r → r.pan = true → listed.getD i false = false) → Sim C n (pref (fun i => WE ((ops[i]?).bind (·.dst)) ((rs[i]?.map (·.pv)).getD .any)) (fun _ => true) E0 m) (pref (fun i => WH ((rs[i]?.map (·.eff)).getD [])) (fun _ => true) H0 m) β a w → wpAny P .any ops Q fuel listed a w)
    (hpan : ∀ (listed : Array Bool) (β' : Ref) (a : Act) (w' : World) (i : Nat) (r : Rc) (v : Value),rs[i]? = some r → r.pan = true → listed.getD i false = false → (∀ j,before ops i j = true → j < ops.size → listed.getD j false = false) → Sim C n (pref (fun i => WE ((ops[i]?).bind (·.dst)) ((rs[i]?.map (·.pv)).getD .any)) (fun i => listed.getD i false) E0 m) (applyEff (pref (fun i => WH ((rs[i]?.map (·.eff)).getD [])) (fun i => listed.getD i false) H0 m) r.eff) β' a w' → Rep (NN C (applyEff (pref (fun i => WH ((rs[i]?.map (·.eff)).getD [])) (fun i => listed.getD i false) H0 m) r.eff) β') w' β' r.pv v → Q (.panic [{ v,recovered := false }]) a w') :
    ∀ (fuel : Nat) (listed : Array Bool) (β : Ref) (a : Act) (w : World),listed.size = ops.size → listed.toList.count false = fuel → (∀ k,m ≤ k → listed.getD k false = false) → (∀ i r,rs[i]? = some r → r.pan = true → listed.getD i false = false) → Closed ops (fun i => listed.getD i false) →
      Sim C n (pref (fun i => WE ((ops[i]?).bind (·.dst)) ((rs[i]?.map (·.pv)).getD .any)) (fun i => listed.getD i false) E0 m) (pref (fun i => WH ((rs[i]?.map (·.eff)).getD [])) (fun i => listed.getD i false) H0 m) β a w →
      wpAny P .any ops Q fuel listed a w := by
  have hfull : ∀ (listed : Array Bool),(∀ i,i < m → listed.getD i false = true) → ∀ {V : Type} (W : Nat → Nat → Option V) (σ : Nat → Option V),pref W (fun i => listed.getD i false) σ m = pref W (fun _ => true) σ m := by
    intro listed hall V W σ
    funext t
    have := pref_agree (W := W) (D := fun i => listed.getD i false) (σ := σ) (t := t) (i := m) (n := m) (fun j hj _ => ⟨fun _ => hj,fun _ => hall j hj⟩)
    simpa using this
  have hmn := hd.hm
  have hdone : ∀ (listed : Array Bool),listed.size = ops.size → Region.ready .any ops listed = [] → ∀ i,i < ops.size → listed.getD i false = true := by
    intro listed hsz hr i
    induction i using Nat.strongRecOn with
    | _ i ih =>
      intro hi
      cases hl : listed.getD i false with
      | true => rfl
      | false =>
        exfalso
        have ho : ops[i]? = some ops[i] := Array.getElem?_eq_getElem hi
        have : i ∈ Region.ready .any ops listed := by
          unfold Region.ready
          rw [List.mem_filter]
          refine ⟨by simp [hi],?_⟩
          have hl' : listed.getD i true = false := by
            have hlt : i < listed.size := by omega
            simp [Array.getD,hlt] at hl ⊢
            exact hl
          rw [hl',ho]
          simp only [Bool.not_false,Bool.true_and,Option.map_some,Option.getD_some,Array.all_eq_true']
          intro e he
          cases hb : Region.binds .any e with
          | false => rfl
          | true =>
            have hlt := slotsOK_edges hd.slots ho he hb
            simp [ih e.on hlt (by omega)]
        rw [hr] at this
        cases this
  intro fuel
  induction fuel with
  | zero =>
    intro listed β a w hsz hc hno hnp hcl hs
    have hall : ∀ i,i < ops.size → listed.getD i false = true := by
      intro i hi
      cases hl : listed.getD i false with
      | true => rfl
      | false =>
        exfalso
        have hlt : i < listed.size := by omega
        have hm : false ∈ listed.toList := by
          simp [Array.getD,hlt] at hl
          rw [← hl]
          simp
        have := List.count_pos_iff.2 hm
        omega
    refine hQ 0 listed β a w hsz hc (fun i hi => ?_) hcl hnp (by rw [hfull listed (fun i hi => hall i (by omega)),hfull listed (fun i hi => hall i (by omega))] at hs; exact hs)
    rw [hall i hi]
    by_cases him : i < m
    · simp [him]
    · have := hno i (by omega)
      rw [hall i hi] at this
      cases this
  | succ fuel ih =>
    intro listed β a w hsz hc hno hnp hcl hs
    by_cases hpre0 : ∀ i,i < m → listed.getD i false = true
    · refine hQ _ listed β a w hsz hc (fun i hi => ?_) hcl hnp (by rw [hfull listed hpre0,hfull listed hpre0] at hs; exact hs)
      by_cases him : i < m
      · rw [hpre0 i him]; simp [him]
      · rw [hno i (by omega)]; simp [him]
    have hex : ∃ i0,i0 < m ∧ listed.getD i0 false = false := by
      apply Classical.byContradiction
      intro hne
      refine hpre0 fun i hi => ?_
      cases hl : listed.getD i false with
      | true => rfl
      | false => exact absurd ⟨i,hi,hl⟩ hne
    obtain ⟨i0,hi0,hl0⟩ := hex
    refine ⟨fun hr => ?_,fun i hi => ?_⟩
    · have := hdone listed hsz hr i0 (by omega)
      rw [hl0] at this
      cases this
    · unfold Region.ready at hi
      rw [List.mem_filter] at hi
      obtain ⟨h1,h2⟩ := hi
      have hin : i < ops.size := by simpa using h1
      have hlt : i < listed.size := by omega
      have ho : ops[i]? = some ops[i] := Array.getElem?_eq_getElem hin
      simp only [ho,Option.map_some,Option.getD_some,Bool.and_eq_true,Array.all_eq_true'] at h2
      have hDi : listed.getD i false = false := by
        have := h2.1
        simp [Array.getD,hlt] at this ⊢
        exact this
      have hpre : ∀ e ∈ ops[i].after,Region.binds .any e = true → listed.getD e.on false = true := by
        intro e he hb
        have := h2.2 e he
        simpa [hb] using this
      have him : i < m := by
        apply Classical.byContradiction
        intro hge
        rcases hd.tail i (by omega) hin with ht | ⟨p,r,hp,hpn,hb⟩
        · have := before_closed hcl (ht i0 (by omega)) ho hpre
          rw [hl0] at this
          cases this
        · have := before_closed hcl hb ho hpre
          rw [hnp p r hp hpn] at this
          cases this
      have hri : ∃ r,rs[i]? = some r := ⟨_,yBh (by rw [hd.len]; exact him)⟩
      obtain ⟨r,hr⟩ := hri
      have hrc := hd.rc i _ r ho hr
      have hbef : ∀ j,before ops j i = true → listed.getD j false = true := fun j hj => before_closed hcl hj ho hpre
      have haft : ∀ j,before ops i j = true → j < ops.size → listed.getD j false = false := by
        intro j hj hjn
        cases hl : listed.getD j false with
        | false => rfl
        | true =>
          have hoj : ops[j]? = some ops[j] := Array.getElem?_eq_getElem hjn
          have := before_closed hcl hj hoj (hcl j _ hoj hl)
          rw [hDi] at this
          cases this
      have rget : ∀ j,j < m → ∃ q,rs[j]? = some q := fun j hj => ⟨_,yBh (by rw [hd.len]; exact hj)⟩
      have hEa : ∀ t ∈ ops[i].looksAt ops,pref (fun i => WE ((ops[i]?).bind (·.dst)) ((rs[i]?.map (·.pv)).getD .any)) (fun i => listed.getD i false) E0 m t = pref (fun i => WE ((ops[i]?).bind (·.dst)) ((rs[i]?.map (·.pv)).getD .any)) (fun _ => true) E0 i t := by
        intro t ht
        rw [pref_agree (i := i) (n := m) (fun j hj hw => ?_)]
        · rw [Nat.min_eq_right (by omega)]
        · have hoj : ops[j]? = some ops[j] := Array.getElem?_eq_getElem (show j < ops.size by omega)
          have hdj : ops[j].dst = some t := by
            simp only [WE,hoj,Option.bind_some] at hw
            split at hw
            · assumption
            · simp at hw
          rcases Nat.lt_trichotomy j i with hji | rfl | hji
          · refine ⟨fun _ => hji,fun _ => ?_⟩
            rcases slotsOK_pair hd.slots hji ho hoj with hap | hb
            · exact absurd ht ((Oper.apart_spec hap).1 t hdj)
            · exact hbef j hb
          · exact ⟨fun h => (by rw [hDi] at h; cases h),fun h => by omega⟩
          · refine ⟨fun h => ?_,fun h => by omega⟩
            rcases slotsOK_pair hd.slots hji hoj ho with hap | hb
            · exact absurd ht ((Oper.apart_spec hap).2.2 t hdj)
            · rw [haft j hb (by omega)] at h; cases h
      have hFr0 : ∀ j q,rs[j]? = some q → FrR ops rs j q → q.eff = [] := by
        intro j q hq hf
        have hjm : j < m := by rw [← hd.len]; exact (List.getElem?_eq_some_iff.1 hq).1
        have hoj : ops[j]? = some ops[j] := Array.getElem?_eq_getElem (show j < ops.size by omega)
        have hcj := hd.rc j _ q hoj hq
        have hln : isLnO ops[j].op = true := by have := hf.1; unfold isLn at this; rw [hoj] at this; exact this
        cases hqr : q.run with
        | false => exact (hcj.skip hqr).2
        | true =>
          cases hqp : q.pan with
          | false => exact ((hcj.op hqr hqp).1.lenEff hln).2.2
          | true =>
            obtain ⟨_,g,args,g1,_⟩ := hcj.pn hqp
            exact absurd g1 (callOf_len hln)
      have hHa : r.run = true → ¬ FrR ops rs i r → ∀ b ∈ r.rd,pref (fun i => WH ((rs[i]?.map (·.eff)).getD [])) (fun i => listed.getD i false) H0 m b = pref (fun i => WH ((rs[i]?.map (·.eff)).getD [])) (fun _ => true) H0 i b := by
        intro hrun hnf b hb
        rw [pref_agree (i := i) (n := m) (fun j hj hw => ?_)]
        · rw [Nat.min_eq_right (by omega)]
        · obtain ⟨q,hq⟩ := rget j hj
          simp only [hq,Option.map_some,Option.getD_some] at hw
          have hbq := WH_mem hw
          rcases Nat.lt_trichotomy j i with hji | rfl | hji
          · refine ⟨fun _ => hji,fun _ => ?_⟩
            cases hbo : before ops j i with
            | true => exact hbef j hbo
            | false =>
              rcases hd.pair j i q r hji hq hr with hp | hp | hp
              · exact absurd hb ((okPair_spec hp hbo).1 b hbq).1
              · rw [hFr0 j q hq hp] at hbq; cases hbq
              · exact absurd hp hnf
          · exact ⟨fun h => (by rw [hDi] at h; cases h),fun h => by omega⟩
          · refine ⟨fun h => ?_,fun h => by omega⟩
            cases hbo : before ops i j with
            | true => rw [haft j hbo (by omega)] at h; cases h
            | false =>
              rcases hd.pair i j r q hji hr hq with hp | hp | hp
              · exact absurd hbq ((okPair_spec hp hbo).2 b hb)
              · exact absurd hp hnf
              · rw [hFr0 j q hq hp] at hbq; cases hbq
      have hD' : ∀ k,(listed.setIfInBounds i true).getD k false = (k == i || listed.getD k false) := by
        intro k
        simp only [Array.getD_eq_getD_getElem?,Array.getElem?_setIfInBounds]
        by_cases hk : i = k
        · subst hk; simp [hlt]
        · have : (k == i) = false := by simp; omega
          simp [hk,this]
      have hEadd : ∀ {β' a' w'} {H' : Heap},Sim C n (updO (pref (fun i => WE ((ops[i]?).bind (·.dst)) ((rs[i]?.map (·.pv)).getD .any)) (fun i => listed.getD i false) E0 m) ops[i].dst r.pv) H' β' a' w' →
          Sim C n (pref (fun i => WE ((ops[i]?).bind (·.dst)) ((rs[i]?.map (·.pv)).getD .any)) (fun k => (listed.setIfInBounds i true).getD k false) E0 m) H' β' a' w' := by
        intro β' a' w' H' h
        have : pref (fun i => WE ((ops[i]?).bind (·.dst)) ((rs[i]?.map (·.pv)).getD .any)) (fun k => (listed.setIfInBounds i true).getD k false) E0 m = updO (pref (fun i => WE ((ops[i]?).bind (·.dst)) ((rs[i]?.map (·.pv)).getD .any)) (fun i => listed.getD i false) E0 m) ops[i].dst r.pv := by
          funext t
          rw [pref_add (i := i) hDi hD' (fun j hij hj hl t hw => ?_),if_pos him,updO_eq]
          · simp only [ho,Option.bind_some,hr,Option.map_some,Option.getD_some]
            cases WE ops[i].dst r.pv t <;> rfl
          · have hoj : ops[j]? = some ops[j] := Array.getElem?_eq_getElem (show j < ops.size by omega)
            simp only [WE,ho,Option.bind_some] at hw
            simp only [WE,hoj,Option.bind_some]
            split at hw
            · rename_i hdi
              rcases slotsOK_pair hd.slots hij hoj ho with hap | hb
              · rw [if_neg ((Oper.apart_spec hap).2.1 t hdi)]
              · rw [haft j hb (by omega)] at hl; cases hl
            · simp at hw
        rw [this]
        exact h
      have hHadd : pref (fun i => WH ((rs[i]?.map (·.eff)).getD [])) (fun k => (listed.setIfInBounds i true).getD k false) H0 m = applyEff (pref (fun i => WH ((rs[i]?.map (·.eff)).getD [])) (fun i => listed.getD i false) H0 m) r.eff := by
        funext b
        rw [pref_add (i := i) hDi hD' (fun j hij hj hl t hw => ?_),if_pos him,applyEff_eq]
        · simp only [hr,Option.map_some,Option.getD_some]
          cases WH r.eff b <;> rfl
        · obtain ⟨q,hq⟩ := rget j hj
          simp only [hr,Option.map_some,Option.getD_some] at hw
          have hbw := WH_mem hw
          simp only [hq,Option.map_some,Option.getD_some]
          cases hwj : WH q.eff t with
          | none => rfl
          | some y =>
            exfalso
            have hbq := WH_mem (l := q.eff) (b := t) (by simp [hwj])
            cases hbo : before ops i j with
            | true => rw [haft j hbo (by omega)] at hl; cases hl
            | false =>
              rcases hd.pair i j r q hij hr hq with hp | hp | hp
              · exact ((okPair_spec hp hbo).1 t hbw).2 hbq
              · rw [hFr0 i r hr hp] at hbw; cases hbw
              · rw [hFr0 j q hq hp] at hbq; cases hbq
      have hno' : ∀ k,m ≤ k → (listed.setIfInBounds i true).getD k false = false := by
        intro k hk
        rw [hD']
        have : (k == i) = false := by simp; omega
        rw [this,hno k hk]
        rfl
      have hcl' : Closed ops (fun k => (listed.setIfInBounds i true).getD k false) := by
        intro k o hk hl e he hb
        simp only [hD',Bool.or_eq_true,beq_iff_eq] at hl ⊢
        rcases hl with rfl | hl
        · rw [ho] at hk
          cases hk
          exact .inr (hpre e he hb)
        · exact .inr (hcl k o hk hl e he hb)
      have hcnt : (listed.setIfInBounds i true).toList.count false = fuel := by
        rw [Array.toList_setIfInBounds,List.count_set (by simpa using hlt)]
        have : listed.toList[i]'(by simpa using hlt) = false := by
          simp [Array.getD,hlt] at hDi
          simpa using hDi
        have hc' : Array.count false listed = fuel + 1 := by simpa using hc
        simp [this]
        omega
      have hwant : Region.wanted ops[i] (yielded ops a.tmps) = r.run := by
        refine wantedF (E := pref (fun i => WE ((ops[i]?).bind (·.dst)) ((rs[i]?.map (·.pv)).getD .any)) (fun i => listed.getD i false) E0 m) ?_ hs
        rw [wantF_congr hEa]
        exact hrc.want
      unfold wpOp
      rw [ho]
      simp only
      cases hpn : r.pan with
      | true =>
        obtain ⟨hrun,g,args,g1,g2,g3⟩ := hrc.pn hpn
        rw [hwant,hrun,if_pos rfl]
        have hnf : ¬ FrR ops rs i r := fun hf => absurd g1 (callOf_len (by have := hf.1; unfold isLn at this; rw [ho] at this; exact this))
        have g2' := g2.congr (fun b hb => hHa hrun hnf b (g3 b hb))
        exact .inl (g2'.wp (by rw [callOf_congr (ev_congr hEa)]; exact g1) (fin_pref hfin m) hs (fun β' w' v h1 h2 => hpan listed β' a w' i r v hr hpn hDi haft h1 h2))
      | false =>
      have hnp' : ∀ j q,rs[j]? = some q → q.pan = true → (listed.setIfInBounds i true).getD j false = false := by
        intro j q hq hqp
        rw [hD',hnp j q hq hqp]
        by_cases hji : j = i
        · subst hji; rw [hr] at hq; cases hq; rw [hpn] at hqp; cases hqp
        · simp [hji]
      cases hrun : r.run with
      | true =>
        rw [hwant,hrun,if_pos rfl]
        obtain ⟨q1,q2,q3⟩ := hrc.op hrun hpn
        have hop : OpOK P T (pref (fun i => WE ((ops[i]?).bind (·.dst)) ((rs[i]?.map (·.pv)).getD .any)) (fun i => listed.getD i false) E0 m) (pref (fun i => WH ((rs[i]?.map (·.eff)).getD [])) (fun i => listed.getD i false) H0 m) (nx0 + i) ops[i].op r.pv r.eff := by
          by_cases hf : FrR ops rs i r
          · refine q1.lenCongr (by have := hf.1; unfold isLn at this; rw [ho] at this; exact this) (ev_congr hEa) (fun b hb => ?_)
            have hsoft : ∀ j x,j < m → WH ((rs[j]?.map (·.eff)).getD []) b = some x → ∃ y,pref (fun i => WH ((rs[i]?.map (·.eff)).getD [])) (fun _ => true) H0 j b = some y ∧ shB x = shB y := by
              intro j x hj hx
              obtain ⟨q,hq⟩ := rget j hj
              have hoj : ops[j]? = some ops[j] := Array.getElem?_eq_getElem (show j < ops.size by omega)
              simp only [hq,Option.map_some,Option.getD_some] at hx
              have hcj := hd.rc j _ q hoj hq
              rcases hf.2 j q hq with hst | hno
              · have hst' : isStO ops[j].op = true := by unfold isSt at hst; rw [hoj] at hst; exact hst
                cases hqr : q.run with
                | false => rw [(hcj.skip hqr).2] at hx; cases hx
                | true =>
                  cases hqp : q.pan with
                  | false => exact (hcj.op hqr hqp).1.soft hst' hx
                  | true =>
                    obtain ⟨_,g,args,g1,_⟩ := hcj.pn hqp
                    exact absurd g1 (callOf_st hst')
              · exact absurd (WH_mem (l := q.eff) (b := b) (by simp [hx])) (hno b (q2 b hb))
            rw [pref_shD hsoft,pref_shT (fun j x hj hw => hsoft j x (by omega) hw)]
          · exact q1.congr (ev_congr hEa) (fun b hb => hHa hrun hf b (q2 b hb)) (fun h3 h4 => hHa hrun hf _ (q3 h3 h4))
        refine .inl (Oper.wp_mono ?_ (hop.wp hT (fin_pref hfin m) hrc.dst hs))
        rintro a' w' ⟨β',hs'⟩
        exact ih _ β' a' w' (by simpa using hsz) hcnt hno' hnp' hcl' (hEadd (by rw [hHadd]; exact hs'))
      | false =>
        rw [hwant,hrun,if_neg (by simp)]
        obtain ⟨q1,q2⟩ := hrc.skip hrun
        refine ih _ β _ w (by simpa using hsz) hcnt hno' hnp' hcl' (hEadd ?_)
        rw [hHadd,q1,q2]
        exact hs.putO hrc.dst (.i (.lit undef))
end
end Go.Pe
namespace Go.Pe
open Go.RowKit
abbrev Log := List (Nat × List Nat × List Nat)
def apartB (rd wr rd' wr' : List Nat) : Bool := wr.all (fun b => !rd'.contains b && !wr'.contains b) && rd.all (fun b => !wr'.contains b)
def freeB (ops : Array Oper) (log : Log) (i : Nat) (rd : List Nat) : Bool := isLn ops i && log.all fun e => isSt ops e.1 || rd.all fun b => !e.2.2.contains b
def logOK (n : Nat) (ms : List Nat) (fr : Nat → List Nat → Bool) (i : Nat) (rd wr : List Nat) : Log → Bool
  | [] => true
  | e :: l => (bef n ms e.1 i || apartB e.2.1 e.2.2 rd wr || fr i rd || fr e.1 e.2.1) && logOK n ms fr i rd wr l
def logsOKm (n : Nat) (ms : List Nat) (fr : Nat → List Nat → Bool) : Log → Bool
  | [] => true
  | e :: l => logOK n ms fr e.1 e.2.1 e.2.2 l && logsOKm n ms fr l
def logsOK (ops : Array Oper) (log : Log) : Bool := withMasks ops fun ms => logsOKm ops.size ms (freeB ops log) log
def tailB (ops : Array Oper) (m : Nat) : Bool := withMasks ops fun ms => (List.range ops.size).all fun k => decide (k < m) || (List.range k).all fun j => bef ops.size ms j k
def memD (T : Tab) (E : Env) (H : Heap) (fresh : Nat) (op : Op) (k : PV → List (Nat × Blk) → List Nat → Prop) : Option (Prop × PV × List (Nat × Blk)) → Prop
  | some (ok,pv,eff) => H fresh = none ∧ ok ∧ k pv eff (fresh :: rdA E op)
  | none => False
def valD (T : Tab) (E : Env) (H : Heap) (fresh : Nat) (op : Op) (k : PV → List (Nat × Blk) → List Nat → Prop) : Option (Prop × PV) → Prop
  | some (ok,pv) => ok ∧ k pv [] (rdA E op)
  | none => memD T E H fresh op k (evMem T fresh E H op)
def pureD (P : Program) (H : Heap) (k : PV → List (Nat × Blk) → List Nat → Prop) : Option (FuncId × List PV) → Prop
  | some (g,args) => ∃ args' pv,(PureCalls P g args' pv ∧ FrzRL H args args') ∧ k pv (if noSl pv then [] else frzDL H args) (deepL args)
  | none => False
def effD (P : Program) (H : Heap) (k : PV → List (Nat × Blk) → List Nat → Prop) : Option (FuncId × List PV) → Prop
  | some (g,args) => ∃ pv eff,EffCalls P g args H pv eff ∧ k pv eff (footL args)
  | none => False
def callD (P : Program) (H : Heap) (alt : Prop) (k : PV → List (Nat × Blk) → List Nat → Prop) (c : Option (FuncId × List PV)) : Prop := pureD P H k c ∨ effD P H k c ∨ alt
def stepD (P : Program) (T : Tab) (E : Env) (H : Heap) (fresh : Nat) (op : Op) (alt : Prop) (k : PV → List (Nat × Blk) → List Nat → Prop) : Prop :=
  match isCallV op with
  | true => callD P H alt k (callOf E op)
  | false => valD T E H fresh op k (evVal T E H op)
def tailP (ops : Array Oper) (i : Nat) : Bool := withMasks ops fun ms => (List.range ops.size).all fun k => decide (k ≤ i) || bef ops.size ms i k
def PanW (ops : Array Oper) (st : St) (log : Log) (eff : List (Nat × Blk)) (pv : PV) (s : St) : Prop :=
  ((s.n = st.n ∧ s.bs = st.bs) ∧ (∀ x ∈ st.hp,x.1 < st.bs → (lk x.1 s.hp).isSome = true) ∧ (∀ x ∈ eff,x.1 < st.bs → (lk x.1 s.hp).isSome = true)) ∧
  (∀ x ∈ s.env,lk x.1 st.env = lk x.1 s.env ∧ ops.toList.all (fun o => o.dst != some x.1) = true ∧ refsIn (fun b => (lk b s.hp).isSome) x.2 = true) ∧
  (∀ x ∈ s.hp,lk x.1 (addL eff st.hp) = lk x.1 s.hp ∧ (∀ e ∈ log,x.1 ∉ e.2.2) ∧ x.2.refsIn (fun b => (lk b s.hp).isSome) = true) ∧ refsIn (fun b => (lk b s.hp).isSome) pv = true
def panP (P : Program) (ops : Array Oper) (i : Nat) (o : Oper) (log : Log) (st : St) (K : Cont) : Prop :=
  ∃ g args pv eff s,callOf st.E o.op = some (g,args) ∧ PanCalls P g args st.H pv eff ∧ tailP ops i = true ∧ logsOK ops ((i,footL args,eff.map (·.1)) :: log) = true ∧ PanW ops st log eff pv s ∧ K (.panic pv) s
def drawGo (P : Program) (T : Tab) (ops : Array Oper) : Nat → List Oper → Log → St → Cont → Prop
  | _,[],log,st,K => logsOK ops log = true ∧ K .normal st
  | i,o :: os,log,st,K => dstOK o.dst st.n ∧ match wantA ops.toList st o with
    | some b => (b = true → stepD P T st.E st.H st.nx o.op ((tailB ops i = true ∧ logsOK ops log = true ∧ stepA P T o st (restO K fun st' => wpOpsA P T ops.toList os st' K)) ∨ panP P ops i o log st K)
          (fun pv eff rd => drawGo P T ops (i + 1) os ((i,rd,eff.map (·.1)) :: log) ⟨st.n,putL o.dst pv st.env,addL eff st.hp,st.nx + 1,st.bs⟩ K)) ∧
        (b = false → drawGo P T ops (i + 1) os log ⟨st.n,putL o.dst (.lit (.tuple #[])) st.env,st.hp,st.nx + 1,st.bs⟩ K)
    | none => False
def drawA (P : Program) (T : Tab) (ops : Array Oper) (st : St) (K : Cont) : Prop := drawGo P T ops 0 ops.toList [] st K
section
variable {P : Program} {T : Tab}
theorem FrzRL_ptrs {H : Heap} : ∀ {l q : List PV},FrzRL H l q → ptrsOf l = []
  | [],_,_ => rfl
  | x :: l,q,h => by
    simp only [FrzRL] at h
    obtain ⟨y,m,_,h2,h3⟩ := h
    have := FrzRL_ptrs h3
    cases x <;> first | (simp only [ptrsOf]; exact this) | (simp [FrzR] at h2)
theorem stepD_spec {E : Env} {H : Heap} {fresh : Nat} {op : Op} {alt : Prop} {k : PV → List (Nat × Blk) → List Nat → Prop} (h : stepD P T E H fresh op alt k) :
    (∃ pv eff rd,k pv eff rd ∧ OpOK P T E H fresh op pv eff ∧ (∀ b ∈ rdOp E op,b ∈ rd) ∧ (isCallV op = false → evVal T E H op = none → fresh ∈ rd)) ∨ alt := by
  unfold stepD at h
  cases hc : isCallV op with
  | true =>
    rw [hc] at h
    simp only at h
    rcases h with h | h | h
    case inr.inr => exact .inr h
    case inr.inl =>
      left
      generalize hco : callOf E op = q at h
      cases q with
      | none => exact h.elim
      | some q =>
        obtain ⟨g,args⟩ := q
        obtain ⟨pv,eff,h1,h2⟩ := h
        refine ⟨pv,_,_,h2,.inr (.inr (.inr ⟨g,args,hco,h1⟩)),fun b hb => ?_,fun h => by cases h⟩
        unfold callOf at hco
        split at hco
        · simp only [rdOp,hco] at hb
          exact hb
        · cases hco
    left
    generalize hco : callOf E op = q at h
    cases q with
    | none => exact h.elim
    | some q =>
      obtain ⟨g,args⟩ := q
      obtain ⟨args',pv,⟨h1,h2⟩,h3⟩ := h
      refine ⟨pv,_,_,h3,.inr (.inr (.inl ⟨g,args,args',hco,h1,h2,rfl⟩)),fun b hb => ?_,fun h => by cases h⟩
      unfold callOf at hco
      split at hco
      · simp only [rdOp,hco,footL,FrzRL_ptrs h2,List.append_nil] at hb
        exact hb
      · cases hco
  | false =>
    left
    rw [hc] at h
    simp only at h
    have hrd : rdOp E op = rdA E op := by
      unfold rdOp
      split
      · simp [isCallV] at hc
      · rfl
    cases hv : evVal T E H op with
    | some q =>
      obtain ⟨ok,pv⟩ := q
      rw [hv] at h
      exact ⟨pv,[],_,h.2,.inl ⟨hc,ok,hv,h.1,rfl⟩,fun b hb => by rw [hrd] at hb; exact hb,fun _ h => by cases h⟩
    | none =>
      rw [hv] at h
      simp only [valD] at h
      cases hm : evMem T fresh E H op with
      | none => rw [hm] at h; exact h.elim
      | some q =>
        obtain ⟨ok,pv,eff⟩ := q
        rw [hm] at h
        exact ⟨pv,eff,_,h.2.2,.inr (.inl ⟨hc,hv,h.1,ok,hm,h.2.1⟩),fun b hb => by rw [hrd] at hb; exact List.mem_cons_of_mem _ hb,fun _ _ => List.mem_cons_self⟩
theorem pref_ext {V : Type} {W W' : Nat → Nat → Option V} {D : Nat → Bool} {σ : Nat → Option V} : ∀ {n : Nat},(∀ j,j < n → W j = W' j) → pref W D σ n = pref W' D σ n
  | 0,_ => rfl
  | n + 1,h => by
    simp only [pref]
    rw [pref_ext (fun j hj => h j (by omega)),h n (by omega)]
theorem pref_none {V : Type} {W : Nat → Nat → Option V} {D : Nat → Bool} {σ : Nat → Option V} (h : ∀ j,D j = false) : ∀ {n : Nat},pref W D σ n = σ
  | 0 => rfl
  | n + 1 => by
    simp only [pref,h,Bool.false_eq_true,if_false]
    exact pref_none h
def WEr (ops : Array Oper) (rs : List Rc) : Nat → Nat → Option PV := fun i => WE ((ops[i]?).bind (·.dst)) ((rs[i]?.map (·.pv)).getD .any)
def WHr (rs : List Rc) : Nat → Nat → Option Blk := fun i => WH ((rs[i]?.map (·.eff)).getD [])
structure DInv (P : Program) (T : Tab) (ops : Array Oper) (n nx0 : Nat) (E0 : Env) (H0 : Heap) (rs : List Rc) (st : St) (log : Log) : Prop where
  sn : st.n = n
  snx : st.nx = nx0 + rs.length
  envE : pref (WEr ops rs) (fun _ => true) E0 rs.length = st.E
  heapE : pref (WHr rs) (fun _ => true) H0 rs.length = st.H
  rc : ∀ i o r,ops[i]? = some o → rs[i]? = some r → RcOK P T ops n (pref (WEr ops rs) (fun _ => true) E0 i) (pref (WHr rs) (fun _ => true) H0 i) (nx0 + i) o r
  lg : ∀ j r,rs[j]? = some r → (j,r.rd,r.eff.map (·.1)) ∈ log ∨ (r.rd = [] ∧ r.eff = [])
  sorted : log.Pairwise (fun e e' => e'.1 < e.1)
  lt : ∀ e ∈ log,e.1 < rs.length
theorem logOK_mem {ops : Array Oper} {fr : Nat → List Nat → Bool} {i : Nat} {rd wr : List Nat} : ∀ {log : Log},logOK ops.size (masks ops) fr i rd wr log = true → ∀ e ∈ log,okPair ops e.1 e.2.1 e.2.2 i rd wr ∨ fr e.1 e.2.1 = true ∨ fr i rd = true
  | [],_,_,h => by simp at h
  | x :: l,h,e,he => by
    simp only [logOK,Bool.and_eq_true,Bool.or_eq_true] at h
    rcases List.mem_cons.1 he with rfl | he
    · rcases h.1 with ((h | h) | h) | h
      · exact .inl (.inr h)
      · exact .inl (.inl h)
      · exact .inr (.inr h)
      · exact .inr (.inl h)
    · exact logOK_mem h.2 e he
theorem logsOK_mem {ops : Array Oper} {fr : Nat → List Nat → Bool} : ∀ {log : Log},logsOKm ops.size (masks ops) fr log = true → log.Pairwise (fun e e' => e'.1 < e.1) → ∀ e ∈ log,∀ e' ∈ log,e'.1 < e.1 → okPair ops e'.1 e'.2.1 e'.2.2 e.1 e.2.1 e.2.2 ∨ fr e'.1 e'.2.1 = true ∨ fr e.1 e.2.1 = true
  | [],_,_,_,h,_,_,_ => by simp at h
  | x :: l,h,hp,e,he,e',he',hlt => by
    simp only [logsOKm,Bool.and_eq_true] at h
    have hx := List.pairwise_cons.1 hp
    rcases List.mem_cons.1 he with rfl | he
    · rcases List.mem_cons.1 he' with rfl | he'
      · omega
      · exact logOK_mem h.1 e' he'
    · rcases List.mem_cons.1 he' with heq | he'
      · have := hx.1 e he; rw [heq] at hlt; omega
      · exact logsOK_mem h.2 hx.2 e he e' he' hlt
theorem okPair_nilL {ops : Array Oper} {j i : Nat} {rd wr : List Nat} : okPair ops j [] [] i rd wr := .inl (by simp)
theorem okPair_nilR {ops : Array Oper} {j i : Nat} {rd wr : List Nat} : okPair ops j rd wr i [] [] := .inl (by simp)
theorem DInv.step {ops : Array Oper} {n nx0 : Nat} {E0 : Env} {H0 : Heap} {rs : List Rc} {st : St} {log log' : Log} (h : DInv P T ops n nx0 E0 H0 rs st log) {o : Oper} (ho : ops[rs.length]? = some o) {r : Rc}
    (hr : RcOK P T ops n st.E st.H st.nx o r) (hl : log' = (rs.length,r.rd,r.eff.map (·.1)) :: log ∨ (log' = log ∧ r.rd = [] ∧ r.eff = [])) :
    DInv P T ops n nx0 E0 H0 (rs ++ [r]) ⟨st.n,putL o.dst r.pv st.env,addL r.eff st.hp,st.nx + 1,st.bs⟩ log' := by
  have hlog : ∀ e ∈ log,e ∈ log' := by
    rcases hl with rfl | ⟨rfl,_,_⟩
    · exact fun e he => List.mem_cons_of_mem _ he
    · exact fun e he => he
  have get : ∀ j,j < rs.length → (rs ++ [r])[j]? = rs[j]? := fun j hj => List.getElem?_append_left hj
  have last : (rs ++ [r])[rs.length]? = some r := by simp
  have hE : ∀ m,m ≤ rs.length → pref (WEr ops (rs ++ [r])) (fun _ => true) E0 m = pref (WEr ops rs) (fun _ => true) E0 m := fun m hm => pref_ext fun j hj => by simp only [WEr,get j (by omega)]
  have hH : ∀ m,m ≤ rs.length → pref (WHr (rs ++ [r])) (fun _ => true) H0 m = pref (WHr rs) (fun _ => true) H0 m := fun m hm => pref_ext fun j hj => by simp only [WHr,get j (by omega)]
  have cases' : ∀ {j q},(rs ++ [r])[j]? = some q → (j < rs.length ∧ rs[j]? = some q) ∨ (j = rs.length ∧ q = r) := by
    intro j q hq
    by_cases hj : j < rs.length
    · rw [get j hj] at hq; exact .inl ⟨hj,hq⟩
    · have hlt := (List.getElem?_eq_some_iff.1 hq).1
      simp at hlt
      have : j = rs.length := by omega
      subst this
      rw [last] at hq
      cases hq
      exact .inr ⟨rfl,rfl⟩
  refine ⟨h.sn,by simp [h.snx]; omega,?_,?_,?_,?_,?_,?_⟩
  · rw [show (rs ++ [r]).length = rs.length + 1 by simp]
    simp only [pref,if_true]
    rw [hE _ (Nat.le_refl _),h.envE]
    funext t
    have := updO_eq st.E o.dst r.pv t
    simp only [WEr,ho,last,Option.bind_some,Option.map_some,Option.getD_some]
    refine Eq.trans ?_ (this.symm.trans ?_)
    · cases WE o.dst r.pv t <;> rfl
    · cases o.dst <;> rfl
  · rw [show (rs ++ [r]).length = rs.length + 1 by simp]
    simp only [pref,if_true]
    rw [hH _ (Nat.le_refl _),h.heapE]
    show _ = hpF (addL r.eff st.hp)
    rw [hpF_addL]
    funext b
    rw [applyEff_eq]
    simp only [WHr,last,Option.map_some,Option.getD_some]
    cases WH r.eff b <;> rfl
  · intro i o' q ho' hq
    rcases cases' hq with ⟨hi,hq⟩ | ⟨rfl,rfl⟩
    · rw [hE i (by omega),hH i (by omega)]
      exact h.rc i o' q ho' hq
    · rw [hE _ (Nat.le_refl _),hH _ (Nat.le_refl _),h.envE,h.heapE,← h.snx]
      rw [ho] at ho'
      cases ho'
      exact hr
  · intro j q hq
    rcases cases' hq with ⟨hj,hq⟩ | ⟨rfl,rfl⟩
    · exact (h.lg j q hq).imp (hlog _) id
    · rcases hl with rfl | ⟨rfl,e⟩
      · exact .inl List.mem_cons_self
      · exact .inr e
  · rcases hl with rfl | ⟨rfl,e⟩
    · exact List.pairwise_cons.2 ⟨fun e he => h.lt e he,h.sorted⟩
    · exact h.sorted
  · intro e he
    rw [show (rs ++ [r]).length = rs.length + 1 by simp]
    rcases hl with rfl | ⟨rfl,e⟩
    · rcases List.mem_cons.1 he with rfl | he
      · simp
      · have := h.lt e he; omega
    · have := h.lt _ he; omega
theorem DInv.pair {ops : Array Oper} {n nx0 : Nat} {E0 : Env} {H0 : Heap} {rs : List Rc} {st : St} {log : Log} (h : DInv P T ops n nx0 E0 H0 rs st log) (hl : logsOK ops log = true) : ∀ j i r r',j < i → rs[j]? = some r → rs[i]? = some r' → okPair ops j r.rd (r.eff.map (·.1)) i r'.rd (r'.eff.map (·.1)) ∨ FrR ops rs j r ∨ FrR ops rs i r' := by
  intro j i r r' hji hr hr'
  have hfree : ∀ j r,freeB ops log j r.rd = true → FrR ops rs j r := by
    intro j r hf
    unfold freeB at hf
    simp only [Bool.and_eq_true,List.all_eq_true,Bool.or_eq_true,Bool.not_eq_true',List.contains_eq_mem,decide_eq_false_iff_not] at hf
    refine ⟨hf.1,fun k q hq => ?_⟩
    rcases h.lg k q hq with h1 | ⟨_,h1⟩
    · exact hf.2 _ h1
    · right; rw [h1]; intro b _ hb; cases hb
  rcases h.lg j r hr with h1 | ⟨e1,e2⟩
  · rcases h.lg i r' hr' with h2 | ⟨e1,e2⟩
    · unfold logsOK at hl
      rw [withMasks_eq] at hl
      exact (logsOK_mem hl h.sorted _ h2 _ h1 hji).imp id (Or.imp (hfree j r) (hfree i r'))
    · rw [e1,e2]; exact .inl okPair_nilR
  · rw [e1,e2]; exact .inl okPair_nilL
theorem drawGo_spec {ops : Array Oper} {n nx0 : Nat} {E0 : Env} {H0 : Heap} {K : Cont} : ∀ (l : List Oper) (rs : List Rc) (st : St) (log : Log),ops.toList.drop rs.length = l → rs.length + l.length = ops.size → drawGo P T ops rs.length l log st K → DInv P T ops n nx0 E0 H0 rs st log →
    (∀ r ∈ rs,r.pan = false) →
    (∃ rs' st' log',rs'.length ≤ ops.size ∧ DInv P T ops n nx0 E0 H0 rs' st' log' ∧ st'.bs = st.bs ∧ logsOK ops log' = true ∧ (∀ r ∈ rs',r.pan = false) ∧ tailB ops rs'.length = true ∧ wpOpsA P T ops.toList (ops.toList.drop rs'.length) st' K) ∨
    (∃ rs' st' log' st1 log1 r s,rs'.length < ops.size ∧ DInv P T ops n nx0 E0 H0 rs' st1 log1 ∧ st1.bs = st.bs ∧ (∀ r ∈ rs',r.pan = false) ∧ r.pan = true ∧ DInv P T ops n nx0 E0 H0 (rs' ++ [r]) st' log' ∧ logsOK ops log' = true ∧ tailP ops rs'.length = true ∧ PanW ops st1 log1 r.eff r.pv s ∧ K (.panic r.pv) s)
  | [],rs,st,log,hl,hsz,h,hi,hnp => by
    refine .inl ⟨rs,st,log,by simp at hsz; omega,hi,rfl,h.1,hnp,?_,by rw [hl]; exact h.2⟩
    simp at hsz
    unfold tailB
    rw [withMasks_eq,List.all_eq_true]
    intro k hk
    simp at hk
    simp [hsz,hk]
  | o :: l,rs,st,log,hl,hsz,h,hi,hnp => by
    have hk : ops[rs.length]? = some o := by
      have := congrArg (·[0]?) hl
      simpa using this
    have hl' : ∀ r : Rc,ops.toList.drop (rs ++ [r]).length = l := by
      intro r
      have := congrArg List.tail hl
      simpa using this
    have hsz' : ∀ r : Rc,(rs ++ [r]).length + l.length = ops.size := by
      intro r
      simp at hsz ⊢
      omega
    have elen : ∀ r : Rc,(rs ++ [r]).length = rs.length + 1 := fun r => by simp
    unfold drawGo at h
    obtain ⟨hd,h⟩ := h
    have hdst : ∀ d,o.dst = some d → d < n := by
      intro d e
      rw [e] at hd
      rw [← hi.sn]
      exact hd
    cases hw : wantA ops.toList st o with
    | none => rw [hw] at h; exact h.elim
    | some b =>
      rw [hw] at h
      simp only at h
      have hwF : wantF ops.toList st.E o = some b := hw
      cases b with
      | true =>
        rcases stepD_spec (h.1 rfl) with ⟨pv,eff,rd,hgo,hop,hrd,hfr⟩ | ⟨ht,hlg,hst⟩ | ⟨g,args,pv,eff,s,c1,c2,c3,c4,c5,c6⟩
        · have hrc : RcOK P T ops n st.E st.H st.nx o ⟨pv,eff,rd,true,false⟩ := ⟨hdst,hwF,fun _ _ => ⟨hop,hrd,hfr⟩,fun h => (by cases h),fun h => by cases h⟩
          rcases drawGo_spec l (rs ++ [⟨pv,eff,rd,true,false⟩]) _ ((rs.length,rd,eff.map (·.1)) :: log) (hl' _) (hsz' _) (by rw [elen]; exact hgo) (hi.step hk hrc (.inl rfl)) (by
            intro r hr
            rcases List.mem_append.1 hr with hr | hr
            · exact hnp r hr
            · simp only [List.mem_singleton] at hr; subst hr; rfl) with ⟨rs',st',log',q1,q2,q3,q4⟩ | ⟨rs',st',log',st1,log1,r,s,q1,q2,q3,q4⟩
          · exact .inl ⟨rs',st',log',q1,q2,q3,q4⟩
          · exact .inr ⟨rs',st',log',st1,log1,r,s,q1,q2,q3,q4⟩
        rotate_left 1
        · have hrc : RcOK P T ops n st.E st.H st.nx o ⟨pv,eff,footL args,true,true⟩ := ⟨hdst,hwF,fun _ h => (by cases h),fun h => (by cases h),fun _ => ⟨rfl,g,args,c1,c2,fun b hb => hb⟩⟩
          exact .inr ⟨rs,_,_,st,log,⟨pv,eff,footL args,true,true⟩,s,by simp at hsz; omega,hi,rfl,hnp,rfl,hi.step hk hrc (.inl rfl),c4,c3,c5,c6⟩
        · refine .inl ⟨rs,st,log,by simp at hsz; omega,hi,rfl,hlg,hnp,ht,?_⟩
          rw [hl]
          unfold wpOpsA
          refine ⟨hd,?_⟩
          rw [hw]
          exact ⟨fun _ => hst,fun h => by cases h⟩
      | false =>
        have hrc : RcOK P T ops n st.E st.H st.nx o ⟨.lit (.tuple #[]),[],[],false,false⟩ := ⟨hdst,hwF,fun h => (by cases h),fun _ => ⟨rfl,rfl⟩,fun h => by cases h⟩
        rcases drawGo_spec l (rs ++ [⟨.lit (.tuple #[]),[],[],false,false⟩]) _ log (hl' _) (hsz' _) (by rw [elen]; exact h.2 rfl) (hi.step hk hrc (.inr ⟨rfl,rfl,rfl⟩)) (by
            intro r hr
            rcases List.mem_append.1 hr with hr | hr
            · exact hnp r hr
            · simp only [List.mem_singleton] at hr; subst hr; rfl) with ⟨rs',st',log',q1,q2,q3,q4⟩ | ⟨rs',st',log',st1,log1,r,s,q1,q2,q3,q4⟩
        · exact .inl ⟨rs',st',log',q1,q2,q3,q4⟩
        · exact .inr ⟨rs',st',log',st1,log1,r,s,q1,q2,q3,q4⟩
theorem tailB_spec {ops : Array Oper} {m : Nat} (h : tailB ops m = true) : ∀ k,m ≤ k → k < ops.size → ∀ j,j < k → before ops j k = true := by
  intro k hk hlt j hj
  unfold tailB at h
  rw [withMasks_eq] at h
  have := List.all_eq_true.1 h k (by simp [hlt])
  simp only [Bool.or_eq_true,decide_eq_true_eq,List.all_eq_true] at this
  rcases this with h | h
  · omega
  · exact h j (by simp [hj])
theorem tailP_spec {ops : Array Oper} {i : Nat} (h : tailP ops i = true) : ∀ k,i < k → k < ops.size → before ops i k = true := by
  intro k hk hlt
  unfold tailP at h
  rw [withMasks_eq] at h
  have := List.all_eq_true.1 h k (by simp [hlt])
  simp only [Bool.or_eq_true,decide_eq_true_eq] at this
  rcases this with h | h
  · omega
  · exact h
theorem pref_keep {V : Type} {W : Nat → Nat → Option V} {D : Nat → Bool} {σ : Nat → Option V} {t : Nat} : ∀ {n : Nat},(∀ j,j < n → D j = true → W j t = none) → pref W D σ n t = σ t
  | 0,_ => rfl
  | n + 1,h => by
    simp only [pref]
    rw [pref_keep (n := n) (fun j hj => h j (by omega))]
    cases hd : D n with
    | false => rfl
    | true => simp [h n (by omega) hd]
theorem pref_some {V : Type} {W : Nat → Nat → Option V} {D : Nat → Bool} {σ : Nat → Option V} {t : Nat} : ∀ {n : Nat},(pref W D σ n t).isSome = true → (pref W (fun _ => true) σ n t).isSome = true
  | 0,h => h
  | n + 1,h => by
    simp only [pref,if_true] at h ⊢
    cases hw : W n t with
    | some v => rfl
    | none =>
      rw [hw] at h
      refine pref_some (D := D) ?_
      split at h <;> exact h
theorem WH_none {l : List (Nat × Blk)} {b : Nat} (h : b ∉ l.map (·.1)) : WH l b = none := by
  cases hw : WH l b with
  | none => rfl
  | some y => exact absurd (WH_mem (by simp [hw])) h
theorem PanW.sim {ops : Array Oper} {n nx0 : Nat} {E0 : Env} {H0 : Heap} {rs : List Rc} {r : Rc} {st : St} {log : Log} {s : St} {D : Nat → Bool} {C : Ctx} {β : Ref} {a : Act} {w : World} (hi : DInv P T ops n nx0 E0 H0 rs st log) (hw : PanW ops st log r.eff r.pv s) (hD : D rs.length = false) (hgb : C.gb ≤ st.bs)
    (hs : Sim C n (pref (WEr ops (rs ++ [r])) D E0 (rs ++ [r]).length) (applyEff (pref (WHr (rs ++ [r])) D H0 (rs ++ [r]).length) r.eff) β a w) {v : Value} (hr : Rep (NN C (applyEff (pref (WHr (rs ++ [r])) D H0 (rs ++ [r]).length) r.eff) β) w β r.pv v) :
    ∃ β',(s.n = st.n ∧ s.bs = st.bs) ∧ Sim C s.n s.E s.H β' a w ∧ Rep (NN C s.H β') w β' r.pv v := by
  obtain ⟨⟨⟨w1,w2⟩,w3,w4⟩,w5,w6,w7⟩ := hw
  have get : ∀ j,j < rs.length → (rs ++ [r])[j]? = rs[j]? := fun j hj => List.getElem?_append_left hj
  have elen : (rs ++ [r]).length = rs.length + 1 := by simp
  rw [elen] at hs hr
  have hE : pref (WEr ops (rs ++ [r])) D E0 (rs.length + 1) = pref (WEr ops rs) D E0 rs.length := by
    simp only [pref,hD,Bool.false_eq_true,if_false]
    exact pref_ext fun j hj => by simp only [WEr,get j hj]
  have hH : pref (WHr (rs ++ [r])) D H0 (rs.length + 1) = pref (WHr rs) D H0 rs.length := by
    simp only [pref,hD,Bool.false_eq_true,if_false]
    exact pref_ext fun j hj => by simp only [WHr,get j hj]
  rw [hE,hH] at hs
  rw [hH] at hr
  have keepE : ∀ t,(ops.toList.all (fun o => o.dst != some t) = true) → pref (WEr ops rs) D E0 rs.length t = st.E t := by
    intro t ht
    have hno : ∀ j,WEr ops rs j t = none := by
      intro j
      unfold WEr WE
      cases ho : ops[j]? with
      | none => simp
      | some o =>
        have hm : o ∈ ops.toList := by
          have := Array.getElem?_eq_some_iff.1 ho
          obtain ⟨h1,h2⟩ := this
          rw [← h2]
          simp
        have := List.all_eq_true.1 ht o hm
        simp only [Option.bind_some]
        rw [if_neg (by simpa using this)]
    rw [pref_keep (fun j _ _ => hno j),← hi.envE,pref_keep (fun j _ _ => hno j)]
  have keepH : ∀ b,(∀ e ∈ log,b ∉ e.2.2) → pref (WHr rs) D H0 rs.length b = st.H b := by
    intro b hb
    have hno : ∀ j,WHr rs j b = none := by
      intro j
      unfold WHr
      cases hq : rs[j]? with
      | none => rfl
      | some q =>
        simp only [Option.map_some,Option.getD_some]
        rcases hi.lg j q hq with h1 | ⟨_,h1⟩
        · exact WH_none (hb _ h1)
        · rw [h1]; rfl
    rw [pref_keep (fun j _ _ => hno j),← hi.heapE,pref_keep (fun j _ _ => hno j)]
  have hsome : ∀ b,(applyEff (pref (WHr rs) D H0 rs.length) r.eff b).isSome = true → b < st.bs → (lk b s.hp).isSome = true := by
    intro b hb hlt
    rw [applyEff_eq] at hb
    cases hwb : WH r.eff b with
    | some y =>
      have := WH_mem (l := r.eff) (b := b) (by simp [hwb])
      obtain ⟨x,hx,rfl⟩ := List.mem_map.1 this
      exact w4 x hx hlt
    | none =>
      rw [hwb] at hb
      have h2 : (st.H b).isSome = true := by rw [← hi.heapE]; exact pref_some (D := D) hb
      obtain ⟨x,hx⟩ := Option.isSome_iff_exists.1 h2
      exact w3 (b,x) (lk_mem hx) hlt
  have hnn : n = s.n := by rw [w1,hi.sn]
  have hsim := hs.weakF (bs := st.bs) (s := s) hgb hnn hsome (fun x hx => by
      obtain ⟨h1,h2,h3⟩ := w5 x hx
      exact ⟨(keepE x.1 h2).trans h1,h3⟩) (fun x hx => by
      obtain ⟨h1,h2,h3⟩ := w6 x hx
      refine ⟨?_,h3⟩
      rw [← h1]
      show _ = hpF (addL r.eff st.hp) x.1
      rw [hpF_addL,applyEff_eq,applyEff_eq,keepH x.1 h2])
  refine ⟨_,⟨w1,w2⟩,hsim,(hr.fewer ?_).restrict w7⟩
  rintro k (hk | ⟨b,x,ver,u,q1,q2,q3,q4⟩)
  · exact .inl hk
  · have q1' : lk b s.hp = some x := q1
    have hb := lk_mem q1'
    obtain ⟨h1,h2,h3⟩ := w6 _ hb
    refine .inr ⟨b,x,ver,u,?_,q2,?_,q4⟩
    · rw [← q1',← h1]
      show _ = hpF (addL r.eff st.hp) b
      rw [hpF_addL,applyEff_eq,applyEff_eq,keepH b h2]
    · simpa [restrict,q1'] using q3
theorem wpTail (hT : TabOK P T) {ops : Array Oper} (hsl : slotsOK ops = true) {m : Nat} (htail : ∀ k,m ≤ k → k < ops.size → ∀ j,j < k → before ops j k = true) {C : Ctx} {K : Cont} {Q : Exit → Act → World → Prop} : ∀ (l : List Oper) (k : Nat) (st : St) (β : Ref) (a : Act) (w : World) (fuel : Nat) (listed : Array Bool),
    ops.toList.drop k = l → m ≤ k → k ≤ ops.size → listed.size = ops.size → listed.toList.count false = fuel → (∀ i,i < ops.size → listed.getD i false = decide (i < k)) → Closed ops (fun i => listed.getD i false) → wpOpsA P T ops.toList l st K →
    C.gb ≤ st.bs → Sim C st.n st.E st.H β a w → (∀ st' β' a' w',K .normal st' → (st'.n = st.n ∧ st'.bs = st.bs) → Sim C st'.n st'.E st'.H β' a' w' → Q .normal a' w') → PanA C st K Q → wpAny P .any ops Q fuel listed a w := by
  intro l
  induction l with
  | nil =>
    intro k st β a w fuel listed hl hmk hkn hsz hc hlist hcl h hgb hs hQ hP
    have hkn' : ops.size ≤ k := by
      have := List.drop_eq_nil_iff.1 hl
      simpa using this
    have hall : ∀ i,i < ops.size → listed.getD i false = true := fun i hi => by rw [hlist i hi]; simp; omega
    have hr : Region.ready .any ops listed = [] := by
      cases hr : Region.ready .any ops listed with
      | nil => rfl
      | cons i l =>
        exfalso
        have hi : i ∈ Region.ready .any ops listed := by rw [hr]; exact List.mem_cons_self
        unfold Region.ready at hi
        rw [List.mem_filter] at hi
        obtain ⟨h1,h2⟩ := hi
        have h1' : i < ops.size := by simpa using h1
        have h3 := hall i h1'
        have hlt : i < listed.size := by omega
        simp [Array.getD,hlt] at h3
        simp [Array.getD,hlt,h3] at h2
    cases fuel with
    | zero => exact ⟨hr,hQ st β a w h ⟨rfl,rfl⟩ hs⟩
    | succ fuel =>
      refine ⟨fun _ => hQ st β a w h ⟨rfl,rfl⟩ hs,fun i hi => ?_⟩
      rw [hr] at hi
      cases hi
  | cons o l ih =>
    intro k st β a w fuel listed hl hmk hkn hsz hc hlist hcl h hgb hs hQ hP
    have hk : ops[k]? = some o := by
      have := congrArg (·[0]?) hl
      simpa using this
    have hkl := (Array.getElem?_eq_some_iff.1 hk).1
    have hl' : ops.toList.drop (k + 1) = l := by
      have := congrArg List.tail hl
      simpa using this
    have hlk : k < listed.size := by omega
    have hlkf : listed.getD k false = false := by rw [hlist k hkl]; simp
    have hpre : ∀ e ∈ o.after,Region.binds .any e = true → listed.getD e.on false = true := by
      intro e he hb
      have := slotsOK_edges hsl hk he hb
      rw [hlist e.on (by omega)]
      simp [this]
    cases fuel with
    | zero =>
      exfalso
      have hm : false ∈ listed.toList := by
        simp [Array.getD,hlk] at hlkf
        rw [← hlkf]
        simp
      have := List.count_pos_iff.2 hm
      omega
    | succ fuel =>
      refine ⟨fun hr => ?_,fun i hi => ?_⟩
      · exfalso
        have : k ∈ Region.ready .any ops listed := by
          unfold Region.ready
          rw [List.mem_filter]
          refine ⟨by simp [hkl],?_⟩
          have hl2 : listed.getD k true = false := by
            simp [Array.getD,hlk] at hlkf ⊢
            exact hlkf
          rw [hl2,hk]
          simp only [Bool.not_false,Bool.true_and,Option.map_some,Option.getD_some,Array.all_eq_true']
          intro e he
          cases hb : Region.binds .any e with
          | false => rfl
          | true => simp [hpre e he hb]
        rw [hr] at this
        cases this
      · unfold Region.ready at hi
        rw [List.mem_filter] at hi
        obtain ⟨h1,h2⟩ := hi
        have hin : i < ops.size := by simpa using h1
        have hlt : i < listed.size := by omega
        have ho : ops[i]? = some ops[i] := Array.getElem?_eq_getElem hin
        simp only [ho,Option.map_some,Option.getD_some,Bool.and_eq_true,Array.all_eq_true'] at h2
        have hDi : listed.getD i false = false := by
          have := h2.1
          simp [Array.getD,hlt] at this ⊢
          exact this
        have hki : k ≤ i := by
          rw [hlist i hin] at hDi
          simpa using hDi
        have hik : i = k := by
          apply Classical.byContradiction
          intro hne
          have hb := htail i (by omega) hin k (by omega)
          have := before_closed hcl hb ho (fun e he hb => by have := h2.2 e he; simpa [hb] using this)
          simp only [hlkf] at this
          cases this
        subst hik
        have hD' : ∀ j,(listed.setIfInBounds i true).getD j false = (j == i || listed.getD j false) := by
          intro j
          simp only [Array.getD_eq_getD_getElem?,Array.getElem?_setIfInBounds]
          by_cases hj : i = j
          · subst hj; simp [hlt]
          · have : (j == i) = false := by simp; omega
            simp [hj,this]
        have hcnt : (listed.setIfInBounds i true).toList.count false = fuel := by
          rw [Array.toList_setIfInBounds,List.count_set (by simpa using hlt)]
          have : listed.toList[i]'(by simpa using hlt) = false := by
            simp [Array.getD,hlt] at hDi
            simpa using hDi
          have hc' : Array.count false listed = fuel + 1 := by simpa using hc
          simp [this]
          omega
        have hlist' : ∀ j,j < ops.size → (listed.setIfInBounds i true).getD j false = decide (j < i + 1) := by
          intro j hj
          rw [hD',hlist j hj]
          by_cases h : j = i
          · subst h; simp
          · have e1 : (j == i) = false := by simp [h]
            rw [e1]
            simp
            omega
        have hcl' : Closed ops (fun k => (listed.setIfInBounds i true).getD k false) := by
          intro k o' hk' hl e he hb
          simp only [hD',Bool.or_eq_true,beq_iff_eq] at hl ⊢
          rcases hl with rfl | hl
          · rw [hk] at hk'
            cases hk'
            exact .inr (hpre e he hb)
          · exact .inr (hcl k o' hk' hl e he hb)
        unfold wpOpsA at h
        obtain ⟨hd,h⟩ := h
        unfold wpOp
        rw [hk]
        simp only
        split at h
        · rename_i b hb
          rw [wanted_eq hb hs]
          cases b with
          | true =>
            refine .inl ?_
            refine Oper.wp_mono ?_ (stepA_sound (Q := Q) hT (h.1 rfl) hd hP hgb hs)
            rintro a' w' ⟨st',β',hK,hn,hs'⟩
            exact ih (i + 1) st' β' a' w' fuel _ hl' (by omega) (by omega) (by simpa using hsz) hcnt hlist' hcl' hK (by rw [hn.2]; exact hgb) hs' (fun st2 β2 a2 w2 h2 hn2 hs2 => hQ st2 β2 a2 w2 h2 ⟨hn2.1.trans hn.1,hn2.2.trans hn.2⟩ hs2) (fun pv st2 β2 a2 w2 v h2 hn2 hs2 hr2 => hP pv st2 β2 a2 w2 v h2 ⟨hn2.1.trans hn.1,hn2.2.trans hn.2⟩ hs2 hr2)
          | false =>
            exact ih (i + 1) _ β _ w fuel _ hl' (by omega) (by omega) (by simpa using hsz) hcnt hlist' hcl' (h.2 rfl) hgb (Sim.putL hs hd (.i (.lit undef))) (fun st2 β2 a2 w2 h2 hn2 hs2 => hQ st2 β2 a2 w2 h2 hn2 hs2) (fun pv st2 β2 a2 w2 v h2 hn2 hs2 hr2 => hP pv st2 β2 a2 w2 v h2 hn2 hs2 hr2)
        · exact h.elim
theorem drawA_any (hT : TabOK P T) {C : Ctx} {ops : Array Oper} (hsl : slotsOK ops = true) {st : St} {K : Cont} {Q : Exit → Act → World → Prop} {β : Ref} {a : Act} {w : World} (h : drawA P T ops st K)
    (hgb : C.gb ≤ st.bs) (hs : Sim C st.n st.E st.H β a w) (hQ : ∀ st' β' a' w',K .normal st' → (st'.n = st.n ∧ st'.bs = st.bs) → Sim C st'.n st'.E st'.H β' a' w' → Q .normal a' w') (hP : PanA C st K Q) : wpAny P .any ops Q ops.size (Array.replicate ops.size false) a { w with drawn := w.drawn + 1 } := by
  have hdrew : Sim C st.n st.E st.H β a { w with drawn := w.drawn + 1 } := by
    have hk := Keeps.drew (NN C st.H β) w
    have hkb := Keeps.drew (fun k => Owns st.H β k) w
    exact hs.world hk (hs.keeps_below hkb) (fun b x hx _ => (hs.blk b x hx).later hk (fun _ _ h => h) (Later.refl _) (fun _ _ h => h) rfl (fun ver u k h1 h2 => rfl))
  have hrep : ∀ j,(Array.replicate ops.size false).getD j false = false := by
    intro j
    simp only [Array.getD_eq_getD_getElem?,Array.getElem?_replicate]
    split <;> rfl
  rcases drawGo_spec (n := st.n) (nx0 := st.nx) (E0 := st.E) (H0 := st.H) ops.toList [] st [] rfl (by simp) h ⟨rfl,rfl,rfl,rfl,fun i o r _ hr => by simp at hr,fun j r hr => by simp at hr,List.Pairwise.nil,fun e he => by cases he⟩ (fun r hr => by cases hr) with
    ⟨rs,st',log,q1,q2,q4,q5,qp,q6,q7⟩ | ⟨rs,st',log',st1,log1,r,s,q1,q2,q4,qp,qr,q3,q5,q6,q7,q8⟩
  · have hd : DrawOK P T ops st.n st.nx rs.length st.E st.H rs := ⟨rfl,q1,fun k h1 h2 => .inl (tailB_spec q6 k h1 h2),hsl,q2.rc,q2.pair q5⟩
    have hE := q2.envE
    have hH := q2.heapE
    have nop : ∀ {i : Nat} {r : Rc},rs[i]? = some r → r.pan = true → False := fun h1 h2 => by rw [qp _ (List.mem_of_getElem? h1)] at h2; cases h2
    refine draw_any (C := C) hT ⟨_,rfl⟩ hd ?_ (fun listed β' a w' i r v h1 h2 => (nop h1 h2).elim) ops.size (Array.replicate ops.size false) β a _ (by simp) (by simp) (fun k _ => hrep k) (fun i r h1 h2 => (nop h1 h2).elim) (fun i o _ hi => by simp only [hrep] at hi; cases hi) ?_
    · intro fuel listed β' a' w' c1 c2 c3 c4 _ hs'
      refine wpTail hT hsl (tailB_spec q6) (ops.toList.drop rs.length) rs.length st' β' a' w' fuel listed rfl (Nat.le_refl _) q1 c1 c2 c3 c4 q7 (by rw [q4]; exact hgb) (by rw [q2.sn,← hE,← hH]; exact hs') (fun st2 β2 a2 w2 h2 hn2 hs2 => hQ st2 β2 a2 w2 h2 ⟨hn2.1.trans q2.sn,hn2.2.trans q4⟩ hs2) (fun pv st2 β2 a2 w2 v h2 hn2 hs2 hr2 => hP pv st2 β2 a2 w2 v h2 ⟨hn2.1.trans q2.sn,hn2.2.trans q4⟩ hs2 hr2)
    · rw [pref_none hrep,pref_none hrep]
      exact hdrew
  · have elen : (rs ++ [r]).length = rs.length + 1 := by simp
    have hlast : (rs ++ [r])[rs.length]? = some r := by simp
    have hd : DrawOK P T ops st.n st.nx (rs ++ [r]).length st.E st.H (rs ++ [r]) := ⟨rfl,by rw [elen]; omega,fun k h1 h2 => .inr ⟨rs.length,r,hlast,qr,tailP_spec q6 k (by rw [elen] at h1; omega) h2⟩,hsl,q3.rc,q3.pair q5⟩
    have isLast : ∀ {i : Nat} {r' : Rc},(rs ++ [r])[i]? = some r' → r'.pan = true → i = rs.length ∧ r' = r := by
      intro i r' h1 h2
      by_cases hi : i < rs.length
      · rw [List.getElem?_append_left hi] at h1
        rw [qp _ (List.mem_of_getElem? h1)] at h2
        cases h2
      · have hlt := (List.getElem?_eq_some_iff.1 h1).1
        have : i = rs.length := by rw [elen] at hlt; omega
        subst this
        rw [hlast] at h1
        cases h1
        exact ⟨rfl,rfl⟩
    refine draw_any (C := C) hT ⟨_,rfl⟩ hd ?_ ?_ ops.size (Array.replicate ops.size false) β a _ (by simp) (by simp) (fun k _ => hrep k) (fun i r _ _ => hrep i) (fun i o _ hi => by simp only [hrep] at hi; cases hi) ?_
    · intro fuel listed β' a' w' c1 c2 c3 c4 c5 hs'
      have h1 := c5 rs.length r hlast qr
      have h2 := c3 rs.length (by omega)
      rw [h1,elen] at h2
      simp at h2
    · intro listed β' a' w' i r' v h1 h2 h3 h4 hs' hr'
      obtain ⟨rfl,rfl⟩ := isLast h1 h2
      obtain ⟨β2,e1,hs2,hr2⟩ := PanW.sim q2 q7 h3 (by rw [q4]; exact hgb) hs' hr'
      exact hP r'.pv s β2 a' w' v q8 ⟨e1.1.trans q2.sn,e1.2.trans q4⟩ hs2 hr2
    · rw [pref_none hrep,pref_none hrep]
      exact hdrew
theorem drawA_sound (hT : TabOK P T) (hmix : P.follows .mixedOrders = true) {C : Ctx} {id : Nat} {ops : Array Oper} (hsl : slotsOK ops = true) {st : St} {K : Cont} {Q : Exit → Act → World → Prop} {β : Ref} {a : Act} {w : World} (h : drawA P T ops st K)
    (hgb : C.gb ≤ st.bs) (hs : Sim C st.n st.E st.H β a w) (hQ : ∀ st' β' a' w',K .normal st' → (st'.n = st.n ∧ st'.bs = st.bs) → Sim C st'.n st'.E st'.H β' a' w' → Q .normal a' w') (hP : PanA C st K Q) : (Code.region id ops true).wp P Q a w :=
  wp_region_any hmix (drawA_any hT hsl h hgb hs hQ hP)
end
def codeOK : Code → Bool
  | .region _ ops true => slotsOK ops
  | .seq x y => codeOK x && codeOK y
  | .cond _ x y => codeOK x && codeOK y
  | .block _ b => codeOK b
  | .loop b => codeOK b
  | .scope b => codeOK b
  | _ => true
end Go.Pe
