import Derived.Test.YtcdmhigmgpflbaaGreatPe10
set_option linter.unusedVariables false
set_option linter.unusedSimpArgs false
open List renaming length_cons → yBa,getElem?_eq_getElem → yBh
namespace Go.Pe
open Go.RowKit
theorem wrap64_id {m : Int} (h0 : 0 ≤ m) (h1 : m ≤ 9223372036854775807) : IntKind.i64.wrap m = m := by
  unfold IntKind.wrap
  have hm : m % 2 ^ 64 = m := Int.emod_eq_of_lt h0 (by omega)
  have h2 : ¬ (m ≥ 2 ^ (64 - 1)) := by omega
  simp only [IntKind.bits,IntKind.signed,Bool.true_and,hm,decide_eq_true_eq]
  rw [if_neg h2]
section
variable {P : Program} {T : Tab} {C : Ctx} {n : Nat} {E : Env} {H : Heap} {β : Ref} {a : Act} {w : World}
theorem Sim.newBox (h : Sim C n E H β a w) {b t : Nat} (hb : H b = none) {cells : Array Value} {cs : List PV} (hl : cells.size = cs.length)
    (hc : ∀ j x,cs[j]? = some x → Rep (NN C H β) w β x (cells.getD j undef) ∧ (cells.getD j undef).oneCell' = true) :
    ∃ β',Sim C n E (upd H b (.box t cs)) β' a (w.alloc (.cells cells t)) ∧ Rep (NN C (upd H b (.box t cs)) β') (w.alloc (.cells cells t)) β' (.ptr b 0) (.pointer (some ⟨w.heap.size,0,none⟩)) := by
  refine ⟨upd β b (0,.pointer (some ⟨w.heap.size,0,none⟩)),h.new hb (Keeps.alloc _ _ _) (fun k hk => heap_alloc_old w _ k hk) (fun k hk => ?_) (fun hk hN hlt hbox => ?_),.ptr _ _ _ (upd_same _ _ _)⟩
  · simp [refBlock] at hk
    subst hk
    exact ⟨Nat.le_refl _,by simp⟩
  · exact ⟨w.heap.size,cells,upd_same _ _ _,h.bs,heap_alloc_new w _,hl,fun j x hj => ⟨(hc j x hj).1.mono hk hN hlt hbox,(hc j x hj).2⟩⟩
theorem Sim.newArr (h : Sim C n E H β a w) {b e size m cap : Nat} (hb : H b = none) {cells : Array Value} {rows : List (List PV)} (hm : rows.length = m) (hmc : m ≤ cap) (hcl : cap ≤ maxLen) (hl : cells.size = cap * size) (hsz : ∀ r ∈ rows,r.length = size)
    (hc : ∀ i r j x,rows[i]? = some r → r[j]? = some x → IRep (NN C H β) w x (cells.getD (i * size + j) undef) ∧ (cells.getD (i * size + j) undef).oneCell' = true) :
    ∃ β',Sim C n E (upd H b (.arr e size rows 0 false)) β' a (w.alloc (.cells cells e)) ∧ Rep (NN C (upd H b (.arr e size rows 0 false)) β') (w.alloc (.cells cells e)) β' (.own b 0) (.slice (some ⟨w.heap.size,0,none⟩) m cap) := by
  refine ⟨upd β b (0,.slice (some ⟨w.heap.size,0,none⟩) m cap),h.new hb (Keeps.alloc _ _ _) (fun k hk => heap_alloc_old w _ k hk) (fun k hk => ?_) (fun hk hN hlt hbox => ?_),.own _ _ _ _ _ (upd_same _ _ _) (Nat.le_refl _) rfl (fun _ => rfl)⟩
  · simp [refBlock] at hk
    subst hk
    exact ⟨Nat.le_refl _,by simp⟩
  · have hle : m * size ≤ cells.size := by rw [hl]; exact Nat.mul_le_mul_right _ hmc
    refine ⟨_,cells.toList.take (m * size),upd_same _ _ _,⟨by rw [List.length_take,hm,Array.length_toList]; exact Nat.min_eq_left hle,.inr ⟨w.heap.size,cap,cells,by rw [hm],h.bs,heap_alloc_new w _,by omega,hcl,hl,by rw [hm]⟩⟩,hsz,fun i r j x hi hj => ?_⟩
    have hil : i < m := by rw [← hm]; exact (List.getElem?_eq_some_iff.1 hi).1
    have hjl : j < size := by have := (List.getElem?_eq_some_iff.1 hj).1; rw [hsz r (List.mem_of_getElem? hi)] at this; exact this
    have hlt' : i * size + j < m * size := flat_lt hil hjl
    have e1 : (cells.toList.take (m * size)).getD (i * size + j) undef = cells.getD (i * size + j) undef := by
      simp [List.getD_eq_getElem?_getD,Array.getD_eq_getD_getElem?,List.getElem?_take_of_lt hlt']
    rw [e1]
    exact ⟨(hc i r j x hi hj).1.mono hk hN,(hc i r j x hi hj).2⟩
theorem fill_dense (size : Nat) : ∀ (qs : List (Nat × Value)) (s len : Nat) (cells : Array Value),qs.map (·.1) = (List.range' s qs.length) → (∀ q ∈ qs,q.2.cells.size = size) → s + qs.length ≤ len → cells.size = len * size →
    ∃ r,Instr.fill (fun i => some (i * size,size)) cells qs = some r ∧ r.size = cells.size ∧ ∀ i j,i < len → j < size → r.getD (i * size + j) undef = if s ≤ i ∧ i < s + qs.length then ((qs.getD (i - s) (0,undef)).2).cells.getD j undef else cells.getD (i * size + j) undef
  | [],s,len,cells,_,_,_,_ => ⟨cells,rfl,rfl,fun i j _ _ => by rw [if_neg (by simp)]⟩
  | (k,v) :: qs,s,len,cells,hk,hv,hl,hc => by
    simp only [List.map_cons,yBa,List.range'_succ,List.cons.injEq] at hk
    obtain ⟨rfl,hk⟩ := hk
    have hvs : v.cells.size = size := hv _ List.mem_cons_self
    simp only [yBa] at hl
    have hfit : k * size + v.cells.size ≤ cells.size := by
      rw [hc,hvs]
      have := Nat.mul_le_mul_right size (show k + 1 ≤ len by omega)
      rw [Nat.add_mul,Nat.one_mul] at this
      exact this
    have hgood : ¬ (v.cells.size ≠ size || k * size + v.cells.size > cells.size) = true := by simp; omega
    simp only [Instr.fill]
    rw [if_neg hgood]
    have hfold : (v.cells.zipIdx.foldl (fun cs (x : Value × Nat) => cs.setIfInBounds (k * size + x.2) x.1) cells) = ((v.cells.toList.zipIdx 0).foldl (fun cs (x : Value × Nat) => cs.setIfInBounds (k * size + x.2) x.1) cells) := by
      rw [← Array.foldl_toList,Array.toList_zipIdx]
    have hfs := fold_set_size (k * size) v.cells.toList 0 cells
    have hfg := fold_set (k * size) v.cells.toList 0 cells (by simp; omega)
    obtain ⟨r,r1,r2,r3⟩ := fill_dense size qs (k + 1) len _ hk (fun q hq => hv q (List.mem_cons_of_mem _ hq)) (by omega) (hfs.trans hc)
    refine ⟨r,by rw [← hfold] at r1; exact r1,r2.trans hfs,fun i j hi hj => ?_⟩
    rw [r3 i j hi hj]
    simp only [yBa]
    by_cases h1 : k + 1 ≤ i ∧ i < k + 1 + qs.length
    · rw [if_pos h1,if_pos (by omega)]
      obtain ⟨m,rfl⟩ : ∃ m,i = k + 1 + m := ⟨i - (k + 1),by omega⟩
      have e1 : k + 1 + m - (k + 1) = m := by omega
      have e2 : k + 1 + m - k = m + 1 := by omega
      rw [e1,e2]
      simp
    · rw [if_neg h1,hfg]
      by_cases h2 : i = k
      · subst h2
        rw [if_pos (by simp only [Array.length_toList]; omega),if_pos (by omega)]
        have e1 : i * size + j - (i * size + 0) = j := by omega
        rw [e1,Nat.sub_self]
        simp [Array.getD_eq_getD_getElem?,List.getD_eq_getElem?_getD]
      · rw [if_neg (c := k ≤ i ∧ i < k + (qs.length + 1)) (by omega),if_neg]
        intro h3
        simp only [Array.length_toList] at h3
        rcases Nat.lt_or_ge i k with h4 | h4
        · have := Nat.mul_le_mul_right size (show i + 1 ≤ k by omega)
          rw [Nat.add_mul,Nat.one_mul] at this
          omega
        · have := Nat.mul_le_mul_right size (show k + 1 ≤ i by omega)
          rw [Nat.add_mul,Nat.one_mul] at this
          omega
theorem litRowsA_spec (hs : Sim C n E H β a w) {H' : Heap} (hf : Frz C n E β a w H H') {size : Nat} : ∀ (l : List PV) (rows : List (List PV)),litRowsA H size l = some rows → (∀ x ∈ frzEff H (litCells l),H' x.1 = some x.2) →
    rows.length = l.length ∧ (∀ r ∈ rows,r.length = size) ∧ ∀ (i : Nat) (pv : PV) (v : Value),l[i]? = some pv → Rep (NN C H β) w β pv v → v.cells.size = size ∧ ∀ (r : List PV) (j : Nat) (x : PV),rows[i]? = some r → r[j]? = some x →
      IRep (NN C H' β) w x (v.cells.getD j undef) ∧ (v.cells.getD j undef).oneCell' = true
  | [],rows,h,_ => by
    simp only [litRowsA,Option.some.injEq] at h
    subst h
    exact ⟨rfl,by simp,by simp⟩
  | pv :: l,rows,h,hx => by
    simp only [litRowsA] at h
    split at h
    · cases h
    rename_i vs hvs
    split at h
    · rename_i us m hus hm
      split at h
      · rename_i hul
        cases h
        have hcl : litCells (pv :: l) = vs ++ litCells l := by simp [litCells,hvs]
        have hfe : frzEff H (litCells (pv :: l)) = frzEff H vs ++ frzEff H (litCells l) := by rw [hcl]; simp [frzEff]
        have ih := litRowsA_spec hs hf l m hm (fun z hz => hx z (by rw [hfe]; exact List.mem_append_right _ hz))
        obtain ⟨s1,s2⟩ := frzCs_spec hs hf vs us hus (fun z hz => hx z (by rw [hfe]; exact List.mem_append_left _ hz))
        refine ⟨by simp [ih.1],fun r hr => ?_,fun i qv v hi hr => ?_⟩
        · rcases List.mem_cons.1 hr with rfl | hr
          · exact hul
          · exact ih.2.1 r hr
        · cases i with
          | zero =>
            cases hi
            obtain ⟨c1,c2⟩ := hr.cells hvs
            refine ⟨by rw [c1,← s1,hul],fun r j x hr' hj => ?_⟩
            cases hr'
            obtain ⟨q,q1,q2⟩ := s2 j x (v.cells.getD j undef) hj
            exact q2 (c2 j q q1)
          | succ i => exact ih.2.2 i qv v (by simpa using hi) hr
      · cases h
    · cases h
theorem store_run {t : TypeId} {ti : TI} (ht : TypeOK P t ti) {g o T0 : Nat} {cur : Array Value} {fr : Nat × Nat} (hg : w.heap[g]? = some (.cells cur T0 (0,0))) {v : Value} (hsz : v.cells.size = ti.size) (hfit : o + v.cells.size ≤ cur.size)
    (h1 : ∀ u ∈ v.cells.toList,u.oneCell' = true) : (storeVar t ⟨g,o,none⟩ v).run P w = .ok () (w.setRow g (splice cur.toList o v.cells.toList).toArray) := by
  have hst := run_storeCells_at P g o T0 v.cells.toList 0 cur w hg (by simpa using hfit) h1
  simp only [Nat.add_zero] at hst
  simp [storeVar,ht.run_sizeOf,hsz,hst,splice]
theorem getD_splice {cur vs : List Value} {o k : Nat} (h : o + vs.length ≤ cur.length) : (splice cur o vs).toArray.getD k undef = if o ≤ k ∧ k < o + vs.length then vs.getD (k - o) undef else cur.getD k undef := by
  have := splice_get h k
  simp only [Array.getD_eq_getD_getElem?,List.getElem?_toArray,this,List.getD_eq_getElem?_getD]
  split <;> rfl
end
end Go.Pe
namespace Go.Pe
open Go.RowKit
section
variable {P : Program} {T : Tab} {C : Ctx} {n : Nat} {E : Env} {H : Heap} {β : Ref} {a : Act} {w : World}
theorem Gives.value {o : Oper} {H' : Heap} {r : PV} {u : Value} {w' : World} {β' : Ref} (h1 : (execOp a.eval o).run P w = .ok (.value u) w') (h2 : Sim C n E H' β' a w') (h3 : Rep (NN C H' β') w' β' r u) : Gives P C n E H' a w o r :=
  ⟨_,w',β',h1,h2,.inl ⟨u,rfl,h3⟩⟩
theorem all_isCell {l : List PV} (h : l.all isCell = true) {x : PV} (hx : x ∈ l) : isCell x = true := List.all_eq_true.1 h x hx
theorem store_box (hT : TabOK P T) (hs : Sim C n E H β a w) {t : TypeId} {ti : TI} (hti : T t = some ti) {b off T0 : Nat} {cs vs : List PV} {v ad : Value} (hH : H b = some (.box T0 cs)) (hv : Rep (NN C H β) w β (.ptr b off) ad) {pv : PV}
    (hc : cellsA pv = some vs) (hr : Rep (NN C H β) w β pv v) (h1 : vs.length = ti.size) (h2 : off + vs.length ≤ cs.length) (h3 : vs.all isCell = true) :
    ∃ w',(Instr.storeAt t ad v).run P w = .ok () w' ∧ Sim C n E (upd H b (.box T0 (splice cs off vs))) β a w' := by
  obtain ⟨k,rfl,hβ⟩ := hv.ptr_eq
  obtain ⟨k',cells,q1,q2,q3,q4,q5⟩ := hs.blk b _ hH
  rw [hβ] at q1
  cases q1
  obtain ⟨c1,c2⟩ := hr.cells hc
  have hone : ∀ u ∈ v.cells.toList,u.oneCell' = true := by
    intro u hu
    obtain ⟨j,hj,rfl⟩ := List.getElem_of_mem hu
    simp only [Array.length_toList] at hj
    have hx := c2 j vs[j] (yBh (by omega))
    have := hx.cell (all_isCell h3 (List.getElem_mem _))
    simpa [Array.getD,hj] using this
  have hrun := store_run (P := P) (w := w) (hT t ti hti) (g := k) (o := off) (v := v) (fr := (0,0)) q3 (by omega) (by omega) hone
  have hlen : off + v.cells.toList.length ≤ cells.toList.length := by simp; omega
  have hββ : upd β b (0,Value.pointer (some ⟨k,0,none⟩)) = β := by
    funext c
    by_cases e : c = b
    · subst e; rw [upd_same,hβ]
    · rw [upd_other _ _ e]
  refine ⟨w.setRow k (splice cells.toList off v.cells.toList).toArray,by simp [Instr.storeAt,Instr.sureAddr,hrun],?_⟩
  have := hs.change (x' := .box T0 (splice cs off vs)) (ver' := 0) (u' := .pointer (some ⟨k,0,none⟩)) hH rfl hβ (.inl ⟨rfl,rfl⟩) (w' := w.setRow k (splice cells.toList off v.cells.toList).toArray)
    (fun k' _ hk' => setRow_other w k k' _ (fun e => hk' (by simp [refBlock,e]))) rfl rfl rfl (by simp) (fun k' hk' => .inl hk') (fun hk hN hl hbox => by
      refine ⟨k,_,upd_same _ _ _,q2,setRow_heap w k cells _ T0 (0,0) q3,by rw [List.size_toArray,splice_length hlen,splice_length h2]; simpa using q4,fun j x hj => ?_⟩
      rw [splice_get h2] at hj
      rw [getD_splice hlen]
      by_cases hr' : off ≤ j ∧ j < off + vs.length
      · rw [if_pos hr'] at hj
        rw [if_pos (by simp; omega)]
        have h5 := c2 _ _ hj
        have e : v.cells.toList.getD (j - off) undef = v.cells.getD (j - off) undef := by simp [Array.getD_eq_getD_getElem?,List.getD_eq_getElem?_getD]
        rw [e]
        exact ⟨h5.mono hk hN hl hbox,h5.cell (all_isCell h3 (List.mem_of_getElem? hj))⟩
      · rw [if_neg hr'] at hj
        rw [if_neg (by simp; omega)]
        have h5 := q5 _ _ hj
        have e : cells.toList.getD j undef = cells.getD j undef := by simp [Array.getD_eq_getD_getElem?,List.getD_eq_getElem?_getD]
        rw [e]
        exact ⟨h5.1.mono hk hN hl hbox,h5.2⟩)
  rw [hββ] at this
  exact this
theorem store_arr (hT : TabOK P T) (hs : Sim C n E H β a w) {t : TypeId} {ti : TI} (hti : T t = some ti) {b ver row off size T0 : Nat} {rows : List (List PV)} {vs us : List PV} {v ad : Value} (hH : H b = some (.arr T0 size rows ver false)) (hv : Rep (NN C H β) w β (.aptr b ver row off size) ad) {pv : PV}
    (hc : cellsA pv = some vs) (hu : frzCs H vs = some us) (hr : Rep (NN C H β) w β pv v) (hrow : row < rows.length) (h1 : us.length = ti.size) (h2 : off + us.length ≤ size) (h3 : ∀ x ∈ frzEff H vs,x.1 ≠ b) :
    ∃ w',(Instr.storeAt t ad v).run P w = .ok () w' ∧ Sim C n E (applyEff H (frzEff H vs ++ [(b,.arr T0 size (rows.set row (splice (rows.getD row []) off us)) ver false)])) β a w' := by
  obtain ⟨g,nn,c0,xs,hβ,rfl,hown,_⟩ := arr_ptr hs hH hrow hv
  obtain ⟨c1,c2⟩ := hr.cells hc
  have hf := hs.frz vs
  have hfm : ∀ x ∈ frzEff H vs,applyEff H (frzEff H vs) x.1 = some x.2 := fun x hx => applyEff_mem _ _ _ (frzEff_list vs) hx
  obtain ⟨s1,s2⟩ := frzCs_spec hs hf vs us hu hfm
  have hHb : applyEff H (frzEff H vs) b = some (.arr T0 size rows ver false) := by rw [applyEff_other _ _ _ h3]; exact hH
  obtain ⟨u0,xs0,q1,q2,q3,q4⟩ := hf.sim.blk b _ hHb
  rw [hβ] at q1
  cases q1
  have hxs : xs0 = xs := by
    rcases q2.2 with ⟨h',_⟩ | ⟨g1,c1',cu1,e1,_,hg1,_,_,_,ht1⟩
    · cases h'
    · rcases hown.2 with ⟨h',_⟩ | ⟨g2,c2',cu2,e2,_,hg2,_,_,_,ht2⟩
      · cases h'
      · cases e1
        cases e2
        rw [hg1] at hg2
        cases hg2
        rw [← ht1,← ht2]
  subst hxs
  rcases q2.2 with ⟨h',_⟩ | ⟨g1,cap,cur,e1,hbg,hg1,hnc,hcm,hcs,ht1⟩
  · cases h'
  obtain ⟨e2,e3,e4⟩ : g = g1 ∧ nn = rows.length ∧ cap = c0 := by cases e1; exact ⟨rfl,rfl,rfl⟩
  subst e2 e3 e4
  have hrl : rows[row]? = some (rows.getD row []) := by simp [List.getD_eq_getElem?_getD,hrow]
  have hrlen : (rows.getD row []).length = size := q3 _ (List.mem_of_getElem? hrl)
  have hfitc : row * size + off + v.cells.size ≤ cur.size := by
    have h5 := Nat.mul_le_mul_right size (show row + 1 ≤ cap by omega)
    rw [Nat.add_mul,Nat.one_mul] at h5
    rw [hcs,c1,← s1]
    omega
  have hone : ∀ u ∈ v.cells.toList,u.oneCell' = true := by
    intro u hu'
    obtain ⟨j,hj,rfl⟩ := List.getElem_of_mem hu'
    simp only [Array.length_toList] at hj
    obtain ⟨q,hq1,hq2⟩ := s2 j us[j] (v.cells.getD j undef) (yBh (by omega))
    have := (hq2 (c2 j q hq1)).2
    simpa [Array.getD,hj] using this
  have hrun := store_run (P := P) (w := w) (hT t ti hti) (g := g) (o := row * size + off) (v := v) (fr := (0,0)) hg1 (by omega) hfitc hone
  have hlen : row * size + off + v.cells.toList.length ≤ cur.toList.length := by simp; omega
  have hββ : upd β b (ver,Value.slice (some ⟨g,0,none⟩) rows.length cap) = β := by
    funext c
    by_cases e : c = b
    · subst e; rw [upd_same,hβ]
    · rw [upd_other _ _ e]
  refine ⟨w.setRow g (splice cur.toList (row * size + off) v.cells.toList).toArray,by simp [Instr.storeAt,Instr.sureAddr,hrun],?_⟩
  have heff : applyEff H (frzEff H vs ++ [(b,.arr T0 size (rows.set row (splice (rows.getD row []) off us)) ver false)]) = upd (applyEff H (frzEff H vs)) b (.arr T0 size (rows.set row (splice (rows.getD row []) off us)) ver false) := by
    simp [applyEff]
  rw [heff]
  have := hf.sim.change (x' := .arr T0 size (rows.set row (splice (rows.getD row []) off us)) ver false) (ver' := ver) (u' := .slice (some ⟨g,0,none⟩) rows.length cap) hHb rfl hβ (.inl ⟨rfl,rfl⟩) (w' := w.setRow g (splice cur.toList (row * size + off) v.cells.toList).toArray)
    (fun k' _ hk' => setRow_other w g k' _ (fun e => hk' (by simp [refBlock,e]))) rfl rfl rfl (by simp) (fun k' hk' => .inl hk') (fun hk hN hl hbox => by
      refine ⟨_,(splice cur.toList (row * size + off) v.cells.toList).take (rows.length * size),upd_same _ _ _,⟨?_,.inr ⟨g,cap,_,?_,hbg,setRow_heap w g cur _ T0 (0,0) hg1,?_,hcm,?_,?_⟩⟩,fun r hr' => ?_,fun i r j x hi hj => ?_⟩
      · have hcl : cur.toList.length = cap * size := by simpa using hcs
        rw [List.length_take,splice_length hlen,List.length_set,hcl]
        exact Nat.min_eq_left (Nat.mul_le_mul_right _ hnc)
      · rw [List.length_set]
      · rw [List.length_set]; exact hnc
      · rw [List.size_toArray,splice_length hlen]; exact hcs
      · rw [List.length_set]
      · rcases List.mem_or_eq_of_mem_set hr' with h5 | rfl
        · exact q3 r h5
        · rw [splice_length (by omega),hrlen]
      · have hil : i < rows.length := by have := (List.getElem?_eq_some_iff.1 hi).1; simpa using this
        have hjl : j < size := by
          have h5 := (List.getElem?_eq_some_iff.1 hj).1
          rcases List.mem_or_eq_of_mem_set (List.mem_of_getElem? hi) with h6 | rfl
          · rw [q3 r h6] at h5; exact h5
          · rw [splice_length (by omega),hrlen] at h5; exact h5
        have hlt : i * size + j < rows.length * size := flat_lt hil hjl
        have e1 : ((splice cur.toList (row * size + off) v.cells.toList).take (rows.length * size)).getD (i * size + j) undef = (splice cur.toList (row * size + off) v.cells.toList).toArray.getD (i * size + j) undef := by
          simp [List.getD_eq_getElem?_getD,Array.getD_eq_getD_getElem?,List.getElem?_take_of_lt hlt]
        rw [e1,getD_splice hlen]
        have old : ∀ x,rows[i]?.bind (·[j]?) = some x → IRep (NN C (upd (applyEff H (frzEff H vs)) b (.arr T0 size (rows.set row (splice (rows.getD row []) off us)) ver false)) (upd β b (ver,.slice (some ⟨g,0,none⟩) rows.length cap))) (w.setRow g (splice cur.toList (row * size + off) v.cells.toList).toArray) x (cur.toList.getD (i * size + j) undef) ∧ (cur.toList.getD (i * size + j) undef).oneCell' = true := by
          intro x hx
          cases hri : rows[i]? with
          | none => simp [hri] at hx
          | some r0 =>
            rw [hri,Option.bind_some] at hx
            have h6 := q4 i r0 j x hri hx
            have e2 : xs0.getD (i * size + j) undef = cur.toList.getD (i * size + j) undef := by
              rw [← ht1]
              simp [List.getD_eq_getElem?_getD,List.getElem?_take_of_lt hlt]
            rw [e2] at h6
            exact ⟨h6.1.mono hk hN,h6.2⟩
        by_cases hir : i = row
        · subst hir
          rw [List.getElem?_set_self hil] at hi
          cases hi
          rw [splice_get (by omega)] at hj
          by_cases hr' : off ≤ j ∧ j < off + us.length
          · rw [if_pos hr'] at hj
            rw [if_pos (by simp; omega)]
            obtain ⟨q,hq1,hq2⟩ := s2 (j - off) x (v.cells.getD (j - off) undef) hj
            have h7 := hq2 (c2 _ q hq1)
            have e : v.cells.toList.getD (i * size + j - (i * size + off)) undef = v.cells.getD (j - off) undef := by
              have e3 : i * size + j - (i * size + off) = j - off := by omega
              rw [e3]
              simp [Array.getD_eq_getD_getElem?,List.getD_eq_getElem?_getD]
            rw [e]
            exact ⟨h7.1.mono hk hN,h7.2⟩
          · rw [if_neg hr'] at hj
            rw [if_neg (by simp; omega)]
            exact old x (by rw [hrl]; exact hj)
        · rw [List.getElem?_set_ne (Ne.symm hir)] at hi
          rw [if_neg]
          · exact old x (by rw [hi]; exact hj)
          · intro h8
            simp only [Array.length_toList] at h8
            rcases Nat.lt_or_ge i row with h9 | h9
            · have := Nat.mul_le_mul_right size (show i + 1 ≤ row by omega)
              rw [Nat.add_mul,Nat.one_mul] at this
              omega
            · have := Nat.mul_le_mul_right size (show row + 1 ≤ i by omega)
              rw [Nat.add_mul,Nat.one_mul] at this
              omega)
  rw [hββ] at this
  exact this
end
end Go.Pe
namespace Go.Pe
open Go.RowKit
theorem frz0_string (w : World) (e : TypeId) (s : ByteArray) : (Lib.bytesWorld w e s).os = w.os ∧ (Lib.bytesWorld w e s).tape = w.tape ∧ (Lib.bytesWorld w e s).output = w.output := by
  unfold Lib.bytesWorld World.freeze
  simp
  exact ⟨rfl,rfl⟩
section
variable {P : Program} {T : Tab} {C : Ctx} {n : Nat} {E : Env} {H : Heap} {β : Ref} {a : Act} {w : World}
theorem trunc_sound (hT : TabOK P T) (hs : Sim C n E H β a w) {dst : Option Nat} {ty : TypeId} {pos : String} {after : Array Edge} {guard : Option (Nat × Bool)} {t e T0 : TypeId} {ti te : TI} {x : Operand} {lo hi : Option Operand} {b ver : Nat} {rows : List (List PV)} {h : Int} (hti : T t = some ti) (hd : ti.desc = .slice e) (hte : T e = some te)
    (hx : ev E x = .own b ver) (hH : H b = some (.arr T0 te.size rows ver false)) (hl : boundA E lo 0 = some 0) (hhi : boundA E hi rows.length = some h) (h0 : 0 ≤ h) (h1 : h ≤ rows.length) :
    Gives P C n E (applyEff H [(b,.arr T0 te.size (rows.take h.toNat) (ver + 1) false)]) a w ⟨dst,.slice t x lo hi none,ty,pos,after,guard⟩ (.own b (ver + 1)) := by
  have hb : ∀ {o : Option Operand} {d i : Int},boundA E o d = some i → (o.map a.eval = none ∧ i = d) ∨ ∃ k,o.map a.eval = some (.int k i) := by
    intro o d i ho
    cases o with
    | none => simp [boundA] at ho; exact .inl ⟨rfl,ho.symm⟩
    | some y =>
      obtain ⟨k,hk⟩ := bound_eq ho (hs.ev y)
      exact .inr ⟨k,by simp [hk]⟩
  obtain ⟨u,xs,q1,q2,q3,q4⟩ := hs.blk b _ hH
  have hr := hs.ev x
  rw [hx] at hr
  have hv := hr.own_eq q1
  have hup : ∀ p,u ≠ .pointer p := by
    rintro p rfl
    rcases q2.2 with ⟨h',_⟩ | ⟨g,cap,cur,h',_⟩ <;> cases h'
  have hsz : ∀ r ∈ rows.take h.toNat,r.length = te.size := fun r hr => q3 r (List.mem_of_mem_take hr)
  have hxl : xs.length = rows.length * te.size := q2.1
  have hle : h.toNat ≤ rows.length := by omega
  have htl : (rows.take h.toNat).length = h.toNat := by simp; omega
  have hcells : ∀ (N : Nat → Prop),(∀ k,k < w.heap.size → N k → NN C H β k) → ∀ i r j pv,(rows.take h.toNat)[i]? = some r → r[j]? = some pv → IRep N w pv ((xs.take (h.toNat * te.size)).getD (i * te.size + j) undef) ∧ ((xs.take (h.toNat * te.size)).getD (i * te.size + j) undef).oneCell' = true := by
    intro N hN i r j pv hi hj
    have hil : i < h.toNat := by have := (List.getElem?_eq_some_iff.1 hi).1; rw [htl] at this; exact this
    rw [List.getElem?_take_of_lt hil] at hi
    have hjl : j < te.size := by have := (List.getElem?_eq_some_iff.1 hj).1; rw [q3 r (List.mem_of_getElem? hi)] at this; exact this
    have e1 : (xs.take (h.toNat * te.size)).getD (i * te.size + j) undef = xs.getD (i * te.size + j) undef := by
      simp only [List.getD_eq_getElem?_getD]
      rw [List.getElem?_take_of_lt (flat_lt hil hjl)]
    rw [e1]
    exact ⟨((q4 i r j pv hi hj).1).mono (Keeps.refl _ _) hN,(q4 i r j pv hi hj).2⟩
  have fin : ∀ v',(Instr.sliceAt t u (lo.map a.eval) (hi.map a.eval) none).run P w = .ok v' w → w.ownsRow C.base T0 te.size v' h.toNat (xs.take (h.toNat * te.size)) → refBlock v' = refBlock u → v'.oneCell' = true → Gives P C n E (applyEff H [(b,.arr T0 te.size (rows.take h.toNat) (ver + 1) false)]) a w ⟨dst,.slice t x lo hi none,ty,pos,after,guard⟩ (.own b (ver + 1)) := by
    intro v' hrun hown href hone
    have hsim := hs.change (x' := .arr T0 te.size (rows.take h.toNat) (ver + 1) false) (ver' := ver + 1) (u' := v') (w' := w) hH rfl q1 (.inr ⟨by omega,hup⟩) (fun _ _ _ => rfl) rfl rfl rfl (Nat.le_refl _) (fun k hk => .inl (by rw [← href]; exact hk)) (fun hk hN hl hbox =>
      ⟨v',_,upd_same _ _ _,by rw [htl]; exact hown,hsz,hcells _ hN⟩)
    exact Gives.value (w' := w) (u := v') (by simp [execOp,hv,hrun]) hsim (.own _ _ _ v' _ (upd_same _ _ _) (Nat.le_refl _) hone (fun _ => rfl))
  rcases q2.2 with ⟨rfl,hn⟩ | ⟨g,cap,cur,rfl,hbg,hg,hnc,hcm,hcs,htk⟩
  · have hh0 : h = 0 := by omega
    subst hh0
    have hrun := slice_run_cap (P := P) (hT t ti hti) hd (hT e te hte) (ad := none) (len := 0) (cap := 0) w (hb hl) (by have := hb hhi; rw [hn] at this; exact this) (Int.le_refl _) (Int.le_refl _) (Int.le_refl _) (Nat.le_refl _)
    refine fin _ hrun ?_ rfl rfl
    simpa using World.ownsRow_nil w C.base T0 te.size
  · have hrun := slice_run_cap (P := P) (hT t ti hti) hd (hT e te hte) (ad := some ⟨g,0,none⟩) (len := rows.length) (cap := cap) w (hb hl) (hb hhi) (Int.le_refl _) h0 (by omega) hnc
    have e0 : (if cap = (0 : Int).toNat then some (⟨g,0,none⟩ : Addr) else (some (⟨g,0,none⟩ : Addr)).map (·.add ((0 : Int).toNat * te.size))) = some ⟨g,0,none⟩ := by
      split
      · rfl
      · simp [Addr.add]
    rw [e0] at hrun
    refine fin _ hrun ?_ rfl rfl
    refine ⟨?_,.inr ⟨g,cap,cur,rfl,hbg,hg,by omega,hcm,hcs,?_⟩⟩
    · rw [List.length_take,hxl]
      exact Nat.min_eq_left (Nat.mul_le_mul_right _ hle)
    · have : xs = cur.toList.take (rows.length * te.size) := by simpa using htk.symm
      rw [this,List.take_take,Nat.min_eq_left (Nat.mul_le_mul_right _ hle)]
theorem sub_sound (hT : TabOK P T) (hs : Sim C n E H β a w) {dst : Option Nat} {ty : TypeId} {pos : String} {after : Array Edge} {guard : Option (Nat × Bool)} {t e T0 : TypeId} {ti te : TI} {x : Operand} {lo : Option Operand} {b ver : Nat} {rows : List (List PV)} {f : Bool} {l : Int} (hti : T t = some ti) (hd : ti.desc = .slice e) (hte : T e = some te)
    (hx : ev E x = .own b ver) (hH : H b = some (.arr T0 te.size rows ver f)) (hl : boundA E lo 0 = some l) (h0 : 0 ≤ l) (h1 : l ≤ rows.length) :
    Gives P C n E H a w ⟨dst,.slice t x lo none none,ty,pos,after,guard⟩ (.sub b ver l.toNat (rows.length - l.toNat) te.size) := by
  have hb : (lo.map a.eval = none ∧ l = 0) ∨ ∃ k,lo.map a.eval = some (.int k l) := by
    cases lo with
    | none => simp [boundA] at hl; exact .inl ⟨rfl,hl.symm⟩
    | some y =>
      obtain ⟨k,hk⟩ := bound_eq hl (hs.ev y)
      exact .inr ⟨k,by simp [hk]⟩
  obtain ⟨u,xs,q1,q2,q3,q4⟩ := hs.blk b _ hH
  have hr := hs.ev x
  rw [hx] at hr
  have hv := hr.own_eq q1
  rcases q2.2 with ⟨rfl,hn⟩ | ⟨g,cap,cur,rfl,hbg,hg,hnc,hcm,hcs,htk⟩
  · have hl0 : l = 0 := by omega
    subst hl0
    have hrun := slice_run_cap (P := P) (hT t ti hti) hd (hT e te hte) (ad := none) (len := 0) (cap := 0) (hi := none) (h := 0) w hb (.inl ⟨rfl,rfl⟩) (Int.le_refl _) (Int.le_refl _) (Int.le_refl _) (Nat.le_refl _)
    exact Gives.value (w' := w) (β' := β) (u := .slice none 0 0) (by simp [execOp,hv,hrun]) hs (.sub _ _ _ _ _ _ _ _ q1 (Nat.le_refl _) rfl (fun _ => ⟨none,0,by rw [hn]; rfl,by omega,fun h => by omega⟩))
  · have hrun := slice_run_cap (P := P) (hT t ti hti) hd (hT e te hte) (ad := some ⟨g,0,none⟩) (len := rows.length) (cap := cap) (hi := none) (h := rows.length) w hb (.inl ⟨rfl,rfl⟩) h0 h1 (by omega) hnc
    obtain ⟨v',hv'⟩ : ∃ v',v' = Value.slice (if cap = l.toNat then some (⟨g,0,none⟩ : Addr) else (some (⟨g,0,none⟩ : Addr)).map (·.add (l.toNat * te.size))) (rows.length - l.toNat) (cap - l.toNat) := ⟨_,rfl⟩
    rw [Int.toNat_natCast,← hv'] at hrun
    refine Gives.value (w' := w) (β' := β) (u := v') (by simp [execOp,hv,hrun]) hs (.sub _ _ _ _ _ _ _ _ q1 (Nat.le_refl _) (by rw [hv']; rfl) (fun _ => ⟨_,_,hv',by omega,fun h => ⟨g,_,_,rfl,?_⟩⟩))
    rw [if_neg (by omega)]
    simp [Addr.add_lit]
theorem Sim.over (hs : Sim C n E H β a w) {b ver size T0 g nn cap : Nat} {rows new : List (List PV)} {cur : Array Value} {zl : List Value} {lo : Nat} (hH : H b = some (.arr T0 size rows ver false)) (hβ : β b = some (ver,.slice (some ⟨g,0,none⟩) nn cap)) (hg : w.heap[g]? = some (.cells cur T0 (0,0)))
    (hle : lo + new.length ≤ rows.length) (hzl : zl.length = new.length * size) (hsz : ∀ r ∈ new,r.length = size) (hz : ∀ i r j pv,new[i]? = some r → r[j]? = some pv → IRep (NN C H β) w pv (zl.getD (i * size + j) undef) ∧ (zl.getD (i * size + j) undef).oneCell' = true) :
    Sim C n E (upd H b (.arr T0 size (splice rows lo new) ver false)) β a (w.setRow g (splice cur.toList (lo * size) zl).toArray) := by
  obtain ⟨u0,xs,q1,q2,q3,q4⟩ := hs.blk b _ hH
  rw [hβ] at q1
  cases q1
  rcases q2.2 with ⟨h',_⟩ | ⟨g1,cap1,cur1,e1,hbg,hg1,hnc,hcm,hcs,ht1⟩
  · cases h'
  obtain ⟨e2,e3,e4⟩ : g = g1 ∧ nn = rows.length ∧ cap = cap1 := by cases e1; exact ⟨rfl,rfl,rfl⟩
  subst e2 e3 e4
  rw [hg] at hg1
  cases hg1
  have hββ : upd β b (ver,Value.slice (some ⟨g,0,none⟩) rows.length cap) = β := by
    funext c
    by_cases e : c = b
    · subst e; rw [upd_same,hβ]
    · rw [upd_other _ _ e]
  have hm1 : (lo + new.length) * size ≤ rows.length * size := Nat.mul_le_mul_right _ hle
  have hm2 : rows.length * size ≤ cap * size := Nat.mul_le_mul_right _ hnc
  rw [Nat.add_mul] at hm1
  have hcl : cur.toList.length = cap * size := by simpa using hcs
  have hlen : lo * size + zl.length ≤ cur.toList.length := by rw [hzl,hcl]; omega
  have hrl : lo + new.length ≤ rows.length := hle
  have := hs.change (x' := .arr T0 size (splice rows lo new) ver false) (ver' := ver) (u' := .slice (some ⟨g,0,none⟩) rows.length cap) hH rfl hβ (.inl ⟨rfl,rfl⟩) (w' := w.setRow g (splice cur.toList (lo * size) zl).toArray)
    (fun k' _ hk' => setRow_other w g k' _ (fun e => hk' (by simp [refBlock,e]))) rfl rfl rfl (by simp) (fun k' hk' => .inl hk') (fun hk hN hl hbox => by
      refine ⟨_,(splice cur.toList (lo * size) zl).take (rows.length * size),upd_same _ _ _,⟨?_,.inr ⟨g,cap,_,?_,hbg,setRow_heap w g cur _ T0 (0,0) hg,?_,hcm,?_,?_⟩⟩,fun r hr' => ?_,fun i r j x hi hj => ?_⟩
      · rw [List.length_take,splice_length hlen,splice_length hrl,hcl]
        exact Nat.min_eq_left hm2
      · rw [splice_length hrl]
      · rw [splice_length hrl]; exact hnc
      · rw [List.size_toArray,splice_length hlen]; exact hcs
      · rw [splice_length hrl]
      · unfold splice at hr'
        rcases List.mem_append.1 hr' with h | h
        · rcases List.mem_append.1 h with h | h
          · exact q3 r (List.mem_of_mem_take h)
          · exact hsz r h
        · exact q3 r (List.mem_of_mem_drop h)
      · have hil : i < rows.length := by have := (List.getElem?_eq_some_iff.1 hi).1; rwa [splice_length hrl] at this
        rw [splice_get hrl] at hi
        have hjl : j < size := by
          have h5 := (List.getElem?_eq_some_iff.1 hj).1
          split at hi
          · rw [hsz r (List.mem_of_getElem? hi)] at h5; exact h5
          · rw [q3 r (List.mem_of_getElem? hi)] at h5; exact h5
        have hlt : i * size + j < rows.length * size := flat_lt hil hjl
        have e1 : ((splice cur.toList (lo * size) zl).take (rows.length * size)).getD (i * size + j) undef = ((splice cur.toList (lo * size) zl)[i * size + j]?).getD undef := by
          simp [List.getD_eq_getElem?_getD,List.getElem?_take_of_lt hlt]
        rw [e1,splice_get hlen]
        by_cases hin : lo ≤ i ∧ i < lo + new.length
        · rw [if_pos hin] at hi
          have h6 : (i - lo) * size + j < new.length * size := flat_lt (by omega) hjl
          have h7 : i * size = lo * size + (i - lo) * size := by rw [← Nat.add_mul]; congr 1; omega
          rw [if_pos (by rw [hzl]; omega),show i * size + j - lo * size = (i - lo) * size + j by omega]
          have := hz _ r j x hi hj
          rw [List.getD_eq_getElem?_getD] at this
          exact ⟨this.1.mono hk hN,this.2⟩
        · rw [if_neg hin] at hi
          have h8 : ¬ (lo * size ≤ i * size + j ∧ i * size + j < lo * size + zl.length) := by
            rw [hzl]
            rintro ⟨h9,h10⟩
            by_cases h11 : i < lo
            · have := flat_lt h11 hjl
              omega
            · have h12 := Nat.mul_le_mul_right size (show lo + new.length ≤ i by omega)
              rw [Nat.add_mul] at h12
              omega
          rw [if_neg h8]
          have h6 := q4 i r j x hi hj
          have e2 : xs.getD (i * size + j) undef = (cur.toList[i * size + j]?).getD undef := by
            rw [← ht1]
            simp [List.getD_eq_getElem?_getD,List.getElem?_take_of_lt hlt]
          rw [e2] at h6
          exact ⟨h6.1.mono hk hN,h6.2⟩)
  rw [hββ] at this
  exact this
theorem clear_sound (hT : TabOK P T) (hs : Sim C n E H β a w) {t : TypeId} {x : Operand} {r : PV} {ok : Prop} {eff : List (Nat × Blk)} (h : clearA T E H t x = some (ok,r,eff)) (hok : ok) (ty : TypeId) :
    r = .lit (.tuple #[]) ∧ ∃ w',(Builtin.clear_ #[t] ty #[a.eval x]).run P w = .ok (.tuple #[]) w' ∧ Sim C n E (applyEff H eff) β a w' := by
  unfold clearA at h
  split at h
  · cases h
  rename_i ti hti
  split at h
  · rename_i e hd
    split at h
    · cases h
    rename_i te hte
    split at h
    · rename_i b ver lo nn size hx
      split at h
      · rename_i T0 s rows ver' f hH
        simp only [Option.some.injEq,Prod.mk.injEq] at h
        obtain ⟨rfl,rfl,rfl⟩ := h
        obtain ⟨rfl,rfl,rfl,rfl,hle⟩ := hok
        refine ⟨rfl,?_⟩
        obtain ⟨d,hu,hf,_⟩ := (hT t ti hti).d
        rw [hd] at hf
        simp only [TD.fits] at hf
        subst hf
        obtain ⟨i,z,i1,i2,i3,i4,i5,i6,i7⟩ := (hT e te hte).i
        obtain ⟨z1,z2⟩ := zero_rep (w := w) (N := NN C H β) i5 (hT e te hte).z
        have hzl : te.zpv.length = te.size := by rw [(hT e te hte).z.1,i6]
        have hzs : z.cells.size = te.size := by rw [z1,hzl]
        obtain ⟨u,xs,q1,q2,q3,q4⟩ := hs.blk b _ hH
        have hr := hs.ev x
        rw [hx] at hr
        obtain ⟨ad,m,hv,_,hsub⟩ := hr.sub_eq q1
        have happ : ∀ y,applyEff H [(b,y)] = upd H b y := fun y => rfl
        rw [happ]
        rcases Nat.eq_zero_or_pos nn with h0 | h0
        · subst h0
          refine ⟨w,?_,?_⟩
          · rw [hv]
            cases ad <;> simp [Builtin.clear_,run_underlying hu]
          · have e1 : splice rows lo (List.replicate 0 te.zpv) = rows := by simp [splice]
            rw [e1]
            have e2 : upd H b (.arr T0 te.size rows ver' false) = H := by
              funext c
              by_cases e : c = b
              · subst e; rw [upd_same,hH]
              · rw [upd_other _ _ e]
            rw [e2]
            exact hs
        · obtain ⟨g,n0,c,hu0,rfl⟩ := hsub h0
          subst hu0
          rcases q2.2 with ⟨h',_⟩ | ⟨g1,cap,cur,e1,hbg,hg1,hnc,hcm,hcs,ht1⟩
          · cases h'
          obtain ⟨e2,e3,e4⟩ : g = g1 ∧ n0 = rows.length ∧ c = cap := by cases e1; exact ⟨rfl,rfl,rfl⟩
          subst e2 e3 e4
          have hm1 : (lo + nn) * te.size ≤ rows.length * te.size := Nat.mul_le_mul_right _ hle
          have hm2 : rows.length * te.size ≤ c * te.size := Nat.mul_le_mul_right _ hnc
          rw [Nat.add_mul] at hm1
          have hzc : (Builtin.zeroCells z.cells nn).toList.length = nn * te.size := by simp [Builtin.zeroCells,hzs]
          have h1c : ∀ v ∈ z.cells.toList,v.oneCell' = true := fun v hv' => i7 v (by rw [← i5]; exact hv')
          have hone : ∀ v ∈ (Builtin.zeroCells z.cells nn).toList,v.oneCell' = true := by
            intro v hv'
            obtain ⟨k,hk,rfl⟩ := List.getElem_of_mem hv'
            rw [hzc] at hk
            have hp : 0 < te.size := by
              rcases Nat.eq_zero_or_pos te.size with h5 | h5
              · rw [h5] at hk; omega
              · exact h5
            have hkm := Nat.mod_lt k hp
            have e5 : (Builtin.zeroCells z.cells nn).toList[k] = z.cells[k % te.size]'(by rw [hzs]; exact hkm) := by
              simp only [Builtin.zeroCells,Array.getElem_toList,Array.getElem_map,Array.getElem_range,hzs]
              rw [getElem!_pos z.cells (k % te.size) (by rw [hzs]; exact hkm)]
            rw [e5]
            exact h1c _ (by simp)
          have hst := run_storeCells_at P g (lo * te.size) T0 (Builtin.zeroCells z.cells nn).toList 0 cur w hg1 (by rw [hzc,hcs]; omega) hone
          simp only [Nat.add_zero] at hst
          refine ⟨w.setRow g (splice cur.toList (lo * te.size) (Builtin.zeroCells z.cells nn).toList).toArray,?_,?_⟩
          · rw [hv]
            obtain ⟨m',rfl⟩ : ∃ m',nn = m' + 1 := ⟨nn - 1,by omega⟩
            simp [Builtin.clear_,run_underlying hu,zeroValue,typeInfo,i1,i4,hst,splice]
          · exact hs.over (lo := lo) (new := List.replicate nn te.zpv) hH q1 hg1 (by simpa using hle) (by rw [hzc,List.length_replicate]) (fun r hr => by rw [List.eq_of_mem_replicate hr,hzl]) (zeros_rep z2 h1c hzs hzl)
      · cases h
    · cases h
  · cases h
theorem freeze_at (w : World) (g k : Nat) (cur : Array Value) (T0 : TypeId) (h : w.heap[g]? = some (.cells cur T0 (0,0))) : (w.freeze ⟨g,k,none⟩ 1).heap[g]? = some (.cells cur T0 (k,k + 1)) := by
  simp [World.freeze,Array.getElem?_modify,h]
theorem freeze_other (w : World) (g k j : Nat) (h : j ≠ g) : (w.freeze ⟨g,k,none⟩ 1).heap[j]? = w.heap[j]? := by
  simp [World.freeze,Array.getElem?_modify,Ne.symm h]
theorem freeze_size (w : World) (g k : Nat) : (w.freeze ⟨g,k,none⟩ 1).heap.size = w.heap.size := by simp [World.freeze]
theorem conv_own (hs : Sim C n E H β a w) {s e : TypeId} (hus : P.underlying s = some (.slice e)) (hue : P.underlying e = some (.int .u8)) {b ver T0 : Nat} {rows : List (List PV)} {v : Value} (hH : H b = some (.arr T0 1 rows ver false)) (hr : Rep (NN C H β) w β (.own b ver) v) (h0 : 0 < rows.length) :
    ∃ w' β',(convert s s v).run P w = .ok v w' ∧ Sim C n E (upd H b (.arr T0 1 [] (ver + 1) true)) β' a w' ∧ Rep (NN C (upd H b (.arr T0 1 [] (ver + 1) true)) β') w' β' (.im 1 rows) v := by
  obtain ⟨u,xs,q1,q2,q3,q4⟩ := hs.blk b _ hH
  have hv := hr.own_eq q1
  subst hv
  obtain ⟨q2a,q2b⟩ := q2
  rcases q2b with ⟨_,h⟩ | ⟨g,cap,cur,rfl,hg,hcell,hnc,hcm,hcs,htk⟩
  · omega
  have hsh : w.shape? g = some (T0,cur.size) := by unfold World.shape?; rw [hcell]
  have hup : ∀ p,Value.slice (some ⟨g,0,none⟩) rows.length cap ≠ .pointer p := by intro p hp; cases hp
  refine ⟨w.freeze ⟨g,cur.size,none⟩ 1,upd β b (ver + 1,.slice none 0 0),?_,?_,?_⟩
  · simp [convert,run_underlying hus,run_underlying hue,markStringish,hsh]
  · refine hs.change (x' := .arr T0 1 [] (ver + 1) true) (ver' := ver + 1) (u' := .slice none 0 0) hH rfl q1 (.inr ⟨by omega,hup⟩) (fun k _ hk => freeze_other w g _ k (fun e => hk (by simp [refBlock,e]))) ?_ ?_ ?_ (by rw [freeze_size]; exact Nat.le_refl _) (fun k hk => by cases hk)
      (fun _ _ _ _ => ⟨.slice none 0 0,[],upd_same _ _ _,World.ownsRow_nil _ _ _ _,by simp,by simp⟩)
    · simp [World.freeze]
    · simp [World.freeze]
    · simp [World.freeze]
  · have hnn : ¬ NN C (upd H b (.arr T0 1 [] (ver + 1) true)) (upd β b (ver + 1,.slice none 0 0)) g := by
      rintro (hk | ⟨c,x,v1,u1,h1,h2,h3,h4⟩)
      · have := hs.nxb g hk; omega
      · by_cases e : c = b
        · subst e
          rw [upd_same] at h1
          cases h1
          cases h2
        · rw [upd_other _ _ e] at h1 h3
          exact hs.sep b c _ _ (Ne.symm e) hH h1 ver _ v1 u1 g q1 h3 rfl h4
    have hN : ∀ k,k < w.heap.size → NN C (upd H b (.arr T0 1 [] (ver + 1) true)) (upd β b (ver + 1,.slice none 0 0)) k → NN C H β k := by
      rintro k _ (hk | ⟨c,x,v1,u1,h1,h2,h3,h4⟩)
      · exact .inl hk
      · by_cases e : c = b
        · subst e
          rw [upd_same] at h1
          cases h1
          cases h2
        · rw [upd_other _ _ e] at h1 h3
          exact .inr ⟨c,x,v1,u1,h1,h2,h3,h4⟩
    have hkp : Keeps (NN C H β) w (w.freeze ⟨g,cur.size,none⟩ 1) := by
      refine ⟨by simp [World.freeze],by simp [World.freeze],by simp [World.freeze],by rw [freeze_size]; exact Nat.le_refl _,fun k _ hk => freeze_other w g _ k (fun e => hk (.inr ⟨b,_,ver,_,hH,rfl,q1,by rw [e]; rfl⟩))⟩
    refine .i (.im rows ⟨g,0,none⟩ rows.length cap 1 (fun i j => xs.getD (i * 1 + j) undef) rfl q3 hnc (fun i r j pv hi hj => ?_) (fun i r j pv hi hj => (q4 i r j pv hi hj).1.mono hkp hN))
    have hil := (List.getElem?_eq_some_iff.1 hi).1
    have hjl := (List.getElem?_eq_some_iff.1 hj).1
    have hr1 := q3 r (List.mem_of_getElem? hi)
    refine ⟨?_,hnn,(q4 i r j pv hi hj).2⟩
    have hj0 : j = 0 := by omega
    subst hj0
    have hlt : i < cur.size := by omega
    have hxi : xs.getD (i * 1 + 0) undef = cur[i] := by
      rw [← htk]
      simp [List.getD_eq_getElem?_getD,List.getElem?_take,hil,hlt]
    rw [hxi,Addr.add_lit,Nat.zero_add]
    have := cell_of_row (w.freeze ⟨g,cur.size,none⟩ 1) g (i * 1 + 0) cur T0 (cur.size,cur.size + 1) (freeze_at w g cur.size cur T0 hcell)
    rw [this]
    simp [hlt]
theorem evMem_sound (hT : TabOK P T) (hs : Sim C n E H β a w) {fresh : Nat} (hfr : H fresh = none) {o : Oper} {r : PV} {ok : Prop} {eff : List (Nat × Blk)} (h : evMem T fresh E H o.op = some (ok,r,eff)) (hok : ok) :
    Gives P C n E (applyEff H eff) a w o r := by
  obtain ⟨dst,op,ty,pos,after,guard⟩ := o
  cases op <;> simp only [evMem,reduceCtorEq] at h
  case alloc t =>
    split at h
    · rename_i ti hti
      simp only [Option.some.injEq,Prod.mk.injEq] at h
      obtain ⟨_,rfl,rfl⟩ := h
      obtain ⟨i,z,i1,i2,i3,i4,i5,i6,i7⟩ := (hT t ti hti).i
      obtain ⟨z1,z2⟩ := zero_rep (w := w) (N := NN C H β) i5 (hT t ti hti).z
      obtain ⟨β',q1,q2⟩ := hs.newBox (t := t) hfr z1 (fun j x hj => ⟨.i (z2 j x hj),by
        have hlt : j < z.cells.size := by rw [z1]; exact (List.getElem?_eq_some_iff.1 hj).1
        have : z.cells.getD j undef ∈ ti.zero := by rw [← i5]; simp [Array.getD,hlt]
        exact i7 _ this⟩)
      exact Gives.value (w' := w.alloc (.cells z.cells t)) (by simp [execOp,Instr.alloc,zeroValue,typeInfo,i1,i4,newVar,newRow]) q1 q2
    · cases h
  case box t x =>
    split at h
    · rename_i cs hcs
      simp only [Option.some.injEq,Prod.mk.injEq] at h
      obtain ⟨rfl,rfl,rfl⟩ := h
      obtain ⟨c1,c2⟩ := (hs.ev x).cells hcs
      obtain ⟨β',q1,q2⟩ := hs.newBox (t := t) hfr c1 (fun j y hj => ⟨c2 j y hj,(c2 j y hj).cell (all_isCell hok (List.mem_of_getElem? hj))⟩)
      exact Gives.value (w' := w.alloc (.cells (a.eval x).cells t)) (by simp [execOp,Instr.box,newVar,newRow]) q1 q2
    · cases h
  case buildSlice t len ps =>
    split at h
    · rename_i ti hti
      split at h
      · rename_i e hd
        split at h
        · rename_i te hte
          split at h
          · rename_i rows hrows
            simp only [Option.some.injEq,Prod.mk.injEq] at h
            obtain ⟨rfl,rfl,rfl⟩ := h
            obtain ⟨k1,k2,k3,k4⟩ := hok
            obtain ⟨d,hu,hf,_⟩ := (hT t ti hti).d
            rw [hd] at hf
            simp only [TD.fits] at hf
            subst hf
            obtain ⟨i,z,i1,i2,i3,i4,i5,i6,i7⟩ := (hT e te hte).i
            have hF := hs.frz (litCells (ps.toList.map fun p => ev E p.2))
            obtain ⟨s1,s2,s3⟩ := litRowsA_spec hs hF _ rows hrows (fun x hx => applyEff_mem _ _ _ (frzEff_list _) hx)
            have hnone : applyEff H (frzEff H (litCells (ps.toList.map fun p => ev E p.2))) fresh = none := by rw [applyEff_other _ _ _ k4]; exact hfr
            have hlen : ps.toList.length = len := by have := congrArg List.length k1; simpa using this
            have hrl : rows.length = len := by rw [s1]; simpa using hlen
            have heff : applyEff H (frzEff H (litCells (ps.toList.map fun p => ev E p.2)) ++ [(fresh,.arr e te.size rows 0 false)]) = upd (applyEff H (frzEff H (litCells (ps.toList.map fun p => ev E p.2)))) fresh (.arr e te.size rows 0 false) := by
              simp [applyEff]
            rw [heff]
            have hsz : ∀ q ∈ (ps.map fun (i,x) => (i,a.eval x)).toList,q.2.cells.size = te.size := by
              intro q hq
              simp only [Array.toList_map,List.mem_map] at hq
              obtain ⟨p,hp,rfl⟩ := hq
              obtain ⟨k,hk,rfl⟩ := List.getElem_of_mem hp
              exact (s3 k _ (a.eval ps.toList[k].2) (by simp only [List.getElem?_map]; rw [yBh hk]; rfl) (hs.ev _)).1
            have hidx : (ps.map fun (i,x) => (i,a.eval x)).toList.map (·.1) = List.range' 0 (ps.map fun (i,x) => (i,a.eval x)).toList.length := by
              have e1 : (ps.map fun (i,x) => (i,a.eval x)).toList.map (·.1) = ps.toList.map (·.1) := by simp [Function.comp_def]
              have e2 : (ps.map fun (i,x) => (i,a.eval x)).toList.length = len := by simpa using hlen
              rw [e1,k1,e2,List.range_eq_range']
            rcases Nat.eq_zero_or_pos len with h0 | h0
            · subst h0
              have hps : ps = #[] := by apply Array.ext'; exact List.eq_nil_of_length_eq_zero hlen
              have hrn : rows = [] := List.eq_nil_of_length_eq_zero hrl
              subst hrn
              obtain ⟨β',q1,q2⟩ := hF.sim.newArr (e := e) (size := te.size) (m := 0) (cap := 0) (cells := #[]) (rows := []) hnone rfl (Nat.le_refl _) (Nat.zero_le _) (by simp) (by simp) (by simp)
              refine Gives.value (w' := w.alloc (.cells #[] e)) ?_ q1 q2
              simp [execOp,Instr.buildSlice,run_underlying hu,(hT e te hte).run_sizeOf,hps,Instr.fill,newRow]
              congr 2
              apply Array.ext'
              simp
            · have hm : ¬ len * i.size > 2 ^ 24 := by rw [i2]; omega
              have hp : ¬ len * i.size = 0 := by
                rw [i2]
                intro hz
                rcases Nat.mul_eq_zero.1 hz with h' | h'
                · omega
                · exact k2 h'
              obtain ⟨r,r1,r2,r3⟩ := fill_dense te.size (ps.map fun (i,x) => (i,a.eval x)).toList 0 len ((Array.range (len * i.size)).map (z.cells[· % z.cells.size]!)) hidx hsz (by simp only [Array.toList_map,List.length_map]; omega) (by simp [i2])
              have hrs : r.size = len * te.size := by rw [r2]; simp [i2]
              obtain ⟨β',q1,q2⟩ := hF.sim.newArr (e := e) (size := te.size) (m := len) (cap := len) (cells := r) (rows := rows) hnone hrl (Nat.le_refl _) (by
                  simp only [maxLen]
                  have := Nat.le_mul_of_pos_right len (Nat.pos_of_ne_zero k2)
                  omega) hrs s2 (fun k rr j x hk hj => by
                have hkl : k < len := by rw [← hrl]; exact (List.getElem?_eq_some_iff.1 hk).1
                have hjl : j < te.size := by have := (List.getElem?_eq_some_iff.1 hj).1; rw [s2 rr (List.mem_of_getElem? hk)] at this; exact this
                have hkp : k < ps.toList.length := by omega
                rw [r3 k j hkl hjl,if_pos (by simp only [Array.toList_map,List.length_map]; omega)]
                have hget : ((ps.map fun (i,x) => (i,a.eval x)).toList.getD (k - 0) (0,undef)).2 = a.eval ps.toList[k].2 := by
                  have hkp' : k < ps.size := by simpa using hkp
                  simp [List.getD_eq_getElem?_getD,hkp']
                rw [hget]
                exact (s3 k _ (a.eval ps.toList[k].2) (by simp only [List.getElem?_map]; rw [yBh hkp]; rfl) (hs.ev _)).2 rr j x hk hj)
              refine Gives.value (w' := w.alloc (.cells r e)) ?_ q1 q2
              have hbs : Instr.fill (fun k => some (k * i.size,i.size)) ((Array.range (len * i.size)).map (z.cells[· % z.cells.size]!)) (ps.map fun (i,x) => (i,a.eval x)).toList = some r := by rw [i2] at r1 ⊢; exact r1
              simp only [execOp]
              rw [Sem.run_bind]
              have : (Instr.buildSlice t len (ps.map fun (i,x) => (i,a.eval x))).run P w = .ok (.slice (some ⟨w.heap.size,0,none⟩) len len) (w.alloc (.cells r e)) := by
                simp [Instr.buildSlice,run_underlying hu,sizeOf,typeInfo,zeroValue,i1,i4,hm,hp,newRow]
                simp only [Array.toList_map] at hbs
                rw [show (List.map (fun x : Nat × Operand => (x.fst,a.eval x.snd)) ps.toList) = (List.map (fun x : Nat × Operand => match x with | (i,x) => (i,a.eval x)) ps.toList) from rfl]
                rw [hbs]
                simp
              rw [this]
              rfl
          · cases h
        · cases h
      · cases h
    · cases h
  case store t x y =>
    split at h
    · rename_i ti vs hti hvs
      split at h
      · rename_i b off hx
        split at h
        · rename_i T0 cs hH
          simp only [Option.some.injEq,Prod.mk.injEq] at h
          obtain ⟨rfl,rfl,rfl⟩ := h
          obtain ⟨k1,k2,k3⟩ := hok
          have hr := hs.ev x
          rw [hx] at hr
          obtain ⟨w',q1,q2⟩ := store_box (P := P) hT hs hti hH hr hvs (hs.ev y) k1 k2 k3
          exact ⟨.skip,w',β,by simp [execOp,q1],q2,.inr ⟨rfl,rfl⟩⟩
        · cases h
      · rename_i b ver row off size hx
        split at h
        · rename_i T0 s rows ver' f us hH hus
          simp only [Option.some.injEq,Prod.mk.injEq] at h
          obtain ⟨rfl,rfl,rfl⟩ := h
          obtain ⟨rfl,rfl,rfl,k1,k2,k3,k4⟩ := hok
          have hr := hs.ev x
          rw [hx] at hr
          obtain ⟨w',q1,q2⟩ := store_arr (P := P) hT hs hti hH hr hvs hus (hs.ev y) k1 k2 k3 k4
          exact ⟨.skip,w',β,by simp [execOp,q1],q2,.inr ⟨rfl,rfl⟩⟩
        · cases h
      · cases h
    · cases h
  case convert s d x =>
    split at h
    · rename_i ts td v hts htd hx
      split at h
      · rename_i e hd
        split at h
        · rename_i te hte
          split at h
          · rename_i hu8
            simp only [Option.some.injEq,Prod.mk.injEq] at h
            obtain ⟨rfl,rfl,rfl⟩ := h
            obtain ⟨ds,hus,_⟩ := (hT s ts hts).d
            obtain ⟨dd,hud,hfd,_⟩ := (hT d td htd).d
            obtain ⟨de,hue,hfe,_⟩ := (hT e te hte).d
            rw [hu8] at hfe
            rw [hd] at hfd
            simp only [TD.fits] at hfe hfd
            subst hfe
            subst hfd
            have hr := hs.ev x
            rw [hx] at hr
            have hrun := Lib.run_convert_string_bytes (P := P) w s d e v hus hud hue
            obtain ⟨o1,o2,o3⟩ := frz0_string w e v
            have hk : ∀ N,Keeps N w (Lib.bytesWorld w e v) := fun N => ⟨o1,o2,o3,by rw [Lib.bytesWorld_size]; omega,fun k hk _ => Lib.bytesWorld_at_old w e v k hk⟩
            have hsim : Sim C n E H β a (Lib.bytesWorld w e v) := hs.world (hk _) (hs.keeps_below (hk _)) (fun b y hy _ => (hs.blk b y hy).later (hk _) (fun _ _ h => h) (Later.refl _) (fun _ _ h => h) rfl
              (fun ver u k h1 h2 => Lib.bytesWorld_at_old w e v k (hs.lies b ver u k h1 h2)))
            refine Gives.value (u := .slice (some ⟨w.heap.size,0,none⟩) v.size (grownCap w v.size 0 e)) (w' := Lib.bytesWorld w e v) (β' := β) ?_ hsim (.i ?_)
            · simp [execOp,hr.lit_eq,hrun]
            · refine .im _ _ _ _ 1 (fun i j => .int .u8 (v.data.toList.getD i 0).toNat) (by simp [strRows]) (by simp [strRows]) (by have := grownCap_ge w v.size 0 e; simpa [strRows] using this) (fun i r j pv hi hj => ?_) (fun i r j pv hi hj => ?_)
              · simp only [strRows,List.getElem?_map,Option.map_eq_some_iff] at hi
                obtain ⟨bb,hb,rfl⟩ := hi
                cases j with
                | zero =>
                  have hlt : i < v.size := by have := (List.getElem?_eq_some_iff.1 hb).1; simpa using this
                  refine ⟨?_,?_,rfl⟩
                  · rw [Addr.add_lit,Nat.mul_one,Nat.add_zero,Nat.zero_add]
                    exact Lib.bytesWorld_cell w e v i hlt
                  · rintro (hn | ⟨c,y,ver,u,h1,h2,h3,h4⟩)
                    · have := hs.nxb _ hn
                      have := hs.bs
                      simp at *
                      omega
                    · have := hs.lies c ver u _ h3 h4
                      simp at this
                | succ j => simp at hj
              · simp only [strRows,List.getElem?_map,Option.map_eq_some_iff] at hi
                obtain ⟨bb,hb,rfl⟩ := hi
                cases j with
                | zero =>
                  cases hj
                  have : v.data.toList.getD i 0 = bb := by rw [List.getD_eq_getElem?_getD,hb]; rfl
                  rw [this]
                  exact .lit _
                | succ j => simp at hj
          · cases h
        · cases h
      · cases h
    · rename_i ts td b ver hts htd hx
      split at h
      · rename_i e T0 size rows ver' f hd hH
        split at h
        · rename_i te hte
          split at h
          · rename_i hu8
            simp only [Option.some.injEq,Prod.mk.injEq] at h
            obtain ⟨rfl,rfl,rfl⟩ := h
            obtain ⟨rfl,rfl,rfl,rfl,h0⟩ := hok
            obtain ⟨dd,hud,hfd,_⟩ := (hT s td htd).d
            obtain ⟨de,hue,hfe,_⟩ := (hT e te hte).d
            rw [hu8] at hfe
            rw [hd] at hfd
            simp only [TD.fits] at hfe hfd
            subst hfe
            subst hfd
            have hr := hs.ev x
            rw [hx] at hr
            obtain ⟨w',β',c1,c2,c3⟩ := conv_own (P := P) hs hud hue hH hr h0
            exact Gives.value (by simp [execOp,c1]) c2 c3
          · cases h
        · cases h
      · cases h
    · cases h
  case makeSlice t l c =>
    split at h
    · rename_i ti k m k' m' hti hl hc
      split at h
      · rename_i e hd
        split at h
        · rename_i te hte
          simp only [Option.some.injEq,Prod.mk.injEq] at h
          obtain ⟨rfl,rfl,rfl⟩ := h
          obtain ⟨rfl,h0,h1,h2,h3⟩ := hok
          obtain ⟨d,hu,hf,_⟩ := (hT t ti hti).d
          rw [hd] at hf
          simp only [TD.fits] at hf
          subst hf
          obtain ⟨i,z,i1,i2,i3,i4,i5,i6,i7⟩ := (hT e te hte).i
          obtain ⟨z1,z2⟩ := zero_rep (w := w) (N := NN C H β) i5 (hT e te hte).z
          have hrl := hs.ev l
          have hrc := hs.ev c
          rw [hl] at hrl
          rw [hc] at hrc
          have hw := wrap64_id h0 h2
          have hzl : te.zpv.length = te.size := by rw [(hT e te hte).z.1,i6]
          have hzs : z.cells.size = te.size := by rw [z1,hzl]
          let cells : Array Value := (Array.range (m'.toNat * i.size)).map (z.cells[· % z.cells.size]!)
          obtain ⟨β',q1,q2⟩ := hs.newArr (e := e) (size := te.size) (m := m'.toNat) (cap := m'.toNat) (cells := cells) (rows := List.replicate m'.toNat te.zpv) hfr (by simp) (Nat.le_refl _) (by simp only [maxLen]; omega) (by simp [cells,i2]) (fun r hr => by
              rw [List.eq_of_mem_replicate hr,hzl]) (fun k r j x hk hj => by
            have hkl : k < m'.toNat := by have := (List.getElem?_eq_some_iff.1 hk).1; simpa using this
            have hrr : r = te.zpv := List.eq_of_mem_replicate (List.mem_of_getElem? hk)
            subst hrr
            have hjl : j < te.size := by rw [← hzl]; exact (List.getElem?_eq_some_iff.1 hj).1
            have hlt : k * te.size + j < m'.toNat * te.size := flat_lt hkl hjl
            have hmod : (k * te.size + j) % te.size = j := by rw [Nat.mul_comm,Nat.mul_add_mod,Nat.mod_eq_of_lt hjl]
            have e1 : cells.getD (k * te.size + j) undef = z.cells.getD j undef := by
              simp only [cells,Array.getD_eq_getD_getElem?,Array.getElem?_map,i2,Array.getElem?_range,hlt,if_true,Option.map_some,Option.getD_some,hzs,hmod]
              simp [hzs,hjl]
            rw [e1]
            refine ⟨z2 j x hj,?_⟩
            have : z.cells.getD j undef ∈ te.zero := by rw [← i5]; simp [Array.getD,hzs,hjl]
            exact i7 _ this)
          refine Gives.value (w' := w.alloc (.cells cells e)) ?_ q1 q2
          have hbig : ¬ (281474976710656 < (i.bytes : Int) * m') := by rw [i3]; omega
          have hneg : ¬ m' < 0 := by omega
          by_cases hz : m'.toNat * i.size = 0
          · have hm0 : m'.toNat = 0 := by
              rcases Nat.mul_eq_zero.1 hz with h' | h'
              · exact h'
              · rw [i2] at h'; exact absurd h' h3
            have hc0 : cells = #[] := by simp [cells,hm0]
            rw [hc0]
            simp [execOp,Instr.makeSlice,hrl.lit_eq,hrc.lit_eq,run_underlying hu,asInt,asIntOf,sizeOf,typeInfo,zeroValue,i1,i4,hw,hbig,hneg,hm0,newRow]
            congr 2
            apply Array.ext'
            simp
          · simp [execOp,Instr.makeSlice,hrl.lit_eq,hrc.lit_eq,run_underlying hu,asInt,asIntOf,sizeOf,typeInfo,zeroValue,i1,i4,hw,hbig,hneg,hz,newRow,cells]
        · cases h
      · cases h
    · cases h
  case slice t x lo hi mx =>
    split at h
    · cases h
    rename_i ti hti
    split at h
    · rename_i e b ver hd hx
      split at h
      · rename_i te T0 s rows ver' f hte hH
        split at h
        · rename_i l hh hl hhi
          cases htr : ti.trunc with
          | true =>
            cases htl : (lo.isSome && hi.isNone) with
            | true =>
              simp only [htr,htl,sliceOwn,Option.some.injEq,Prod.mk.injEq] at h
              obtain ⟨rfl,rfl,rfl⟩ := h
              obtain ⟨rfl,rfl,h0,h1,h2,rfl⟩ := hok
              have hhn : hi = none := by
                rw [Bool.and_eq_true] at htl
                cases hi with
                | none => rfl
                | some _ => simp at htl
              subst hhn
              exact sub_sound hT hs hti hd hte hx hH hl h0 h1
            | false =>
            simp only [htr,htl,sliceOwn,Option.some.injEq,Prod.mk.injEq] at h
            obtain ⟨rfl,rfl,rfl⟩ := h
            obtain ⟨rfl,rfl,rfl,h0,h1,rfl,rfl⟩ := hok
            exact trunc_sound hT hs hti hd hte hx hH hl hhi h0 h1
          | false =>
          simp only [htr,sliceOwn,Option.some.injEq,Prod.mk.injEq] at h
          obtain ⟨rfl,rfl,rfl⟩ := h
          obtain ⟨rfl,rfl,h0,h1,h2,h3⟩ := hok
          obtain ⟨q1,q2⟩ := hs.freeze hH
          have hr := q1.ev x
          rw [hx] at hr
          have him := q1.frozen_rep (b := b) (T0 := T0) (s := te.size) (ver := ver') (rows := rows) (upd_same _ _ _) (fun u hu => hr.own_eq hu)
          have hb : ∀ {o : Option Operand} {d i : Int},boundA E o d = some i → (o.map a.eval = none ∧ i = d) ∨ ∃ k,o.map a.eval = some (.int k i) := by
            intro o d i ho
            cases o with
            | none => simp [boundA] at ho; exact .inl ⟨rfl,ho.symm⟩
            | some y =>
              obtain ⟨k,hk⟩ := bound_eq ho (hs.ev y)
              exact .inr ⟨k,by simp [hk]⟩
          have hform : ∃ ad cap,a.eval x = .slice ad rows.length cap ∧ rows.length ≤ cap := by
            generalize a.eval x = vx at him
            cases him with
            | imN _ _ c hn => subst hn; exact ⟨none,c,rfl,by simp⟩
            | im _ ad _ cap _ vals hn _ hc _ _ => subst hn; exact ⟨some ad,cap,rfl,hc⟩
          obtain ⟨ad,cap,hvx,hcap⟩ := hform
          rw [hvx] at him
          have hmx : mx.map a.eval = none ∨ ∃ k m,mx.map a.eval = some (.int k m) ∧ 0 ≤ m ∧ m ≤ cap ∧ hh ≤ m ∧ hi.map a.eval ≠ none := by
            cases mx with
            | none => exact .inl rfl
            | some m =>
              simp only [mxOK] at h3
              split at h3
              · rename_i k i hm
                have hrm := hs.ev m
                rw [hm] at hrm
                refine .inr ⟨k,i,by simp [hrm.lit_eq],h3.2.2.1,by omega,h3.1,?_⟩
                cases hi with
                | none => exact absurd rfl h3.2.2.2
                | some y => simp
              · exact h3.elim
          obtain ⟨m,hm1,hm2,hrun⟩ := slice_run (P := P) (hT t ti hti) hd (hT e te hte) (ad := ad) (len := rows.length) (cap := cap) w (hb hl) (hb hhi) hmx h0 h1 h2 hcap
          exact Gives.value (w' := w) (β' := β) (by simp [execOp,hvx,hrun]) q1 (.i (him.cut (l := l.toNat) (h := hh.toNat) (m := m) (by omega) (by omega) (by omega)))
        · cases h
      · cases h
    · cases h
  case call c =>
    obtain ⟨callee,args,argTypes⟩ := c
    simp only at h
    split at h
    · rename_i x t heq1 heq2
      have e1 : args = #[x] := by apply Array.ext'; simpa using heq1
      have e2 : argTypes = #[t] := by apply Array.ext'; simpa using heq2
      subst e1 e2
      obtain ⟨rfl,w',q1,q2⟩ := clear_sound hT hs h hok ty
      exact Gives.value (u := .tuple #[]) (by simp [execOp,resolve,invoke,builtin,q1]) q2 (.i (.lit _))
    · rename_i x y t t' heq1 heq2
      have e1 : args = #[x,y] := by apply Array.ext'; simpa using heq1
      have e2 : argTypes = #[t,t'] := by apply Array.ext'; simpa using heq2
      subst e1 e2
      split at h
      · rename_i m hzl
        obtain ⟨u,w',β',q1,q2,q3⟩ := appendZ_sound hT hs hfr hzl h hok ty
        exact Gives.value (by simp [execOp,resolve,invoke,builtin,q1]) q2 q3
      · obtain ⟨u,w',β',q1,q2,q3⟩ := append_sound hT hs hfr h hok ty
        exact Gives.value (by simp [execOp,resolve,invoke,builtin,q1]) q2 q3
    · cases h
  case makeMap t rs =>
    cases rs with
    | some q => simp at h
    | none =>
      simp only at h
      split at h
      · rename_i ti hti
        split at h
        · simp only [Option.some.injEq,Prod.mk.injEq] at h
          obtain ⟨_,rfl,rfl⟩ := h
          have hsim := hs.new (b := fresh) (x := .map []) (ver := 0) (u := .pointer (some ⟨w.heap.size,0,none⟩)) (w' := w.alloc (.map #[] 0)) hfr (Keeps.alloc _ _ _) (fun k hk => heap_alloc_old w _ k hk) (fun k hk => by
            simp [refBlock] at hk
            subst hk
            simp) (fun hk hN hl hbox => ⟨w.heap.size,#[],0,upd_same _ _ _,hs.bs,heap_alloc_new w _,rfl,fun j kv pv hj => by simp at hj⟩)
          exact Gives.value (w' := w.alloc (.map #[] 0)) (by simp [execOp,Instr.makeMap,newObj,Sem.run]) hsim (.mapp _ _ (upd_same _ _ _))
        · cases h
      · cases h
  case insert t m k x =>
    obtain ⟨w',β',q1,q2,rfl⟩ := ins_sound hT hs h hok
    exact ⟨.skip,w',β',by simp [execOp,q1],q2,.inr ⟨rfl,rfl⟩⟩
  case mapUpdate t m k x =>
    obtain ⟨w',β',q1,q2,rfl⟩ := ins_sound hT hs h hok
    exact ⟨.skip,w',β',by simp [execOp,q1],q2,.inr ⟨rfl,rfl⟩⟩
end
end Go.Pe
