import Derived.Test.YtcdmhigmgpflbaaGreatPe8
set_option linter.unusedVariables false
set_option linter.unusedSimpArgs false
open List renaming getElem?_eq_getElem → yBh
namespace Go.Pe
open Go.RowKit
section
variable {P : Program}
theorem wrap64_idN {m : Nat} (h1 : m ≤ 9223372036854775807) : IntKind.i64.wrap (m : Int) = m := by
  unfold IntKind.wrap
  have hm : (m : Int) % 2 ^ 64 = m := Int.emod_eq_of_lt (by omega) (by omega)
  have h2 : ¬ ((m : Int) ≥ 2 ^ (64 - 1)) := by omega
  simp only [IntKind.bits,IntKind.signed,Bool.true_and,hm,decide_eq_true_eq]
  rw [if_neg h2]
structure Src (P : Program) (w : World) (size : Nat) (x : Value) (m : Nat) (news : List Value) : Prop where
  len : (Builtin.lenOf x).run P w = .ok m w
  now : (Builtin.firstCells size m x).run P w = .ok news.toArray w
  drew : (Builtin.firstCells size m x).run P w.drew = .ok news.toArray w.drew
theorem run_append (w : World) (base : Nat) (t t' ty e : TypeId) (d' : TypeDesc) (i : TypeInfo) (z : Value) (ht : P.underlying t = some (.slice e)) (ht' : P.underlying t' = some d') (hd' : ∀ k,d' ≠ .int k) (hi : P.info? e = some i) (hz : i.zero = some z)
    (hzs : z.cells.size = i.size) (v : Value) (n : Nat) (xs : List Value) (hown : w.ownsRow base e i.size v n xs) (x : Value) (m : Nat) (news : List Value) (hsrc : Src P w i.size x m news) (hl : news.length = m * i.size)
    (h1 : ∀ u ∈ news,u.oneCell' = true) (h63 : n + m ≤ maxLen) (hbytes : (n + m) * i.bytes ≤ 140737488355328) (hbase : base ≤ w.heap.size) :
    ∃ v' w',(Builtin.append_ #[t,t'] ty #[v,x]).run P w = .ok v' w' ∧ w'.ownsRow base e i.size v' (n + m) (xs ++ news) ∧
      w'.os = w.os ∧ w'.tape = w.tape ∧ w'.output = w.output ∧ w.heap.size ≤ w'.heap.size ∧ (∀ k,k < w.heap.size → refBlock v ≠ some k → w'.heap[k]? = w.heap[k]?) ∧
      (∀ k,refBlock v' = some k → refBlock v = some k ∨ (w.heap.size ≤ k ∧ k < w'.heap.size)) ∧ v'.oneCell' = true ∧ ∀ p,v' ≠ .pointer p := by
  obtain ⟨hlen,hnow,hdrew⟩ := hsrc
  have hzero : (d' matches .int _) = false := by cases d' <;> simp at hd' ⊢
  have hlx : (xs ++ news).length = (n + m) * i.size := by rw [List.length_append,hown.1,hl,Nat.add_mul]
  have hsmall : n + m ≤ 9223372036854775807 := by simp only [maxLen] at h63; omega
  have grow : ∀ (ad : Option Addr) (cap : Nat),n ≤ cap → cap < n + m → (Builtin.firstCells i.size n (.slice ad n cap)).run P w.drew = .ok xs.toArray w.drew → 
      ∃ v' w',(Builtin.append_ #[t,t'] ty #[.slice ad n cap,x]).run P w = .ok v' w' ∧ w'.ownsRow base e i.size v' (n + m) (xs ++ news) ∧
      w'.os = w.os ∧ w'.tape = w.tape ∧ w'.output = w.output ∧ w.heap.size ≤ w'.heap.size ∧ (∀ k,k < w.heap.size → refBlock (.slice ad n cap) ≠ some k → w'.heap[k]? = w.heap[k]?) ∧
      (∀ k,refBlock v' = some k → refBlock (.slice ad n cap) = some k ∨ (w.heap.size ≤ k ∧ k < w'.heap.size)) ∧ v'.oneCell' = true ∧ ∀ p,v' ≠ .pointer p := by
    intro ad cap hnc hcap hold
    have hn : ¬ (n + m ≤ cap) := by omega
    have h63' : ¬ (9223372036854775807 < ((n : Int) + (m : Int))) := by omega
    have hfit := growslice_fits (need := n + m) (old := cap) (bytes := i.bytes) (by omega) hbytes
    have h48' : ¬ (281474976710656 < Builtin.nextslicecap (n + m) cap * i.bytes) := by omega
    have hge := grownCap_ge w (n + m) cap e
    have hcm := grownCap_le_maxLen w (n + m) cap e h63
    refine ⟨.slice (some ⟨w.heap.size,0,none⟩) (n + m) (grownCap w (n + m) cap e),w.drew.alloc (.cells (xs.toArray ++ news.toArray ++ Builtin.zeroCells z.cells (grownCap w (n + m) cap e - (n + m))) e),?_,⟨hlx,.inr ⟨w.heap.size,_,_,rfl,hbase,heap_alloc_new w.drew _,hge,hcm,?_,?_⟩⟩,rfl,rfl,rfl,by simp,fun k hk _ => heap_alloc_old w.drew _ k hk,fun k hk => ?_,rfl,fun p => by simp⟩
    · simp [Builtin.append_,run_underlying ht,run_underlying ht',hzero,sizeOf,typeInfo,zeroValue,hi,hz,hlen,hn,h63',h48',Question.forced,hdrew,hold,newRow,grownCap]
      congr 2
      apply Array.ext'
      simp [List.append_assoc]
    · simp only [Array.size_append,List.size_toArray,size_zeroCells,hzs,hown.1,hl,← Nat.add_mul]
      congr 1
      omega
    · simp only [Array.toList_append,List.append_assoc]
      rw [← List.append_assoc,← hlx]
      exact List.take_left
    · simp [refBlock] at hk
      subst hk
      exact .inr ⟨Nat.le_refl _,by simp⟩
  rcases hown.2 with ⟨rfl,rfl⟩ | ⟨g,cap,cur,rfl,hbg,hg,hnc,hcm,hcs,htake⟩
  · have hx : xs = [] := List.eq_nil_of_length_eq_zero (by simpa using hown.1)
    subst hx
    by_cases hm : m = 0
    · subst hm
      have hn : news = [] := List.eq_nil_of_length_eq_zero (by simpa using hl)
      subst hn
      refine ⟨.slice none 0 0,w,?_,World.ownsRow_nil w base e i.size,rfl,rfl,rfl,Nat.le_refl _,fun _ _ _ => rfl,fun k hk => by simp [refBlock] at hk,rfl,fun p => by simp⟩
      simp [Builtin.append_,run_underlying ht,run_underlying ht',hzero,sizeOf,typeInfo,hi,hlen,hnow]
    · exact grow none 0 (Nat.le_refl _) (by omega) (by simp [Builtin.firstCells])
  · by_cases hroom : n + m ≤ cap
    · have hfit : 0 + n * i.size + news.length ≤ cur.size := by rw [hl,hcs,Nat.zero_add,← Nat.add_mul]; exact Nat.mul_le_mul_right _ hroom
      have hst := run_storeCells_at P g (n * i.size) e news 0 cur w hg (by simpa using hfit) h1
      simp only [Nat.add_zero] at hst
      refine ⟨.slice (some ⟨g,0,none⟩) (n + m) cap,w.setRow g (cur.toList.take (n * i.size) ++ news ++ cur.toList.drop (n * i.size + news.length)).toArray,?_,
        ⟨hlx,.inr ⟨g,cap,_,rfl,hbg,setRow_heap w g cur _ e _ hg,hroom,hcm,?_,?_⟩⟩,rfl,rfl,rfl,by simp,fun k _ hk => setRow_other w g k _ (fun e => hk (by simp [refBlock,e])),fun k hk => .inl hk,rfl,fun p => by simp⟩
      · simp [Builtin.append_,run_underlying ht,run_underlying ht',hzero,sizeOf,typeInfo,hi,hlen,hroom,hnow,Addr.add_lit,hst]
      · simp only [List.size_toArray,List.length_append,List.length_take,List.length_drop,Array.length_toList]
        omega
      · rw [htake,← hlx]
        exact List.take_left
    · have holds : ∀ j u,xs[j]? = some u → w.drew.cell? ((⟨g,0,none⟩ : Addr).add j) = some u := hown.cells (g := g) rfl
      exact grow _ cap hnc (by omega) (run_firstCells_some (P := P) w.drew i.size n ⟨g,0,none⟩ n cap xs hown.1 holds)
theorem run_appendZ (w : World) (base : Nat) (t t' ty e : TypeId) (k0 kx : IntKind) (i : TypeInfo) (z : Value) (ht : P.underlying t = some (.slice e)) (ht' : P.underlying t' = some (.int k0)) (hi : P.info? e = some i) (hz : i.zero = some z)
    (hzs : z.cells.size = i.size) (v : Value) (n : Nat) (xs : List Value) (hown : w.ownsRow base e i.size v n xs) (m : Nat) (news : List Value) (hnews : news = (Builtin.zeroCells z.cells m).toList) (hl : news.length = m * i.size)
    (h1 : ∀ u ∈ news,u.oneCell' = true) (h63 : n + m ≤ maxLen) (hbytes : (n + m) * i.bytes ≤ 140737488355328) (hbase : base ≤ w.heap.size) :
    ∃ v' w',(Builtin.append_ #[t,t'] ty #[v,.int kx m]).run P w = .ok v' w' ∧ w'.ownsRow base e i.size v' (n + m) (xs ++ news) ∧
      w'.os = w.os ∧ w'.tape = w.tape ∧ w'.output = w.output ∧ w.heap.size ≤ w'.heap.size ∧ (∀ k,k < w.heap.size → refBlock v ≠ some k → w'.heap[k]? = w.heap[k]?) ∧
      (∀ k,refBlock v' = some k → refBlock v = some k ∨ (w.heap.size ≤ k ∧ k < w'.heap.size)) ∧ v'.oneCell' = true ∧ ∀ p,v' ≠ .pointer p := by
  have hnl : news.toArray = Builtin.zeroCells z.cells m := by rw [hnews]
  have hz0 : m * i.size = 0 → news = [] := fun h => List.eq_nil_of_length_eq_zero (by rw [hl,h])
  have hlx : (xs ++ news).length = (n + m) * i.size := by rw [List.length_append,hown.1,hl,Nat.add_mul]
  have hsmall : n + m ≤ 9223372036854775807 := by simp only [maxLen] at h63; omega
  have hwm : IntKind.i64.wrap (m : Int) = m := wrap64_idN (by omega)
  have hnm : ¬ ((m : Int) < 0) := by omega
  have hbm : ¬ (281474976710656 < (m : Int) * (i.bytes : Int)) := by
    have h1 : m * i.bytes ≤ (n + m) * i.bytes := Nat.mul_le_mul_right _ (by omega)
    have h2 : ((m * i.bytes : Nat) : Int) = (m : Int) * (i.bytes : Int) := by simp
    omega
  have grow : ∀ (ad : Option Addr) (cap : Nat),n ≤ cap → cap < n + m → (Builtin.firstCells i.size n (.slice ad n cap)).run P w.drew = .ok xs.toArray w.drew → 
      ∃ v' w',(Builtin.append_ #[t,t'] ty #[.slice ad n cap,.int kx m]).run P w = .ok v' w' ∧ w'.ownsRow base e i.size v' (n + m) (xs ++ news) ∧
      w'.os = w.os ∧ w'.tape = w.tape ∧ w'.output = w.output ∧ w.heap.size ≤ w'.heap.size ∧ (∀ k,k < w.heap.size → refBlock (.slice ad n cap) ≠ some k → w'.heap[k]? = w.heap[k]?) ∧
      (∀ k,refBlock v' = some k → refBlock (.slice ad n cap) = some k ∨ (w.heap.size ≤ k ∧ k < w'.heap.size)) ∧ v'.oneCell' = true ∧ ∀ p,v' ≠ .pointer p := by
    intro ad cap hnc hcap hold
    have hn : ¬ (n + m ≤ cap) := by omega
    have h63' : ¬ (9223372036854775807 < ((n : Int) + (m : Int))) := by omega
    have h63x : ¬ (9223372036854775807 < ((n : Int) + max (m : Int) 0)) := by omega
    have hfit := growslice_fits (need := n + m) (old := cap) (bytes := i.bytes) (by omega) hbytes
    have h48' : ¬ (281474976710656 < Builtin.nextslicecap (n + m) cap * i.bytes) := by omega
    have hge := grownCap_ge w (n + m) cap e
    have hcm := grownCap_le_maxLen w (n + m) cap e h63
    refine ⟨.slice (some ⟨w.heap.size,0,none⟩) (n + m) (grownCap w (n + m) cap e),w.drew.alloc (.cells (xs.toArray ++ news.toArray ++ Builtin.zeroCells z.cells (grownCap w (n + m) cap e - (n + m))) e),?_,⟨hlx,.inr ⟨w.heap.size,_,_,rfl,hbase,heap_alloc_new w.drew _,hge,hcm,?_,?_⟩⟩,rfl,rfl,rfl,by simp,fun k hk _ => heap_alloc_old w.drew _ k hk,fun k hk => ?_,rfl,fun p => by simp⟩
    · by_cases hsz : m * i.size = 0
      · have hze : Builtin.zeroCells z.cells m = #[] := by rw [← hnl,hz0 hsz]
        simp [Builtin.append_,asInt,asIntOf,run_underlying ht,run_underlying ht',sizeOf,typeInfo,zeroValue,hi,hz,hwm,hnm,hbm,hn,h63x,h63',h48',hsz,hnews,hze,Question.forced,hold,newRow,grownCap]
        all_goals first | (intro hbad; exact absurd hbad h63') | (congr 2; apply Array.ext'; simp [List.append_assoc])
      · simp [Builtin.append_,asInt,asIntOf,run_underlying ht,run_underlying ht',sizeOf,typeInfo,zeroValue,hi,hz,hwm,hnm,hbm,hn,h63x,h63',h48',hsz,hnews,Question.forced,hold,newRow,grownCap]
        all_goals first | (intro hbad; exact absurd hbad h63') | (congr 2; apply Array.ext'; simp [List.append_assoc])
    · simp only [Array.size_append,List.size_toArray,size_zeroCells,hzs,hown.1,hl,← Nat.add_mul]
      congr 1
      omega
    · simp only [Array.toList_append,List.append_assoc]
      rw [← List.append_assoc,← hlx]
      exact List.take_left
    · simp [refBlock] at hk
      subst hk
      exact .inr ⟨Nat.le_refl _,by simp⟩
  rcases hown.2 with ⟨rfl,rfl⟩ | ⟨g,cap,cur,rfl,hbg,hg,hnc,hcm,hcs,htake⟩
  · have hx : xs = [] := List.eq_nil_of_length_eq_zero (by simpa using hown.1)
    subst hx
    by_cases hm : m = 0
    · subst hm
      have hn : news = [] := List.eq_nil_of_length_eq_zero (by simpa using hl)
      subst hn
      refine ⟨.slice none 0 0,w,?_,World.ownsRow_nil w base e i.size,rfl,rfl,rfl,Nat.le_refl _,fun _ _ _ => rfl,fun k hk => by simp [refBlock] at hk,rfl,fun p => by simp⟩
      have hw0 : IntKind.i64.wrap 0 = 0 := by decide
      simp [Builtin.append_,asInt,asIntOf,run_underlying ht,run_underlying ht',sizeOf,typeInfo,hi,hw0]
    · exact grow none 0 (Nat.le_refl _) (by omega) (by simp [Builtin.firstCells])
  · by_cases hroom : n + m ≤ cap
    · have hfit : 0 + n * i.size + news.length ≤ cur.size := by rw [hl,hcs,Nat.zero_add,← Nat.add_mul]; exact Nat.mul_le_mul_right _ hroom
      have hst := run_storeCells_at P g (n * i.size) e news 0 cur w hg (by simpa using hfit) h1
      simp only [Nat.add_zero] at hst
      refine ⟨.slice (some ⟨g,0,none⟩) (n + m) cap,w.setRow g (cur.toList.take (n * i.size) ++ news ++ cur.toList.drop (n * i.size + news.length)).toArray,?_,
        ⟨hlx,.inr ⟨g,cap,_,rfl,hbg,setRow_heap w g cur _ e _ hg,hroom,hcm,?_,?_⟩⟩,rfl,rfl,rfl,by simp,fun k _ hk => setRow_other w g k _ (fun e => hk (by simp [refBlock,e])),fun k hk => .inl hk,rfl,fun p => by simp⟩
      · by_cases hsz : m * i.size = 0
        · have hn0 := hz0 hsz
          rw [hn0] at hst ⊢
          simp [Builtin.append_,asInt,asIntOf,run_underlying ht,run_underlying ht',sizeOf,typeInfo,zeroValue,hi,hz,hwm,hnm,hbm,hroom,Addr.add_lit,hst,hsz]
          try (simp at hst; simp [hst])
        · rw [hnews] at hst ⊢
          simp [Builtin.append_,asInt,asIntOf,run_underlying ht,run_underlying ht',sizeOf,typeInfo,zeroValue,hi,hz,hwm,hnm,hbm,hroom,Addr.add_lit,hst,hsz]
      · simp only [List.size_toArray,List.length_append,List.length_take,List.length_drop,Array.length_toList]
        omega
      · rw [htake,← hlx]
        exact List.take_left
    · have holds : ∀ j u,xs[j]? = some u → w.drew.cell? ((⟨g,0,none⟩ : Addr).add j) = some u := hown.cells (g := g) rfl
      exact grow _ cap hnc (by omega) (run_firstCells_some (P := P) w.drew i.size n ⟨g,0,none⟩ n cap xs hown.1 holds)
theorem Src.rows {N : Nat → Prop} {w : World} {size : Nat} {rows : List (List PV)} {x : Value} (h : RowsAt N w size rows x) :
    ∃ news,Src P w size x rows.length news ∧ news.length = rows.length * size ∧ (∀ u ∈ news,u.oneCell' = true) ∧ (∀ r ∈ rows,r.length = size) ∧
      ∀ i r j pv,rows[i]? = some r → r[j]? = some pv → IRep N w pv (news.getD (i * size + j) undef) := by
  rcases h with ⟨rfl,c,rfl⟩ | ⟨ad,cap,rfl,hc,hsz,hcell⟩
  · exact ⟨[],⟨by simp [Builtin.lenOf],by simp [Builtin.firstCells],by simp [Builtin.firstCells]⟩,by simp,by simp,by simp,by simp⟩
  · have hfl : rows.flatten.length = rows.length * size := by
      have : ∀ (l : List (List PV)),(∀ r ∈ l,r.length = size) → l.flatten.length = l.length * size := by
        intro l
        induction l with
        | nil => intro _; simp
        | cons r l ih =>
          intro hl
          rw [List.flatten_cons,List.length_append,ih (fun q hq => hl q (List.mem_cons_of_mem _ hq)),hl r List.mem_cons_self,List.length_cons,Nat.add_mul,Nat.one_mul,Nat.add_comm]
      exact this rows hsz
    have hnews : ∀ k,k < rows.length * size → ∃ u,w.cell? (ad.add k) = some u ∧ u.oneCell' = true := by
      intro k hk
      have hs : 0 < size := by rcases Nat.eq_zero_or_pos size with h | h; · subst h; simp at hk
                               · exact h
      have hi : k / size < rows.length := Nat.div_lt_of_lt_mul (by rwa [Nat.mul_comm] at hk)
      have hrl : rows[k / size]? = some rows[k / size] := yBh hi
      have hj : k % size < rows[k / size].length := by rw [hsz _ (List.getElem_mem hi)]; exact Nat.mod_lt _ hs
      obtain ⟨u,q1,_,q3⟩ := hcell _ _ _ _ hrl (yBh hj)
      have e : k / size * size + k % size = k := by rw [Nat.mul_comm]; exact Nat.div_add_mod k size
      rw [e] at q1
      exact ⟨u,q1,q3⟩
    let news := (List.range (rows.length * size)).map fun k => (w.cell? (ad.add k)).getD undef
    have hnl : news.length = rows.length * size := by simp [news]
    have hget : ∀ j v,news[j]? = some v → w.cell? (ad.add j) = some v := by
      intro j v hj
      have hlt : j < rows.length * size := by rw [← hnl]; exact (List.getElem?_eq_some_iff.1 hj).1
      obtain ⟨u,q1,_⟩ := hnews j hlt
      simp [news,List.getElem?_map,List.getElem?_range hlt] at hj
      rw [q1] at hj ⊢
      simpa using hj
    refine ⟨news,⟨by simp [Builtin.lenOf],run_firstCells_some w size _ ad _ cap news hnl hget,run_firstCells_some w.drew size _ ad _ cap news hnl hget⟩,hnl,fun u hu => ?_,hsz,fun i r j pv hi hj => ?_⟩
    · simp only [news,List.mem_map,List.mem_range] at hu
      obtain ⟨k,hk,rfl⟩ := hu
      obtain ⟨u,q1,q2⟩ := hnews k hk
      rw [q1]
      exact q2
    · have hil : i < rows.length := (List.getElem?_eq_some_iff.1 hi).1
      have hjl : j < size := by have := (List.getElem?_eq_some_iff.1 hj).1; rw [hsz r (List.mem_of_getElem? hi)] at this; exact this
      have hlt : i * size + j < rows.length * size := flat_lt hil hjl
      obtain ⟨u,q1,q2,_⟩ := hcell i r j pv hi hj
      have : news.getD (i * size + j) undef = u := by simp [news,List.getD_eq_getElem?_getD,List.getElem?_map,List.getElem?_range hlt,q1]
      rw [this]
      exact q2
def strRows (s : ByteArray) : List (List PV) := s.data.toList.map fun b => [.lit (.int .u8 b.toNat)]
theorem Src.string {N : Nat → Prop} {w : World} (s : ByteArray) : ∃ news,Src P w 1 (.string s) (strRows s).length news ∧ news.length = (strRows s).length * 1 ∧ (∀ u ∈ news,u.oneCell' = true) ∧ (∀ r ∈ strRows s,r.length = 1) ∧
      ∀ i r j pv,(strRows s)[i]? = some r → r[j]? = some pv → IRep N w pv (news.getD (i * 1 + j) undef) := by
  have hl : (strRows s).length = s.size := by simp [strRows]
  refine ⟨s.data.toList.map fun b => .int .u8 b.toNat,?_,by simp [strRows],by simp [Value.oneCell'],by simp [strRows],fun i r j pv hi hj => ?_⟩
  · have hx : (Array.map (fun b : UInt8 => Value.int IntKind.u8 (b.toNat : Int)) s.data).extract 0 s.size = Array.map (fun b : UInt8 => Value.int IntKind.u8 (b.toNat : Int)) s.data := by
      have hs : s.size = (Array.map (fun b : UInt8 => Value.int IntKind.u8 (b.toNat : Int)) s.data).size := by rw [Array.size_map]; rfl
      rw [hs,Array.extract_size]
    have he : (s.extract 0 s.size) = s := by simp
    refine ⟨by simp [Builtin.lenOf,hl],?_,?_⟩
    all_goals
      simp only [Builtin.firstCells,hl,he,Sem.run_pure]
      congr 1
      apply Array.ext'
      simp
  · simp only [strRows,List.getElem?_map,Option.map_eq_some_iff] at hi
    obtain ⟨b,hb,rfl⟩ := hi
    cases j with
    | zero =>
      cases hj
      have hb' : s.data[i]? = some b := by simpa using hb
      have : (s.data.toList.map fun b : UInt8 => Value.int .u8 (b.toNat : Int)).getD (i * 1 + 0) undef = .int .u8 b.toNat := by
        simp [List.getD_eq_getElem?_getD,hb']
      rw [this]
      exact .lit _
    | succ j => simp at hj
end
end Go.Pe
namespace Go.Pe
open Go.RowKit
def litRowsA (H : Heap) (size : Nat) : List PV → Option (List (List PV))
  | [] => some []
  | x :: l => match cellsA x with
    | none => none
    | some vs => match frzCs H vs,litRowsA H size l with
      | some us,some m => if us.length = size then some (us :: m) else none
      | _,_ => none
def litCells (l : List PV) : List PV := l.flatMap fun x => (cellsA x).getD []
def isNil : Value → Bool
  | .slice none 0 0 => true
  | _ => false
theorem isNil_eq {v : Value} (h : isNil v = true) : v = .slice none 0 0 := by
  unfold isNil at h
  split at h
  · rfl
  · cases h
def srcB (T : Tab) (size : Nat) (t' : TypeId) (pv : PV) (im : Option (List (List PV))) : Option (List (List PV)) :=
  match T t' with
  | none => none
  | some ti => match ti.desc,pv with
    | .slice _,_ => im
    | .str,.lit (.string s) => if size = 1 then some (strRows s) else none
    | _,_ => none
def srcA (T : Tab) (H : Heap) (size : Nat) (t' : TypeId) (pv : PV) : Option (List (List PV)) := srcB T size t' pv (asIm H size pv)
def appendA (T : Tab) (fresh : Nat) (E : Env) (H : Heap) (t t' : TypeId) (x y : Operand) : Option (Prop × PV × List (Nat × Blk)) :=
  match T t with
  | none => none
  | some ti => match ti.desc with
    | .slice e => match T e with
      | none => none
      | some te => match srcA T H te.size t' (ev E y) with
        | none => none
        | some new => match ev E x with
          | .own b ver => match H b with
            | some (.arr T0 s rows ver' f) => some (f = false ∧ s = te.size ∧ T0 = e ∧ ver' = ver ∧ (rows.length + new.length) * te.bytes ≤ 140737488355328 ∧ rows.length + new.length ≤ 9223372036854775807,
                .own b (ver + 1),[(b,.arr e s (rows ++ new) (ver + 1) false)])
            | _ => none
          | .lit v => if isNil v then some (new.length * te.bytes ≤ 140737488355328 ∧ new.length ≤ 9223372036854775807,.own fresh 0,[(fresh,.arr e te.size new 0 false)]) else none
          | _ => none
    | _ => none
def zeroLen (T : Tab) (t' : TypeId) (y : PV) : Option Int :=
  match T t' with
  | some ti => match ti.desc,y with
    | .int _,.lit (.int _ n) => some n
    | _,_ => none
  | none => none
def appendZ (T : Tab) (fresh : Nat) (E : Env) (H : Heap) (t : TypeId) (x : Operand) (m : Int) : Option (Prop × PV × List (Nat × Blk)) :=
  match T t with
  | none => none
  | some ti => match ti.desc with
    | .slice e => match T e with
      | none => none
      | some te => match ev E x with
          | .own b ver => match H b with
            | some (.arr T0 s rows ver' f) => some (f = false ∧ s = te.size ∧ T0 = e ∧ ver' = ver ∧ 0 ≤ m ∧ ((rows.length : Int) + m) * te.bytes ≤ 140737488355328 ∧ (rows.length : Int) + m ≤ 9223372036854775807,
                .own b (ver + 1),[(b,.arr e s (rows ++ List.replicate m.toNat te.zpv) (ver + 1) false)])
            | _ => none
          | .lit v => if isNil v then some (0 ≤ m ∧ m * te.bytes ≤ 140737488355328 ∧ m ≤ 9223372036854775807,.own fresh 0,[(fresh,.arr e te.size (List.replicate m.toNat te.zpv) 0 false)]) else none
          | _ => none
    | _ => none
def insA (T : Tab) (E : Env) (H : Heap) (t : TypeId) (m k x : Operand) : Option (Prop × PV × List (Nat × Blk)) :=
  match T t,ev E m,ev E k with
  | some ti,.mapp b,.lit (.int kk n) => match ti.desc,H b with
    | .map kt _,some (.map es) => match T kt with
      | some ki => match ki.desc with
        | .int k' => some (k' = kk ∧ keysOK kk es = true ∧ lookB n es = false,.any,[(b,.map (es ++ [(.int kk n,ev E x)]))])
        | _ => none
      | none => none
    | _,_ => none
  | _,_,_ => none
def sliceOwn (trunc tail : Bool) (b : Nat) (T0 : TypeId) (s : Nat) (rows : List (List PV)) (ver ver' : Nat) (f : Bool) (sz : Nat) (l h : Int) (m : Prop) (mx : Option Operand) : Prop × PV × List (Nat × Blk) :=
  match trunc,tail with
  | false,_ => (s = sz ∧ ver' = ver ∧ 0 ≤ l ∧ l ≤ h ∧ h ≤ rows.length ∧ m,.im s ((rows.take h.toNat).drop l.toNat),[(b,.arr T0 s rows ver true)])
  | true,true => (s = sz ∧ ver' = ver ∧ 0 ≤ l ∧ l ≤ rows.length ∧ h = rows.length ∧ mx = none,.sub b ver l.toNat (rows.length - l.toNat) s,[])
  | true,false => (s = sz ∧ ver' = ver ∧ l = 0 ∧ 0 ≤ h ∧ h ≤ rows.length ∧ mx = none ∧ f = false,.own b (ver + 1),[(b,.arr T0 s (rows.take h.toNat) (ver + 1) false)])
def clearA (T : Tab) (E : Env) (H : Heap) (t : TypeId) (x : Operand) : Option (Prop × PV × List (Nat × Blk)) :=
  match T t with
  | none => none
  | some ti => match ti.desc with
    | .slice e => match T e with
      | none => none
      | some te => match ev E x with
        | .sub b ver lo n size => match H b with
          | some (.arr T0 s rows ver' f) => some (f = false ∧ s = size ∧ s = te.size ∧ ver' = ver ∧ lo + n ≤ rows.length,.lit (.tuple #[]),[(b,.arr T0 s (splice rows lo (List.replicate n te.zpv)) ver false)])
          | _ => none
        | _ => none
    | _ => none
def evMem (T : Tab) (fresh : Nat) (E : Env) (H : Heap) : Op → Option (Prop × PV × List (Nat × Blk))
  | .alloc t => match T t with
    | some ti => some (True,.ptr fresh 0,[(fresh,.box t ti.zpv)])
    | none => none
  | .box t x => match cellsA (ev E x) with
    | some cs => some (cs.all isCell = true,.ptr fresh 0,[(fresh,.box t cs)])
    | none => none
  | .store t x y => match T t,cellsA (ev E y) with
    | some ti,some vs => match ev E x with
      | .ptr b off => match H b with
        | some (.box T0 cs) => some (vs.length = ti.size ∧ off + vs.length ≤ cs.length ∧ vs.all isCell = true,.any,[(b,.box T0 (splice cs off vs))])
        | _ => none
      | .aptr b ver row off size => match H b,frzCs H vs with
        | some (.arr T0 s rows ver' f),some us => some (f = false ∧ s = size ∧ ver' = ver ∧ row < rows.length ∧ us.length = ti.size ∧ off + us.length ≤ s ∧ (∀ x ∈ frzEff H vs,x.1 ≠ b),.any,
            frzEff H vs ++ [(b,.arr T0 s (rows.set row (splice (rows.getD row []) off us)) ver false)])
        | _,_ => none
      | _ => none
    | _,_ => none
  | .buildSlice t len ps => match T t with
    | some ti => match ti.desc with
      | .slice e => match T e with
        | some te => match litRowsA H te.size (ps.toList.map fun p => ev E p.2) with
          | some rows => some (ps.toList.map (·.1) = List.range len ∧ te.size ≠ 0 ∧ len * te.size ≤ 16777216 ∧ (∀ x ∈ frzEff H (litCells (ps.toList.map fun p => ev E p.2)),x.1 ≠ fresh),.own fresh 0,
              frzEff H (litCells (ps.toList.map fun p => ev E p.2)) ++ [(fresh,.arr e te.size rows 0 false)])
          | none => none
        | none => none
      | _ => none
    | none => none
  | .makeSlice t l c => match T t,ev E l,ev E c with
    | some ti,.lit (.int _ m),.lit (.int _ m') => match ti.desc with
      | .slice e => match T e with
        | some te => some (m' = m ∧ 0 ≤ m ∧ te.bytes * m ≤ 140737488355328 ∧ m ≤ 9223372036854775807 ∧ te.size ≠ 0,.own fresh 0,[(fresh,.arr e te.size (List.replicate m.toNat te.zpv) 0 false)])
        | none => none
      | _ => none
    | _,_,_ => none
  | .slice t x lo hi mx => match T t with
    | none => none
    | some ti => match ti.desc,ev E x with
      | .slice e,.own b ver => match T e,H b with
        | some te,some (.arr T0 s rows ver' f) => match boundA E lo 0,boundA E hi rows.length with
          | some l,some h => some (sliceOwn ti.trunc (lo.isSome && hi.isNone) b T0 s rows ver ver' f te.size l h (mxOK E hi mx h rows.length) mx)
          | _,_ => none
        | _,_ => none
      | _,_ => none
  | .convert s d x => match T s,T d,ev E x with
    | some ts,some td,.lit (.string v) => match td.desc with
      | .slice e => match T e with
        | some te => (match te.desc with
          | .int .u8 => some (v.size ≤ 9223372036854775807,.im 1 (strRows v),[])
          | _ => none)
        | none => none
      | _ => none
    | some ts,some td,.own b ver => match td.desc,H b with
      | .slice e,some (.arr T0 size rows ver' f) => match T e with
        | some te => (match te.desc with
          | .int .u8 => some (s = d ∧ size = 1 ∧ f = false ∧ ver' = ver ∧ 0 < rows.length,.im 1 rows,[(b,.arr T0 1 [] (ver + 1) true)])
          | _ => none)
        | none => none
      | _,_ => none
    | _,_,_ => none
  | .call c => match c.callee,c.args.toList,c.argTypes.toList with
    | .builtin .clear,[x],[t] => clearA T E H t x
    | .builtin .append,[x,y],[t,t'] => match zeroLen T t' (ev E y) with
      | some m => appendZ T fresh E H t x m
      | none => appendA T fresh E H t t' x y
    | _,_,_ => none
  | .makeMap t none => match T t with
    | some ti => match ti.desc with
      | .map _ _ => some (True,.mapp fresh,[(fresh,.map [])])
      | _ => none
    | none => none
  | .insert t m k x => insA T E H t m k x
  | .mapUpdate t m k x => insA T E H t m k x
  | _ => none
section
variable {P : Program} {T : Tab} {C : Ctx} {n : Nat} {E : Env} {H : Heap} {β : Ref} {a : Act} {w : World}
def Gives (P : Program) (C : Ctx) (n : Nat) (E : Env) (H' : Heap) (a : Act) (w : World) (o : Oper) (r : PV) : Prop :=
  ∃ nx w' β',(execOp a.eval o).run P w = .ok nx w' ∧ Sim C n E H' β' a w' ∧ ((∃ u,nx = .value u ∧ Rep (NN C H' β') w' β' r u) ∨ (nx = .skip ∧ r = .any))
theorem frzCs_spec (hs : Sim C n E H β a w) {H' : Heap} (hf : Frz C n E β a w H H') : ∀ (l us : List PV),frzCs H l = some us → (∀ x ∈ frzEff H l,H' x.1 = some x.2) → us.length = l.length ∧
    ∀ (j : Nat) (pv : PV) (u : Value),us[j]? = some pv → ∃ q,l[j]? = some q ∧ (Rep (NN C H β) w β q u → IRep (NN C H' β) w pv u ∧ u.oneCell' = true)
  | [],us,h,_ => by
    simp only [frzCs,Option.some.injEq] at h
    subst h
    exact ⟨rfl,by simp⟩
  | x :: l,us,h,hx => by
    simp only [frzCs] at h
    split at h
    · rename_i y m hy hm
      cases h
      have ih := frzCs_spec hs hf l m hm (fun z hz => hx z (by simp only [frzEff,List.flatMap_cons]; exact List.mem_append_right _ hz))
      refine ⟨by simp [ih.1],fun j pv u hj => ?_⟩
      cases j with
      | zero =>
        cases hj
        exact ⟨x,rfl,fun hr => ⟨hf.cell hs hy (fun z hz => hx z (by simp only [frzEff,List.flatMap_cons]; exact List.mem_append_left _ hz)) hr,hr.cell (frzC_cell hy).1⟩⟩
      | succ j => exact ih.2 j pv u (by simpa using hj)
    · cases h
theorem append_sound (hT : TabOK P T) (hs : Sim C n E H β a w) {fresh : Nat} (hfr : H fresh = none) {x y : Operand} {t t' : TypeId} {r : PV} {ok : Prop} {eff : List (Nat × Blk)} (h : appendA T fresh E H t t' x y = some (ok,r,eff)) (hok : ok) (ty : TypeId) :
    ∃ u w' β',(Builtin.append_ #[t,t'] ty #[a.eval x,a.eval y]).run P w = .ok u w' ∧ Sim C n E (applyEff H eff) β' a w' ∧ Rep (NN C (applyEff H eff) β') w' β' r u := by
  unfold appendA at h
  split at h
  · cases h
  rename_i ti hti
  split at h
  · rename_i e hde
    split at h
    · cases h
    rename_i te hte
    split at h
    · cases h
    rename_i new hnew
    obtain ⟨d,hu,hf,_⟩ := (hT t ti hti).d
    rw [hde] at hf
    simp only [TD.fits] at hf
    subst hf
    obtain ⟨i,z,i1,i2,i3,i4,i5,i6,_⟩ := (hT e te hte).i
    have hzs : z.cells.size = i.size := by rw [i2,← i6,← i5]; simp
    have hsrc : ∃ d' news,P.underlying t' = some d' ∧ (∀ k,d' ≠ .int k) ∧ Src P w te.size (a.eval y) new.length news ∧ news.length = new.length * te.size ∧ (∀ u ∈ news,u.oneCell' = true) ∧ (∀ r ∈ new,r.length = te.size) ∧
        ∀ i r j pv,new[i]? = some r → r[j]? = some pv → IRep (NN C H β) w pv (news.getD (i * te.size + j) undef) := by
      unfold srcA srcB at hnew
      split at hnew
      · cases hnew
      rename_i ti' hti'
      obtain ⟨d',hu',hf',_⟩ := (hT t' ti' hti').d
      split at hnew
      · rename_i e' hd'
        rw [hd'] at hf'
        simp only [TD.fits] at hf'
        subst hf'
        obtain ⟨news,q⟩ := Src.rows (P := P) (hs.asIm hnew (hs.ev y))
        exact ⟨_,news,hu',by simp,q⟩
      · rename_i s hd' hy
        rw [hd'] at hf'
        simp only [TD.fits] at hf'
        subst hf'
        split at hnew
        · rename_i h1
          cases hnew
          have hr := hs.ev y
          rw [hy] at hr
          rw [hr.lit_eq,h1]
          obtain ⟨news,q⟩ := Src.string (P := P) (N := NN C H β) (w := w) s
          exact ⟨_,news,hu',by simp,q⟩
        · cases hnew
      · cases hnew
    obtain ⟨d',news,hu',hd',src,nl,n1,nsz,nrep⟩ := hsrc
    rw [← i2] at src
    split at h
    · -- a slice of its own
      rename_i b ver hx
      split at h
      · rename_i T0 s rows ver' f hH
        simp only [Option.some.injEq,Prod.mk.injEq] at h
        obtain ⟨rfl,rfl,rfl⟩ := h
        obtain ⟨rfl,rfl,rfl,rfl,hb1,hb2⟩ := hok
        obtain ⟨u,xs,q1,q2,q3,q4⟩ := hs.blk b _ hH
        have hr := hs.ev x
        rw [hx] at hr
        have hv := hr.own_eq q1
        rw [hv]
        rw [← i2] at q2
        obtain ⟨v',w',hrun,hown,ho1,ho2,ho3,ho4,ho5,ho6,ho7,ho8⟩ := run_append (P := P) w C.base t t' ty T0 d' i z hu hu' hd' i1 i4 hzs u rows.length xs q2 (a.eval y) new.length news src (by rw [i2]; exact nl) n1 (by simp only [maxLen]; omega) (by rw [i3]; exact hb1) hs.bs
        rw [i2] at hown
        have hup : ∀ p,u ≠ .pointer p := by
          rintro p rfl
          rcases q2.2 with ⟨h',_⟩ | ⟨g,cap,cur,h',_⟩ <;> cases h'
        have hsim := hs.change (x' := .arr T0 te.size (rows ++ new) (ver' + 1) false) (ver' := ver' + 1) (u' := v') hH rfl q1 (.inr ⟨by omega,hup⟩) ho5 ho1 ho2 ho3 ho4 ho6 (fun hk hN hl hbox => by
          refine ⟨v',xs ++ news,upd_same _ _ _,by rw [List.length_append]; exact hown,fun r hr' => ?_,fun i' r j pv hi hj => ?_⟩
          · rcases List.mem_append.1 hr' with hr' | hr'
            · exact q3 r hr'
            · exact nsz r hr'
          · have hxl : xs.length = rows.length * te.size := by rw [← i2]; exact q2.1
            by_cases hlt : i' < rows.length
            · rw [List.getElem?_append_left hlt] at hi
              have hjl : j < te.size := by have := (List.getElem?_eq_some_iff.1 hj).1; rw [q3 r (List.mem_of_getElem? hi)] at this; exact this
              have hlx : i' * te.size + j < xs.length := by rw [hxl]; exact flat_lt hlt hjl
              have e1 : (xs ++ news).getD (i' * te.size + j) undef = xs.getD (i' * te.size + j) undef := by simp only [List.getD_eq_getElem?_getD]; rw [List.getElem?_append_left hlx]
              rw [e1]
              exact ⟨((q4 i' r j pv hi hj).1).mono hk hN,(q4 i' r j pv hi hj).2⟩
            · rw [List.getElem?_append_right (by omega)] at hi
              have hil : i' - rows.length < new.length := (List.getElem?_eq_some_iff.1 hi).1
              have hjl : j < te.size := by have := (List.getElem?_eq_some_iff.1 hj).1; rw [nsz r (List.mem_of_getElem? hi)] at this; exact this
              have hln : (i' - rows.length) * te.size + j < news.length := by rw [nl]; exact flat_lt hil hjl
              have e0 : i' * te.size + j = xs.length + ((i' - rows.length) * te.size + j) := by
                rw [hxl]
                obtain ⟨m,rfl⟩ : ∃ m,i' = rows.length + m := ⟨i' - rows.length,by omega⟩
                rw [Nat.add_sub_cancel_left,Nat.add_mul]
                omega
              have e1 : (xs ++ news).getD (i' * te.size + j) undef = news.getD ((i' - rows.length) * te.size + j) undef := by
                rw [e0]
                simp only [List.getD_eq_getElem?_getD]
                rw [List.getElem?_append_right (by omega),Nat.add_sub_cancel_left]
              rw [e1]
              refine ⟨(nrep _ r j pv hi hj).mono hk hN,?_⟩
              rw [List.getD_eq_getElem?_getD,yBh hln]
              exact n1 _ (List.getElem_mem hln))
        exact ⟨v',w',_,hrun,hsim,.own _ _ _ v' _ (upd_same _ _ _) (Nat.le_refl _) ho7 (fun _ => rfl)⟩
      · cases h
    · -- nil
      rename_i v hx
      split at h
      · rename_i hlit
        simp only [Option.some.injEq,Prod.mk.injEq] at h
        obtain ⟨rfl,rfl,rfl⟩ := h
        obtain ⟨hb1,hb2⟩ := hok
        have hv0 := isNil_eq hlit
        subst hv0
        have hr := hs.ev x
        rw [hx] at hr
        have hv := hr.lit_eq
        rw [hv]
        obtain ⟨v',w',hrun,hown,ho1,ho2,ho3,ho4,ho5,ho6,ho7,ho8⟩ := run_append (P := P) w C.base t t' ty e d' i z hu hu' hd' i1 i4 hzs _ 0 [] (World.ownsRow_nil _ _ _ _) (a.eval y) new.length news src (by rw [i2]; exact nl) n1 (by simp only [maxLen]; omega) (by rw [i3,Nat.zero_add]; exact hb1) hs.bs
        rw [i2,Nat.zero_add,List.nil_append] at hown
        have hsim := hs.new (x := .arr e te.size new 0 false) (ver := 0) (u := v') (w' := w') hfr ⟨ho1,ho2,ho3,ho4,fun k hk _ => ho5 k hk (by simp [refBlock])⟩ (fun k hk => ho5 k hk (by simp [refBlock])) (fun k hk => by
            rcases ho6 k hk with h' | h'
            · simp [refBlock] at h'
            · exact h') (fun hk hN hl hbox => by
          refine ⟨v',news,upd_same _ _ _,hown,nsz,fun i' r j pv hi hj => ⟨(nrep i' r j pv hi hj).mono hk hN,?_⟩⟩
          have hil : i' < new.length := (List.getElem?_eq_some_iff.1 hi).1
          have hjl : j < te.size := by have := (List.getElem?_eq_some_iff.1 hj).1; rw [nsz r (List.mem_of_getElem? hi)] at this; exact this
          have hln : i' * te.size + j < news.length := by rw [nl]; exact flat_lt hil hjl
          rw [List.getD_eq_getElem?_getD,yBh hln]
          exact n1 _ (List.getElem_mem hln))
        exact ⟨v',w',_,hrun,hsim,.own _ _ _ v' _ (upd_same _ _ _) (Nat.le_refl _) ho7 (fun _ => rfl)⟩
      · cases h
    · cases h
  · cases h
theorem zeros_rep {N : Nat → Prop} {z : Value} {te : TI} {m : Nat} (hz : ∀ j x,te.zpv[j]? = some x → IRep N w x (z.cells.getD j undef)) (h1 : ∀ v ∈ z.cells.toList,v.oneCell' = true) (hs : z.cells.size = te.size) (hzl : te.zpv.length = te.size) :
    ∀ i r j pv,(List.replicate m te.zpv)[i]? = some r → r[j]? = some pv → IRep N w pv ((Builtin.zeroCells z.cells m).toList.getD (i * te.size + j) undef) ∧ ((Builtin.zeroCells z.cells m).toList.getD (i * te.size + j) undef).oneCell' = true := by
  intro k r j x hk hj
  have hkl : k < m := by have := (List.getElem?_eq_some_iff.1 hk).1; simpa using this
  have hrr : r = te.zpv := List.eq_of_mem_replicate (List.mem_of_getElem? hk)
  subst hrr
  have hjl : j < te.size := by rw [← hzl]; exact (List.getElem?_eq_some_iff.1 hj).1
  have hlt : k * te.size + j < m * te.size := flat_lt hkl hjl
  have hmod : (k * te.size + j) % te.size = j := by rw [Nat.mul_comm,Nat.mul_add_mod,Nat.mod_eq_of_lt hjl]
  have e1 : (Builtin.zeroCells z.cells m).toList.getD (k * te.size + j) undef = z.cells.getD j undef := by
    simp only [Builtin.zeroCells,List.getD_eq_getElem?_getD,Array.getElem?_toList,Array.getD_eq_getD_getElem?,Array.getElem?_map,Array.getElem?_range,hs,hlt,if_true,Option.map_some,Option.getD_some,hmod]
    simp [hs,hjl]
  rw [e1]
  refine ⟨hz j x hj,h1 _ ?_⟩
  simp [Array.getD,hs,hjl]
theorem appendZ_sound (hT : TabOK P T) (hs : Sim C n E H β a w) {fresh : Nat} (hfr : H fresh = none) {x y : Operand} {t t' : TypeId} {m : Int} {r : PV} {ok : Prop} {eff : List (Nat × Blk)} (hzl : zeroLen T t' (ev E y) = some m) (h : appendZ T fresh E H t x m = some (ok,r,eff)) (hok : ok) (ty : TypeId) :
    ∃ u w' β',(Builtin.append_ #[t,t'] ty #[a.eval x,a.eval y]).run P w = .ok u w' ∧ Sim C n E (applyEff H eff) β' a w' ∧ Rep (NN C (applyEff H eff) β') w' β' r u := by
  obtain ⟨k0,kx,hu',hy⟩ : ∃ k0 kx,P.underlying t' = some (.int k0) ∧ a.eval y = .int kx m := by
    unfold zeroLen at hzl
    split at hzl
    · rename_i ti' hti'
      obtain ⟨d',hu',hf',_⟩ := (hT t' ti' hti').d
      split at hzl
      · rename_i k kx n' hd' hy
        cases hzl
        rw [hd'] at hf'
        simp only [TD.fits] at hf'
        subst hf'
        have hr := hs.ev y
        rw [hy] at hr
        exact ⟨k,kx,hu',hr.lit_eq⟩
      · cases hzl
    · cases hzl
  rw [hy]
  unfold appendZ at h
  split at h
  · cases h
  rename_i ti hti
  split at h
  · rename_i e hde
    split at h
    · cases h
    rename_i te hte
    obtain ⟨d,hu,hf,_⟩ := (hT t ti hti).d
    rw [hde] at hf
    simp only [TD.fits] at hf
    subst hf
    obtain ⟨i,z,i1,i2,i3,i4,i5,i6,i7⟩ := (hT e te hte).i
    have hzs : z.cells.size = i.size := by rw [i2,← i6,← i5]; simp
    obtain ⟨hz0,hz1⟩ := (hT e te hte).z
    have hzpl : te.zpv.length = te.size := by rw [hz0,i6]
    have hzr : ∀ (N : Nat → Prop) (w : World) j x,te.zpv[j]? = some x → IRep N w x (z.cells.getD j undef) := by
      intro N w j x hj
      have e0 : z.cells.getD j undef = te.zero.getD j undef := by rw [← i5]; simp [Array.getD_eq_getD_getElem?,List.getD_eq_getElem?_getD]
      rw [e0]
      rcases hz1 j x hj with rfl | ⟨⟨s,rfl⟩,hv⟩
      · exact .lit _
      · rw [hv]; exact .imN _ _ _ rfl
    have hone : ∀ v ∈ z.cells.toList,v.oneCell' = true := by rw [i5]; exact i7
    have hlen : ∀ k : Nat,(Builtin.zeroCells z.cells k).toList.length = k * i.size := by intro k; simp [Builtin.zeroCells,hzs]
    split at h
    · rename_i b ver hx
      split at h
      · rename_i T0 s rows ver' f hH
        simp only [Option.some.injEq,Prod.mk.injEq] at h
        obtain ⟨rfl,rfl,rfl⟩ := h
        obtain ⟨rfl,rfl,rfl,rfl,h0,hb1,hb2⟩ := hok
        obtain ⟨mm,rfl⟩ : ∃ mm : Nat,m = mm := ⟨m.toNat,by omega⟩
        obtain ⟨u,xs,q1,q2,q3,q4⟩ := hs.blk b _ hH
        have hr := hs.ev x
        rw [hx] at hr
        have hv := hr.own_eq q1
        rw [hv]
        rw [← i2] at q2
        have hb1' : (rows.length + mm) * i.bytes ≤ 140737488355328 := by
          rw [i3]
          have : (((rows.length + mm) * te.bytes : Nat) : Int) = ((rows.length : Int) + mm) * te.bytes := by simp
          omega
        obtain ⟨v',w',hrun,hown,ho1,ho2,ho3,ho4,ho5,ho6,ho7,ho8⟩ := run_appendZ (P := P) w C.base t t' ty T0 k0 kx i z hu hu' i1 i4 hzs u rows.length xs q2 mm _ rfl (hlen mm) (fun v hv => by
          simp only [Builtin.zeroCells,Array.toList_map,List.mem_map] at hv
          obtain ⟨j,hj,rfl⟩ := hv
          refine hone _ ?_
          have hj' : j < mm * z.cells.size := by simpa using hj
          have : j % z.cells.size < z.cells.size := Nat.mod_lt _ (by cases hc : z.cells.size with | zero => rw [hc] at hj'; simp at hj' | succ n => omega)
          simp [this]) (by simp only [maxLen]; omega) hb1' hs.bs
        rw [i2] at hown
        have hup : ∀ p,u ≠ .pointer p := by
          rintro p rfl
          rcases q2.2 with ⟨h',_⟩ | ⟨g,cap,cur,h',_⟩ <;> cases h'
        have hsim := hs.change (x' := .arr T0 te.size (rows ++ List.replicate mm te.zpv) (ver' + 1) false) (ver' := ver' + 1) (u' := v') hH rfl q1 (.inr ⟨by omega,hup⟩) ho5 ho1 ho2 ho3 ho4 ho6 (fun hk hN hl hbox => by
          refine ⟨v',_,upd_same _ _ _,by rw [List.length_append,List.length_replicate]; exact hown,fun r hr' => ?_,fun i' r j pv hi hj => ?_⟩
          · rcases List.mem_append.1 hr' with hr' | hr'
            · exact q3 r hr'
            · rw [List.eq_of_mem_replicate hr',hzpl]
          · have hxl : xs.length = rows.length * te.size := by rw [← i2]; exact q2.1
            by_cases hlt : i' < rows.length
            · rw [List.getElem?_append_left hlt] at hi
              have hjl : j < te.size := by have := (List.getElem?_eq_some_iff.1 hj).1; rw [q3 r (List.mem_of_getElem? hi)] at this; exact this
              have hlx : i' * te.size + j < xs.length := by rw [hxl]; exact flat_lt hlt hjl
              have e1 : (xs ++ (Builtin.zeroCells z.cells mm).toList).getD (i' * te.size + j) undef = xs.getD (i' * te.size + j) undef := by simp only [List.getD_eq_getElem?_getD]; rw [List.getElem?_append_left hlx]
              rw [e1]
              exact ⟨((q4 i' r j pv hi hj).1).mono hk hN,(q4 i' r j pv hi hj).2⟩
            · rw [List.getElem?_append_right (by omega)] at hi
              have e0 : i' * te.size + j = xs.length + ((i' - rows.length) * te.size + j) := by
                rw [hxl]
                obtain ⟨m',rfl⟩ : ∃ m',i' = rows.length + m' := ⟨i' - rows.length,by omega⟩
                rw [Nat.add_sub_cancel_left,Nat.add_mul]
                omega
              have e1 : (xs ++ (Builtin.zeroCells z.cells mm).toList).getD (i' * te.size + j) undef = (Builtin.zeroCells z.cells mm).toList.getD ((i' - rows.length) * te.size + j) undef := by
                rw [e0]
                simp only [List.getD_eq_getElem?_getD]
                rw [List.getElem?_append_right (by omega),Nat.add_sub_cancel_left]
              rw [e1]
              exact zeros_rep (hzr _ _) hone (by rw [hzs,i2]) hzpl _ r j pv hi hj)
        exact ⟨v',w',_,hrun,hsim,.own _ _ _ v' _ (upd_same _ _ _) (Nat.le_refl _) ho7 (fun _ => rfl)⟩
      · cases h
    · rename_i v hx
      split at h
      · rename_i hlit
        simp only [Option.some.injEq,Prod.mk.injEq] at h
        obtain ⟨rfl,rfl,rfl⟩ := h
        obtain ⟨h0,hb1,hb2⟩ := hok
        obtain ⟨mm,rfl⟩ : ∃ mm : Nat,m = mm := ⟨m.toNat,by omega⟩
        have hv0 := isNil_eq hlit
        subst hv0
        have hr := hs.ev x
        rw [hx] at hr
        have hv := hr.lit_eq
        rw [hv]
        have hb1' : (0 + mm) * i.bytes ≤ 140737488355328 := by
          rw [i3,Nat.zero_add]
          have : ((mm * te.bytes : Nat) : Int) = (mm : Int) * te.bytes := by simp
          omega
        obtain ⟨v',w',hrun,hown,ho1,ho2,ho3,ho4,ho5,ho6,ho7,ho8⟩ := run_appendZ (P := P) w C.base t t' ty e k0 kx i z hu hu' i1 i4 hzs _ 0 [] (World.ownsRow_nil _ _ _ _) mm _ rfl (hlen mm) (fun v hv => by
          simp only [Builtin.zeroCells,Array.toList_map,List.mem_map] at hv
          obtain ⟨j,hj,rfl⟩ := hv
          refine hone _ ?_
          have hj' : j < mm * z.cells.size := by simpa using hj
          have : j % z.cells.size < z.cells.size := Nat.mod_lt _ (by cases hc : z.cells.size with | zero => rw [hc] at hj'; simp at hj' | succ n => omega)
          simp [this]) (by simp only [maxLen]; omega) hb1' hs.bs
        rw [i2,Nat.zero_add,List.nil_append] at hown
        have hsim := hs.new (x := .arr e te.size (List.replicate mm te.zpv) 0 false) (ver := 0) (u := v') (w' := w') hfr ⟨ho1,ho2,ho3,ho4,fun k hk _ => ho5 k hk (by simp [refBlock])⟩ (fun k hk => ho5 k hk (by simp [refBlock])) (fun k hk => by
            rcases ho6 k hk with h' | h'
            · simp [refBlock] at h'
            · exact h') (fun hk hN hl hbox => by
          refine ⟨v',_,upd_same _ _ _,by rw [List.length_replicate]; exact hown,fun r hr' => by rw [List.eq_of_mem_replicate hr',hzpl],fun i' r j pv hi hj => ?_⟩
          exact zeros_rep (hzr _ _) hone (by rw [hzs,i2]) hzpl _ r j pv hi hj)
        exact ⟨v',w',_,hrun,hsim,.own _ _ _ v' _ (upd_same _ _ _) (Nat.le_refl _) ho7 (fun _ => rfl)⟩
      · cases h
    · cases h
  · cases h
def putO (w : World) (k : Nat) (o : Obj) : World := { w with heap := w.heap.setIfInBounds k o }
theorem ins_sound (hT : TabOK P T) (hs : Sim C n E H β a w) {t : TypeId} {m k x : Operand} {r : PV} {ok : Prop} {eff : List (Nat × Blk)} (h : insA T E H t m k x = some (ok,r,eff)) (hok : ok) :
    ∃ w' β',(Instr.mapUpdate t (a.eval m) (a.eval k) (a.eval x)).run P w = .ok () w' ∧ Sim C n E (applyEff H eff) β' a w' ∧ r = .any := by
  unfold insA at h
  split at h
  · rename_i ti b kk n0 hti hx hi
    split at h
    · rename_i kt et es hd hH
      split at h
      · rename_i ki hki
        split at h
        · rename_i k' hkd
          simp only [Option.some.injEq,Prod.mk.injEq] at h
          obtain ⟨rfl,rfl,rfl⟩ := h
          obtain ⟨rfl,hk,hb⟩ := hok
          obtain ⟨d,hu,hf,_⟩ := (hT t ti hti).d
          rw [hd] at hf
          simp only [TD.fits] at hf
          subst hf
          obtain ⟨d2,hu2,hf2,_⟩ := (hT kt ki hki).d
          rw [hkd] at hf2
          simp only [TD.fits] at hf2
          subst hf2
          have hrx := hs.ev m
          have hri := hs.ev k
          rw [hx] at hrx
          rw [hi] at hri
          obtain ⟨kb,hvx,hβ⟩ := hrx.mapp_eq
          obtain ⟨k2,ents,clock,q1,q2,q3,q4,q5⟩ := hs.blk b _ hH
          have hq := q1
          rw [hβ] at q1
          cases q1
          obtain ⟨rr,r1,r2⟩ := findNow_spec (R := fun pv v => Rep (NN C H β) w β pv v) (k0 := k') (n := n0) es ents.toList 0 (by simpa using q4) (fun j kv pv hj => by have := q5 j kv pv hj; simpa using this) hk
          have hrn : rr = none := by
            rcases r2 with ⟨_,h'⟩ | ⟨h',_⟩
            · exact h'
            · rw [hb] at h'; cases h'
          subst hrn
          have hfind : (Instr.findKey kt (.int k' n0) ents.toList).run P w = .ok none w := by
            simp [Instr.findKey,run_underlying hu2,r1]
          have hget : (getObj kb).run P w = .ok (.map ents clock) w := by simp [getObj,Sem.run,q3]
          have hlt : kb < w.heap.size := (Array.getElem?_eq_some_iff.1 q3).1
          have hset : ∀ o,(setObj kb o).run P w = .ok () (putO w kb o) := fun o => by simp [setObj,Sem.run,q3,putO]
          have hsim : Sim C n E (upd H b (.map (es ++ [(.int k' n0,ev E x)]))) (upd β b (0,.pointer (some ⟨kb,0,none⟩))) a (putO w kb (.map (ents.push { key := .int k' n0,val := a.eval x,born := clock }) (clock + 1))) := by
            refine hs.change (b := b) (w' := putO w kb (.map (ents.push { key := .int k' n0,val := a.eval x,born := clock }) (clock + 1))) (x' := .map (es ++ [(.int k' n0,ev E x)])) (ver' := 0) (u' := .pointer (some ⟨kb,0,none⟩)) hH rfl hβ (.inl ⟨rfl,rfl⟩) (fun k hk hne => ?_) rfl rfl rfl (by simp [putO]) (fun k hk => .inl hk) (fun hk hN hl hbox => ?_)
            · have hne' : k ≠ kb := fun e => hne (by simp [refBlock,e])
              simp [putO,Array.getElem?_setIfInBounds,Ne.symm hne']
            · refine ⟨kb,ents.push { key := .int k' n0,val := a.eval x,born := clock },clock + 1,upd_same _ _ _,q2,by simp [putO,hlt],by simp [q4],fun j kv pv hj => ?_⟩
              by_cases hj' : j < es.length
              · rw [List.getElem?_append_left hj'] at hj
                obtain ⟨e,e1,e2,e3⟩ := q5 j kv pv hj
                refine ⟨e,?_,e2,e3.mono hk hN hl hbox⟩
                rw [Array.getElem?_push]
                rw [if_neg (by omega)]
                exact e1
              · have hjl := (List.getElem?_eq_some_iff.1 hj).1
                have hje : j = es.length := by simp at hjl; omega
                subst hje
                simp at hj
                obtain ⟨rfl,rfl⟩ := hj
                refine ⟨{ key := .int k' n0,val := a.eval x,born := clock },?_,rfl,(hs.ev x).mono hk hN hl hbox⟩
                rw [Array.getElem?_push,if_pos q4.symm]
          exact ⟨_,_,by simp [Instr.mapUpdate,run_underlying hu,hvx,hri.lit_eq,hget,checkKey_int hu2,hfind,hset],hsim,rfl⟩
        · cases h
      · cases h
    · cases h
  · cases h
end
end Go.Pe
