/- append, and the other operations that make or write memory. -/
import Derived.Test.YtpnhnobnjcknjaaPe8
set_option linter.unusedVariables false
set_option linter.unusedSimpArgs false
namespace Go.Pe
open Go.RowKit

section
variable {P : Program}

theorem wrap64_idN {m : Nat} (h1 : m ≤ 9223372036854775807) : IntKind.i64.wrap (m : Int) = m := by
  unfold IntKind.wrap
  have hm : (m : Int) % 2 ^ 64 = m := Int.emod_eq_of_lt (by omega) (by omega)
  have h2 : ¬ ((m : Int) ≥ 2 ^ (64 - 1)) := by omega
  simp only [IntKind.bits, IntKind.signed, Bool.true_and, hm, decide_eq_true_eq]
  rw [if_neg h2]
/-- What is appended: how many, and their cells, in this world and in the next one. -/
structure Src (P : Program) (w : World) (size : Nat) (x : Value) (m : Nat) (news : List Value) : Prop where
  len : (Builtin.lenOf x).run P w = .ok m w
  now : (Builtin.firstCells size m x).run P w = .ok news.toArray w
  drew : (Builtin.firstCells size m x).run P w.drew = .ok news.toArray w.drew

/-- 'append' onto a slice of its own, or nil. -/
theorem run_append (w : World) (base : Nat) (t t' ty e : TypeId) (d' : TypeDesc) (i : TypeInfo) (z : Value) (ht : P.underlying t = some (.slice e)) (ht' : P.underlying t' = some d') (hd' : ∀ k, d' ≠ .int k) (hi : P.info? e = some i) (hz : i.zero = some z)
    (hzs : z.cells.size = i.size) (v : Value) (n : Nat) (xs : List Value) (hown : w.ownsRow base e i.size v n xs) (x : Value) (m : Nat) (news : List Value) (hsrc : Src P w i.size x m news) (hl : news.length = m * i.size)
    (h1 : ∀ u ∈ news, u.oneCell' = true) (h63 : n + m ≤ maxLen) (hbytes : (n + m) * i.bytes ≤ 140737488355328) (hbase : base ≤ w.heap.size) :
    ∃ v' w', (Builtin.append_ #[t, t'] ty #[v, x]).run P w = .ok v' w' ∧ w'.ownsRow base e i.size v' (n + m) (xs ++ news) ∧
      w'.os = w.os ∧ w'.tape = w.tape ∧ w'.output = w.output ∧ w.heap.size ≤ w'.heap.size ∧ (∀ k, k < w.heap.size → refBlock v ≠ some k → w'.heap[k]? = w.heap[k]?) ∧
      (∀ k, refBlock v' = some k → refBlock v = some k ∨ (w.heap.size ≤ k ∧ k < w'.heap.size)) ∧ v'.oneCell' = true ∧ ∀ p, v' ≠ .pointer p := by
  obtain ⟨hlen, hnow, hdrew⟩ := hsrc
  have hzero : (d' matches .int _) = false := by cases d' <;> simp at hd' ⊢
  have hlx : (xs ++ news).length = (n + m) * i.size := by rw [List.length_append, hown.1, hl, Nat.add_mul]
  have hsmall : n + m ≤ 9223372036854775807 := by simp only [maxLen] at h63; omega
  have grow : ∀ (ad : Option Addr) (cap : Nat), n ≤ cap → cap < n + m → (Builtin.firstCells i.size n (.slice ad n cap)).run P w.drew = .ok xs.toArray w.drew → 
      ∃ v' w', (Builtin.append_ #[t, t'] ty #[.slice ad n cap, x]).run P w = .ok v' w' ∧ w'.ownsRow base e i.size v' (n + m) (xs ++ news) ∧
      w'.os = w.os ∧ w'.tape = w.tape ∧ w'.output = w.output ∧ w.heap.size ≤ w'.heap.size ∧ (∀ k, k < w.heap.size → refBlock (.slice ad n cap) ≠ some k → w'.heap[k]? = w.heap[k]?) ∧
      (∀ k, refBlock v' = some k → refBlock (.slice ad n cap) = some k ∨ (w.heap.size ≤ k ∧ k < w'.heap.size)) ∧ v'.oneCell' = true ∧ ∀ p, v' ≠ .pointer p := by
    intro ad cap hnc hcap hold
    have hn : ¬ (n + m ≤ cap) := by omega
    have h63' : ¬ (9223372036854775807 < ((n : Int) + (m : Int))) := by omega
    have hfit := growslice_fits (need := n + m) (old := cap) (bytes := i.bytes) (by omega) hbytes
    have h48' : ¬ (281474976710656 < Builtin.nextslicecap (n + m) cap * i.bytes) := by omega
    have hge := grownCap_ge w (n + m) cap e
    have hcm := grownCap_le_maxLen w (n + m) cap e h63
    refine ⟨.slice (some ⟨w.heap.size, 0, none⟩) (n + m) (grownCap w (n + m) cap e), w.drew.alloc (.cells (xs.toArray ++ news.toArray ++ Builtin.zeroCells z.cells (grownCap w (n + m) cap e - (n + m))) e), ?_, ⟨hlx, .inr ⟨w.heap.size, _, _, rfl, hbase, heap_alloc_new w.drew _, hge, hcm, ?_, ?_⟩⟩, rfl, rfl, rfl, by simp, fun k hk _ => heap_alloc_old w.drew _ k hk, fun k hk => ?_, rfl, fun p => by simp⟩
    · simp [Builtin.append_, run_underlying ht, run_underlying ht', hzero, sizeOf, typeInfo, zeroValue, hi, hz, hlen, hn, h63', h48', Question.forced, hdrew, hold, newRow, grownCap]
      congr 2
      apply Array.ext'
      simp [List.append_assoc]
    · simp only [Array.size_append, List.size_toArray, size_zeroCells, hzs, hown.1, hl, ← Nat.add_mul]
      congr 1
      omega
    · simp only [Array.toList_append, List.append_assoc]
      rw [← List.append_assoc, ← hlx]
      exact List.take_left
    · simp [refBlock] at hk
      subst hk
      exact .inr ⟨Nat.le_refl _, by simp⟩
  rcases hown.2 with ⟨rfl, rfl⟩ | ⟨g, cap, cur, rfl, hbg, hg, hnc, hcm, hcs, htake⟩
  · have hx : xs = [] := List.eq_nil_of_length_eq_zero (by simpa using hown.1)
    subst hx
    by_cases hm : m = 0
    · subst hm
      have hn : news = [] := List.eq_nil_of_length_eq_zero (by simpa using hl)
      subst hn
      refine ⟨.slice none 0 0, w, ?_, World.ownsRow_nil w base e i.size, rfl, rfl, rfl, Nat.le_refl _, fun _ _ _ => rfl, fun k hk => by simp [refBlock] at hk, rfl, fun p => by simp⟩
      simp [Builtin.append_, run_underlying ht, run_underlying ht', hzero, sizeOf, typeInfo, hi, hlen, hnow]
    · exact grow none 0 (Nat.le_refl _) (by omega) (by simp [Builtin.firstCells])
  · by_cases hroom : n + m ≤ cap
    · have hfit : 0 + n * i.size + news.length ≤ cur.size := by rw [hl, hcs, Nat.zero_add, ← Nat.add_mul]; exact Nat.mul_le_mul_right _ hroom
      have hst := run_storeCells_at P g (n * i.size) e news 0 cur w hg (by simpa using hfit) h1
      simp only [Nat.add_zero] at hst
      refine ⟨.slice (some ⟨g, 0, none⟩) (n + m) cap, w.setRow g (cur.toList.take (n * i.size) ++ news ++ cur.toList.drop (n * i.size + news.length)).toArray, ?_,
        ⟨hlx, .inr ⟨g, cap, _, rfl, hbg, setRow_heap w g cur _ e _ hg, hroom, hcm, ?_, ?_⟩⟩, rfl, rfl, rfl, by simp, fun k _ hk => setRow_other w g k _ (fun e => hk (by simp [refBlock, e])), fun k hk => .inl hk, rfl, fun p => by simp⟩
      · simp [Builtin.append_, run_underlying ht, run_underlying ht', hzero, sizeOf, typeInfo, hi, hlen, hroom, hnow, Addr.add_lit, hst]
      · simp only [List.size_toArray, List.length_append, List.length_take, List.length_drop, Array.length_toList]
        omega
      · rw [htake, ← hlx]
        exact List.take_left
    · have holds : ∀ j u, xs[j]? = some u → w.drew.cell? ((⟨g, 0, none⟩ : Addr).add j) = some u := hown.cells (g := g) rfl
      exact grow _ cap hnc (by omega) (run_firstCells_some (P := P) w.drew i.size n ⟨g, 0, none⟩ n cap xs hown.1 holds)

/-- 'append' of zeros that are made there. -/
theorem run_appendZ (w : World) (base : Nat) (t t' ty e : TypeId) (k0 kx : IntKind) (i : TypeInfo) (z : Value) (ht : P.underlying t = some (.slice e)) (ht' : P.underlying t' = some (.int k0)) (hi : P.info? e = some i) (hz : i.zero = some z)
    (hzs : z.cells.size = i.size) (v : Value) (n : Nat) (xs : List Value) (hown : w.ownsRow base e i.size v n xs) (m : Nat) (news : List Value) (hnews : news = (Builtin.zeroCells z.cells m).toList) (hl : news.length = m * i.size)
    (h1 : ∀ u ∈ news, u.oneCell' = true) (h63 : n + m ≤ maxLen) (hbytes : (n + m) * i.bytes ≤ 140737488355328) (hbase : base ≤ w.heap.size) :
    ∃ v' w', (Builtin.append_ #[t, t'] ty #[v, .int kx m]).run P w = .ok v' w' ∧ w'.ownsRow base e i.size v' (n + m) (xs ++ news) ∧
      w'.os = w.os ∧ w'.tape = w.tape ∧ w'.output = w.output ∧ w.heap.size ≤ w'.heap.size ∧ (∀ k, k < w.heap.size → refBlock v ≠ some k → w'.heap[k]? = w.heap[k]?) ∧
      (∀ k, refBlock v' = some k → refBlock v = some k ∨ (w.heap.size ≤ k ∧ k < w'.heap.size)) ∧ v'.oneCell' = true ∧ ∀ p, v' ≠ .pointer p := by
  have hnl : news.toArray = Builtin.zeroCells z.cells m := by rw [hnews]
  have hz0 : m * i.size = 0 → news = [] := fun h => List.eq_nil_of_length_eq_zero (by rw [hl, h])
  have hlx : (xs ++ news).length = (n + m) * i.size := by rw [List.length_append, hown.1, hl, Nat.add_mul]
  have hsmall : n + m ≤ 9223372036854775807 := by simp only [maxLen] at h63; omega
  have hwm : IntKind.i64.wrap (m : Int) = m := wrap64_idN (by omega)
  have hnm : ¬ ((m : Int) < 0) := by omega
  have hbm : ¬ (281474976710656 < (m : Int) * (i.bytes : Int)) := by
    have h1 : m * i.bytes ≤ (n + m) * i.bytes := Nat.mul_le_mul_right _ (by omega)
    have h2 : ((m * i.bytes : Nat) : Int) = (m : Int) * (i.bytes : Int) := by simp
    omega
  have grow : ∀ (ad : Option Addr) (cap : Nat), n ≤ cap → cap < n + m → (Builtin.firstCells i.size n (.slice ad n cap)).run P w.drew = .ok xs.toArray w.drew → 
      ∃ v' w', (Builtin.append_ #[t, t'] ty #[.slice ad n cap, .int kx m]).run P w = .ok v' w' ∧ w'.ownsRow base e i.size v' (n + m) (xs ++ news) ∧
      w'.os = w.os ∧ w'.tape = w.tape ∧ w'.output = w.output ∧ w.heap.size ≤ w'.heap.size ∧ (∀ k, k < w.heap.size → refBlock (.slice ad n cap) ≠ some k → w'.heap[k]? = w.heap[k]?) ∧
      (∀ k, refBlock v' = some k → refBlock (.slice ad n cap) = some k ∨ (w.heap.size ≤ k ∧ k < w'.heap.size)) ∧ v'.oneCell' = true ∧ ∀ p, v' ≠ .pointer p := by
    intro ad cap hnc hcap hold
    have hn : ¬ (n + m ≤ cap) := by omega
    have h63' : ¬ (9223372036854775807 < ((n : Int) + (m : Int))) := by omega
    have h63x : ¬ (9223372036854775807 < ((n : Int) + max (m : Int) 0)) := by omega
    have hfit := growslice_fits (need := n + m) (old := cap) (bytes := i.bytes) (by omega) hbytes
    have h48' : ¬ (281474976710656 < Builtin.nextslicecap (n + m) cap * i.bytes) := by omega
    have hge := grownCap_ge w (n + m) cap e
    have hcm := grownCap_le_maxLen w (n + m) cap e h63
    refine ⟨.slice (some ⟨w.heap.size, 0, none⟩) (n + m) (grownCap w (n + m) cap e), w.drew.alloc (.cells (xs.toArray ++ news.toArray ++ Builtin.zeroCells z.cells (grownCap w (n + m) cap e - (n + m))) e), ?_, ⟨hlx, .inr ⟨w.heap.size, _, _, rfl, hbase, heap_alloc_new w.drew _, hge, hcm, ?_, ?_⟩⟩, rfl, rfl, rfl, by simp, fun k hk _ => heap_alloc_old w.drew _ k hk, fun k hk => ?_, rfl, fun p => by simp⟩
    · by_cases hsz : m * i.size = 0
      · have hze : Builtin.zeroCells z.cells m = #[] := by rw [← hnl, hz0 hsz]
        simp [Builtin.append_, asInt, asIntOf, run_underlying ht, run_underlying ht', sizeOf, typeInfo, zeroValue, hi, hz, hwm, hnm, hbm, hn, h63x, h63', h48', hsz, hnews, hze, Question.forced, hold, newRow, grownCap]
        all_goals first | (intro hbad; exact absurd hbad h63') | (congr 2; apply Array.ext'; simp [List.append_assoc])
      · simp [Builtin.append_, asInt, asIntOf, run_underlying ht, run_underlying ht', sizeOf, typeInfo, zeroValue, hi, hz, hwm, hnm, hbm, hn, h63x, h63', h48', hsz, hnews, Question.forced, hold, newRow, grownCap]
        all_goals first | (intro hbad; exact absurd hbad h63') | (congr 2; apply Array.ext'; simp [List.append_assoc])
    · simp only [Array.size_append, List.size_toArray, size_zeroCells, hzs, hown.1, hl, ← Nat.add_mul]
      congr 1
      omega
    · simp only [Array.toList_append, List.append_assoc]
      rw [← List.append_assoc, ← hlx]
      exact List.take_left
    · simp [refBlock] at hk
      subst hk
      exact .inr ⟨Nat.le_refl _, by simp⟩
  rcases hown.2 with ⟨rfl, rfl⟩ | ⟨g, cap, cur, rfl, hbg, hg, hnc, hcm, hcs, htake⟩
  · have hx : xs = [] := List.eq_nil_of_length_eq_zero (by simpa using hown.1)
    subst hx
    by_cases hm : m = 0
    · subst hm
      have hn : news = [] := List.eq_nil_of_length_eq_zero (by simpa using hl)
      subst hn
      refine ⟨.slice none 0 0, w, ?_, World.ownsRow_nil w base e i.size, rfl, rfl, rfl, Nat.le_refl _, fun _ _ _ => rfl, fun k hk => by simp [refBlock] at hk, rfl, fun p => by simp⟩
      have hw0 : IntKind.i64.wrap 0 = 0 := by decide
      simp [Builtin.append_, asInt, asIntOf, run_underlying ht, run_underlying ht', sizeOf, typeInfo, hi, hw0]
    · exact grow none 0 (Nat.le_refl _) (by omega) (by simp [Builtin.firstCells])
  · by_cases hroom : n + m ≤ cap
    · have hfit : 0 + n * i.size + news.length ≤ cur.size := by rw [hl, hcs, Nat.zero_add, ← Nat.add_mul]; exact Nat.mul_le_mul_right _ hroom
      have hst := run_storeCells_at P g (n * i.size) e news 0 cur w hg (by simpa using hfit) h1
      simp only [Nat.add_zero] at hst
      refine ⟨.slice (some ⟨g, 0, none⟩) (n + m) cap, w.setRow g (cur.toList.take (n * i.size) ++ news ++ cur.toList.drop (n * i.size + news.length)).toArray, ?_,
        ⟨hlx, .inr ⟨g, cap, _, rfl, hbg, setRow_heap w g cur _ e _ hg, hroom, hcm, ?_, ?_⟩⟩, rfl, rfl, rfl, by simp, fun k _ hk => setRow_other w g k _ (fun e => hk (by simp [refBlock, e])), fun k hk => .inl hk, rfl, fun p => by simp⟩
      · by_cases hsz : m * i.size = 0
        · have hn0 := hz0 hsz
          rw [hn0] at hst ⊢
          simp [Builtin.append_, asInt, asIntOf, run_underlying ht, run_underlying ht', sizeOf, typeInfo, zeroValue, hi, hz, hwm, hnm, hbm, hroom, Addr.add_lit, hst, hsz]
          try (simp at hst; simp [hst])
        · rw [hnews] at hst ⊢
          simp [Builtin.append_, asInt, asIntOf, run_underlying ht, run_underlying ht', sizeOf, typeInfo, zeroValue, hi, hz, hwm, hnm, hbm, hroom, Addr.add_lit, hst, hsz]
      · simp only [List.size_toArray, List.length_append, List.length_take, List.length_drop, Array.length_toList]
        omega
      · rw [htake, ← hlx]
        exact List.take_left
    · have holds : ∀ j u, xs[j]? = some u → w.drew.cell? ((⟨g, 0, none⟩ : Addr).add j) = some u := hown.cells (g := g) rfl
      exact grow _ cap hnc (by omega) (run_firstCells_some (P := P) w.drew i.size n ⟨g, 0, none⟩ n cap xs hown.1 holds)

/-- A slice that reads as rows is a source. -/
theorem Src.rows {N : Nat → Prop} {w : World} {size : Nat} {rows : List (List PV)} {x : Value} (h : RowsAt N w size rows x) :
    ∃ news, Src P w size x rows.length news ∧ news.length = rows.length * size ∧ (∀ u ∈ news, u.oneCell' = true) ∧ (∀ r ∈ rows, r.length = size) ∧
      ∀ i r j pv, rows[i]? = some r → r[j]? = some pv → IRep N w pv (news.getD (i * size + j) undef) := by
  rcases h with ⟨rfl, c, rfl⟩ | ⟨ad, cap, rfl, hc, hsz, hcell⟩
  · exact ⟨[], ⟨by simp [Builtin.lenOf], by simp [Builtin.firstCells], by simp [Builtin.firstCells]⟩, by simp, by simp, by simp, by simp⟩
  · have hfl : rows.flatten.length = rows.length * size := by
      have : ∀ (l : List (List PV)), (∀ r ∈ l, r.length = size) → l.flatten.length = l.length * size := by
        intro l
        induction l with
        | nil => intro _; simp
        | cons r l ih =>
          intro hl
          rw [List.flatten_cons, List.length_append, ih (fun q hq => hl q (List.mem_cons_of_mem _ hq)), hl r List.mem_cons_self, List.length_cons, Nat.add_mul, Nat.one_mul, Nat.add_comm]
      exact this rows hsz
    have hnews : ∀ k, k < rows.length * size → ∃ u, w.cell? (ad.add k) = some u ∧ u.oneCell' = true := by
      intro k hk
      have hs : 0 < size := by rcases Nat.eq_zero_or_pos size with h | h; · subst h; simp at hk
                               · exact h
      have hi : k / size < rows.length := Nat.div_lt_of_lt_mul (by rwa [Nat.mul_comm] at hk)
      have hrl : rows[k / size]? = some rows[k / size] := List.getElem?_eq_getElem hi
      have hj : k % size < rows[k / size].length := by rw [hsz _ (List.getElem_mem hi)]; exact Nat.mod_lt _ hs
      obtain ⟨u, q1, _, q3⟩ := hcell _ _ _ _ hrl (List.getElem?_eq_getElem hj)
      have e : k / size * size + k % size = k := by rw [Nat.mul_comm]; exact Nat.div_add_mod k size
      rw [e] at q1
      exact ⟨u, q1, q3⟩
    let news := (List.range (rows.length * size)).map fun k => (w.cell? (ad.add k)).getD undef
    have hnl : news.length = rows.length * size := by simp [news]
    have hget : ∀ j v, news[j]? = some v → w.cell? (ad.add j) = some v := by
      intro j v hj
      have hlt : j < rows.length * size := by rw [← hnl]; exact (List.getElem?_eq_some_iff.1 hj).1
      obtain ⟨u, q1, _⟩ := hnews j hlt
      simp [news, List.getElem?_map, List.getElem?_range hlt] at hj
      rw [q1] at hj ⊢
      simpa using hj
    refine ⟨news, ⟨by simp [Builtin.lenOf], run_firstCells_some w size _ ad _ cap news hnl hget, run_firstCells_some w.drew size _ ad _ cap news hnl hget⟩, hnl, fun u hu => ?_, hsz, fun i r j pv hi hj => ?_⟩
    · simp only [news, List.mem_map, List.mem_range] at hu
      obtain ⟨k, hk, rfl⟩ := hu
      obtain ⟨u, q1, q2⟩ := hnews k hk
      rw [q1]
      exact q2
    · have hil : i < rows.length := (List.getElem?_eq_some_iff.1 hi).1
      have hjl : j < size := by have := (List.getElem?_eq_some_iff.1 hj).1; rw [hsz r (List.mem_of_getElem? hi)] at this; exact this
      have hlt : i * size + j < rows.length * size := flat_lt hil hjl
      obtain ⟨u, q1, q2, _⟩ := hcell i r j pv hi hj
      have : news.getD (i * size + j) undef = u := by simp [news, List.getD_eq_getElem?_getD, List.getElem?_map, List.getElem?_range hlt, q1]
      rw [this]
      exact q2

/-- A string's bytes, as rows. -/
def strRows (s : ByteArray) : List (List PV) := s.data.toList.map fun b => [.lit (.int .u8 b.toNat)]
theorem Src.string {N : Nat → Prop} {w : World} (s : ByteArray) : ∃ news, Src P w 1 (.string s) (strRows s).length news ∧ news.length = (strRows s).length * 1 ∧ (∀ u ∈ news, u.oneCell' = true) ∧ (∀ r ∈ strRows s, r.length = 1) ∧
      ∀ i r j pv, (strRows s)[i]? = some r → r[j]? = some pv → IRep N w pv (news.getD (i * 1 + j) undef) := by
  have hl : (strRows s).length = s.size := by simp [strRows]
  refine ⟨s.data.toList.map fun b => .int .u8 b.toNat, ?_, by simp [strRows], by simp [Value.oneCell'], by simp [strRows], fun i r j pv hi hj => ?_⟩
  · have hx : (Array.map (fun b : UInt8 => Value.int IntKind.u8 (b.toNat : Int)) s.data).extract 0 s.size = Array.map (fun b : UInt8 => Value.int IntKind.u8 (b.toNat : Int)) s.data := by
      have hs : s.size = (Array.map (fun b : UInt8 => Value.int IntKind.u8 (b.toNat : Int)) s.data).size := by rw [Array.size_map]; rfl
      rw [hs, Array.extract_size]
    have he : (s.extract 0 s.size) = s := by simp
    refine ⟨by simp [Builtin.lenOf, hl], ?_, ?_⟩
    all_goals
      simp only [Builtin.firstCells, hl, he, Sem.run_pure]
      congr 1
      apply Array.ext'
      simp
  · simp only [strRows, List.getElem?_map, Option.map_eq_some_iff] at hi
    obtain ⟨b, hb, rfl⟩ := hi
    cases j with
    | zero =>
      cases hj
      have hb' : s.data[i]? = some b := by simpa using hb
      have : (s.data.toList.map fun b : UInt8 => Value.int .u8 (b.toNat : Int)).getD (i * 1 + 0) undef = .int .u8 b.toNat := by
        simp [List.getD_eq_getElem?_getD, hb']
      rw [this]
      exact .lit _
    | succ j => simp at hj

end

end Go.Pe
