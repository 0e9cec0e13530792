import Derived.Test.YtpnhnobnjcknjaaE17
namespace Go.Proofs.Ytpnhnobnjcknjaa.Pe
open Go.Pe Go.RowKit
set_option maxRecDepth 20000
set_option maxHeartbeats 4000000
set_option linter.unusedSimpArgs false
set_option linter.unusedVariables false

/-- Fates that are all 'pass' from m on. -/
def calmAt (fates : List Int) (m : Nat) : Prop := ∀ k, m ≤ k → fateL fates k = 1
def Lnk.like (L L' : Lnk) : Prop := L.s = L'.s ∧ L.r = L'.r ∧ L.a = L'.a ∧ L.b = L'.b
theorem recvAll_calm {fates fates' : List Int} : ∀ {l : List Pdu} {r : Rcv} {b : Way} {m m' : Nat}, calmAt fates m → calmAt fates' m' →
    (recvAll fates l r b m).1 = (recvAll fates' l r b m').1 ∧ (recvAll fates l r b m).2.1 = (recvAll fates' l r b m').2.1 ∧ m ≤ (recvAll fates l r b m).2.2 ∧ m' ≤ (recvAll fates' l r b m').2.2
  | [], r, b, m, m', _, _ => ⟨rfl, rfl, Nat.le_refl _, Nat.le_refl _⟩
  | p :: l, r, b, m, m', h, h' => by
    rw [recvAll, recvAll]
    by_cases hb : (recvV r p).2.2 = true
    · rw [if_pos hb, if_pos hb, h m (Nat.le_refl _), h' m' (Nat.le_refl _)]
      obtain ⟨q1, q2, q3, q4⟩ := recvAll_calm (l := l) (r := (recvV r p).1) (b := putW b (recvV r p).2.1 1) (m := m + 1) (m' := m' + 1) (fun k hk => h k (by omega)) (fun k hk => h' k (by omega))
      exact ⟨q1, q2, by omega, by omega⟩
    · rw [if_neg hb, if_neg hb]
      exact recvAll_calm h h'
theorem tick_calm {fates fates' : List Int} {L L' : Lnk} (hl : L.like L') (h : calmAt fates L.m) (h' : calmAt fates' L'.m) : (tickL fates L).like (tickL fates' L') ∧ L.m ≤ (tickL fates L).m ∧ L'.m ≤ (tickL fates' L').m := by
  obtain ⟨s, r, a, b, m⟩ := L
  obtain ⟨s', r', a', b', m'⟩ := L'
  obtain ⟨rfl, rfl, rfl, rfl⟩ := hl
  simp only at h h'
  obtain ⟨q1, q2, q3, q4⟩ := recvAll_calm (l := a.u) (r := r) (b := b) h h'
  unfold tickL
  simp only
  obtain ⟨x, hx⟩ : ∃ x, recvAll fates a.u r b m = x := ⟨_, rfl⟩
  obtain ⟨y, hy⟩ : ∃ y, recvAll fates' a.u r b m' = y := ⟨_, rfl⟩
  rw [hx, hy] at q1 q2
  rw [hx] at q3 ⊢
  rw [hy] at q4 ⊢
  rw [h x.2.2 q3, h' y.2.2 q4, q1, q2]
  refine ⟨⟨rfl, rfl, rfl, rfl⟩, ?_, ?_⟩
  · split <;> omega
  · split <;> omega
theorem run_calm {fates fates' : List Int} : ∀ (f n : Nat) (L L' : Lnk), L.like L' → calmAt fates L.m → calmAt fates' L'.m → (runL fates f n L).1.s = (runL fates' f n L').1.s ∧ (runL fates f n L).1.r = (runL fates' f n L').1.r ∧ (runL fates f n L).2 = (runL fates' f n L').2
  | 0, n, L, L', hl, _, _ => ⟨hl.1, hl.2.1, rfl⟩
  | f + 1, n, L, L', hl, h, h' => by
    have hd : doneL L = doneL L' := by unfold doneL; rw [hl.1, hl.2.1, hl.2.2.1, hl.2.2.2]
    cases hdd : doneL L with
    | true => rw [run_done hdd, run_done (hd ▸ hdd)]; exact ⟨hl.1, hl.2.1, rfl⟩
    | false =>
      rw [run_go hdd, run_go (hd ▸ hdd)]
      obtain ⟨t1, t2, t3⟩ := tick_calm hl h h'
      exact run_calm f (n + 1) _ _ t1 (fun k hk => h k (by omega)) (fun k hk => h' k (by omega))
theorem takeAll_going : ∀ {l : List Pdu} {s : Snd}, s.st ≠ 1 → takeAll l s = s
  | [], _, _ => rfl
  | p :: l, s, h => by
    have : takeS s p = s := by rw [takeS, if_neg (by simp [Snd.takes, h])]
    show takeAll l (takeS s p) = s
    rw [this]
    exact takeAll_going h
/-- The first tick, with a head and its flows once or twice. -/
theorem first_twice {t : List UInt8} (h7 : 7 < t.length) (h1 : t.length ≤ 4095) {bn g : Nat} (hbn : bn ≤ 255) (hg : g ≤ 127) {fa fc fd : Int} (ha : fa = 1 ∨ fa = 3) (hc : fc = 1 ∨ fc = 3) (hd : fd = 1 ∨ (fd = 3 ∧ fa = 3)) :
    (tickL [fa, fc, fd] (startL t 4095 bn g [fa, fc, fd])).like (tickL [] (startL t 4095 bn g [])) ∧ calmAt [fa, fc, fd] (tickL [fa, fc, fd] (startL t 4095 bn g [fa, fc, fd])).m ∧ doneL (startL t 4095 bn g [fa, fc, fd]) = false ∧ doneL (startL t 4095 bn g []) = false := by
  have hs : newS t = ⟨1, t, 6, 1, -1, 0, 0, 0, 0⟩ := by rw [newS, if_neg (by omega), if_neg (by omega)]
  obtain ⟨r1, a1, q1, q2, q3, q4⟩ := RAt.first (t := t) (r := freshR 4095 bn g) (by omega) h1 (show (t.length : Int) ≤ 4095 by omega)
  have hp0 : (partsL t)[0]? = some (newP t) := by rw [(parts_long h7 h1).2.1, newP, if_neg (by omega), if_neg (by omega)]
  rw [hp0] at q1
  simp only [Option.getD_some] at q1
  have hk : (newP t).k = 2 := by rw [newP, if_neg (by omega), if_neg (by omega)]
  rw [if_pos h7] at q3
  rw [decide_eq_true h7] at q1
  have hcfg : sameCfg (freshR 4095 bn g) r1 := by
    have := cfg_recv (freshR 4095 bn g) (freshR 4095 bn g) (newP t) ⟨rfl, rfl, rfl⟩
    rw [q1] at this
    exact this
  have q1' : recvV r1 (newP t) = (r1, a1, true) := by rw [recv_anew hcfg (.inr hk)]; exact q1
  obtain ⟨p0, hpe⟩ : ∃ p0, newP t = p0 := ⟨_, rfl⟩
  rw [hpe] at q1 q1' hp0 hk
  have hgo : a1 = ⟨4, 0, 0, 0, bn, g, []⟩ := q3
  have htk : (takeS ⟨1, t, 6, 1, -1, 0, 0, 0, 0⟩ a1).st = 2 := by
    rw [hgo, takeS, if_pos (by simp [Snd.takes, Pdu.right]; omega), if_neg (by simp), if_neg (by simp)]
  have hall : ∀ l, takeAll (a1 :: l) ⟨1, t, 6, 1, -1, 0, 0, 0, 0⟩ = takeS ⟨1, t, 6, 1, -1, 0, 0, 0, 0⟩ a1 := fun l => takeAll_going (s := takeS ⟨1, t, 6, 1, -1, 0, 0, 0, 0⟩ a1) (by rw [htk]; decide)
  have hcalm : ∀ m, 2 ≤ m → (m = 2 → fd = 1) → calmAt [fa, fc, fd] m := by
    intro m hm hm2 k hk
    match k, hk with
    | 0, hk => omega
    | 1, hk => omega
    | 2, hk => exact hm2 (by omega)
    | k + 3, _ => rfl
  obtain ⟨s1, hs1⟩ : ∃ s1, takeS ⟨1, t, 6, 1, -1, 0, 0, 0, 0⟩ a1 = s1 := ⟨_, rfl⟩
  rw [hs1] at hall htk
  have hd0 : doneL (startL t 4095 bn g []) = false := by simp [startL, hs, doneL]
  have hd1 : doneL (startL t 4095 bn g [fa, fc, fd]) = false := by simp [startL, hs, doneL]
  have f0 : fateL [fa, fc, fd] 0 = fa := rfl
  have f1 : fateL [fa, fc, fd] 1 = fc := rfl
  have f2 : fateL [fa, fc, fd] 2 = fd := rfl
  have f3 : fateL [fa, fc, fd] 3 = 1 := rfl
  refine ⟨?_, ?_, hd1, hd0⟩
  · rcases ha with rfl | rfl
    · have hd : fd = 1 := by omega
      subst hd
      rcases hc with rfl | rfl
      · simp [Lnk.like, tickL, startL, hs, hpe, fateL_nil, f0, f1, f2, f3, putW, recvAll, q1, q1', hall]
      · simp [Lnk.like, tickL, startL, hs, hpe, fateL_nil, f0, f1, f2, f3, putW, recvAll, q1, q1', hall]
    · rcases hc with rfl | rfl <;> rcases hd with rfl | ⟨rfl, _⟩ <;> simp [Lnk.like, tickL, startL, hs, hpe, fateL_nil, f0, f1, f2, f3, putW, recvAll, q1, q1', hall]
  · rcases ha with rfl | rfl
    · have hd : fd = 1 := by omega
      subst hd
      refine hcalm _ ?_ (fun _ => rfl)
      rcases hc with rfl | rfl <;> simp [tickL, startL, hs, hpe, fateL_nil, f0, f1, f2, f3, putW, recvAll, q1, q1', hall] <;> split <;> omega
    · have hm : 3 ≤ (tickL [3, fc, fd] (startL t 4095 bn g [3, fc, fd])).m := by
        rcases hc with rfl | rfl <;> rcases hd with rfl | ⟨rfl, _⟩ <;> simp [tickL, startL, hs, hpe, fateL_nil, f0, f1, f2, f3, putW, recvAll, q1, q1', hall] <;> split <;> omega
      exact hcalm _ (by omega) (fun h => by omega)
theorem play_twice {t : List UInt8} (h7 : 7 < t.length) (h1 : t.length ≤ 4095) {bn g : Nat} (hbn : bn ≤ 255) (hg : g ≤ 127) {fa fc fd : Int} (ha : fa = 1 ∨ fa = 3) (hc : fc = 1 ∨ fc = 3) (hd : fd = 1 ∨ (fd = 3 ∧ fa = 3)) :
    playV t 4095 bn g [fa, fc, fd] = playV t 4095 bn g [] := by
  have he : newE t = 0 := by rw [newE, if_neg (by omega), if_neg (by omega)]
  obtain ⟨w1, w2, w3, w4⟩ := first_twice h7 h1 hbn hg ha hc hd
  have e1 : runL [fa, fc, fd] 100000 0 (startL t 4095 bn g [fa, fc, fd]) = runL [fa, fc, fd] 99999 1 (tickL [fa, fc, fd] (startL t 4095 bn g [fa, fc, fd])) := by
    show runL _ (99999 + 1) 0 _ = _
    rw [run_go w3]
  have e2 : runL [] 100000 0 (startL t 4095 bn g []) = runL [] 99999 1 (tickL [] (startL t 4095 bn g [])) := by
    show runL _ (99999 + 1) 0 _ = _
    rw [run_go w4]
  obtain ⟨x1, x2, x3⟩ := run_calm 99999 1 _ _ w1 w2 (fates' := []) (fun k _ => rfl)
  rw [playV, if_pos he, playV, if_pos he, e1, e2, x1, x2, x3]
end Go.Proofs.Ytpnhnobnjcknjaa.Pe
