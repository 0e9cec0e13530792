import Derived.Test.YtpnhnobnjcknjaaE11
namespace Go.Proofs.Ytpnhnobnjcknjaa.Pe
open Go.Pe Go.RowKit
set_option maxRecDepth 20000
set_option maxHeartbeats 4000000
set_option linter.unusedSimpArgs false
set_option linter.unusedVariables false

structure EInv (g : Int) (L : Lnk) : Prop where
  s : SInv g L.s
  r : RInv g L.r
  good : L.a.good
  flows : (∀ p ∈ L.b.u, flowOK g p) ∧ (∀ p ∈ L.b.h, flowOK g p)
theorem putW_all {Q : Pdu → Prop} {w : Way} {p : Pdu} (f : Int) (h1 : ∀ q ∈ w.u, Q q) (h2 : ∀ q ∈ w.h, Q q) (hp : Q p) : (∀ q ∈ (putW w p f).u, Q q) ∧ (∀ q ∈ (putW w p f).h, Q q) := by
  unfold putW
  split
  · exact ⟨h1, h2⟩
  · split
    · exact ⟨h1, fun q hq => by simp at hq; rcases hq with hq | rfl; exact h2 q hq; exact hp⟩
    · split
      · refine ⟨fun q hq => ?_, fun q hq => by simp at hq⟩
        simp at hq
        rcases hq with hq | rfl | hq
        · exact h1 q hq
        · exact hp
        · exact h2 q hq
      · refine ⟨fun q hq => ?_, fun q hq => by simp at hq⟩
        simp at hq
        rcases hq with hq | rfl | hq
        · exact h1 q hq
        · exact hp
        · exact h2 q hq
theorem recvAll_einv {g : Int} {fates : List Int} : ∀ {l : List Pdu} {r : Rcv} {b : Way} {m : Nat}, RInv g r → (∀ p ∈ l, p.right = true) → (∀ p ∈ b.u, flowOK g p) → (∀ p ∈ b.h, flowOK g p) →
    RInv g (recvAll fates l r b m).1 ∧ (∀ p ∈ (recvAll fates l r b m).2.1.u, flowOK g p) ∧ (∀ p ∈ (recvAll fates l r b m).2.1.h, flowOK g p) ∧ (l = [] → recvAll fates l r b m = (r, b, m))
  | [], r, b, m, h, _, h1, h2 => ⟨h, h1, h2, fun _ => rfl⟩
  | p :: l, r, b, m, h, hp, h1, h2 => by
    obtain ⟨q1, q2⟩ := recv_rinv h (hp p List.mem_cons_self)
    have hp' : ∀ q ∈ l, q.right = true := fun q hq => hp q (List.mem_cons_of_mem _ hq)
    rw [recvAll]
    split
    · rename_i hb
      obtain ⟨w1, w2⟩ := putW_all (fateL fates m) h1 h2 (q2 hb)
      obtain ⟨e1, e2, e3, _⟩ := recvAll_einv (fates := fates) (m := m + 1) q1 hp' w1 w2
      exact ⟨e1, e2, e3, fun hh => by cases hh⟩
    · obtain ⟨e1, e2, e3, _⟩ := recvAll_einv (fates := fates) (m := m) q1 hp' h1 h2
      exact ⟨e1, e2, e3, fun hh => by cases hh⟩
def under (L : Lnk) : Nat := L.a.u.length + L.b.u.length
/-- How long it may go on. -/
def mu (g : Nat) (L : Lnk) : Nat :=
  if L.s.st = 1 then (if under L = 0 then 300 + (102 - L.s.clock).toNat else 503 + partsLeft L.s * (g + 4))
  else if L.s.st = 2 then 501 + partsLeft L.s * (g + 4) + ((g : Int) - L.s.clock).toNat
  else (if under L = 0 then 0 else 110) + (if L.r.st = 2 then (102 - L.r.clock).toNat else 0)
theorem parts_pos {g : Int} {s : Snd} (h : SInv g s) (hs : s.st = 1 ∨ s.st = 2) : 1 ≤ partsLeft s := by
  have := h.sound.2.2.2 hs
  unfold partsLeft
  omega
theorem rest_le {g : Int} {r : Rcv} (h : RInv g r) : (if (tickV r).st = 2 then (102 - (tickV r).clock).toNat else 0) ≤ 102 := by
  have := (tickR_rinv h).1.clock
  split
  · rename_i h2; have := this h2; omega
  · omega
theorem hub (k : Nat) : (if k = 0 then 0 else 110) ≤ 110 := by split <;> omega
theorem hub2 (k x y : Nat) {b : Nat} (h1 : x ≤ b) (h2 : y ≤ b) : (if k = 0 then x else y) ≤ b := by split <;> omega
theorem tick_mu {g : Nat} (hg : g ≤ 127) {fates : List Int} {L : Lnk} (h : EInv g L) (hd : doneL L = false) : EInv g (tickL fates L) ∧ mu g (tickL fates L) < mu g L := by
  obtain ⟨q1, q2, q3, q4⟩ := recvAll_einv (fates := fates) (m := L.m) h.r h.good.1 h.flows.1 h.flows.2
  obtain ⟨x, hx⟩ : ∃ x, recvAll fates L.a.u L.r L.b L.m = x := ⟨_, rfl⟩
  rw [hx] at q1 q2 q3 q4
  obtain ⟨t1, t2, t3, t4⟩ := takeAll_sinv (l := x.2.1.u) (by omega) h.s q2
  obtain ⟨s1, hs1⟩ : ∃ s1, takeAll x.2.1.u L.s = s1 := ⟨_, rfl⟩
  have hT : tickL fates L = ⟨tickS (nextS s1), tickV x.1, if s1.goes then putW ⟨[], L.a.h⟩ (nextP s1) (fateL fates x.2.2) else ⟨[], L.a.h⟩, ⟨[], x.2.1.h⟩, if s1.goes then x.2.2 + 1 else x.2.2⟩ := by rw [← hs1, ← hx]; rfl
  rw [hs1] at t1 t2 t3 t4
  obtain ⟨n1, n2, n3⟩ := next_sinv t1
  obtain ⟨k1, k2, k3, k4, k5, k6, k7⟩ := tick_sinv n1
  obtain ⟨r1, r2, r3⟩ := tickR_rinv q1
  have hrest := rest_le q1
  have hpl : partsLeft (tickS (nextS s1)) = partsLeft (nextS s1) := by unfold partsLeft; rw [k6, k7]
  have hpl1 : partsLeft s1 = partsLeft L.s := by unfold partsLeft; rw [t3, t4]
  refine ⟨?_, ?_⟩
  · rw [hT]
    refine ⟨k1, r1, ?_, ⟨fun p hp => (by cases hp), q3⟩⟩
    show Way.good (if s1.goes = true then putW ⟨[], L.a.h⟩ (nextP s1) (fateL fates x.2.2) else ⟨[], L.a.h⟩)
    split
    · rename_i hgo
      exact putW_good (w := ⟨[], L.a.h⟩) ⟨fun p hp => (by cases hp), h.good.2⟩ (nextP_right t1.sound hgo) _
    · exact ⟨fun p hp => (by cases hp), h.good.2⟩
  · cases hgo : s1.goes with
    | true =>
      obtain ⟨m1, m2, m3, m4⟩ := n3 hgo
      -- the sender goes: it was going, or was told to
      have hP : 1 ≤ partsLeft L.s := by
        rcases t2 with e | ⟨e, _⟩ | ⟨e, _⟩
        · rw [e] at m1; exact parts_pos h.s (.inr m1)
        · exact parts_pos h.s (.inl e)
        · exact parts_pos h.s (.inl e)
      have hmuL : 501 + partsLeft L.s * (g + 4) ≤ mu g L := by
        unfold mu
        rcases t2 with e | ⟨e, e2⟩ | ⟨e, e2, e3⟩
        · have : L.s.st = 2 := by rw [← e]; exact m1
          rw [if_neg (by omega), if_pos this]; omega
        · omega
        · rw [if_pos e]
          have hu : under L ≠ 0 := by
            intro hu
            unfold under at hu
            have ha : L.a.u = [] := List.eq_nil_of_length_eq_zero (by omega)
            have hb : L.b.u = [] := List.eq_nil_of_length_eq_zero (by omega)
            have hx' := q4 ha
            rw [hx'] at hs1
            simp only at hs1
            rw [hb] at hs1
            have : s1 = L.s := hs1.symm
            rw [this] at e2
            omega
          rw [if_neg hu]; omega
      refine Nat.lt_of_lt_of_le ?_ hmuL
      rw [hT]
      unfold mu
      simp only
      rcases m4 with m4 | ⟨m4, m5⟩
      · have e := k2 (by omega)
        rw [if_neg (by rw [e]; omega), if_neg (by rw [e]; omega)]
        refine Nat.lt_of_le_of_lt (Nat.add_le_add (hub _) hrest) ?_
        omega
      · rw [hpl]
        have hmul : partsLeft L.s * (g + 4) = partsLeft (nextS s1) * (g + 4) + (g + 4) := by rw [← hpl1, ← m5, Nat.add_mul]; omega
        rcases m4 with m4 | m4
        · rcases k3 m4 with e | ⟨e, e2⟩
          · rw [if_neg (by omega), if_neg (by omega)]
            refine Nat.lt_of_le_of_lt (Nat.add_le_add (hub _) hrest) ?_
            omega
          · rw [if_pos e]
            rw [m3] at e2
            refine Nat.lt_of_le_of_lt (hub2 _ _ _ (b := 503 + partsLeft (nextS s1) * (g + 4)) (by omega) (by omega)) ?_
            omega
        · have e := k2 (by omega)
          have e2 := k4 m4 (by omega)
          rw [m3] at e2
          rw [if_neg (by omega), if_pos (by omega)]
          omega
    | false =>
      have hn := n2 hgo
      rw [hn] at k1 k2 k3 k4 k5 k6 k7 hpl
      rw [hT, hgo, hn]
      have hu0 : under ⟨tickS s1, tickV x.1, ⟨[], L.a.h⟩, ⟨[], x.2.1.h⟩, x.2.2⟩ = 0 := rfl
      simp only [Bool.false_eq_true, if_false]
      unfold mu
      rw [hu0]
      simp only [if_true]
      by_cases hs1' : s1.st = 1
      · have hL : L.s = s1 := by
          rcases t2 with e | ⟨_, e2⟩ | ⟨_, e2, _⟩
          · exact e.symm
          · omega
          · omega
        rw [hL, if_pos hs1']
        have hcl := t1.ask hs1'
        have hcl0 := t1.clock
        rcases k3 hs1' with e | ⟨e, e2⟩
        · rw [if_neg (by omega), if_neg (by omega)]
          by_cases hu : under L = 0
          · rw [if_pos hu]; omega
          · rw [if_neg hu]; omega
        · rw [if_pos e]
          by_cases hu : under L = 0
          · rw [if_pos hu]; omega
          · rw [if_neg hu]; omega
      by_cases hs2 : s1.st = 2
      · have hgap := t1.gap hs2
        have hlt : s1.clock < g := by
          apply Classical.byContradiction
          intro hh
          have : s1.goes = true := by simp [Snd.goes, hs2]; omega
          rw [hgo] at this
          cases this
        have hL : L.s = s1 := by
          rcases t2 with e | ⟨_, e2⟩ | ⟨_, e2, e3⟩
          · exact e.symm
          · omega
          · omega
        have e := k2 (by omega)
        have e2 := k4 hs2 (by omega)
        have hcl0 := t1.clock
        rw [hL, if_neg (by omega), if_pos (by omega), if_neg (by omega), if_pos hs2, hpl]
        omega
      · have e := k2 hs1'
        rw [if_neg (by omega), if_neg (by omega)]
        by_cases hLs : L.s.st = 1
        · rw [if_pos hLs]
          have hcl := h.s.ask hLs
          by_cases hu : under L = 0
          · rw [if_pos hu]; omega
          · rw [if_neg hu]; omega
        · have hL : L.s = s1 := by
            rcases t2 with e | ⟨e, _⟩ | ⟨e, _⟩
            · exact e.symm
            · omega
            · omega
          rw [if_neg hLs, if_neg (show ¬ L.s.st = 2 by rw [hL]; exact hs2)]
          by_cases hu : under L = 0
          · rw [if_pos hu]
            unfold under at hu
            have ha : L.a.u = [] := List.eq_nil_of_length_eq_zero (by omega)
            have hx' := q4 ha
            have hxr : x.1 = L.r := by rw [hx']
            rw [hxr] at r2 r3 ⊢
            have hst34 : L.s.st = 3 ∨ L.s.st = 4 := by
              rw [hL] at *
              rcases t1.st with h | h | h | h
              · omega
              · omega
              · exact .inl h
              · exact .inr h
            have hr2 : L.r.st = 2 := by
              apply Classical.byContradiction
              intro hh
              have : doneL L = true := by
                rw [doneL, decide_eq_true hu, decide_eq_false hh]
                rcases hst34 with h | h
                · rw [decide_eq_true h]; rfl
                · rw [decide_eq_true h]; cases decide (L.s.st = 3) <;> rfl
              rw [hd] at this
              cases this
            have hc := h.r.clock hr2
            rw [if_pos hr2]
            rcases r2 hr2 with e | ⟨e, e2⟩
            · rw [if_neg (by omega)]; omega
            · rw [if_pos e]; omega
          · rw [if_neg hu]
            omega
theorem run_ends {g : Nat} (hg : g ≤ 127) {fates : List Int} : ∀ (f n : Nat) (L : Lnk), EInv g L → mu g L < f → ∃ L' k, runL fates f n L = (L', n + k) ∧ k ≤ mu g L ∧ doneL L' = true ∧ EInv g L'
  | 0, n, L, _, h => by omega
  | f + 1, n, L, hI, h => by
    cases hd : doneL L with
    | true => exact ⟨L, 0, run_done hd, by omega, hd, hI⟩
    | false =>
      obtain ⟨i1, i2⟩ := tick_mu hg (fates := fates) hI hd
      obtain ⟨L', k, e1, e2, e3, e4⟩ := run_ends hg f (n + 1) (tickL fates L) i1 (by omega)
      exact ⟨L', k + 1, by rw [run_go hd, e1]; congr 1; omega, by omega, e3, e4⟩
end Go.Proofs.Ytpnhnobnjcknjaa.Pe
