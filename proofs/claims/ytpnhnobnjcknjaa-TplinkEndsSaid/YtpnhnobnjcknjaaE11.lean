import Derived.Test.YtpnhnobnjcknjaaE10
namespace Go.Proofs.Ytpnhnobnjcknjaa.Pe
open Go.Pe Go.RowKit
set_option maxRecDepth 20000
set_option maxHeartbeats 4000000
set_option linter.unusedSimpArgs false
set_option linter.unusedVariables false

/-- A flow that a receiver may say. -/
def flowOK (g : Int) (p : Pdu) : Prop := p.k = 4 ∧ ((p.s = 0 ∧ p.g = g) ∨ p.s = 2)
structure SInv (g : Int) (s : Snd) : Prop where
  sound : s.sound
  st : s.st = 1 ∨ s.st = 2 ∨ s.st = 3 ∨ s.st = 4
  err : s.st = 4 ↔ s.err ≠ 0
  gap : s.st = 2 → s.gap = g
  clock : 0 ≤ s.clock ∧ s.clock ≤ 1099511627776
  ask : s.st = 1 → s.clock ≤ 100
structure RInv (g : Int) (r : Rcv) : Prop where
  fine : r.fine
  st : r.st = 0 ∨ r.st = 2 ∨ r.st = 3 ∨ r.st = 4
  err : r.st = 4 ↔ r.err ≠ 0
  gap : r.gap = g
  clock : r.st = 2 → 0 ≤ r.clock ∧ r.clock ≤ 100
theorem recv_rinv {g : Int} {r : Rcv} (h : RInv g r) {p : Pdu} (hp : p.right = true) : RInv g (recvV r p).1 ∧ ((recvV r p).2.2 = true → flowOK g (recvV r p).2.1) := by
  have hf := fine_recv h.fine hp
  have hgo : flowOK g (goP r) := ⟨rfl, .inl ⟨rfl, h.gap⟩⟩
  have mk4 : ∀ r' : Rcv, r'.fine → r'.st = 4 → r'.err ≠ 0 → r'.gap = r.gap → RInv g r' := fun r' f a b c => ⟨f, .inr (.inr (.inr a)), ⟨fun _ => b, fun _ => a⟩, c.trans h.gap, fun hh => by omega⟩
  have mkN : ∀ r' : Rcv, r'.fine → (r'.st = 2 ∨ r'.st = 3) → r'.err = 0 → r'.gap = r.gap → r'.clock = 0 → RInv g r' := fun r' f a b c d => ⟨f, by omega, ⟨fun hh => by omega, fun hh => absurd b hh⟩, c.trans h.gap, fun _ => by omega⟩
  revert hf
  unfold recvV
  by_cases h1 : p.k = 1
  · rw [if_pos h1]
    intro hf
    refine ⟨?_, fun hh => by cases hh⟩
    unfold beginR at hf ⊢
    by_cases hr : r.room < p.l
    · rw [if_pos hr] at hf ⊢
      exact mk4 _ hf rfl (show (182 : Int) ≠ 0 by decide) rfl
    · rw [if_neg hr] at hf ⊢
      exact mkN _ hf (.inr rfl) rfl rfl rfl
  rw [if_neg h1]
  by_cases h2 : p.k = 2
  · rw [if_pos h2]
    unfold beginR
    by_cases hr : r.room < p.l
    · rw [if_pos hr, if_pos hr]
      intro hf
      exact ⟨mk4 _ hf rfl (show (182 : Int) ≠ 0 by decide) rfl, fun _ => ⟨rfl, .inr rfl⟩⟩
    · rw [if_neg hr, if_neg hr]
      intro hf
      exact ⟨mkN _ hf (.inl rfl) rfl rfl rfl, fun _ => hgo⟩
  rw [if_neg h2]
  by_cases h3 : p.k = 3 ∧ r.st = 2
  · rw [if_pos h3]
    have he0 : r.err = 0 := by
      apply Classical.byContradiction
      intro hne
      have := h.err.2 hne
      omega
    unfold nextV
    by_cases c1 : p.n ≠ r.num ∨ (p.d.length : Int) ≠ (if missR r < 7 then missR r else 7)
    · rw [if_pos c1]
      intro hf
      exact ⟨mk4 _ hf rfl (show (183 : Int) ≠ 0 by decide) rfl, fun hh => by cases hh⟩
    rw [if_neg c1]
    by_cases c2 : (p.d.length : Int) = missR r
    · rw [if_pos c2]
      intro hf
      exact ⟨mkN _ hf (.inr rfl) he0 rfl rfl, fun hh => by cases hh⟩
    rw [if_neg c2]
    by_cases c3 : r.left < 0
    · rw [if_pos c3]
      intro hf
      exact ⟨mkN _ hf (.inl h3.2) he0 rfl rfl, fun hh => by cases hh⟩
    rw [if_neg c3]
    by_cases c4 : 1 < r.left
    · rw [if_pos c4]
      intro hf
      exact ⟨mkN _ hf (.inl h3.2) he0 rfl rfl, fun hh => by cases hh⟩
    rw [if_neg c4]
    intro hf
    exact ⟨mkN _ hf (.inl h3.2) he0 rfl rfl, fun _ => hgo⟩
  · rw [if_neg h3]
    intro _
    exact ⟨h, fun hh => by cases hh⟩
theorem wrapC {c : Int} (h : 0 ≤ c ∧ c ≤ 1099511627776) : IntKind.wrap .i64 (c + 1) = c + 1 := wrapI64 (by omega)
theorem tickR_rinv {g : Int} {r : Rcv} (h : RInv g r) : RInv g (tickV r) ∧ (r.st = 2 → (tickV r).st = 4 ∨ ((tickV r).st = 2 ∧ (tickV r).clock = r.clock + 1)) ∧ (r.st ≠ 2 → tickV r = r) := by
  by_cases hst : r.st = 2
  · obtain ⟨c0, c1⟩ := h.clock hst
    have hw : IntKind.wrap .i64 (r.clock + 1) = r.clock + 1 := wrapI64 (by omega)
    unfold tickV
    rw [if_pos hst, hw]
    split
    · exact ⟨⟨h.fine, .inr (.inr (.inr rfl)), ⟨fun _ => (show (181 : Int) ≠ 0 by decide), fun _ => rfl⟩, h.gap, fun h => by cases h⟩, fun _ => .inl rfl, fun hn => absurd hst hn⟩
    · exact ⟨⟨h.fine, h.st, h.err, h.gap, fun _ => ⟨by simp only; omega, by simp only; omega⟩⟩, fun _ => .inr ⟨hst, rfl⟩, fun hn => absurd hst hn⟩
  · have : tickV r = r := by rw [tickV, if_neg hst]
    rw [this]
    exact ⟨h, fun hh => absurd hh hst, fun _ => rfl⟩
theorem take_sinv {g : Int} (hg : 0 ≤ g ∧ g ≤ 127) {s : Snd} (h : SInv g s) {p : Pdu} (hp : flowOK g p) : SInv g (takeS s p) ∧ (takeS s p = s ∨ (s.st = 1 ∧ (takeS s p).st = 4) ∨ (s.st = 1 ∧ (takeS s p).st = 2 ∧ (takeS s p).clock = g)) ∧ (takeS s p).pos = s.pos ∧ (takeS s p).text = s.text := by
  have hs := take_sound h.sound p
  revert hs
  unfold takeS
  by_cases ht : s.takes p = true
  · rw [if_pos ht]
    have hst : s.st = 1 := by simp [Snd.takes] at ht; exact ht.1.1
    rcases hp.2 with ⟨p0, pg⟩ | p2
    · rw [if_neg (by omega), if_neg (by omega)]
      intro hs
      refine ⟨⟨hs, .inr (.inl rfl), ⟨fun h => (by cases h), fun hh => ?_⟩, fun _ => pg, by simp only; omega, fun h => by cases h⟩, .inr (.inr ⟨hst, rfl, pg⟩), rfl, rfl⟩
      have := h.err.2 hh
      omega
    · rw [if_pos p2]
      intro hs
      exact ⟨⟨hs, .inr (.inr (.inr rfl)), ⟨fun _ => (show (184 : Int) ≠ 0 by decide), fun _ => rfl⟩, fun h => (by cases h), h.clock, fun h => by cases h⟩, .inr (.inl ⟨hst, rfl⟩), rfl, rfl⟩
  · rw [if_neg ht]
    intro _
    exact ⟨h, .inl rfl, rfl, rfl⟩
theorem takeAll_sinv {g : Int} (hg : 0 ≤ g ∧ g ≤ 127) : ∀ {l : List Pdu} {s : Snd}, SInv g s → (∀ p ∈ l, flowOK g p) → SInv g (takeAll l s) ∧ (takeAll l s = s ∨ (s.st = 1 ∧ (takeAll l s).st = 4) ∨ (s.st = 1 ∧ (takeAll l s).st = 2 ∧ (takeAll l s).clock = g)) ∧ (takeAll l s).pos = s.pos ∧ (takeAll l s).text = s.text
  | [], s, h, _ => ⟨h, .inl rfl, rfl, rfl⟩
  | p :: l, s, h, hp => by
    obtain ⟨a1, a2, a3, a4⟩ := take_sinv hg h (hp p List.mem_cons_self)
    obtain ⟨b1, b2, b3, b4⟩ := takeAll_sinv (l := l) hg a1 (fun q hq => hp q (List.mem_cons_of_mem _ hq))
    show SInv g (takeAll l (takeS s p)) ∧ (takeAll l (takeS s p) = s ∨ (s.st = 1 ∧ (takeAll l (takeS s p)).st = 4) ∨ (s.st = 1 ∧ (takeAll l (takeS s p)).st = 2 ∧ (takeAll l (takeS s p)).clock = g)) ∧ (takeAll l (takeS s p)).pos = s.pos ∧ (takeAll l (takeS s p)).text = s.text
    refine ⟨b1, ?_, b3.trans a3, b4.trans a4⟩
    rcases a2 with e | ⟨e1, e2⟩ | ⟨e1, e2, e3⟩
    · rw [e] at b2 ⊢; exact b2
    · rcases b2 with e | ⟨f1, _⟩ | ⟨f1, _⟩
      · rw [e]; exact .inr (.inl ⟨e1, e2⟩)
      · omega
      · omega
    · rcases b2 with e | ⟨f1, _⟩ | ⟨f1, _⟩
      · rw [e]; exact .inr (.inr ⟨e1, e2, e3⟩)
      · omega
      · omega
/-- How many parts are left to send. -/
def partsLeft (s : Snd) : Nat := ((s.text.length : Int) - s.pos + 6).toNat / 7
theorem tick_sinv {g : Int} {s : Snd} (h : SInv g s) : SInv g (tickS s) ∧ (s.st ≠ 1 → (tickS s).st = s.st) ∧ (s.st = 1 → (tickS s).st = 4 ∨ ((tickS s).st = 1 ∧ (tickS s).clock = s.clock + 1)) ∧
    (s.st = 2 → s.clock ≤ 1000 → (tickS s).clock = s.clock + 1) ∧ (s.st = 2 → s.clock ≤ (tickS s).clock) ∧ (tickS s).pos = s.pos ∧ (tickS s).text = s.text := by
  have hs := tick_sound h.sound
  have hw := wrapC h.clock
  revert hs
  unfold tickS
  by_cases hst : s.st = 1 ∨ s.st = 2
  · rw [if_pos hst, hw]
    have he0 : s.err = 0 := by
      apply Classical.byContradiction
      intro hne
      have := h.err.2 hne
      omega
    obtain ⟨c, hc⟩ : ∃ c, (if 1099511627776 < s.clock + 1 then (1099511627776 : Int) else s.clock + 1) = c := ⟨_, rfl⟩
    have hcl := h.clock
    have hc0 : 0 ≤ c ∧ c ≤ 1099511627776 ∧ s.clock ≤ c ∧ (s.clock ≤ 1000 → c = s.clock + 1) := by rw [← hc]; split <;> omega
    simp only [hc]
    by_cases hf : s.st = 1 ∧ 100 < c
    · rw [if_pos hf]
      intro hs
      exact ⟨⟨hs, .inr (.inr (.inr rfl)), ⟨fun _ => (show (181 : Int) ≠ 0 by decide), fun _ => rfl⟩, fun h => (by cases h), ⟨hc0.1, hc0.2.1⟩, fun h => (by cases h)⟩, fun hh => absurd hf.1 hh, fun _ => .inl rfl, fun hh => by omega, fun hh => by omega, rfl, rfl⟩
    · rw [if_neg hf]
      intro hs
      refine ⟨⟨hs, h.st, h.err, h.gap, ⟨hc0.1, hc0.2.1⟩, fun hh => ?_⟩, fun _ => rfl, fun hh => .inr ⟨hh, ?_⟩, fun _ hh => hc0.2.2.2 hh, fun _ => hc0.2.2.1, rfl, rfl⟩
      · have hh' : s.st = 1 := hh
        show c ≤ 100
        apply Classical.byContradiction
        intro hn
        exact hf ⟨hh', by omega⟩
      · have := h.ask hh
        exact hc0.2.2.2 (by omega)
  · rw [if_neg hst]
    intro _
    exact ⟨h, fun _ => rfl, fun hh => absurd (.inl hh) hst, fun hh => absurd (.inr hh) hst, fun hh => absurd (.inr hh) hst, rfl, rfl⟩
theorem next_sinv {g : Int} {s : Snd} (h : SInv g s) : SInv g (nextS s) ∧ (s.goes = false → nextS s = s) ∧ (s.goes = true → s.st = 2 ∧ g ≤ s.clock ∧ (nextS s).clock = 0 ∧ ((nextS s).st = 3 ∨ (((nextS s).st = 1 ∨ (nextS s).st = 2) ∧ partsLeft (nextS s) + 1 = partsLeft s))) := by
  have hs := next_sound h.sound
  by_cases hg : s.goes = true
  · have hst : s.st = 2 := by simp [Snd.goes] at hg; exact hg.1
    have hcl : s.gap ≤ s.clock := by simp [Snd.goes] at hg; exact hg.2
    have hgp := h.gap hst
    obtain ⟨⟨⟨p1, p2, p3⟩, _, _⟩, _, _, h3⟩ := h.sound
    have h3' := h3 (.inr hst)
    have he0 : s.err = 0 := by
      apply Classical.byContradiction
      intro hne
      have := h.err.2 hne
      omega
    rw [nextS, if_pos hg] at hs ⊢
    have hcase : nextT s = 3 ∨ ((nextT s = 1 ∨ nextT s = 2) ∧ nextTo s = s.pos + 7 ∧ s.pos + 7 < s.text.length) := by
      simp only [nextT]
      by_cases e : nextTo s = s.text.length
      · rw [if_pos e]; exact .inl rfl
      · right
        rw [if_neg e]
        have hto : nextTo s = s.pos + 7 ∧ s.pos + 7 < s.text.length := by
          simp only [nextTo] at e ⊢
          split at e
          · omega
          · rename_i hn
            rw [if_neg hn]
            omega
        refine ⟨?_, hto⟩
        split
        · exact .inr hst
        · split
          · exact .inl rfl
          · exact .inr hst
    refine ⟨⟨hs, ?_, ⟨fun hh => ?_, fun hh => absurd he0 hh⟩, fun _ => hgp, ⟨(show (0 : Int) ≤ 0 by decide), (show (0 : Int) ≤ 1099511627776 by decide)⟩, fun _ => (by show (0 : Int) ≤ 100; decide)⟩, fun hh => (by rw [hg] at hh; cases hh), fun _ => ⟨hst, by omega, rfl, ?_⟩⟩
    · show nextT s = 1 ∨ nextT s = 2 ∨ nextT s = 3 ∨ nextT s = 4
      rcases hcase with e | ⟨e | e, _⟩ <;> simp [e]
    · have hh' : nextT s = 4 := hh
      rcases hcase with e | ⟨e | e, _⟩ <;> omega
    · rcases hcase with e | ⟨e, e2, e3⟩
      · exact .inl e
      · refine .inr ⟨e, ?_⟩
        show ((s.text.length : Int) - nextTo s + 6).toNat / 7 + 1 = ((s.text.length : Int) - s.pos + 6).toNat / 7
        rw [e2]
        omega
  · have hg' : s.goes = false := by simpa using hg
    have e : nextS s = s := by rw [nextS, if_neg hg]
    rw [e]
    exact ⟨h, fun _ => rfl, fun hh => by rw [hg'] at hh; cases hh⟩
end Go.Proofs.Ytpnhnobnjcknjaa.Pe
