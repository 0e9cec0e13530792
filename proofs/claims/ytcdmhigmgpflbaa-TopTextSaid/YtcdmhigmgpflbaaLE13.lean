import Derived.Test.YtcdmhigmgpflbaaLE10a
namespace Go.Proofs.Ytcdmhigmgpflbaa.Pe.Lk
open Go.Pe Go.RowKit
set_option maxRecDepth 20000
set_option maxHeartbeats 4000000
set_option linter.unusedSimpArgs false
set_option linter.unusedVariables false

/-- A flow that a receiver may say. -/
def flowOK (g : Int) (p : Pdu) : Prop := p.k = 4 ∧ ((p.s = 0 ∧ p.g = g) ∨ p.s = 2)
structure SInv (g : Int) (s : Snd) : Prop where
  sound : s.sound
  st : s.st = 1 ∨ s.st = 2 ∨ s.st = 3 ∨ s.st = 4
  err : s.st = 4 ↔ s.err ≠ 0
  gap : s.st = 2 → s.gap = g
  clock : 0 ≤ s.clock ∧ s.clock ≤ 1099511627776
  ask : s.st = 1 → s.clock ≤ 100
structure RInv (g : Int) (r : Rcv) : Prop where
  fine : r.fine
  st : r.st = 0 ∨ r.st = 2 ∨ r.st = 3 ∨ r.st = 4
  err : r.st = 4 ↔ r.err ≠ 0
  gap : r.gap = g
  clock : r.st = 2 → 0 ≤ r.clock ∧ r.clock ≤ 100
theorem recv_rinv {g : Int} {r : Rcv} (h : RInv g r) {p : Pdu} (hp : p.right = true) : RInv g (recvV r p).1 ∧ ((recvV r p).2.2 = true → flowOK g (recvV r p).2.1) := by
  have hf := fine_recv h.fine hp
  have hgo : flowOK g (goP r) := ⟨rfl,.inl ⟨rfl,h.gap⟩⟩
  have mk4 : ∀ r' : Rcv,r'.fine → r'.st = 4 → r'.err ≠ 0 → r'.gap = r.gap → RInv g r' := fun r' f a b c => ⟨f,.inr (.inr (.inr a)),⟨fun _ => b,fun _ => a⟩,c.trans h.gap,fun hh => by omega⟩
  have mkN : ∀ r' : Rcv,r'.fine → (r'.st = 2 ∨ r'.st = 3) → r'.err = 0 → r'.gap = r.gap → r'.clock = 0 → RInv g r' := fun r' f a b c d => ⟨f,by omega,⟨fun hh => by omega,fun hh => absurd b hh⟩,c.trans h.gap,fun _ => by omega⟩
  revert hf
  unfold recvV
  by_cases h1 : p.k = 1
  · rw [if_pos h1]
    intro hf
    refine ⟨?_,fun hh => by cases hh⟩
    unfold beginR at hf ⊢
    by_cases hr : r.room < p.l
    · rw [if_pos hr] at hf ⊢
      exact mk4 _ hf rfl (show (182 : Int) ≠ 0 by decide) rfl
    · rw [if_neg hr] at hf ⊢
      exact mkN _ hf (.inr rfl) rfl rfl rfl
  rw [if_neg h1]
  by_cases h2 : p.k = 2
  · rw [if_pos h2]
    unfold beginR
    by_cases hr : r.room < p.l
    · rw [if_pos hr,if_pos hr]
      intro hf
      exact ⟨mk4 _ hf rfl (show (182 : Int) ≠ 0 by decide) rfl,fun _ => ⟨rfl,.inr rfl⟩⟩
    · rw [if_neg hr,if_neg hr]
      intro hf
      exact ⟨mkN _ hf (.inl rfl) rfl rfl rfl,fun _ => hgo⟩
  rw [if_neg h2]
  by_cases h3 : p.k = 3 ∧ r.st = 2
  · rw [if_pos h3]
    have he0 : r.err = 0 := by
      apply Classical.byContradiction
      intro hne
      have := h.err.2 hne
      omega
    unfold nextV
    by_cases c1 : p.n ≠ r.num ∨ (p.d.length : Int) ≠ (if missR r < 7 then missR r else 7)
    · rw [if_pos c1]
      intro hf
      exact ⟨mk4 _ hf rfl (show (183 : Int) ≠ 0 by decide) rfl,fun hh => by cases hh⟩
    rw [if_neg c1]
    by_cases c2 : (p.d.length : Int) = missR r
    · rw [if_pos c2]
      intro hf
      exact ⟨mkN _ hf (.inr rfl) he0 rfl rfl,fun hh => by cases hh⟩
    rw [if_neg c2]
    by_cases c3 : r.left < 0
    · rw [if_pos c3]
      intro hf
      exact ⟨mkN _ hf (.inl h3.2) he0 rfl rfl,fun hh => by cases hh⟩
    rw [if_neg c3]
    by_cases c4 : 1 < r.left
    · rw [if_pos c4]
      intro hf
      exact ⟨mkN _ hf (.inl h3.2) he0 rfl rfl,fun hh => by cases hh⟩
    rw [if_neg c4]
    intro hf
    exact ⟨mkN _ hf (.inl h3.2) he0 rfl rfl,fun _ => hgo⟩
  · rw [if_neg h3]
    intro _
    exact ⟨h,fun hh => by cases hh⟩
theorem wrapC {c : Int} (h : 0 ≤ c ∧ c ≤ 1099511627776) : IntKind.wrap .i64 (c + 1) = c + 1 := wrapI64 (by omega)
theorem tickR_rinv {g : Int} {r : Rcv} (h : RInv g r) : RInv g (tickV r) ∧ (r.st = 2 → (tickV r).st = 4 ∨ ((tickV r).st = 2 ∧ (tickV r).clock = r.clock + 1)) ∧ (r.st ≠ 2 → tickV r = r) := by
  by_cases hst : r.st = 2
  · obtain ⟨c0,c1⟩ := h.clock hst
    have hw : IntKind.wrap .i64 (r.clock + 1) = r.clock + 1 := wrapI64 (by omega)
    unfold tickV
    rw [if_pos hst,hw]
    split
    · exact ⟨⟨h.fine,.inr (.inr (.inr rfl)),⟨fun _ => (show (181 : Int) ≠ 0 by decide),fun _ => rfl⟩,h.gap,fun h => by cases h⟩,fun _ => .inl rfl,fun hn => absurd hst hn⟩
    · exact ⟨⟨h.fine,h.st,h.err,h.gap,fun _ => ⟨by simp only; omega,by simp only; omega⟩⟩,fun _ => .inr ⟨hst,rfl⟩,fun hn => absurd hst hn⟩
  · have : tickV r = r := by rw [tickV,if_neg hst]
    rw [this]
    exact ⟨h,fun hh => absurd hh hst,fun _ => rfl⟩
theorem take_sinv {g : Int} (hg : 0 ≤ g ∧ g ≤ 127) {s : Snd} (h : SInv g s) {p : Pdu} (hp : flowOK g p) : SInv g (takeS s p) ∧ (takeS s p = s ∨ (s.st = 1 ∧ (takeS s p).st = 4) ∨ (s.st = 1 ∧ (takeS s p).st = 2 ∧ (takeS s p).clock = g)) ∧ (takeS s p).pos = s.pos ∧ (takeS s p).text = s.text := by
  have hs := take_sound h.sound p
  revert hs
  unfold takeS
  by_cases ht : s.takes p = true
  · rw [if_pos ht]
    have hst : s.st = 1 := by simp [Snd.takes] at ht; exact ht.1.1
    rcases hp.2 with ⟨p0,pg⟩ | p2
    · rw [if_neg (by omega),if_neg (by omega)]
      intro hs
      refine ⟨⟨hs,.inr (.inl rfl),⟨fun h => (by cases h),fun hh => ?_⟩,fun _ => pg,by simp only; omega,fun h => by cases h⟩,.inr (.inr ⟨hst,rfl,pg⟩),rfl,rfl⟩
      have := h.err.2 hh
      omega
    · rw [if_pos p2]
      intro hs
      exact ⟨⟨hs,.inr (.inr (.inr rfl)),⟨fun _ => (show (184 : Int) ≠ 0 by decide),fun _ => rfl⟩,fun h => (by cases h),h.clock,fun h => by cases h⟩,.inr (.inl ⟨hst,rfl⟩),rfl,rfl⟩
  · rw [if_neg ht]
    intro _
    exact ⟨h,.inl rfl,rfl,rfl⟩
theorem takeAll_sinv {g : Int} (hg : 0 ≤ g ∧ g ≤ 127) : ∀ {l : List Pdu} {s : Snd},SInv g s → (∀ p ∈ l,flowOK g p) → SInv g (takeAll l s) ∧ (takeAll l s = s ∨ (s.st = 1 ∧ (takeAll l s).st = 4) ∨ (s.st = 1 ∧ (takeAll l s).st = 2 ∧ (takeAll l s).clock = g)) ∧ (takeAll l s).pos = s.pos ∧ (takeAll l s).text = s.text
  | [],s,h,_ => ⟨h,.inl rfl,rfl,rfl⟩
  | p :: l,s,h,hp => by
    obtain ⟨a1,a2,a3,a4⟩ := take_sinv hg h (hp p List.mem_cons_self)
    obtain ⟨b1,b2,b3,b4⟩ := takeAll_sinv (l := l) hg a1 (fun q hq => hp q (List.mem_cons_of_mem _ hq))
    show SInv g (takeAll l (takeS s p)) ∧ (takeAll l (takeS s p) = s ∨ (s.st = 1 ∧ (takeAll l (takeS s p)).st = 4) ∨ (s.st = 1 ∧ (takeAll l (takeS s p)).st = 2 ∧ (takeAll l (takeS s p)).clock = g)) ∧ (takeAll l (takeS s p)).pos = s.pos ∧ (takeAll l (takeS s p)).text = s.text
    refine ⟨b1,?_,b3.trans a3,b4.trans a4⟩
    rcases a2 with e | ⟨e1,e2⟩ | ⟨e1,e2,e3⟩
    · rw [e] at b2 ⊢; exact b2
    · rcases b2 with e | ⟨f1,_⟩ | ⟨f1,_⟩
      · rw [e]; exact .inr (.inl ⟨e1,e2⟩)
      · omega
      · omega
    · rcases b2 with e | ⟨f1,_⟩ | ⟨f1,_⟩
      · rw [e]; exact .inr (.inr ⟨e1,e2,e3⟩)
      · omega
      · omega
/-- How many parts are left to send. -/
def partsLeft (s : Snd) : Nat := ((s.text.length : Int) - s.pos + 6).toNat / 7
theorem tick_sinv {g : Int} {s : Snd} (h : SInv g s) : SInv g (tickS s) ∧ (s.st ≠ 1 → (tickS s).st = s.st) ∧ (s.st = 1 → (tickS s).st = 4 ∨ ((tickS s).st = 1 ∧ (tickS s).clock = s.clock + 1)) ∧
    (s.st = 2 → s.clock ≤ 1000 → (tickS s).clock = s.clock + 1) ∧ (s.st = 2 → s.clock ≤ (tickS s).clock) ∧ (tickS s).pos = s.pos ∧ (tickS s).text = s.text := by
  have hs := tick_sound h.sound
  have hw := wrapC h.clock
  revert hs
  unfold tickS
  by_cases hst : s.st = 1 ∨ s.st = 2
  · rw [if_pos hst,hw]
    have he0 : s.err = 0 := by
      apply Classical.byContradiction
      intro hne
      have := h.err.2 hne
      omega
    obtain ⟨c,hc⟩ : ∃ c,(if 1099511627776 < s.clock + 1 then (1099511627776 : Int) else s.clock + 1) = c := ⟨_,rfl⟩
    have hcl := h.clock
    have hc0 : 0 ≤ c ∧ c ≤ 1099511627776 ∧ s.clock ≤ c ∧ (s.clock ≤ 1000 → c = s.clock + 1) := by rw [← hc]; split <;> omega
    simp only [hc]
    by_cases hf : s.st = 1 ∧ 100 < c
    · rw [if_pos hf]
      intro hs
      exact ⟨⟨hs,.inr (.inr (.inr rfl)),⟨fun _ => (show (181 : Int) ≠ 0 by decide),fun _ => rfl⟩,fun h => (by cases h),⟨hc0.1,hc0.2.1⟩,fun h => (by cases h)⟩,fun hh => absurd hf.1 hh,fun _ => .inl rfl,fun hh => by omega,fun hh => by omega,rfl,rfl⟩
    · rw [if_neg hf]
      intro hs
      refine ⟨⟨hs,h.st,h.err,h.gap,⟨hc0.1,hc0.2.1⟩,fun hh => ?_⟩,fun _ => rfl,fun hh => .inr ⟨hh,?_⟩,fun _ hh => hc0.2.2.2 hh,fun _ => hc0.2.2.1,rfl,rfl⟩
      · have hh' : s.st = 1 := hh
        show c ≤ 100
        apply Classical.byContradiction
        intro hn
        exact hf ⟨hh',by omega⟩
      · have := h.ask hh
        exact hc0.2.2.2 (by omega)
  · rw [if_neg hst]
    intro _
    exact ⟨h,fun _ => rfl,fun hh => absurd (.inl hh) hst,fun hh => absurd (.inr hh) hst,fun hh => absurd (.inr hh) hst,rfl,rfl⟩
theorem next_sinv {g : Int} {s : Snd} (h : SInv g s) : SInv g (nextS s) ∧ (s.goes = false → nextS s = s) ∧ (s.goes = true → s.st = 2 ∧ g ≤ s.clock ∧ (nextS s).clock = 0 ∧ ((nextS s).st = 3 ∨ (((nextS s).st = 1 ∨ (nextS s).st = 2) ∧ partsLeft (nextS s) + 1 = partsLeft s))) := by
  have hs := next_sound h.sound
  by_cases hg : s.goes = true
  · have hst : s.st = 2 := by simp [Snd.goes] at hg; exact hg.1
    have hcl : s.gap ≤ s.clock := by simp [Snd.goes] at hg; exact hg.2
    have hgp := h.gap hst
    obtain ⟨⟨⟨p1,p2,p3⟩,_,_⟩,_,_,h3⟩ := h.sound
    have h3' := h3 (.inr hst)
    have he0 : s.err = 0 := by
      apply Classical.byContradiction
      intro hne
      have := h.err.2 hne
      omega
    rw [nextS,if_pos hg] at hs ⊢
    have hcase : nextT s = 3 ∨ ((nextT s = 1 ∨ nextT s = 2) ∧ nextTo s = s.pos + 7 ∧ s.pos + 7 < s.text.length) := by
      simp only [nextT]
      by_cases e : nextTo s = s.text.length
      · rw [if_pos e]; exact .inl rfl
      · right
        rw [if_neg e]
        have hto : nextTo s = s.pos + 7 ∧ s.pos + 7 < s.text.length := by
          simp only [nextTo] at e ⊢
          split at e
          · omega
          · rename_i hn
            rw [if_neg hn]
            omega
        refine ⟨?_,hto⟩
        split
        · exact .inr hst
        · split
          · exact .inl rfl
          · exact .inr hst
    refine ⟨⟨hs,?_,⟨fun hh => ?_,fun hh => absurd he0 hh⟩,fun _ => hgp,⟨(show (0 : Int) ≤ 0 by decide),(show (0 : Int) ≤ 1099511627776 by decide)⟩,fun _ => (by show (0 : Int) ≤ 100; decide)⟩,fun hh => (by rw [hg] at hh; cases hh),fun _ => ⟨hst,by omega,rfl,?_⟩⟩
    · show nextT s = 1 ∨ nextT s = 2 ∨ nextT s = 3 ∨ nextT s = 4
      rcases hcase with e | ⟨e | e,_⟩ <;> simp [e]
    · have hh' : nextT s = 4 := hh
      rcases hcase with e | ⟨e | e,_⟩ <;> omega
    · rcases hcase with e | ⟨e,e2,e3⟩
      · exact .inl e
      · refine .inr ⟨e,?_⟩
        show ((s.text.length : Int) - nextTo s + 6).toNat / 7 + 1 = ((s.text.length : Int) - s.pos + 6).toNat / 7
        rw [e2]
        omega
  · have hg' : s.goes = false := by simpa using hg
    have e : nextS s = s := by rw [nextS,if_neg hg]
    rw [e]
    exact ⟨h,fun _ => rfl,fun hh => by rw [hg'] at hh; cases hh⟩
end Go.Proofs.Ytcdmhigmgpflbaa.Pe.Lk


namespace Go.Proofs.Ytcdmhigmgpflbaa.Pe.Lk
open Go.Pe Go.RowKit
set_option maxRecDepth 20000
set_option maxHeartbeats 4000000
set_option linter.unusedSimpArgs false
set_option linter.unusedVariables false

structure EInv (g : Int) (L : Lnk) : Prop where
  s : SInv g L.s
  r : RInv g L.r
  good : L.a.good
  flows : (∀ p ∈ L.b.u,flowOK g p) ∧ (∀ p ∈ L.b.h,flowOK g p)
theorem putW_all {Q : Pdu → Prop} {w : Way} {p : Pdu} (f : Int) (h1 : ∀ q ∈ w.u,Q q) (h2 : ∀ q ∈ w.h,Q q) (hp : Q p) : (∀ q ∈ (putW w p f).u,Q q) ∧ (∀ q ∈ (putW w p f).h,Q q) := by
  unfold putW
  split
  · exact ⟨h1,h2⟩
  · split
    · exact ⟨h1,fun q hq => by simp at hq; rcases hq with hq | rfl; exact h2 q hq; exact hp⟩
    · split
      · refine ⟨fun q hq => ?_,fun q hq => by simp at hq⟩
        simp at hq
        rcases hq with hq | rfl | hq
        · exact h1 q hq
        · exact hp
        · exact h2 q hq
      · refine ⟨fun q hq => ?_,fun q hq => by simp at hq⟩
        simp at hq
        rcases hq with hq | rfl | hq
        · exact h1 q hq
        · exact hp
        · exact h2 q hq
theorem recvAll_einv {g : Int} {fates : List Int} : ∀ {l : List Pdu} {r : Rcv} {b : Way} {m : Nat},RInv g r → (∀ p ∈ l,p.right = true) → (∀ p ∈ b.u,flowOK g p) → (∀ p ∈ b.h,flowOK g p) →
    RInv g (recvAll fates l r b m).1 ∧ (∀ p ∈ (recvAll fates l r b m).2.1.u,flowOK g p) ∧ (∀ p ∈ (recvAll fates l r b m).2.1.h,flowOK g p) ∧ (l = [] → recvAll fates l r b m = (r,b,m))
  | [],r,b,m,h,_,h1,h2 => ⟨h,h1,h2,fun _ => rfl⟩
  | p :: l,r,b,m,h,hp,h1,h2 => by
    obtain ⟨q1,q2⟩ := recv_rinv h (hp p List.mem_cons_self)
    have hp' : ∀ q ∈ l,q.right = true := fun q hq => hp q (List.mem_cons_of_mem _ hq)
    rw [recvAll]
    split
    · rename_i hb
      obtain ⟨w1,w2⟩ := putW_all (fateL fates m) h1 h2 (q2 hb)
      obtain ⟨e1,e2,e3,_⟩ := recvAll_einv (fates := fates) (m := m + 1) q1 hp' w1 w2
      exact ⟨e1,e2,e3,fun hh => by cases hh⟩
    · obtain ⟨e1,e2,e3,_⟩ := recvAll_einv (fates := fates) (m := m) q1 hp' h1 h2
      exact ⟨e1,e2,e3,fun hh => by cases hh⟩
def under (L : Lnk) : Nat := L.a.u.length + L.b.u.length
/-- How long it may go on. -/
def mu (g : Nat) (L : Lnk) : Nat :=
  if L.s.st = 1 then (if under L = 0 then 300 + (102 - L.s.clock).toNat else 503 + partsLeft L.s * (g + 4))
  else if L.s.st = 2 then 501 + partsLeft L.s * (g + 4) + ((g : Int) - L.s.clock).toNat
  else (if under L = 0 then 0 else 110) + (if L.r.st = 2 then (102 - L.r.clock).toNat else 0)
theorem parts_pos {g : Int} {s : Snd} (h : SInv g s) (hs : s.st = 1 ∨ s.st = 2) : 1 ≤ partsLeft s := by
  have := h.sound.2.2.2 hs
  unfold partsLeft
  omega
theorem rest_le {g : Int} {r : Rcv} (h : RInv g r) : (if (tickV r).st = 2 then (102 - (tickV r).clock).toNat else 0) ≤ 102 := by
  have := (tickR_rinv h).1.clock
  split
  · rename_i h2; have := this h2; omega
  · omega
theorem hub (k : Nat) : (if k = 0 then 0 else 110) ≤ 110 := by split <;> omega
theorem hub2 (k x y : Nat) {b : Nat} (h1 : x ≤ b) (h2 : y ≤ b) : (if k = 0 then x else y) ≤ b := by split <;> omega
theorem tick_mu {g : Nat} (hg : g ≤ 127) {fates : List Int} {L : Lnk} (h : EInv g L) (hd : doneL L = false) : EInv g (tickL fates L) ∧ mu g (tickL fates L) < mu g L := by
  obtain ⟨q1,q2,q3,q4⟩ := recvAll_einv (fates := fates) (m := L.m) h.r h.good.1 h.flows.1 h.flows.2
  obtain ⟨x,hx⟩ : ∃ x,recvAll fates L.a.u L.r L.b L.m = x := ⟨_,rfl⟩
  rw [hx] at q1 q2 q3 q4
  obtain ⟨t1,t2,t3,t4⟩ := takeAll_sinv (l := x.2.1.u) (by omega) h.s q2
  obtain ⟨s1,hs1⟩ : ∃ s1,takeAll x.2.1.u L.s = s1 := ⟨_,rfl⟩
  have hT : tickL fates L = ⟨tickS (nextS s1),tickV x.1,if s1.goes then putW ⟨[],L.a.h⟩ (nextP s1) (fateL fates x.2.2) else ⟨[],L.a.h⟩,⟨[],x.2.1.h⟩,if s1.goes then x.2.2 + 1 else x.2.2⟩ := by rw [← hs1,← hx]; rfl
  rw [hs1] at t1 t2 t3 t4
  obtain ⟨n1,n2,n3⟩ := next_sinv t1
  obtain ⟨k1,k2,k3,k4,k5,k6,k7⟩ := tick_sinv n1
  obtain ⟨r1,r2,r3⟩ := tickR_rinv q1
  have hrest := rest_le q1
  have hpl : partsLeft (tickS (nextS s1)) = partsLeft (nextS s1) := by unfold partsLeft; rw [k6,k7]
  have hpl1 : partsLeft s1 = partsLeft L.s := by unfold partsLeft; rw [t3,t4]
  refine ⟨?_,?_⟩
  · rw [hT]
    refine ⟨k1,r1,?_,⟨fun p hp => (by cases hp),q3⟩⟩
    show Way.good (if s1.goes = true then putW ⟨[],L.a.h⟩ (nextP s1) (fateL fates x.2.2) else ⟨[],L.a.h⟩)
    split
    · rename_i hgo
      exact putW_good (w := ⟨[],L.a.h⟩) ⟨fun p hp => (by cases hp),h.good.2⟩ (nextP_right t1.sound hgo) _
    · exact ⟨fun p hp => (by cases hp),h.good.2⟩
  · cases hgo : s1.goes with
    | true =>
      obtain ⟨m1,m2,m3,m4⟩ := n3 hgo
      -- the sender goes: it was going,or was told to
      have hP : 1 ≤ partsLeft L.s := by
        rcases t2 with e | ⟨e,_⟩ | ⟨e,_⟩
        · rw [e] at m1; exact parts_pos h.s (.inr m1)
        · exact parts_pos h.s (.inl e)
        · exact parts_pos h.s (.inl e)
      have hmuL : 501 + partsLeft L.s * (g + 4) ≤ mu g L := by
        unfold mu
        rcases t2 with e | ⟨e,e2⟩ | ⟨e,e2,e3⟩
        · have : L.s.st = 2 := by rw [← e]; exact m1
          rw [if_neg (by omega),if_pos this]; omega
        · omega
        · rw [if_pos e]
          have hu : under L ≠ 0 := by
            intro hu
            unfold under at hu
            have ha : L.a.u = [] := List.eq_nil_of_length_eq_zero (by omega)
            have hb : L.b.u = [] := List.eq_nil_of_length_eq_zero (by omega)
            have hx' := q4 ha
            rw [hx'] at hs1
            simp only at hs1
            rw [hb] at hs1
            have : s1 = L.s := hs1.symm
            rw [this] at e2
            omega
          rw [if_neg hu]; omega
      refine Nat.lt_of_lt_of_le ?_ hmuL
      rw [hT]
      unfold mu
      simp only
      rcases m4 with m4 | ⟨m4,m5⟩
      · have e := k2 (by omega)
        rw [if_neg (by rw [e]; omega),if_neg (by rw [e]; omega)]
        refine Nat.lt_of_le_of_lt (Nat.add_le_add (hub _) hrest) ?_
        omega
      · rw [hpl]
        have hmul : partsLeft L.s * (g + 4) = partsLeft (nextS s1) * (g + 4) + (g + 4) := by rw [← hpl1,← m5,Nat.add_mul]; omega
        rcases m4 with m4 | m4
        · rcases k3 m4 with e | ⟨e,e2⟩
          · rw [if_neg (by omega),if_neg (by omega)]
            refine Nat.lt_of_le_of_lt (Nat.add_le_add (hub _) hrest) ?_
            omega
          · rw [if_pos e]
            rw [m3] at e2
            refine Nat.lt_of_le_of_lt (hub2 _ _ _ (b := 503 + partsLeft (nextS s1) * (g + 4)) (by omega) (by omega)) ?_
            omega
        · have e := k2 (by omega)
          have e2 := k4 m4 (by omega)
          rw [m3] at e2
          rw [if_neg (by omega),if_pos (by omega)]
          omega
    | false =>
      have hn := n2 hgo
      rw [hn] at k1 k2 k3 k4 k5 k6 k7 hpl
      rw [hT,hgo,hn]
      have hu0 : under ⟨tickS s1,tickV x.1,⟨[],L.a.h⟩,⟨[],x.2.1.h⟩,x.2.2⟩ = 0 := rfl
      simp only [Bool.false_eq_true,if_false]
      unfold mu
      rw [hu0]
      simp only [if_true]
      by_cases hs1' : s1.st = 1
      · have hL : L.s = s1 := by
          rcases t2 with e | ⟨_,e2⟩ | ⟨_,e2,_⟩
          · exact e.symm
          · omega
          · omega
        rw [hL,if_pos hs1']
        have hcl := t1.ask hs1'
        have hcl0 := t1.clock
        rcases k3 hs1' with e | ⟨e,e2⟩
        · rw [if_neg (by omega),if_neg (by omega)]
          by_cases hu : under L = 0
          · rw [if_pos hu]; omega
          · rw [if_neg hu]; omega
        · rw [if_pos e]
          by_cases hu : under L = 0
          · rw [if_pos hu]; omega
          · rw [if_neg hu]; omega
      by_cases hs2 : s1.st = 2
      · have hgap := t1.gap hs2
        have hlt : s1.clock < g := by
          apply Classical.byContradiction
          intro hh
          have : s1.goes = true := by simp [Snd.goes,hs2]; omega
          rw [hgo] at this
          cases this
        have hL : L.s = s1 := by
          rcases t2 with e | ⟨_,e2⟩ | ⟨_,e2,e3⟩
          · exact e.symm
          · omega
          · omega
        have e := k2 (by omega)
        have e2 := k4 hs2 (by omega)
        have hcl0 := t1.clock
        rw [hL,if_neg (by omega),if_pos (by omega),if_neg (by omega),if_pos hs2,hpl]
        omega
      · have e := k2 hs1'
        rw [if_neg (by omega),if_neg (by omega)]
        by_cases hLs : L.s.st = 1
        · rw [if_pos hLs]
          have hcl := h.s.ask hLs
          by_cases hu : under L = 0
          · rw [if_pos hu]; omega
          · rw [if_neg hu]; omega
        · have hL : L.s = s1 := by
            rcases t2 with e | ⟨e,_⟩ | ⟨e,_⟩
            · exact e.symm
            · omega
            · omega
          rw [if_neg hLs,if_neg (show ¬ L.s.st = 2 by rw [hL]; exact hs2)]
          by_cases hu : under L = 0
          · rw [if_pos hu]
            unfold under at hu
            have ha : L.a.u = [] := List.eq_nil_of_length_eq_zero (by omega)
            have hx' := q4 ha
            have hxr : x.1 = L.r := by rw [hx']
            rw [hxr] at r2 r3 ⊢
            have hst34 : L.s.st = 3 ∨ L.s.st = 4 := by
              rw [hL] at *
              rcases t1.st with h | h | h | h
              · omega
              · omega
              · exact .inl h
              · exact .inr h
            have hr2 : L.r.st = 2 := by
              apply Classical.byContradiction
              intro hh
              have : doneL L = true := by
                rw [doneL,decide_eq_true hu,decide_eq_false hh]
                rcases hst34 with h | h
                · rw [decide_eq_true h]; rfl
                · rw [decide_eq_true h]; cases decide (L.s.st = 3) <;> rfl
              rw [hd] at this
              cases this
            have hc := h.r.clock hr2
            rw [if_pos hr2]
            rcases r2 hr2 with e | ⟨e,e2⟩
            · rw [if_neg (by omega)]; omega
            · rw [if_pos e]; omega
          · rw [if_neg hu]
            omega
theorem run_ends {g : Nat} (hg : g ≤ 127) {fates : List Int} : ∀ (f n : Nat) (L : Lnk),EInv g L → mu g L < f → ∃ L' k,runL fates f n L = (L',n + k) ∧ k ≤ mu g L ∧ doneL L' = true ∧ EInv g L'
  | 0,n,L,_,h => by omega
  | f + 1,n,L,hI,h => by
    cases hd : doneL L with
    | true => exact ⟨L,0,run_done hd,by omega,hd,hI⟩
    | false =>
      obtain ⟨i1,i2⟩ := tick_mu hg (fates := fates) hI hd
      obtain ⟨L',k,e1,e2,e3,e4⟩ := run_ends hg f (n + 1) (tickL fates L) i1 (by omega)
      exact ⟨L',k + 1,by rw [run_go hd,e1]; congr 1; omega,by omega,e3,e4⟩
end Go.Proofs.Ytcdmhigmgpflbaa.Pe.Lk


namespace Go.Proofs.Ytcdmhigmgpflbaa.Pe.Lk
open Go.Pe Go.RowKit
set_option maxRecDepth 20000
set_option maxHeartbeats 4000000
set_option linter.unusedSimpArgs false
set_option linter.unusedVariables false

theorem start_einv {t : List UInt8} (he : newE t = 0) (room : Int) {block : Int} (hb : 0 ≤ block ∧ block ≤ 255) (g : Int) (fates : List Int) : EInv g (startL t room block g fates) := by
  have hl : 1 ≤ t.length ∧ t.length ≤ 4095 := by
    unfold newE at he
    split at he
    · omega
    · split at he <;> omega
  have hs := new_sound (t := t)
  have hw := putW_good (w := ⟨[],[]⟩) ⟨fun p hp => (by cases hp),fun p hp => (by cases hp)⟩ (newP_right he) (fateL fates 0)
  refine ⟨?_,⟨by simp [startL,freshR,Rcv.fine]; omega,.inl rfl,⟨fun h => (by cases h),fun h => absurd rfl h⟩,rfl,fun h => (by cases h)⟩,hw,⟨fun p hp => (by cases hp),fun p hp => (by cases hp)⟩⟩
  show SInv g (newS t)
  by_cases h7 : t.length ≤ 7
  · have e : newS t = ⟨3,t,t.length,0,-1,0,0,0,0⟩ := by rw [newS,if_neg (by omega),if_pos h7]
    rw [e] at hs ⊢
    exact ⟨hs,.inr (.inr (.inl rfl)),⟨fun h => (by cases h),fun h => absurd rfl h⟩,fun h => (by cases h),⟨show (0 : Int) ≤ 0 by decide,show (0 : Int) ≤ 1099511627776 by decide⟩,fun h => (by cases h)⟩
  · have e : newS t = ⟨1,t,6,1,-1,0,0,0,0⟩ := by rw [newS,if_neg (by omega),if_neg h7]
    rw [e] at hs ⊢
    exact ⟨hs,.inl rfl,⟨fun h => (by cases h),fun h => absurd rfl h⟩,fun h => (by cases h),⟨show (0 : Int) ≤ 0 by decide,show (0 : Int) ≤ 1099511627776 by decide⟩,fun _ => (show (0 : Int) ≤ 100 by decide)⟩
theorem start_mu {t : List UInt8} (he : newE t = 0) (room block : Int) {g : Nat} (hg : g ≤ 127) (fates : List Int) (hgr : ((t.length / 7 : Nat) + 1) * (g + 2) ≤ 6000) : mu g (startL t room block g fates) < 100000 := by
  have hl : 1 ≤ t.length ∧ t.length ≤ 4095 := by
    unfold newE at he
    split at he
    · omega
    · split at he <;> omega
  by_cases h7 : t.length ≤ 7
  · have e : newS t = ⟨3,t,t.length,0,-1,0,0,0,0⟩ := by rw [newS,if_neg (by omega),if_pos h7]
    have : mu g (startL t room block g fates) ≤ 110 := by
      unfold mu startL
      rw [e]
      simp only
      rw [if_neg (show ¬ ((3 : Int) = 1) by decide),if_neg (show ¬ ((3 : Int) = 2) by decide)]
      refine Nat.le_trans (Nat.add_le_add (hub _) (Nat.le_refl _)) ?_
      rw [if_neg (show ¬ ((freshR room block g).st = 2) by intro h; cases h)]
      exact Nat.le_refl _
    omega
  · have e : newS t = ⟨1,t,6,1,-1,0,0,0,0⟩ := by rw [newS,if_neg (by omega),if_neg h7]
    have hp : partsLeft ⟨1,t,6,1,-1,0,0,0,0⟩ = t.length / 7 := by
      unfold partsLeft
      simp only
      omega
    have : mu g (startL t room block g fates) ≤ 503 + (t.length / 7) * (g + 4) := by
      unfold mu startL
      rw [e]
      simp only
      rw [if_pos trivial,hp]
      exact hub2 _ _ _ (by omega) (Nat.le_refl _)
    have h2 : (t.length / 7) * (g + 4) ≤ 2 * ((t.length / 7 + 1) * (g + 2)) := by
      have h3 : (t.length / 7) * (g + 4) ≤ (t.length / 7 + 1) * (2 * (g + 2)) := Nat.mul_le_mul (by omega) (by omega)
      rw [show (t.length / 7 + 1) * (2 * (g + 2)) = 2 * ((t.length / 7 + 1) * (g + 2)) by rw [Nat.mul_left_comm]] at h3
      exact h3
    omega
theorem play_ends {t : List UInt8} {room block gap : Int} {fates : List Int} (hgr : greatL t room block gap fates = false) {s : Snd} {r : Rcv} {n : Nat} (h : playV t room block gap fates = (s,r,n)) :
    (s.st = 3 ∨ s.st = 4) ∧ r.st ≠ 2 ∧ n < 100000 ∧ (s.st = 4 ↔ s.err ≠ 0) ∧ (r.st = 4 ↔ r.err ≠ 0) := by
  simp only [greatL,Bool.or_eq_false_iff,decide_eq_false_iff_not] at hgr
  obtain ⟨g,rfl⟩ : ∃ g : Nat,gap = g := ⟨gap.toNat,by omega⟩
  by_cases he : newE t = 0
  · rw [playV,if_pos he] at h
    have h6 : ((t.length / 7 : Nat) + 1) * (g + 2) ≤ 6000 := by
      have := hgr.2
      have e : (((t.length / 7 : Nat) : Int) + 1) * ((g : Int) + 2) = ((((t.length / 7 : Nat) + 1) * (g + 2) : Nat) : Int) := by simp
      rw [e] at this
      omega
    obtain ⟨L',k,e1,e2,e3,e4⟩ := run_ends (g := g) (by omega) (fates := fates) 100000 0 (startL t room block g fates) (start_einv he room (by omega) g fates) (start_mu he room block (by omega) fates h6)
    have hm := start_mu he room block (g := g) (by omega) fates h6
    rw [e1] at h
    simp only [Prod.mk.injEq] at h
    obtain ⟨rfl,rfl,rfl⟩ := h
    simp only [doneL,Bool.and_eq_true,Bool.or_eq_true,decide_eq_true_eq,Bool.not_eq_true',decide_eq_false_iff_not] at e3
    exact ⟨e3.1.1,e3.1.2,by omega,e4.s.err,e4.r.err⟩
  · rw [playV,if_neg he] at h
    simp only [Prod.mk.injEq] at h
    obtain ⟨rfl,rfl,rfl⟩ := h
    exact ⟨.inr rfl,fun hh => (by cases hh),by decide,⟨fun _ => he,fun _ => rfl⟩,⟨fun hh => (by cases hh),fun hh => absurd rfl hh⟩⟩
end Go.Proofs.Ytcdmhigmgpflbaa.Pe.Lk

