import Derived.Test.YtcdmhigmgpflbaaGreatLE10a
import Derived.Test.YtcdmhigmgpflbaaGreatLD10
set_option maxRecDepth 20000
set_option maxHeartbeats 4000000
set_option linter.unusedSimpArgs false
set_option linter.unusedVariables false
namespace Go.Proofs.YtcdmhigmgpflbaaGreat.Pe.Lk
open Go.Pe Go.RowKit
theorem putW_every {Q : Pdu → Prop} {w : Way} {p : Pdu} (f : Int) (h1 : ∀ q ∈ w.u,Q q) (h2 : ∀ q ∈ w.h,Q q) (hp : Q p) : (∀ q ∈ (putW w p f).u,Q q) ∧ (∀ q ∈ (putW w p f).h,Q q) := by
  unfold putW
  split
  · exact ⟨h1,h2⟩
  · split
    · exact ⟨h1,fun q hq => by simp at hq; rcases hq with hq | rfl; exact h2 q hq; exact hp⟩
    · split
      · refine ⟨fun q hq => ?_,fun q hq => by simp at hq⟩
        simp at hq
        rcases hq with hq | rfl | hq
        · exact h1 q hq
        · exact hp
        · exact h2 q hq
      · refine ⟨fun q hq => ?_,fun q hq => by simp at hq⟩
        simp at hq
        rcases hq with hq | rfl | hq
        · exact h1 q hq
        · exact hp
        · exact h2 q hq
def ptI (t : List UInt8) (i : Nat) : Pdu := ⟨3,0,((i % 16 : Nat) : Int),0,0,0,(t.drop (7 * i - 1)).take 7⟩
def bl (t : List UInt8) (i : Nat) : Nat := ((t.drop (7 * i - 1)).take 7).length
theorem bl_eq (t : List UInt8) (i : Nat) : bl t i = min 7 (t.length - (7 * i - 1)) := by simp [bl]
def posN (t : List UInt8) (c : Nat) : Nat := if c = t.length / 7 + 1 then t.length else 7 * c - 1
theorem posN_succ {t : List UInt8} {c : Nat} (h1 : 1 ≤ c) (h2 : c ≤ t.length / 7) : posN t (c + 1) = posN t c + bl t c ∧ 0 < bl t c := by
  rw [bl_eq]
  unfold posN
  rw [if_neg (show ¬ (c = t.length / 7 + 1) by omega)]
  split <;> omega
theorem posN_le {t : List UInt8} {c : Nat} (h2 : c ≤ t.length / 7 + 1) : posN t c ≤ t.length := by
  unfold posN
  split <;> omega
theorem posN_take {t : List UInt8} {c : Nat} (h1 : 1 ≤ c) (h2 : c ≤ t.length / 7 + 1) : (t.take (7 * c - 1)).length = posN t c := by
  rw [List.length_take]
  unfold posN
  split <;> omega
def sumB (t : List UInt8) (P : List Nat) : Nat := (P.map (bl t)).sum
theorem sumB_cons (t : List UInt8) (x : Nat) (l : List Nat) : sumB t (x :: l) = bl t x + sumB t l := rfl
theorem sumB_snoc (t : List UInt8) (x : Nat) : ∀ l : List Nat,sumB t (l ++ [x]) = bl t x + sumB t l
  | [] => rfl
  | y :: l => by
    show bl t y + sumB t (l ++ [x]) = bl t x + (bl t y + sumB t l)
    rw [sumB_snoc t x l]
    omega
theorem range_snoc (j n : Nat) : List.range' j (n + 1) = List.range' j n ++ [j + n] := by
  rw [List.range'_concat]; simp
theorem sum_range {t : List UInt8} {j : Nat} (h1 : 1 ≤ j) : ∀ n,j + n ≤ t.length / 7 + 1 → posN t j + sumB t (List.range' j n) = posN t (j + n)
  | 0,_ => by simp [sumB]
  | n + 1,h => by
    rw [range_snoc,sumB_snoc]
    have := sum_range (t := t) h1 n (by omega)
    have h2 := (posN_succ (t := t) (c := j + n) (by omega) (by omega)).1
    rw [show j + (n + 1) = j + n + 1 by omega,h2]
    omega
structure SPt (t : List UInt8) (c : Nat) (s : Snd) : Prop where
  sound : s.sound
  text : s.text = t
  lo : 1 ≤ c
  hi : c ≤ t.length / 7 + 1
  pos : s.pos = (posN t c : Int)
  num : s.num = ((c % 16 : Nat) : Int)
theorem SPt.like {t : List UInt8} {c : Nat} {s s' : Snd} (h : SPt t c s) (hs : s'.sound) (h1 : s'.text = s.text) (h2 : s'.pos = s.pos) (h3 : s'.num = s.num) : SPt t c s' :=
  ⟨hs,h1.trans h.text,h.lo,h.hi,h2.trans h.pos,h3.trans h.num⟩
theorem take_same (s : Snd) (p : Pdu) : (takeS s p).text = s.text ∧ (takeS s p).pos = s.pos ∧ (takeS s p).num = s.num := by
  unfold takeS
  repeat' split
  all_goals exact ⟨rfl,rfl,rfl⟩
theorem tick_same (s : Snd) : (tickS s).text = s.text ∧ (tickS s).pos = s.pos ∧ (tickS s).num = s.num := by
  unfold tickS
  simp only
  repeat' split
  all_goals exact ⟨rfl,rfl,rfl⟩
theorem SPt.take {t : List UInt8} {c : Nat} {s : Snd} (h : SPt t c s) (p : Pdu) : SPt t c (takeS s p) :=
  h.like (take_sound h.sound p) (take_same s p).1 (take_same s p).2.1 (take_same s p).2.2
theorem SPt.takeAll {t : List UInt8} {c : Nat} : ∀ {l : List Pdu} {s : Snd},SPt t c s → SPt t c (takeAll l s)
  | [],_,h => h
  | p :: l,s,h => by
    show SPt t c (Lk.takeAll l (takeS s p))
    exact SPt.takeAll (h.take p)
theorem SPt.tick {t : List UInt8} {c : Nat} {s : Snd} (h : SPt t c s) : SPt t c (tickS s) :=
  h.like (tick_sound h.sound) (tick_same s).1 (tick_same s).2.1 (tick_same s).2.2
theorem SPt.next {t : List UInt8} (h7 : 7 < t.length) {c : Nat} {s : Snd} (h : SPt t c s) (hg : s.goes = true) : nextP s = ptI t c ∧ c ≤ t.length / 7 ∧ SPt t (c + 1) (nextS s) := by
  have hst : s.st = 2 := by simp [Snd.goes] at hg; exact hg.1
  have hp := h.sound.2.2.2 (.inr hst)
  rw [h.text,h.pos] at hp
  have hc : c ≤ t.length / 7 := by
    have := h.hi
    apply Classical.byContradiction
    intro hh
    have : c = t.length / 7 + 1 := by omega
    rw [posN,if_pos this] at hp
    omega
  have hpos : s.pos = ((7 * c - 1 : Nat) : Int) := by rw [h.pos,posN,if_neg (by omega)]
  have hlo := h.lo
  have hto : nextTo s = (posN t (c + 1) : Int) := by
    simp only [nextTo,h.text,hpos]
    unfold posN
    split <;> split <;> omega
  have hns := next_sound h.sound
  refine ⟨?_,hc,?_⟩
  · rw [nextP,if_pos hg,ptI]
    congr 1
    · exact h.num
    · rw [h.text,hpos,hto,List.drop_take]
      have e1 : ((7 * c - 1 : Nat) : Int).toNat = 7 * c - 1 := by omega
      rw [e1]
      unfold posN
      by_cases e : c + 1 = t.length / 7 + 1
      · rw [if_pos e,List.take_of_length_le (by first | (simp; done) | (simp; omega)),List.take_of_length_le (by first | (simp; done) | (simp; omega))]
      · rw [if_neg e]
        congr 1
        omega
  · have hw1 : IntKind.wrap .i64 (s.num + 1) = s.num + 1 := wrapI64 (by have := h.sound.2.1; have := h.sound.2.2.1; omega)
    have hnum : nextN s = (((c + 1) % 16 : Nat) : Int) := by
      unfold nextN
      rw [hw1,h.num,show ((c % 16 : Nat) : Int) + 1 = ((c % 16 + 1 : Nat) : Int) by omega]
      show (((c % 16 + 1) % 16 : Nat) : Int) = _
      omega
    rw [nextS,if_pos hg] at hns ⊢
    exact ⟨hns,h.text,by omega,by omega,hto,hnum⟩
theorem recv_off {t : List UInt8} {i : Nat} {r : Rcv} (h : r.st ≠ 2) : (recvV r (ptI t i)).1 = r := by
  rw [recvV,if_neg (show ¬ (ptI t i).k = 1 by show ¬ (3 : Int) = 1; decide),if_neg (show ¬ (ptI t i).k = 2 by show ¬ (3 : Int) = 2; decide),if_neg (fun hh => h hh.2)]
theorem recv_on {t : List UInt8} {i : Nat} {r : Rcv} (h : r.st = 2) : ((recvV r (ptI t i)).1.st = 4) ∨
    (((i % 16 : Nat) : Int) = r.num ∧ (recvV r (ptI t i)).1.got = r.got ++ (t.drop (7 * i - 1)).take 7 ∧ (recvV r (ptI t i)).1.len = r.len ∧
      (((recvV r (ptI t i)).1.st = 3 ∧ (bl t i : Int) = missR r) ∨ ((recvV r (ptI t i)).1.st = 2 ∧ (bl t i : Int) ≠ missR r ∧ (recvV r (ptI t i)).1.num = (r.num + 1).tmod 16))) := by
  rw [recvV,if_neg (show ¬ (ptI t i).k = 1 by show ¬ (3 : Int) = 1; decide),if_neg (show ¬ (ptI t i).k = 2 by show ¬ (3 : Int) = 2; decide),if_pos ⟨rfl,h⟩,nextV]
  by_cases hb : (ptI t i).n ≠ r.num ∨ ((ptI t i).d.length : Int) ≠ (if missR r < 7 then missR r else 7)
  · rw [if_pos hb]; exact .inl rfl
  rw [if_neg hb]
  have hn : ((i % 16 : Nat) : Int) = r.num := Classical.byContradiction fun hh => hb (.inl hh)
  right
  refine ⟨hn,?_⟩
  by_cases he : ((ptI t i).d.length : Int) = missR r
  · rw [if_pos he]; exact ⟨rfl,rfl,.inl ⟨rfl,he⟩⟩
  rw [if_neg he]
  by_cases h1 : r.left < 0
  · rw [if_pos h1]; exact ⟨rfl,rfl,.inr ⟨h,he,rfl⟩⟩
  rw [if_neg h1]
  by_cases h2 : 1 < r.left
  · rw [if_pos h2]; exact ⟨rfl,rfl,.inr ⟨h,he,rfl⟩⟩
  · rw [if_neg h2]; exact ⟨rfl,rfl,.inr ⟨h,he,rfl⟩⟩
def rcvs : List Pdu → Rcv → Rcv
  | [],r => r
  | p :: l,r => rcvs l (recvV r p).1
theorem recvAll_1 (fates : List Int) : ∀ (l : List Pdu) (r : Rcv) (b : Way) (m : Nat),(recvAll fates l r b m).1 = rcvs l r
  | [],_,_,_ => rfl
  | p :: l,r,b,m => by
    rw [recvAll,rcvs]
    split
    · exact recvAll_1 fates l _ _ _
    · exact recvAll_1 fates l _ _ _
theorem rcvs_off {t : List UInt8} : ∀ {l : List Nat} {r : Rcv},r.st ≠ 2 → rcvs (l.map (ptI t)) r = r
  | [],_,_ => rfl
  | i :: l,r,h => by
    show rcvs (l.map (ptI t)) (recvV r (ptI t i)).1 = r
    rw [recv_off h]
    exact rcvs_off h
theorem got_len {t : List UInt8} {i : Nat} {r r' : Rcv} (h : r'.got = r.got ++ (t.drop (7 * i - 1)).take 7) : r'.got.length = r.got.length + bl t i := by rw [h,List.length_append,bl]
theorem rcvs_hole {t : List UInt8} : ∀ {l : List Nat} {r : Rcv},r.st = 2 → r.len = t.length → r.got.length + sumB t l < t.length →
    (rcvs (l.map (ptI t)) r).st = 4 ∨ ((rcvs (l.map (ptI t)) r).st = 2 ∧ (rcvs (l.map (ptI t)) r).len = t.length ∧ (rcvs (l.map (ptI t)) r).got.length ≤ r.got.length + sumB t l)
  | [],r,h,hl,_ => .inr ⟨h,hl,Nat.le_add_right _ _⟩
  | i :: l,r,h,hl,hs => by
    show (rcvs (l.map (ptI t)) (recvV r (ptI t i)).1).st = 4 ∨ _
    rw [sumB_cons] at hs
    rcases recv_on (t := t) (i := i) h with h4 | ⟨q1,q2,q3,⟨q4,q5⟩ | ⟨q4,q5,q6⟩⟩
    · rw [rcvs_off (by rw [h4]; decide)]; exact .inl h4
    · rw [missR,hl] at q5
      omega
    · have hg := got_len q2
      rcases rcvs_hole (l := l) q4 (q3.trans hl) (by rw [hg]; omega) with w | ⟨w1,w2,w3⟩
      · exact .inl w
      · refine .inr ⟨w1,w2,?_⟩
        rw [sumB_cons]
        exact Nat.le_trans w3 (by rw [hg]; omega)
def RS (t : List UInt8) (c : Nat) (P : List Nat) (r : Rcv) : Prop :=
  (r.st ≠ 2 ∧ r.st ≠ 3) ∨ (r.st = 3 ∧ r.got = t) ∨ (r.st = 2 ∧ r.len = t.length ∧ r.got.length + sumB t P < posN t c) ∨
  (r.st = 2 ∧ r.len = t.length ∧ ∃ j,1 ≤ j ∧ j ≤ c ∧ r.got = t.take (7 * j - 1) ∧ r.num = ((j % 16 : Nat) : Int) ∧ P = List.range' j (c - j))
def UH (c : Nat) (u h P : List Nat) : Prop := (u = [] ∧ P = h) ∨ (h = [] ∧ ∃ l x,(u = x :: l ∨ u = x :: x :: l) ∧ x + 1 = c ∧ P = l ++ [x])
theorem mod_next {a : Nat} : (((a % 16 : Nat) : Int) + 1).tmod 16 = (((a + 1) % 16 : Nat) : Int) := by
  rw [show ((a % 16 : Nat) : Int) + 1 = ((a % 16 + 1 : Nat) : Int) by omega]
  show (((a % 16 + 1) % 16 : Nat) : Int) = _
  omega
theorem twice_dead {t : List UInt8} {x : Nat} {l : List Nat} {r : Rcv} (h : r.st = 2) (h3 : (recvV r (ptI t x)).1.st ≠ 3) : (rcvs ((x :: x :: l).map (ptI t)) r).st = 4 := by
  show (rcvs ((x :: l).map (ptI t)) (recvV r (ptI t x)).1).st = 4
  rcases recv_on (t := t) (i := x) h with h4 | ⟨q1,q2,q3,⟨q4,q5⟩ | ⟨q4,q5,q6⟩⟩
  · rw [rcvs_off (by rw [h4]; decide)]; exact h4
  · exact absurd q4 h3
  · show (rcvs (l.map (ptI t)) (recvV (recvV r (ptI t x)).1 (ptI t x)).1).st = 4
    rcases recv_on (t := t) (i := x) q4 with h4 | ⟨p1,_⟩
    · rw [rcvs_off (by rw [h4]; decide)]; exact h4
    · rw [q6,← q1,mod_next] at p1
      omega
theorem take_part (t : List UInt8) {j : Nat} (hj : 1 ≤ j) : t.take (7 * j - 1) ++ (t.drop (7 * j - 1)).take 7 = t.take (7 * (j + 1) - 1) := by
  rw [← List.take_add]
  congr 1
  omega
theorem rcvs_RS {t : List UInt8} {c : Nat} (hc : c ≤ t.length / 7 + 1) {u h P : List Nat} (hu : UH c u h P) {r : Rcv} (hr : RS t c P r) : RS t c h (rcvs (u.map (ptI t)) r) := by
  rcases hu with ⟨rfl,rfl⟩ | ⟨rfl,l,x,hux,hx,rfl⟩
  · exact hr
  rcases hr with hd | ⟨hd,hg⟩ | ⟨hst,hlen,hlt⟩ | ⟨hst,hlen,j,hj1,hjc,hgot,hnum,hP⟩
  · rw [rcvs_off hd.1]; exact .inl hd
  · rw [rcvs_off (by rw [hd]; decide)]; exact .inr (.inl ⟨hd,hg⟩)
  · have hle := posN_le hc
    rw [sumB_snoc] at hlt
    rcases hux with rfl | rfl
    · rcases rcvs_hole (t := t) (l := x :: l) hst hlen (by rw [sumB_cons]; omega) with w | ⟨w1,w2,w3⟩
      · exact .inl (by rw [w]; decide)
      · rw [sumB_cons] at w3
        exact .inr (.inr (.inl ⟨w1,w2,by show _ + 0 < _; omega⟩))
    · refine .inl ?_
      rw [twice_dead hst (fun h3 => ?_)]
      · decide
      · rcases recv_on (t := t) (i := x) hst with h4 | ⟨q1,q2,q3,⟨q4,q5⟩ | ⟨q4,q5,q6⟩⟩
        · omega
        · rw [missR,hlen] at q5; omega
        · omega
  · -- nothing was lost
    have hxn : 7 * x ≤ t.length := by omega
    by_cases hjx : j = c
    · subst hjx
      rw [Nat.sub_self] at hP
      simp at hP
    have hglen : r.got.length = 7 * j - 1 := by rw [hgot,List.length_take]; omega
    have hP' : l ++ [x] = List.range' j (x - j) ++ [x] := by
      rw [hP,show c - j = (x - j) + 1 by omega,range_snoc,show j + (x - j) = x by omega]
    have hl : l = List.range' j (x - j) := List.append_cancel_right hP'
    by_cases hxj : x = j
    · subst hxj
      rw [Nat.sub_self] at hl
      have hl' : l = [] := by simpa using hl
      subst hl'
      have one : RS t c [] (recvV r (ptI t x)).1 ∧ ((recvV r (ptI t x)).1.st = 3 → (recvV r (ptI t x)).1.got = t) := by
        rcases recv_on (t := t) (i := x) hst with h4 | ⟨q1,q2,q3,⟨q4,q5⟩ | ⟨q4,q5,q6⟩⟩
        · exact ⟨.inl (by rw [h4]; decide),fun hh => by omega⟩
        · rw [missR,hlen] at q5
          have hg : (recvV r (ptI t x)).1.got = t := by
            rw [q2,hgot,take_part t hj1,List.take_of_length_le]
            rw [bl_eq] at q5
            omega
          exact ⟨.inr (.inl ⟨q4,hg⟩),fun _ => hg⟩
        · exact ⟨.inr (.inr (.inr ⟨q4,q3.trans hlen,x + 1,by omega,by omega,by rw [q2,hgot,take_part t hj1],by rw [q6,hnum,mod_next],by rw [show c - (x + 1) = 0 by omega]; rfl⟩)),fun hh => by omega⟩
      rcases hux with rfl | rfl
      · exact one.1
      · by_cases h3 : (recvV r (ptI t x)).1.st = 3
        · show RS t c [] (rcvs ([x].map (ptI t)) (recvV r (ptI t x)).1)
          rw [rcvs_off (by rw [h3]; decide)]
          exact one.1
        · exact .inl (by rw [twice_dead hst h3]; decide)
    · have hlt : j < x := by omega
      have h3 : (recvV r (ptI t x)).1.st ≠ 3 := by
        intro h3
        rcases recv_on (t := t) (i := x) hst with h4 | ⟨q1,q2,q3,⟨q4,q5⟩ | ⟨q4,q5,q6⟩⟩
        · omega
        · rw [missR,hlen,bl_eq] at q5; omega
        · omega
      rcases hux with rfl | rfl
      · have hl2 : l = j :: List.range' (j + 1) (x - j - 1) := by rw [hl,show x - j = (x - j - 1) + 1 by omega,List.range'_succ]; rfl
        subst hl2
        refine .inl ?_
        have : (rcvs ((x :: j :: List.range' (j + 1) (x - j - 1)).map (ptI t)) r).st = 4 := by
          show (rcvs ((j :: List.range' (j + 1) (x - j - 1)).map (ptI t)) (recvV r (ptI t x)).1).st = 4
          rcases recv_on (t := t) (i := x) hst with h4 | ⟨q1,q2,q3,⟨q4,q5⟩ | ⟨q4,q5,q6⟩⟩
          · rw [rcvs_off (by rw [h4]; decide)]; exact h4
          · exact absurd q4 h3
          · show (rcvs ((List.range' (j + 1) (x - j - 1)).map (ptI t)) (recvV (recvV r (ptI t x)).1 (ptI t j)).1).st = 4
            rcases recv_on (t := t) (i := j) q4 with h4 | ⟨p1,_⟩
            · rw [rcvs_off (by rw [h4]; decide)]; exact h4
            · rw [q6,hnum,mod_next] at p1
              omega
        rw [this]
        decide
      · exact .inl (by rw [twice_dead hst h3]; decide)
theorem RS.tick {t : List UInt8} {c : Nat} {P : List Nat} {r : Rcv} (h : RS t c P r) : RS t c P (tickV r) := by
  unfold tickV
  split
  · rename_i hst
    split
    · exact .inl ⟨by show (4 : Int) ≠ 2; decide,by show (4 : Int) ≠ 3; decide⟩
    · rcases h with h | h | h | h
      · exact absurd hst h.1
      · exact absurd (hst.symm.trans h.1) (by decide)
      · exact .inr (.inr (.inl h))
      · exact .inr (.inr (.inr h))
  · exact h
structure WInv (t : List UInt8) (L : Lnk) : Prop where
  ex : ∃ c u h P,SPt t c L.s ∧ L.a.u = u.map (ptI t) ∧ L.a.h = h.map (ptI t) ∧ UH c u h P ∧ RS t c P L.r
theorem RS.more {t : List UInt8} {c : Nat} {h : List Nat} {r : Rcv} (hr : RS t c h r) (h1 : 1 ≤ c) (hc : c ≤ t.length / 7) : RS t (c + 1) h r ∧ RS t (c + 1) (h ++ [c]) r := by
  obtain ⟨p1,p2⟩ := posN_succ h1 hc
  rcases hr with hd | hd | ⟨hst,hlen,hlt⟩ | ⟨hst,hlen,j,hj1,hjc,hgot,hnum,hP⟩
  · exact ⟨.inl hd,.inl hd⟩
  · exact ⟨.inr (.inl hd),.inr (.inl hd)⟩
  · exact ⟨.inr (.inr (.inl ⟨hst,hlen,by omega⟩)),.inr (.inr (.inl ⟨hst,hlen,by rw [sumB_snoc]; omega⟩))⟩
  · refine ⟨.inr (.inr (.inl ⟨hst,hlen,?_⟩)),.inr (.inr (.inr ⟨hst,hlen,j,hj1,by omega,hgot,hnum,?_⟩))⟩
    · rw [hgot,posN_take hj1 (by omega),hP,sum_range hj1 _ (by omega),show j + (c - j) = c by omega]
      omega
    · rw [hP,show c + 1 - j = (c - j) + 1 by omega,range_snoc,show j + (c - j) = c by omega]
theorem tick_winv {t : List UInt8} (h7 : 7 < t.length) {fates : List Int} {L : Lnk} {c : Nat} {h : List Nat} (hS : SPt t c L.s) (hh : L.a.h = h.map (ptI t)) (hr : RS t c h (rcvs L.a.u L.r)) : WInv t (tickL fates L) := by
  obtain ⟨x,hx⟩ : ∃ x,recvAll fates L.a.u L.r L.b L.m = x := ⟨_,rfl⟩
  have hx1 : x.1 = rcvs L.a.u L.r := by rw [← hx,recvAll_1]
  obtain ⟨s,hs⟩ : ∃ s,takeAll x.2.1.u L.s = s := ⟨_,rfl⟩
  have hS' : SPt t c s := by rw [← hs]; exact hS.takeAll
  unfold tickL
  rw [hx]
  simp only [hs,hx1]
  cases hg : s.goes with
  | false =>
    have hn : nextS s = s := by rw [nextS,if_neg (by rw [hg]; decide)]
    rw [hn]
    exact ⟨c,[],h,h,hS'.tick,rfl,hh,.inl ⟨rfl,rfl⟩,hr.tick⟩
  | true =>
    obtain ⟨q1,q2,q3⟩ := hS'.next h7 hg
    obtain ⟨r1,r2⟩ := hr.more hS'.lo q2
    simp only [if_true,q1]
    obtain ⟨f,hf⟩ : ∃ f,fateL fates x.2.2 = f := ⟨_,rfl⟩
    rw [hf,putW]
    by_cases e2 : f = 2
    · rw [if_pos e2]
      exact ⟨c + 1,[],h,h,q3.tick,rfl,hh,.inl ⟨rfl,rfl⟩,r1.tick⟩
    rw [if_neg e2]
    by_cases e4 : f = 4
    · rw [if_pos e4]
      exact ⟨c + 1,[],h ++ [c],h ++ [c],q3.tick,rfl,by simp [hh],.inl ⟨rfl,rfl⟩,r2.tick⟩
    rw [if_neg e4]
    by_cases e3 : f = 3
    · rw [if_pos e3]
      exact ⟨c + 1,c :: c :: h,[],h ++ [c],q3.tick,by simp [hh],rfl,.inr ⟨rfl,h,c,.inr rfl,rfl,rfl⟩,r2.tick⟩
    · rw [if_neg e3]
      exact ⟨c + 1,c :: h,[],h ++ [c],q3.tick,by simp [hh],rfl,.inr ⟨rfl,h,c,.inl rfl,rfl,rfl⟩,r2.tick⟩
theorem WInv.tick {t : List UInt8} (h7 : 7 < t.length) {fates : List Int} {L : Lnk} (h : WInv t L) : WInv t (tickL fates L) := by
  obtain ⟨c,u,h,P,hS,hu,hh,hU,hR⟩ := h.ex
  exact tick_winv h7 hS hh (by rw [hu]; exact rcvs_RS hS.hi hU hR)
theorem WInv.run {t : List UInt8} (h7 : 7 < t.length) {fates : List Int} : ∀ (f n : Nat) (L : Lnk),WInv t L → WInv t (runL fates f n L).1
  | 0,n,L,h => h
  | f + 1,n,L,h => by
    cases hd : doneL L with
    | true => rw [run_done hd]; exact h
    | false => rw [run_go hd]; exact WInv.run h7 f (n + 1) _ (h.tick h7)
theorem WInv.text {t : List UInt8} {L : Lnk} (h : WInv t L) (h3 : L.r.st = 3) : L.r.got = t := by
  obtain ⟨c,u,h,P,hS,hu,hh,hU,hR⟩ := h.ex
  rcases hR with hd | hd | hd | hd
  · exact absurd h3 hd.2
  · exact hd.2
  · have := hd.1; omega
  · have := hd.1; omega
theorem tick_quiet {s : Snd} (h : s.st = 1 ∨ s.st = 4) : (tickS s).st = 1 ∨ (tickS s).st = 4 := by
  rcases h with h | h
  · unfold tickS
    rw [if_pos (.inl h)]
    generalize (if 1099511627776 < IntKind.wrap .i64 (s.clock + 1) then 1099511627776 else IntKind.wrap .i64 (s.clock + 1)) = c
    simp only
    by_cases hc : s.st = 1 ∧ 100 < c
    · rw [if_pos hc]; exact .inr rfl
    · rw [if_neg hc]; exact .inl h
  · rw [tickS,if_neg (by omega)]; exact .inr h
structure LateInv (q : Pdu) (L : Lnk) : Prop where
  a : L.a = ⟨[],[q]⟩
  b : L.b = ⟨[],[]⟩
  s : L.s.st = 1 ∨ L.s.st = 4
  r : L.r.st = 0
theorem LateInv.tick {q : Pdu} {fates : List Int} {L : Lnk} (h : LateInv q L) : LateInv q (tickL fates L) := by
  obtain ⟨⟨st,te,pos,num,left,gap,clock,waits,err⟩,r,a,b,m⟩ := L
  obtain ⟨rfl,rfl,hs,hr⟩ := h
  simp only at hs hr
  have hg : Snd.goes ⟨st,te,pos,num,left,gap,clock,waits,err⟩ = false := by simp [Snd.goes]; omega
  unfold tickL
  simp only [recvAll,takeAll,hg,Bool.false_eq_true,if_false]
  refine ⟨rfl,rfl,?_,?_⟩
  · have hn : nextS ⟨st,te,pos,num,left,gap,clock,waits,err⟩ = ⟨st,te,pos,num,left,gap,clock,waits,err⟩ := by rw [nextS,if_neg (by rw [hg]; decide)]
    rw [hn]
    exact tick_quiet hs
  · simp only [tickV,hr,show ¬ ((0 : Int) = 2) by decide,if_false]
theorem LateInv.run {q : Pdu} {fates : List Int} : ∀ (f n : Nat) (L : Lnk),LateInv q L → LateInv q (runL fates f n L).1
  | 0,n,L,h => h
  | f + 1,n,L,h => by
    cases hd : doneL L with
    | true => rw [run_done hd]; exact h
    | false => rw [run_go hd]; exact LateInv.run f (n + 1) _ h.tick
structure OneInv (t : List UInt8) (L : Lnk) : Prop where
  a : (∀ p ∈ L.a.u,p = ⟨1,t.length,0,0,0,0,t⟩) ∧ ∀ p ∈ L.a.h,p = ⟨1,t.length,0,0,0,0,t⟩
  s : L.s.st = 3
  r : L.r.st = 3 → L.r.got = t
theorem recv_one {t : List UInt8} (r : Rcv) : (recvV r ⟨1,t.length,0,0,0,0,t⟩).1.st = 3 → (recvV r ⟨1,t.length,0,0,0,0,t⟩).1.got = t := by
  rw [recvV,if_pos rfl]
  show (beginR r ⟨1,t.length,0,0,0,0,t⟩ 3).st = 3 → (beginR r ⟨1,t.length,0,0,0,0,t⟩ 3).got = t
  by_cases h : r.room < (⟨1,t.length,0,0,0,0,t⟩ : Pdu).l
  · rw [beginR,if_pos h]
    intro hh
    exact absurd (show (4 : Int) = 3 from hh) (by decide)
  · rw [beginR,if_neg h]
    intro _
    rfl
theorem rcvs_one {t : List UInt8} : ∀ {l : List Pdu} {r : Rcv},(∀ p ∈ l,p = ⟨1,t.length,0,0,0,0,t⟩) → (r.st = 3 → r.got = t) → (rcvs l r).st = 3 → (rcvs l r).got = t
  | [],r,_,h => h
  | p :: l,r,hl,h => by
    have hp := hl p List.mem_cons_self
    subst hp
    show (rcvs l (recvV r _).1).st = 3 → (rcvs l (recvV r _).1).got = t
    exact rcvs_one (fun q hq => hl q (List.mem_cons_of_mem _ hq)) (recv_one r)
theorem tickV_3 {t : List UInt8} {r : Rcv} (h : r.st = 3 → r.got = t) : (tickV r).st = 3 → (tickV r).got = t := by
  unfold tickV
  split
  · rename_i hst
    split
    · intro hh; cases hh
    · intro hh; exact absurd (hst.symm.trans hh) (by decide)
  · exact h
theorem takeAll_off : ∀ {l : List Pdu} {s : Snd},s.st ≠ 1 → takeAll l s = s
  | [],_,_ => rfl
  | p :: l,s,h => by
    have : takeS s p = s := by rw [takeS,if_neg (by simp [Snd.takes,h])]
    show takeAll l (takeS s p) = s
    rw [this]
    exact takeAll_off h
theorem OneInv.tick {t : List UInt8} {fates : List Int} {L : Lnk} (h : OneInv t L) : OneInv t (tickL fates L) := by
  obtain ⟨x,hx⟩ : ∃ x,recvAll fates L.a.u L.r L.b L.m = x := ⟨_,rfl⟩
  have hx1 : x.1 = rcvs L.a.u L.r := by rw [← hx,recvAll_1]
  have hs : takeAll x.2.1.u L.s = L.s := takeAll_off (by rw [h.s]; decide)
  have hg : L.s.goes = false := by simp [Snd.goes,h.s]
  unfold tickL
  rw [hx]
  simp only [hs,hx1,hg,Bool.false_eq_true,if_false]
  refine ⟨⟨fun p hp => (by cases hp),h.a.2⟩,?_,tickV_3 (rcvs_one h.a.1 h.r)⟩
  have hn : nextS L.s = L.s := by rw [nextS,if_neg (by rw [hg]; decide)]
  rw [hn,tickS,if_neg (by rw [h.s]; decide)]
  exact h.s
theorem OneInv.run {t : List UInt8} {fates : List Int} : ∀ (f n : Nat) (L : Lnk),OneInv t L → OneInv t (runL fates f n L).1
  | 0,n,L,h => h
  | f + 1,n,L,h => by
    cases hd : doneL L with
    | true => rw [run_done hd]; exact h
    | false => rw [run_go hd]; exact OneInv.run f (n + 1) _ h.tick
theorem head_RS {t : List UInt8} (h7 : 7 < t.length) (h1 : t.length ≤ 4095) (r : Rcv) : RS t 1 [] (recvV r ⟨2,t.length,0,0,0,0,t.take 6⟩).1 := by
  rw [recvV,if_neg (show ¬ ((2 : Int) = 1) by decide),if_pos rfl]
  by_cases hh : r.room < (⟨2,t.length,0,0,0,0,t.take 6⟩ : Pdu).l
  · rw [if_pos hh,beginR,if_pos hh]
    exact .inl ⟨by show (4 : Int) ≠ 2; decide,by show (4 : Int) ≠ 3; decide⟩
  · rw [if_neg hh,beginR,if_neg hh]
    exact .inr (.inr (.inr ⟨rfl,rfl,1,by omega,by omega,rfl,rfl,rfl⟩))
theorem play_whole {t : List UInt8} {room block gap : Int} {fates : List Int} {s : Snd} {r : Rcv} {n : Nat} (h : playV t room block gap fates = (s,r,n)) (h3 : r.st = 3) : r.got = t := by
  by_cases he : newE t = 0
  rotate_left 1
  · rw [playV,if_neg he] at h
    simp only [Prod.mk.injEq] at h
    obtain ⟨_,rfl,_⟩ := h
    cases h3
  rw [playV,if_pos he] at h
  simp only [Prod.mk.injEq] at h
  obtain ⟨_,rfl,_⟩ := h
  have hl : 1 ≤ t.length ∧ t.length ≤ 4095 := by
    unfold newE at he
    split at he
    · omega
    · split at he <;> omega
  obtain ⟨f0,hf0⟩ : ∃ f0,fateL fates 0 = f0 := ⟨_,rfl⟩
  by_cases h7 : t.length ≤ 7
  · have hs : newS t = ⟨3,t,t.length,0,-1,0,0,0,0⟩ := by rw [newS,if_neg (by omega),if_pos h7]
    have hp : newP t = ⟨1,t.length,0,0,0,0,t⟩ := by rw [newP,if_neg (by omega),if_pos h7]
    have hO : OneInv t (startL t room block gap fates) := by
      obtain ⟨w1,w2⟩ := putW_every (Q := fun p => p = ⟨1,t.length,0,0,0,0,t⟩) (w := ⟨[],[]⟩) (p := newP t) f0 (fun q hq => by cases hq) (fun q hq => by cases hq) hp
      refine ⟨?_,by rw [startL,hs],fun hh => by cases hh⟩
      rw [startL,hf0]
      exact ⟨w1,w2⟩
    exact (OneInv.run 100000 0 _ hO).r h3
  have hs : newS t = ⟨1,t,6,1,-1,0,0,0,0⟩ := by rw [newS,if_neg (by omega),if_neg h7]
  have hp : newP t = ⟨2,t.length,0,0,0,0,t.take 6⟩ := by rw [newP,if_neg (by omega),if_neg h7]
  have hsnd := new_sound (t := t)
  have hS : SPt t 1 (startL t room block gap fates).s := by
    show SPt t 1 (newS t)
    rw [hs] at hsnd ⊢
    exact ⟨hsnd,rfl,by omega,by omega,by rw [posN,if_neg (by omega)]; rfl,rfl⟩
  by_cases e4 : f0 = 4
  · subst e4
    have hL : LateInv (newP t) (startL t room block gap fates) := ⟨by rw [startL,hf0]; rfl,rfl,by rw [startL,hs]; exact .inl rfl,rfl⟩
    have := (LateInv.run (fates := fates) 100000 0 _ hL).r
    omega
  have hd0 : doneL (startL t room block gap fates) = false := by simp [startL,hs,doneL]
  have hW : WInv t (tickL fates (startL t room block gap fates)) := by
    refine tick_winv (by omega) (h := []) hS ?_ ?_
    · show (putW ⟨[],[]⟩ (newP t) (fateL fates 0)).h = _
      rw [hf0,putW]
      split
      · rfl
      · split <;> rfl
    · show RS t 1 [] (rcvs (putW ⟨[],[]⟩ (newP t) (fateL fates 0)).u (freshR room block gap))
      rw [hf0,putW,hp]
      split
      · exact .inl ⟨by show (0 : Int) ≠ 2; decide,by show (0 : Int) ≠ 3; decide⟩
      · first | rw [if_neg e4] | skip
        split
        · exact head_RS (by omega) hl.2 _
        · exact head_RS (by omega) hl.2 _
  have hrun : runL fates 100000 0 (startL t room block gap fates) = runL fates 99999 1 (tickL fates (startL t room block gap fates)) := by
    show runL fates (99999 + 1) 0 _ = _
    rw [run_go hd0]
  rw [hrun] at h3 ⊢
  exact (WInv.run (by omega) 99999 1 _ hW).text h3
end Go.Proofs.YtcdmhigmgpflbaaGreat.Pe.Lk
