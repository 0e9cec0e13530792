import Derived.Test.YtpnhnobnjcknjaaE17
import Derived.Test.YtpnhnobnjcknjaaE21p
namespace Go.Proofs.Ytpnhnobnjcknjaa.Pe
open Go.Pe Go.RowKit
set_option maxRecDepth 20000
set_option maxHeartbeats 4000000
set_option linter.unusedSimpArgs false
set_option linter.unusedVariables false

/-! ### a hole that stays -/
def RSH (t : List UInt8) (c : Nat) (P : List Nat) (r : Rcv) : Prop := (r.st ≠ 2 ∧ r.st ≠ 3) ∨ (r.st = 2 ∧ r.len = t.length ∧ r.got.length + sumB t P < posN t c)
theorem rcvs_RSH {t : List UInt8} {c : Nat} (hc : c ≤ t.length / 7 + 1) {u h P : List Nat} (hu : UH c u h P) {r : Rcv} (hr : RSH t c P r) : RSH t c h (rcvs (u.map (ptI t)) r) := by
  rcases hu with ⟨rfl, rfl⟩ | ⟨rfl, l, x, hux, hx, rfl⟩
  · exact hr
  rcases hr with hd | ⟨hst, hlen, hlt⟩
  · rw [rcvs_off hd.1]; exact .inl hd
  · have hle := posN_le hc
    rw [sumB_snoc] at hlt
    rcases hux with rfl | rfl
    · rcases rcvs_hole (t := t) (l := x :: l) hst hlen (by rw [sumB_cons]; omega) with w | ⟨w1, w2, w3⟩
      · exact .inl (by rw [w]; decide)
      · rw [sumB_cons] at w3
        exact .inr ⟨w1, w2, by show _ + 0 < _; omega⟩
    · refine .inl ?_
      rw [twice_dead hst (fun h3 => ?_)]
      · decide
      · rcases recv_on (t := t) (i := x) hst with h4 | ⟨q1, q2, q3, ⟨q4, q5⟩ | ⟨q4, q5, q6⟩⟩
        · omega
        · rw [missR, hlen] at q5; omega
        · omega
theorem RSH.tick {t : List UInt8} {c : Nat} {P : List Nat} {r : Rcv} (h : RSH t c P r) : RSH t c P (tickV r) := by
  unfold tickV
  split
  · rename_i hst
    split
    · exact .inl ⟨by show (4 : Int) ≠ 2; decide, by show (4 : Int) ≠ 3; decide⟩
    · rcases h with h | h
      · exact absurd hst h.1
      · exact .inr h
  · exact h
theorem RSH.more {t : List UInt8} {c : Nat} {h : List Nat} {r : Rcv} (hr : RSH t c h r) (h1 : 1 ≤ c) (hc : c ≤ t.length / 7) : RSH t (c + 1) h r ∧ RSH t (c + 1) (h ++ [c]) r := by
  obtain ⟨p1, p2⟩ := posN_succ h1 hc
  rcases hr with hd | ⟨hst, hlen, hlt⟩
  · exact ⟨.inl hd, .inl hd⟩
  · exact ⟨.inr ⟨hst, hlen, by omega⟩, .inr ⟨hst, hlen, by rw [sumB_snoc]; omega⟩⟩
structure HInv (t : List UInt8) (L : Lnk) : Prop where
  ex : ∃ c u h P, SPt t c L.s ∧ L.a.u = u.map (ptI t) ∧ L.a.h = h.map (ptI t) ∧ UH c u h P ∧ RSH t c P L.r
theorem tick_hinv {t : List UInt8} (h7 : 7 < t.length) {fates : List Int} {L : Lnk} {c : Nat} {h : List Nat} (hS : SPt t c L.s) (hh : L.a.h = h.map (ptI t)) (hr : RSH t c h (rcvs L.a.u L.r)) : HInv t (tickL fates L) := by
  obtain ⟨x, hx⟩ : ∃ x, recvAll fates L.a.u L.r L.b L.m = x := ⟨_, rfl⟩
  have hx1 : x.1 = rcvs L.a.u L.r := by rw [← hx, recvAll_1]
  obtain ⟨s, hs⟩ : ∃ s, takeAll x.2.1.u L.s = s := ⟨_, rfl⟩
  have hS' : SPt t c s := by rw [← hs]; exact hS.takeAll
  unfold tickL
  rw [hx]
  simp only [hs, hx1]
  cases hg : s.goes with
  | false =>
    have hn : nextS s = s := by rw [nextS, if_neg (by rw [hg]; decide)]
    rw [hn]
    exact ⟨c, [], h, h, hS'.tick, rfl, hh, .inl ⟨rfl, rfl⟩, hr.tick⟩
  | true =>
    obtain ⟨q1, q2, q3⟩ := hS'.next h7 hg
    obtain ⟨r1, r2⟩ := hr.more hS'.lo q2
    simp only [if_true, q1]
    obtain ⟨f, hf⟩ : ∃ f, fateL fates x.2.2 = f := ⟨_, rfl⟩
    rw [hf, putW]
    by_cases e2 : f = 2
    · rw [if_pos e2]
      exact ⟨c + 1, [], h, h, q3.tick, rfl, hh, .inl ⟨rfl, rfl⟩, r1.tick⟩
    rw [if_neg e2]
    by_cases e4 : f = 4
    · rw [if_pos e4]
      exact ⟨c + 1, [], h ++ [c], h ++ [c], q3.tick, rfl, by simp [hh], .inl ⟨rfl, rfl⟩, r2.tick⟩
    rw [if_neg e4]
    by_cases e3 : f = 3
    · rw [if_pos e3]
      exact ⟨c + 1, c :: c :: h, [], h ++ [c], q3.tick, by simp [hh], rfl, .inr ⟨rfl, h, c, .inr rfl, rfl, rfl⟩, r2.tick⟩
    · rw [if_neg e3]
      exact ⟨c + 1, c :: h, [], h ++ [c], q3.tick, by simp [hh], rfl, .inr ⟨rfl, h, c, .inl rfl, rfl, rfl⟩, r2.tick⟩
theorem HInv.tick {t : List UInt8} (h7 : 7 < t.length) {fates : List Int} {L : Lnk} (h : HInv t L) : HInv t (tickL fates L) := by
  obtain ⟨c, u, h, P, hS, hu, hh, hU, hR⟩ := h.ex
  exact tick_hinv h7 hS hh (by rw [hu]; exact rcvs_RSH hS.hi hU hR)
theorem HInv.run {t : List UInt8} (h7 : 7 < t.length) {fates : List Int} : ∀ (f n : Nat) (L : Lnk), HInv t L → HInv t (runL fates f n L).1
  | 0, n, L, h => h
  | f + 1, n, L, h => by
    cases hd : doneL L with
    | true => rw [run_done hd]; exact h
    | false => rw [run_go hd]; exact HInv.run h7 f (n + 1) _ (h.tick h7)
theorem HInv.no {t : List UInt8} {L : Lnk} (h : HInv t L) : L.r.st ≠ 3 := by
  obtain ⟨c, u, h, P, hS, hu, hh, hU, hR⟩ := h.ex
  rcases hR with hd | hd
  · exact hd.2
  · have := hd.1; omega
/-- Nothing is under way, and the sender waits. -/
structure StuckInv (L : Lnk) : Prop where
  a : L.a = ⟨[], []⟩
  b : L.b = ⟨[], []⟩
  s : L.s.st = 1 ∨ L.s.st = 4
  r : L.r.st ≠ 3
theorem tickV_no {r : Rcv} (h : r.st ≠ 3) : (tickV r).st ≠ 3 := by
  unfold tickV
  split
  · split
    · show (4 : Int) ≠ 3; decide
    · exact h
  · exact h
theorem goes_off {s : Snd} (h : s.st ≠ 2) : s.goes = false := by simp [Snd.goes, h]
theorem StuckInv.tick {fates : List Int} {L : Lnk} (h : StuckInv L) : StuckInv (tickL fates L) := by
  have hg : L.s.goes = false := goes_off (by have := h.s; omega)
  have hn : nextS L.s = L.s := by rw [nextS, if_neg (by rw [hg]; decide)]
  have ha : L.a.u = [] := by rw [h.a]
  have hb : L.b.u = [] := by rw [h.b]
  unfold tickL
  simp only [ha, recvAll, hb, takeAll, hg, Bool.false_eq_true, if_false, hn]
  exact ⟨by rw [h.a], by rw [h.b], tick_quiet h.s, tickV_no h.r⟩
theorem StuckInv.run {fates : List Int} : ∀ (f n : Nat) (L : Lnk), StuckInv L → StuckInv (runL fates f n L).1
  | 0, n, L, h => h
  | f + 1, n, L, h => by
    cases hd : doneL L with
    | true => rw [run_done hd]; exact h
    | false => rw [run_go hd]; exact StuckInv.run f (n + 1) _ h.tick

/-! ### fates that let pass -/
def passy (f : Int) : Prop := f ≠ 2 ∧ f ≠ 3 ∧ f ≠ 4
theorem passy0 : passy 0 := ⟨by decide, by decide, by decide⟩
theorem passy1 : passy 1 := ⟨by decide, by decide, by decide⟩
theorem putW_passy {f : Int} (h : passy f) (w : Way) (p : Pdu) : putW w p f = putW w p 1 := by
  rw [putW_pass, putW, if_neg h.1, if_neg h.2.2, if_neg h.2.1]
def easy (fates : List Int) (a b : Nat) : Prop := ∀ k, a ≤ k → k < b → passy (fateL fates k)
theorem recvAll_mono (fates : List Int) : ∀ (l : List Pdu) (r : Rcv) (b : Way) (m : Nat), m ≤ (recvAll fates l r b m).2.2
  | [], _, _, _ => Nat.le_refl _
  | p :: l, r, b, m => by
    rw [recvAll]
    split
    · exact Nat.le_trans (Nat.le_succ m) (recvAll_mono fates l _ _ (m + 1))
    · exact recvAll_mono fates l _ _ m
theorem recvAll_agree {fates : List Int} : ∀ {l : List Pdu} {r : Rcv} {b : Way} {m : Nat}, easy fates m (recvAll [] l r b m).2.2 → recvAll fates l r b m = recvAll [] l r b m
  | [], _, _, _, _ => rfl
  | p :: l, r, b, m, h => by
    rw [recvAll] at h ⊢
    rw [recvAll]
    by_cases hb : (recvV r p).2.2 = true
    · rw [if_pos hb] at h ⊢
      rw [if_pos hb]
      have hm := recvAll_mono [] l (recvV r p).1 (putW b (recvV r p).2.1 (fateL [] m)) (m + 1)
      rw [putW_passy (h m (Nat.le_refl _) (by omega)), ← fateL_nil m]
      exact recvAll_agree (fun k h1 h2 => h k (by omega) h2)
    · rw [if_neg hb] at h ⊢
      rw [if_neg hb]
      exact recvAll_agree h
theorem tick_mono (fates : List Int) (L : Lnk) : L.m ≤ (tickL fates L).m := by
  have h := recvAll_mono fates L.a.u L.r L.b L.m
  unfold tickL
  simp only
  split <;> omega
theorem tick_agree {fates : List Int} {L : Lnk} (h : easy fates L.m (tickL [] L).m) : tickL fates L = tickL [] L := by
  have hle : (recvAll [] L.a.u L.r L.b L.m).2.2 ≤ (tickL [] L).m := by unfold tickL; simp only; split <;> omega
  have hr : recvAll fates L.a.u L.r L.b L.m = recvAll [] L.a.u L.r L.b L.m := recvAll_agree fun k h1 h2 => h k h1 (by omega)
  have hm := recvAll_mono [] L.a.u L.r L.b L.m
  unfold tickL at h ⊢
  rw [hr]
  simp only at h ⊢
  cases hg : (takeAll (recvAll [] L.a.u L.r L.b L.m).2.1.u L.s).goes with
  | false => simp only [Bool.false_eq_true, if_false]
  | true =>
    rw [hg] at h
    simp only [if_true] at h ⊢
    rw [putW_passy (h _ hm (Nat.lt_succ_self _)), fateL_nil]
theorem run_mono (fates : List Int) : ∀ (f n : Nat) (L : Lnk), L.m ≤ (runL fates f n L).1.m
  | 0, _, _ => Nat.le_refl _
  | f + 1, n, L => by
    cases hd : doneL L with
    | true => rw [run_done hd]; exact Nat.le_refl _
    | false => rw [run_go hd]; exact Nat.le_trans (tick_mono fates L) (run_mono fates f (n + 1) _)
theorem run_agree {fates : List Int} : ∀ (f n : Nat) (L : Lnk), easy fates L.m (runL [] f n L).1.m → runL fates f n L = runL [] f n L
  | 0, _, _, _ => rfl
  | f + 1, n, L, h => by
    cases hd : doneL L with
    | true => rw [run_done hd, run_done hd]
    | false =>
      rw [run_go hd] at h ⊢
      rw [run_go hd]
      have hm := run_mono [] f (n + 1) (tickL [] L)
      have ht := tick_mono [] L
      rw [tick_agree (fun k h1 h2 => h k h1 (by omega))]
      exact run_agree f (n + 1) _ (fun k h1 h2 => h k (by omega) h2)

/-! ### which put is which -/
def mAt (bn : Nat) : Nat → Nat
  | 0 => 1
  | i + 1 => mAt bn i + (if againAt bn i then 2 else 1)
theorem mAt_pos (bn : Nat) : ∀ i, 1 ≤ mAt bn i
  | 0 => Nat.le_refl _
  | i + 1 => by
    have := mAt_pos bn i
    unfold mAt
    split <;> omega
theorem mAt_closed (bn : Nat) : ∀ i, mAt bn (i + 1) = 2 + (i + 1) + (if bn = 0 then 0 else i / bn)
  | 0 => by
    show 1 + (if againAt bn 0 then 2 else 1) = _
    rw [if_pos (.inl rfl)]
    split <;> simp
  | i + 1 => by
    show mAt bn (i + 1) + (if againAt bn (i + 1) then 2 else 1) = _
    rw [mAt_closed bn i]
    by_cases hb : bn = 0
    · rw [if_pos hb, if_pos hb, if_neg (by rintro (h | h) <;> omega)]
      omega
    · rw [if_neg hb, if_neg hb]
      have h1 := Nat.div_add_mod i bn
      have h2 := Nat.mod_lt i (show 0 < bn by omega)
      have h3 := succ_mod' (n := bn) i (by omega)
      by_cases he : i % bn + 1 = bn
      · rw [if_pos he] at h3
        rw [if_pos (show i + 1 = 0 ∨ (0 < bn ∧ (i + 1) % bn = 0) from .inr ⟨by omega, h3⟩)]
        have : i + 1 = bn * (i / bn + 1) := by rw [Nat.mul_add]; omega
        rw [this, Nat.mul_div_cancel_left _ (by omega), ← this]
        omega
      · rw [if_neg he] at h3
        rw [if_neg (show ¬ (i + 1 = 0 ∨ (0 < bn ∧ (i + 1) % bn = 0)) by omega)]
        have : (i + 1) / bn = i / bn := by
          have e : i + 1 = bn * (i / bn) + (i % bn + 1) := by omega
          have hlt : i % bn + 1 < bn := by omega
          rw [e, Nat.mul_add_div (by omega), Nat.div_eq_of_lt hlt]
          rfl
        rw [this]
        omega
theorem mAt_find {bn k : Nat} (h1 : 1 ≤ k) : ∀ n, k < mAt bn n → ∃ i, i < n ∧ mAt bn i ≤ k ∧ k < mAt bn (i + 1)
  | 0, h => absurd h (by show ¬ k < 1; omega)
  | n + 1, h => by
    by_cases hk : mAt bn n ≤ k
    · exact ⟨n, by omega, hk, h⟩
    · obtain ⟨i, q1, q2⟩ := mAt_find (bn := bn) h1 n (by omega)
      exact ⟨i, by omega, q2⟩
theorem mAt_le {bn : Nat} : ∀ (n i : Nat), i ≤ n → mAt bn i ≤ mAt bn n
  | 0, i, h => by have : i = 0 := by omega
                  subst this; exact Nat.le_refl _
  | n + 1, i, h => by
    by_cases hi : i = n + 1
    · subst hi; exact Nat.le_refl _
    · have := mAt_le (bn := bn) n i (by omega)
      show _ ≤ mAt bn n + _
      omega
theorem part_m {t : List UInt8} (h7 : 7 < t.length) (h1 : t.length ≤ 4095) {bn i : Nat} {R : Int} (hlR : (t.length : Int) ≤ R) (hbn : bn ≤ 255) (hi : i < t.length / 7) {L : Lnk} (hP : PAt t bn 0 R i L) :
    PAt t bn 0 R (i + 1) (tickL [] L) ∧ doneL L = false ∧ (tickL [] L).m = L.m + (if againAt bn i then 2 else 1) ∧ (recvAll [] L.a.u L.r L.b L.m).2.2 = L.m + (if againAt bn i then 1 else 0) ∧ (takeAll (recvAll [] L.a.u L.r L.b L.m).2.1.u L.s).goes = true := by
  have hnd : doneL L = false := by
    rw [doneL, decide_eq_false (show ¬ (L.a.u.length + L.b.u.length = 0) by rw [hP.a]; simp)]
    simp
  obtain ⟨L', p1, p2⟩ := part_step (g := 0) h7 h1 hlR hbn (by omega) hi hP
  have hg1 : gapAt bn 0 i = 1 := by unfold gapAt; split <;> rfl
  have e := p2 0 0
  rw [hg1] at e
  have e' : (tickL [] L, 1) = (L', 0 + 1) := by
    have e2 : runL [] (0 + 1) 0 L = (tickL [] L, 1) := by rw [run_go hnd]; rfl
    rw [← e2, e]; rfl
  have hL' : tickL [] L = L' := congrArg (·.1) e'
  rw [hL']
  obtain ⟨r, c, hr, hc, hrf, hW, hR, hB, hG, h0⟩ := hP.r
  obtain ⟨r', a, b, q1, q2, q3, q4, q5, q6, q7, q8⟩ := recv_part h7 h1 hlR hc hrf hW hR hB hG h0 hP.le
  have hm : (recvAll [] L.a.u L.r L.b L.m).2.2 = L.m + (if againAt bn i then 1 else 0) := by
    rw [hP.a, hr]
    simp only [recvAll, q1]
    cases b with
    | true => rw [if_pos rfl, if_pos (q5.1 rfl).2]
    | false =>
      rw [if_neg (by decide), if_neg (fun hh => by have := q5.2 ⟨hi, hh⟩; cases this)]
      rfl
  have hgo : (takeAll (recvAll [] L.a.u L.r L.b L.m).2.1.u L.s).goes = true := by
    apply Classical.byContradiction
    intro hh
    have ha := p1.a
    rw [← hL', tickL] at ha
    simp only [hh, Bool.false_eq_true, if_false] at ha
    simp at ha
  refine ⟨p1, hnd, ?_, hm, hgo⟩
  rw [← hL', tickL]
  simp only [hgo, if_true, hm]
  split <;> rfl
theorem reach_f {t : List UInt8} (h7 : 7 < t.length) (h1 : t.length ≤ 4095) {bn : Nat} {R : Int} (hlR : (t.length : Int) ≤ R) (hbn : bn ≤ 255) {L0 : Lnk} (h0 : PAt t bn 0 R 0 L0) (hm : L0.m = 1) :
    ∀ i, i ≤ t.length / 7 → ∃ L, PAt t bn 0 R i L ∧ L.m = mAt bn i ∧ ∀ fates, easy fates 1 (mAt bn i) → ∀ f, runL fates (f + i) 0 L0 = runL fates f i L
  | 0, _ => ⟨L0, h0, hm, fun _ _ f => rfl⟩
  | i + 1, hi => by
    obtain ⟨L, p1, p2, p3⟩ := reach_f h7 h1 hlR hbn h0 hm i (by omega)
    obtain ⟨q1, q2, q3, _⟩ := part_m h7 h1 hlR hbn (by omega) p1
    have hms : (tickL [] L).m = mAt bn (i + 1) := by rw [q3, p2]; rfl
    have hle : mAt bn i ≤ mAt bn (i + 1) := mAt_le (i + 1) i (by omega)
    have hp := mAt_pos bn i
    refine ⟨tickL [] L, q1, hms, fun fates hf f => ?_⟩
    rw [show f + (i + 1) = (f + 1) + i by omega, p3 fates (fun k a b => hf k a (by omega)), run_go q2, tick_agree (fun k a b => hf k (by omega) (by omega))]
theorem last_m {t : List UInt8} (h7 : 7 < t.length) (h1 : t.length ≤ 4095) {bn : Nat} {R : Int} (hlR : (t.length : Int) ≤ R) {L : Lnk} (hP : PAt t bn 0 R (t.length / 7) L) (f n : Nat) : (runL [] (f + 2) n L).1.m = L.m := by
  obtain ⟨r, c, hr, hc, hrf, hW, hR, hB, hG, h0⟩ := hP.r
  obtain ⟨r', a, b, q1, q2, q3, q4, q5, q6, q7, q8⟩ := recv_part h7 h1 hlR hc hrf hW hR hB hG h0 hP.le
  have hnd : doneL L = false := by
    rw [doneL, decide_eq_false (show ¬ (L.a.u.length + L.b.u.length = 0) by rw [hP.a]; simp)]
    simp
  have hb : b = false := by
    cases b
    · rfl
    · have := (q5.1 rfl).1; omega
  subst hb
  have hst : L.s.st = 3 := by rw [hP.s.st, if_pos rfl]
  have hg : L.s.goes = false := goes_off (by omega)
  have hrec : recvAll [] L.a.u L.r L.b L.m = (r', ⟨[], []⟩, L.m) := by
    rw [hP.a, hP.b, hr]
    simp only [recvAll, q1, Bool.false_eq_true, if_false]
  have hm : (tickL [] L).m = L.m := by
    unfold tickL
    rw [hrec]
    simp only [takeAll, hg, Bool.false_eq_true, if_false]
  obtain ⟨L', w1, w2⟩ := last_step h7 h1 hlR hP 0 0
  have hd : doneL (tickL [] L) = true := by
    apply Classical.byContradiction
    intro hh
    have hh' : doneL (tickL [] L) = false := by simpa using hh
    rw [show (0 : Nat) + 2 = (0 + 1) + 1 by omega, run_go hnd, run_go hh'] at w1
    have := congrArg (·.2) w1
    simp only [runL] at this
    omega
  rw [show f + 2 = (f + 1) + 1 by omega, run_go hnd, run_done hd]
  exact hm
theorem start_PAt {t : List UInt8} (h7 : 7 < t.length) (h1 : t.length ≤ 4095) {bn : Nat} {R : Int} (hbn : bn ≤ 255) {fates : List Int} (hf : passy (fateL fates 0)) : PAt t bn 0 R 0 (startL t R bn 0 fates) := by
  have hs : newS t = ⟨1, t, 6, 1, -1, 0, 0, 0, 0⟩ := by rw [newS, if_neg (by omega), if_neg (by omega)]
  have hp : newP t = ⟨2, t.length, 0, 0, 0, 0, t.take 6⟩ := by rw [newP, if_neg (by omega), if_neg (by omega)]
  have hsnd := new_sound (t := t)
  rw [startL, hs, hp, putW_passy hf, putW_pass]
  rw [hs] at hsnd
  refine ⟨by omega, by rw [(parts_long (by omega) h1).2.1]; rfl, rfl, ⟨hsnd, rfl, by rw [if_neg (by omega)]; rfl, rfl, by rw [if_neg (by omega), if_pos (.inl rfl)], fun _ => (show (0 : Int) ≤ 100 by decide), fun _ hh => absurd (.inl rfl) hh⟩, fun hh => (by cases hh), freshR R bn 0, 0, ?_, by omega, ?_, .inl rfl, rfl, rfl, rfl, fun _ hh => (by cases hh)⟩
  · rw [skR_off (show (0 : Int) ≠ 2 by decide)]
  · simp [freshR, Rcv.fine]; omega
/-- One part lost: part i + 1. -/
theorem lost_part {t : List UInt8} (h7 : 7 < t.length) (h1 : t.length ≤ 4095) {bn i : Nat} {R : Int} (hlR : (t.length : Int) ≤ R) (hbn : bn ≤ 255) (hi : i < t.length / 7) {L : Lnk} (hP : PAt t bn 0 R i L) {fates : List Int}
    (he : easy fates L.m (L.m + (if againAt bn i then 1 else 0))) (hl : fateL fates (L.m + (if againAt bn i then 1 else 0)) = 2) : HInv t (tickL fates L) := by
  obtain ⟨q1, q2, q3, q4, q5⟩ := part_m h7 h1 hlR hbn hi hP
  have hr : recvAll fates L.a.u L.r L.b L.m = recvAll [] L.a.u L.r L.b L.m := recvAll_agree fun k a b => he k a (by rw [← q4]; exact b)
  have hs : (tickL fates L).s = (tickL [] L).s := by unfold tickL; rw [hr]
  have hrr : (tickL fates L).r = (tickL [] L).r := by unfold tickL; rw [hr]
  have ha : (tickL fates L).a = ⟨[], []⟩ := by
    unfold tickL
    rw [hr]
    simp only [q5, if_true, q4, hl]
    rw [putW, if_pos rfl, hP.a]
  obtain ⟨r, c, w1, w2, w3, w4, w5, w6, w7, w8⟩ := q1.r
  have hN : partsN t = 1 + t.length / 7 := by rw [partsN, if_neg (by omega)]
  have hS : SPt t (i + 1 + 1) (tickL [] L).s := by
    refine ⟨q1.s.sound, q1.s.text, by omega, by omega, ?_, q1.s.num⟩
    rw [q1.s.pos]
    unfold posN
    split <;> split <;> omega
  refine ⟨i + 1 + 1, [], [], [], by rw [hs]; exact hS, by rw [ha]; rfl, by rw [ha]; rfl, .inl ⟨rfl, rfl⟩, ?_⟩
  rw [hrr, w1]
  rcases w4 with h | ⟨_, hA, _⟩
  · omega
  have hst : r.st = 2 := by rw [hA.st, if_neg (by omega)]
  refine .inr ?_
  rw [skR, if_pos hst, if_pos w2]
  refine ⟨hst, hA.len, ?_⟩
  show r.got.length + 0 < _
  rw [hA.got, if_neg (by omega), posN_take (by omega) (by omega)]
  have := posN_succ (t := t) (c := i + 1) (by omega) (by omega)
  omega
/-- A flow lost. -/
theorem lost_flow {t : List UInt8} (h7 : 7 < t.length) (h1 : t.length ≤ 4095) {bn i : Nat} {R : Int} (hlR : (t.length : Int) ≤ R) (hbn : bn ≤ 255) (hi : i < t.length / 7) {L : Lnk} (hP : PAt t bn 0 R i L) {fates : List Int}
    (ha : againAt bn i) (hl : fateL fates L.m = 2) : StuckInv (tickL fates L) := by
  obtain ⟨r, c, hr, hc, hrf, hW, hR, hB, hG, h0⟩ := hP.r
  obtain ⟨r', a, b, q1, q2, q3, q4, q5, q6, q7, q8⟩ := recv_part h7 h1 hlR hc hrf hW hR hB hG h0 hP.le
  have hb : b = true := q5.2 ⟨hi, ha⟩
  subst hb
  have hst : L.s.st = 1 := by rw [hP.s.st, if_neg (by omega), if_pos ha]
  have hg : L.s.goes = false := goes_off (by omega)
  have hn : nextS L.s = L.s := by rw [nextS, if_neg (by rw [hg]; decide)]
  have hrec : recvAll fates L.a.u L.r L.b L.m = (r', ⟨[], []⟩, L.m + 1) := by
    rw [hP.a, hP.b, hr]
    simp only [recvAll, q1, if_true, hl]
    rw [putW, if_pos rfl]
  unfold tickL
  rw [hrec]
  simp only [takeAll, hg, Bool.false_eq_true, if_false, hn]
  exact ⟨by rw [hP.a], rfl, tick_quiet (.inl hst), tickV_no (fun h => by have := q7.1 h; omega)⟩
theorem idle_run {fates : List Int} {t : List UInt8} : ∀ (d k f n : Nat) (L : Lnk), k + d = 100 → L.a = ⟨[], []⟩ → L.b = ⟨[], []⟩ → L.s = ⟨1, t, 6, 1, -1, 0, k, 0, 0⟩ → L.r.st = 0 →
    ∃ L', runL fates (f + (d + 2)) n L = (L', n + (d + 1)) ∧ L'.r.st = 0
  | d, k, f, n, L, hk, ha, hb, hs, hr => by
    have hnd : doneL L = false := by rw [doneL, hs]; rfl
    have hg : L.s.goes = false := goes_off (by rw [hs]; show (1 : Int) ≠ 2; decide)
    have hn : nextS L.s = L.s := by rw [nextS, if_neg (by rw [hg]; decide)]
    have hau : L.a.u = [] := by rw [ha]
    have hbu : L.b.u = [] := by rw [hb]
    have hT : tickL fates L = ⟨tickS L.s, L.r, ⟨[], []⟩, ⟨[], []⟩, L.m⟩ := by
      unfold tickL
      simp only [hau, recvAll, hbu, takeAll, hg, Bool.false_eq_true, if_false, hn]
      rw [ha, hb, tickV, if_neg (by omega)]
    have hw : IntKind.wrap .i64 ((k : Int) + 1) = ((k + 1 : Nat) : Int) := wrapIN (by omega)
    have hts : tickS L.s = if d = 0 then ⟨4, t, 6, 1, -1, 0, ((k + 1 : Nat) : Int), 0, 181⟩ else ⟨1, t, 6, 1, -1, 0, ((k + 1 : Nat) : Int), 0, 0⟩ := by
      rw [hs]
      unfold tickS
      rw [if_pos (.inl rfl)]
      simp only
      rw [hw, if_neg (show ¬ ((1099511627776 : Int) < ((k + 1 : Nat) : Int)) by omega)]
      by_cases hd : d = 0
      · rw [if_pos hd, if_pos ⟨trivial, by omega⟩]
      · rw [if_neg hd, if_neg (fun hh => by have := hh.2; omega)]
    cases d with
    | zero =>
      rw [if_pos rfl] at hts
      refine ⟨tickL fates L, ?_, by rw [hT]; exact hr⟩
      rw [show f + (0 + 2) = (f + 1) + 1 by omega, run_go hnd, run_done]
      rw [hT, doneL, hts, hr]
      rfl
    | succ d =>
      rw [if_neg (by omega)] at hts
      obtain ⟨L', p1, p2⟩ := idle_run d (k + 1) f (n + 1) (tickL fates L) (by omega) (by rw [hT]) (by rw [hT]) (by rw [hT]; exact hts) (by rw [hT]; exact hr)
      refine ⟨L', ?_, p2⟩
      rw [show f + (d + 1 + 2) = (f + (d + 2)) + 1 by omega, run_go hnd, p1]
      congr 1
      omega
def lostF (k : Nat) : List Int := List.replicate k 0 ++ [2]
theorem fate_lost (k j : Nat) : fateL (lostF k) j = if j < k then 0 else if j = k then 2 else 1 := by
  unfold fateL lostF
  rw [List.getD_eq_getElem?_getD]
  by_cases h : j < k
  · rw [if_pos h, List.getElem?_append_left (by simpa using h)]
    simp [h]
  · rw [if_neg h, List.getElem?_append_right (by simp; omega)]
    by_cases e : j = k
    · rw [if_pos e]; simp [e]
    · rw [if_neg e, List.getElem?_eq_none (by simp; omega)]
      rfl
theorem lost_easy {k b : Nat} (h : b ≤ k) (a : Nat) : easy (lostF k) a b := by
  intro j _ hj
  rw [fate_lost, if_pos (by omega)]
  exact passy0
theorem play_lost {t : List UInt8} (h7 : 7 < t.length) (h1 : t.length ≤ 4095) {bn : Nat} (hbn : bn ≤ 255) {k : Nat} {s : Snd} {r : Rcv} {n : Nat} (h : playV t 4095 bn 0 (lostF k) = (s, r, n)) (hk : k < mAt bn (t.length / 7)) : r.st ≠ 3 ∧ (k = 0 → r.st = 0 ∧ n = 101) := by
  have he : newE t = 0 := by rw [newE, if_neg (by omega), if_neg (by omega)]
  have hs : newS t = ⟨1, t, 6, 1, -1, 0, 0, 0, 0⟩ := by rw [newS, if_neg (by omega), if_neg (by omega)]
  rw [playV, if_pos he] at h
  simp only [Prod.mk.injEq] at h
  obtain ⟨_, rfl, rfl⟩ := h
  by_cases hk0 : k = 0
  · subst hk0
    obtain ⟨L', p1, p2⟩ := idle_run (fates := lostF 0) (t := t) 100 0 99898 0 (startL t 4095 bn 0 (lostF 0)) rfl (by rw [startL, fate_lost]; rfl) rfl (by rw [startL, hs]; rfl) rfl
    have e : runL (lostF 0) 100000 0 (startL t 4095 bn 0 (lostF 0)) = (L', 101) := p1
    rw [e]
    exact ⟨by rw [p2]; decide, fun _ => ⟨p2, rfl⟩⟩
  refine ⟨?_, fun hh => absurd hh hk0⟩
  have hf0 : passy (fateL (lostF k) 0) := by rw [fate_lost, if_pos (by omega)]; exact passy0
  have hP0 := start_PAt (R := 4095) h7 h1 hbn hf0
  obtain ⟨i, hi, hm1, hm2⟩ := mAt_find (by omega) _ hk
  obtain ⟨L, p1, p2, p3⟩ := reach_f h7 h1 (by omega) hbn hP0 rfl i (by omega)
  have hrun := p3 (lostF k) (lost_easy hm1 1) (100000 - i - 1 + 1)
  rw [show 100000 - i - 1 + 1 + i = 100000 by omega] at hrun
  have hnd : doneL L = false := by
    rw [doneL, decide_eq_false (show ¬ (L.a.u.length + L.b.u.length = 0) by rw [p1.a]; simp)]
    simp
  rw [hrun, run_go hnd]
  have hm2' : k < mAt bn i + (if againAt bn i then 2 else 1) := hm2
  by_cases ha : againAt bn i
  · rw [if_pos ha] at hm2'
    by_cases hke : k = mAt bn i
    · exact (StuckInv.run _ _ _ (lost_flow h7 h1 (by omega) hbn hi p1 ha (by rw [p2, fate_lost, if_neg (by omega), if_pos hke.symm]))).r
    · exact (HInv.run h7 _ _ _ (lost_part h7 h1 (by omega) hbn hi p1 (lost_easy (by rw [if_pos ha, p2]; omega) _) (by rw [if_pos ha, p2, fate_lost, if_neg (by omega), if_pos (by omega)]))).no
  · rw [if_neg ha] at hm2'
    exact (HInv.run h7 _ _ _ (lost_part h7 h1 (by omega) hbn hi p1 (lost_easy (by rw [if_neg ha, p2]; omega) _) (by rw [if_neg ha, p2, fate_lost, if_neg (by omega), if_pos (by omega)]))).no
theorem play_behind {t : List UInt8} (h7 : 7 < t.length) (h1 : t.length ≤ 4095) {bn : Nat} (hbn : bn ≤ 255) {k : Nat} (hk : mAt bn (t.length / 7) ≤ k) : playV t 4095 bn 0 (lostF k) = playV t 4095 bn 0 [] := by
  have he : newE t = 0 := by rw [newE, if_neg (by omega), if_neg (by omega)]
  have hp := mAt_pos bn (t.length / 7)
  have hf0 : passy (fateL (lostF k) 0) := by rw [fate_lost, if_pos (by omega)]; exact passy0
  have hst : startL t 4095 bn 0 (lostF k) = startL t 4095 bn 0 [] := by rw [startL, startL, putW_passy hf0, fateL_nil]
  have hP0 := start_PAt (R := 4095) (fates := []) h7 h1 hbn passy1
  obtain ⟨L, p1, p2, p3⟩ := reach_f h7 h1 (by omega) hbn hP0 rfl (t.length / 7) (Nat.le_refl _)
  have hrun := p3 [] (fun k _ _ => by rw [fateL_nil]; exact passy1) (100000 - t.length / 7 - 2 + 2)
  rw [show 100000 - t.length / 7 - 2 + 2 + t.length / 7 = 100000 by omega] at hrun
  have hm : (runL [] 100000 0 (startL t 4095 bn 0 [])).1.m = mAt bn (t.length / 7) := by rw [hrun, last_m h7 h1 (by omega) p1, p2]
  have hag : runL (lostF k) 100000 0 (startL t 4095 bn 0 []) = runL [] 100000 0 (startL t 4095 bn 0 []) := run_agree _ _ _ (by rw [hm]; exact lost_easy hk _)
  rw [playV, if_pos he, playV, if_pos he, hst, hag]
end Go.Proofs.Ytpnhnobnjcknjaa.Pe
