import Derived.Test.YtcdmhigmgpflbaaLE10a
import Derived.Test.YtcdmhigmgpflbaaLD10
namespace Go.Proofs.Ytcdmhigmgpflbaa.Pe.Lk
open Go.Pe Go.RowKit
set_option maxRecDepth 20000
set_option maxHeartbeats 4000000
set_option linter.unusedSimpArgs false
set_option linter.unusedVariables false

theorem pass_step {t : List UInt8} (h0 : 1 ≤ t.length) (h1 : t.length ≤ 4095) {bn i : Nat} {r : Rcv} {g R : Int} (hlR : (t.length : Int) ≤ R) (hroom : r.room = R) (hb : r.block = bn) (hg : r.gap = g) (hW : WAt t bn i r) (hi : i < partsN t) :
    ∃ r' a b,recvV r ((partsL t)[i]?.getD Pdu.none) = (r',a,b) ∧ WAt t bn (i + 1) r' ∧ (r'.room = R ∧ r'.block = bn ∧ r'.gap = g) ∧ (b = true ↔ i + 1 < partsN t ∧ (i = 0 ∨ (0 < bn ∧ i % bn = 0))) ∧ a = (if b = true then ⟨4,0,0,0,bn,g,[]⟩ else Pdu.none) ∧ (r'.st = 3 ↔ i + 1 = partsN t) := by
  have hgo : goP r = ⟨4,0,0,0,bn,g,[]⟩ := by rw [goP,hb,hg]
  rcases hW with rfl | ⟨hi1,hR,hL⟩
  · obtain ⟨r',a,q1,q2,q3,q4⟩ := RAt.first h0 h1 (r := r) (by omega)
    have hN : 7 < t.length ↔ 0 + 1 < partsN t := by unfold partsN; split <;> omega
    have hc : r'.room = r.room ∧ r'.block = r.block ∧ r'.gap = r.gap := by
      have := cfg_recv r r ((partsL t)[0]?.getD Pdu.none) ⟨rfl,rfl,rfl⟩
      rw [q1] at this
      exact this
    refine ⟨r',a,_,q1,.inr ⟨by omega,q2,fun h => ?_⟩,⟨by rw [hc.1,hroom],by rw [hc.2.1,hb],by rw [hc.2.2,hg]⟩,by rw [decide_eq_true_eq,hN]; simp,by rw [q3,hgo]; simp,?_⟩
    · rw [q4 (hN.2 h),leftAt,hb]
      by_cases hz : bn = 0
      · rw [if_pos (by omega),if_pos hz]
      · rw [if_neg (by omega),if_neg hz]
        simp
    · rw [q2.st]
      split <;> omega
  · obtain ⟨r',a,b,q1,q2,q3,q4,q5,q6⟩ := hR.step h1 hi1 hi
    have hl := hL hi
    have hlt : r.left = leftAt bn i := hl
    refine ⟨r',a,b,q1,.inr ⟨by omega,q2,fun h => ?_⟩,⟨by rw [q6.1,hroom],by rw [q6.2.1,hb],by rw [q6.2.2,hg]⟩,?_,by rw [q4,hgo],?_⟩
    · rw [q5,if_neg (by omega),hl]
      unfold leftAt
      by_cases hz : bn = 0
      · simp [hz]
      · rw [if_neg hz,if_neg hz]
        have hm := succ_mod' (n := bn) (i - 1) (by omega)
        rw [show i - 1 + 1 = i by omega] at hm
        rw [show i + 1 - 1 = i by omega,hm,hb]
        have := Nat.mod_lt (i - 1) (show 0 < bn by omega)
        generalize (i - 1) % bn = q at *
        split <;> split <;> (try split) <;> omega
    · rw [q3,hl]
      unfold leftAt
      by_cases hz : bn = 0
      · simp [hz]; omega
      · rw [if_neg hz]
        have hm := succ_mod' (n := bn) (i - 1) (by omega)
        rw [show i - 1 + 1 = i by omega] at hm
        have := Nat.mod_lt (i - 1) (show 0 < bn by omega)
        rw [hm]
        generalize (i - 1) % bn = q at *
        simp only [Bool.and_eq_true,decide_eq_true_eq]
        split <;> omega
    · rw [q2.st]
      split <;> omega

/-- Whether a Go comes behind part i. -/
abbrev againAt (bn i : Nat) : Prop := i = 0 ∨ (0 < bn ∧ i % bn = 0)
/-- The sender that has sent part i,and waits for clock ticks since. -/
structure SAt (t : List UInt8) (bn g i : Nat) (s : Snd) : Prop where
  sound : s.sound
  text : s.text = t
  pos : s.pos = if i = t.length / 7 then (t.length : Int) else ((7 * i + 6 : Nat) : Int)
  num : s.num = (((i + 1) % 16 : Nat) : Int)
  st : s.st = if i = t.length / 7 then 3 else if againAt bn i then 1 else 2
  clock : s.st = 1 → s.clock ≤ 100
  going : i < t.length / 7 → ¬ againAt bn i → s.gap = g ∧ s.left = (if bn = 0 then -1 else ((bn - i % bn : Nat) : Int))
theorem send_at {t : List UInt8} (h7 : 7 < t.length) (h1 : t.length ≤ 4095) {bn g i : Nat} (hbn : bn ≤ 255) (hg : g ≤ 100) {s : Snd} (hi : i < t.length / 7) (hs : s.sound) (htx : s.text = t) (hp : s.pos = ((7 * i + 6 : Nat) : Int)) (hn : s.num = (((i + 1) % 16 : Nat) : Int))
    (hst : s.st = 2) (hgap : s.gap = g) (hcl : (g : Int) ≤ s.clock) (hleft : s.left = (if bn = 0 then -1 else ((bn - i % bn : Nat) : Int))) :
    s.goes = true ∧ (partsL t)[i + 1]? = some (nextP s) ∧ SAt t bn g (i + 1) (nextS s) ∧ (nextS s).clock = 0 := by
  have hgo : s.goes = true := by simp [Snd.goes,hst,hgap]; omega
  have hN : partsN t = 1 + t.length / 7 := by rw [partsN,if_neg (by omega)]
  have hto : nextTo s = if i + 1 = t.length / 7 then (t.length : Int) else ((7 * (i + 1) + 6 : Nat) : Int) := by
    simp only [nextTo,htx,hp]
    by_cases e : i + 1 = t.length / 7
    · rw [if_pos e]; split <;> omega
    · rw [if_neg e]; split <;> omega
  have hend : nextTo s = (t.length : Int) ↔ i + 1 = t.length / 7 := by
    rw [hto]
    split <;> omega
  have hm : i % bn < bn ∨ bn = 0 := by
    by_cases hb : bn = 0
    · exact .inr hb
    · exact .inl (Nat.mod_lt _ (by omega))
  have hsn := next_sound hs
  refine ⟨hgo,?_,?_,by rw [nextS,if_pos hgo]⟩
  · rw [(parts_long h7 h1).2.2 (i + 1) (by omega) (by omega),nextP,if_pos hgo]
    congr 1
    have hd : (s.text.take (nextTo s).toNat).drop s.pos.toNat = (t.drop (7 * (i + 1) - 1)).take 7 := by
      rw [htx,hp,List.drop_take]
      have e1 : ((7 * i + 6 : Nat) : Int).toNat = 7 * (i + 1) - 1 := by omega
      rw [e1,hto]
      by_cases e : i + 1 = t.length / 7
      · rw [if_pos e,List.take_of_length_le (by first | (simp; done) | (simp; omega)),List.take_of_length_le (by first | (simp; done) | (simp; omega))]
      · rw [if_neg e]
        congr 1
        omega
    rw [hd,hn]
  · have hw1 : IntKind.wrap .i64 (s.num + 1) = s.num + 1 := wrapI64 (by omega)
    have hnum : nextN s = (((i + 1 + 1) % 16 : Nat) : Int) := by
      unfold nextN
      rw [hw1,hn,show (((i + 1) % 16 : Nat) : Int) + 1 = (((i + 1) % 16 + 1 : Nat) : Int) by omega]
      show ((((i + 1) % 16 + 1) % 16 : Nat) : Int) = _
      omega
    have hsl : (s.text.length : Int) = t.length := by rw [htx]
    rw [nextS,if_pos hgo] at hsn ⊢
    refine ⟨hsn,htx,hto,hnum,?_,fun _ => (show (0 : Int) ≤ 100 by decide),fun hlt hna => ⟨hgap,?_⟩⟩
    · show nextT s = _
      unfold nextT
      rw [hsl]
      by_cases e : i + 1 = t.length / 7
      · rw [if_pos (hend.2 e),if_pos e]
      · rw [if_neg (fun h => e (hend.1 h)),if_neg e]
        by_cases hb : bn = 0
        · rw [hleft,if_pos hb,if_pos rfl,hst,if_neg (by omega)]
        · have hsm := succ_mod' (n := bn) i (by omega)
          have hlv : s.left = ((bn - i % bn : Nat) : Int) := by rw [hleft,if_neg hb]
          have hw2 : IntKind.wrap .i64 (s.left - 1) = s.left - 1 := wrapI64 (by omega)
          rw [if_neg (by omega),hw2]
          by_cases hz : (i + 1) % bn = 0
          · have : i % bn + 1 = bn := by
              apply Classical.byContradiction
              intro hh
              rw [if_neg hh] at hsm
              omega
            rw [if_pos (show s.left - 1 = 0 by omega),if_pos (show i + 1 = 0 ∨ (0 < bn ∧ (i + 1) % bn = 0) from .inr ⟨by omega,hz⟩)]
          · have : ¬ i % bn + 1 = bn := by
              intro hh
              rw [if_pos hh] at hsm
              omega
            rw [if_neg (show ¬ (s.left - 1 = 0) by omega),if_neg (show ¬ (i + 1 = 0 ∨ (0 < bn ∧ (i + 1) % bn = 0)) by omega),hst]
    · show nextL s = _
      unfold nextL
      rw [hsl,if_neg (fun h => by have := hend.1 h; omega)]
      by_cases hb : bn = 0
      · rw [hleft,if_pos hb,if_pos rfl,if_pos hb]
      · have hsm := succ_mod' (n := bn) i (by omega)
        have hlv : s.left = ((bn - i % bn : Nat) : Int) := by rw [hleft,if_neg hb]
        have hw2 : IntKind.wrap .i64 (s.left - 1) = s.left - 1 := wrapI64 (by omega)
        rw [if_neg (by omega),hw2,if_neg hb]
        have : ¬ i % bn + 1 = bn := by
          intro hh
          rw [if_pos hh] at hsm
          exact hna (.inr ⟨by omega,hsm⟩)
        rw [if_neg this] at hsm
        omega
end Go.Proofs.Ytcdmhigmgpflbaa.Pe.Lk


namespace Go.Proofs.Ytcdmhigmgpflbaa.Pe.Lk
open Go.Pe Go.RowKit
set_option maxRecDepth 20000
set_option maxHeartbeats 4000000
set_option linter.unusedSimpArgs false
set_option linter.unusedVariables false

theorem tick_sat {t : List UInt8} {bn g i : Nat} {s : Snd} (h : SAt t bn g i s) (hc : s.clock = 0) : SAt t bn g i (tickS s) ∧ ((tickS s).st = 2 → (tickS s).clock = 1) := by
  have hs := tick_sound h.sound
  revert hs
  unfold tickS
  rw [hc]
  have hw : IntKind.wrap .i64 ((0 : Int) + 1) = 1 := by decide
  rw [hw]
  by_cases hst : s.st = 1 ∨ s.st = 2
  · rw [if_pos hst]
    simp only
    rw [if_neg (show ¬ ((1099511627776 : Int) < 1) by decide),if_neg (show ¬ (s.st = 1 ∧ (100 : Int) < 1) by omega)]
    intro hs
    exact ⟨⟨hs,h.text,h.pos,h.num,h.st,fun _ => (show (1 : Int) ≤ 100 by decide),h.going⟩,fun _ => rfl⟩
  · rw [if_neg hst]
    intro _
    exact ⟨h,fun hh => absurd (.inr hh) hst⟩
/-- The talk at the top of a tick,part i under way. -/
structure PAt (t : List UInt8) (bn g : Nat) (R : Int) (i : Nat) (L : Lnk) : Prop where
  le : i ≤ t.length / 7
  a : L.a = ⟨[(partsL t)[i]?.getD Pdu.none],[]⟩
  b : L.b = ⟨[],[]⟩
  s : SAt t bn g i L.s
  one : L.s.st = 2 → L.s.clock = 1
  r : ∃ r c,L.r = skR c r ∧ c ≤ 100 ∧ r.fine ∧ WAt t bn i r ∧ r.room = R ∧ r.block = bn ∧ r.gap = g ∧ (i = 0 → r.st ≠ 2)
/-- Between two parts: part i has come,the sender's clock is at k. -/
structure QAt (t : List UInt8) (bn g : Nat) (R : Int) (i k : Nat) (L : Lnk) : Prop where
  a : L.a = ⟨[],[]⟩
  b : L.b = ⟨[],[]⟩
  s : SAt t bn g i L.s
  st : L.s.st = 2
  clock : L.s.clock = k
  r : ∃ r,L.r = skR (k - 1) r ∧ r.fine ∧ WAt t bn (i + 1) r ∧ r.room = R ∧ r.block = bn ∧ r.gap = g ∧ r.clock = 0
theorem recv_part {t : List UInt8} (h7 : 7 < t.length) (h1 : t.length ≤ 4095) {bn g i c : Nat} {R : Int} (hlR : (t.length : Int) ≤ R) {r : Rcv} (hc : c ≤ 100) (hrf : r.fine) (hW : WAt t bn i r) (hR : r.room = R) (hB : r.block = bn) (hG : r.gap = g) (h0 : i = 0 → r.st ≠ 2) (hi : i ≤ t.length / 7) :
    ∃ r' a b,recvV (skR c r) ((partsL t)[i]?.getD Pdu.none) = (r',a,b) ∧ r'.fine ∧ WAt t bn (i + 1) r' ∧ (r'.room = R ∧ r'.block = bn ∧ r'.gap = g) ∧ (b = true ↔ i < t.length / 7 ∧ againAt bn i) ∧ a = (if b = true then ⟨4,0,0,0,bn,g,[]⟩ else Pdu.none) ∧ (r'.st = 3 ↔ i = t.length / 7) ∧ r'.clock = 0 := by
  have hN : partsN t = 1 + t.length / 7 := by rw [partsN,if_neg (by omega)]
  obtain ⟨r',a,b,q1,q2,q3,q4,q5,q6⟩ := pass_step (by omega) h1 hlR hR hB hG hW (by omega)
  have e : recvV (skR c r) ((partsL t)[i]?.getD Pdu.none) = recvV r ((partsL t)[i]?.getD Pdu.none) := by
    rcases hW with hz | ⟨hi1,hA,_⟩
    · rw [skR_off (h0 hz)]
    · exact recv_sk h1 hA hi1 (by omega) hc
  have hpr : ((partsL t)[i]?.getD Pdu.none).right = true := by
    have hlen := parts_len (t := t) (by omega) h1
    rw [List.getElem?_eq_getElem (show i < (partsL t).length by omega)]
    exact parts_right (by omega) h1 _ (List.getElem_mem _)
  have hrf' : r'.fine := by have := fine_recv hrf hpr; rw [q1] at this; exact this
  refine ⟨r',a,b,e.trans q1,hrf',q2,q3,?_,q5,?_,?_⟩
  · rw [q4]
    constructor
    · rintro ⟨x,y⟩; exact ⟨by omega,y⟩
    · rintro ⟨x,y⟩; exact ⟨by omega,y⟩
  · rw [q6]; omega
  · rcases q2 with hz | ⟨_,hA,_⟩
    · omega
    · exact hA.clock
theorem wait_step {t : List UInt8} (h7 : 7 < t.length) (h1 : t.length ≤ 4095) {bn g i : Nat} {R : Int} (hbn : bn ≤ 255) (hg : g ≤ 100) (hi : i < t.length / 7) (hna : ¬ againAt bn i) : ∀ (d k : Nat) (L : Lnk),QAt t bn g R i k L → 1 ≤ k → k + d = g →
    ∃ L',PAt t bn g R (i + 1) L' ∧ ∀ f n,runL [] (f + (d + 1)) n L = runL [] f (n + (d + 1)) L'
  | d,k,L,hQ,hk,hkd => by
    obtain ⟨r,hr,hrf,hW,hR,hB,hG,hrc⟩ := hQ.r
    obtain ⟨hgap,hleft⟩ := hQ.s.going hi hna
    have hnd : doneL L = false := by rw [doneL,hQ.st]; rfl
    have hrec : recvAll [] L.a.u L.r L.b L.m = (L.r,L.b,L.m) := by rw [hQ.a]; rfl
    have htk : takeAll L.b.u L.s = L.s := by rw [hQ.b]; rfl
    have hti : tickV L.r = skR k r := by
      rw [hr,skR_tick,show k - 1 + 1 = k by omega]
    cases d with
    | zero =>
      have hpos : L.s.pos = ((7 * i + 6 : Nat) : Int) := by rw [hQ.s.pos,if_neg (by omega)]
      obtain ⟨s1,s2,s3,s4⟩ := send_at h7 h1 hbn hg hi hQ.s.sound hQ.s.text hpos hQ.s.num hQ.st hgap (by rw [hQ.clock]; omega) hleft
      obtain ⟨s5,s6⟩ := tick_sat s3 s4
      refine ⟨⟨tickS (nextS L.s),tickV L.r,⟨[nextP L.s],[]⟩,⟨[],[]⟩,L.m + 1⟩,⟨by omega,by rw [s2]; rfl,rfl,s5,s6,r,k,hti,by omega,hrf,hW,hR,hB,hG,fun h => by omega⟩,fun f n => ?_⟩
      have hT : tickL [] L = ⟨tickS (nextS L.s),tickV L.r,⟨[nextP L.s],[]⟩,⟨[],[]⟩,L.m + 1⟩ := by
        unfold tickL
        rw [hrec]
        simp only [htk,s1,if_true,fateL_nil,putW_pass]
        rw [hQ.a,hQ.b]
        rfl
      rw [show f + (0 + 1) = f + 1 by omega,run_go hnd,hT]
    | succ d =>
      have hgo : L.s.goes = false := by simp [Snd.goes,hQ.st,hgap,hQ.clock]; omega
      have hns : nextS L.s = L.s := by rw [nextS,if_neg (by rw [hgo]; decide)]
      have hwk : IntKind.wrap .i64 ((k : Int) + 1) = ((k + 1 : Nat) : Int) := wrapIN (by omega)
      have hts : tickS L.s = { L.s with clock := ((k + 1 : Nat) : Int) } := by
        unfold tickS
        rw [if_pos (.inr hQ.st),hQ.clock,hwk]
        simp only
        rw [if_neg (show ¬ ((1099511627776 : Int) < ((k + 1 : Nat) : Int)) by omega),if_neg (by rw [hQ.st]; omega)]
      have hsd := tick_sound hQ.s.sound
      have hT : tickL [] L = ⟨tickS L.s,tickV L.r,⟨[],[]⟩,⟨[],[]⟩,L.m⟩ := by
        unfold tickL
        rw [hrec]
        simp only [htk,hgo,hns,Bool.false_eq_true,if_false]
        rw [hQ.a,hQ.b]
      have hQ' : QAt t bn g R i (k + 1) (tickL [] L) := by
        rw [hT]
        refine ⟨rfl,rfl,?_,?_,?_,r,by rw [hti]; rfl,hrf,hW,hR,hB,hG,hrc⟩
        · rw [hts] at hsd ⊢
          exact ⟨hsd,hQ.s.text,hQ.s.pos,hQ.s.num,hQ.s.st,fun hh => by have : L.s.st = 1 := hh; rw [hQ.st] at this; omega,hQ.s.going⟩
        · rw [hts]; exact hQ.st
        · rw [hts]
      obtain ⟨L',p1,p2⟩ := wait_step h7 h1 hbn hg hi hna d (k + 1) (tickL [] L) hQ' (by omega) (by omega)
      refine ⟨L',p1,fun f n => ?_⟩
      rw [show f + (d + 1 + 1) = (f + (d + 1)) + 1 by omega,run_go hnd,p2]
      congr 1
      omega
end Go.Proofs.Ytcdmhigmgpflbaa.Pe.Lk


namespace Go.Proofs.Ytcdmhigmgpflbaa.Pe.Lk
open Go.Pe Go.RowKit
set_option maxRecDepth 20000
set_option maxHeartbeats 4000000
set_option linter.unusedSimpArgs false
set_option linter.unusedVariables false

def gapAt (bn g i : Nat) : Nat := if againAt bn i then 1 else max g 1
theorem part_step {t : List UInt8} (h7 : 7 < t.length) (h1 : t.length ≤ 4095) {bn g i : Nat} {R : Int} (hlR : (t.length : Int) ≤ R) (hbn : bn ≤ 255) (hg : g ≤ 100) (hi : i < t.length / 7) {L : Lnk} (hP : PAt t bn g R i L) :
    ∃ L',PAt t bn g R (i + 1) L' ∧ ∀ f n,runL [] (f + gapAt bn g i) n L = runL [] f (n + gapAt bn g i) L' := by
  obtain ⟨r,c,hr,hc,hrf,hW,hR,hB,hG,h0⟩ := hP.r
  obtain ⟨r',a,b,q1,q2,q3,⟨q4,q5,q6⟩,q7,q8,q9,q10⟩ := recv_part h7 h1 hlR hc hrf hW hR hB hG h0 hP.le
  have hnd : doneL L = false := by
    rw [doneL,decide_eq_false (show ¬ (L.a.u.length + L.b.u.length = 0) by rw [hP.a]; simp)]
    simp
  have htr : tickV r' = skR 1 r' := by
    have := skR_tick 0 r'
    rwa [skR_zero q10] at this
  have hpos : L.s.pos = ((7 * i + 6 : Nat) : Int) := by rw [hP.s.pos,if_neg (by omega)]
  by_cases ha : againAt bn i
  · have hb : b = true := q7.2 ⟨hi,ha⟩
    subst hb
    rw [if_pos rfl] at q8
    subst q8
    have hst : L.s.st = 1 := by rw [hP.s.st,if_neg (by omega),if_pos ha]
    have hrec : recvAll [] L.a.u L.r L.b L.m = (r',⟨[⟨4,0,0,0,bn,g,[]⟩],[]⟩,L.m + 1) := by
      rw [hP.a,hP.b,hr]
      simp only [recvAll,q1,if_true,fateL_nil,putW_pass]
      rfl
    have htk : takeAll [(⟨4,0,0,0,bn,g,[]⟩ : Pdu)] L.s = { L.s with st := 2,left := if (bn : Int) = 0 then -1 else (bn : Int),gap := g,clock := g,waits := 0 } := by
      have : L.s.takes ⟨4,0,0,0,bn,g,[]⟩ = true := by
        simp [Snd.takes,hst,Pdu.right]
        omega
      show takeS L.s _ = _
      rw [takeS,if_pos this,if_neg (by simp),if_neg (by simp)]
    obtain ⟨s1,hs1⟩ : ∃ s1,({ L.s with st := 2,left := if (bn : Int) = 0 then -1 else (bn : Int),gap := g,clock := g,waits := 0 } : Snd) = s1 := ⟨_,rfl⟩
    have hso : s1.sound := by
      have := take_sound hP.s.sound ⟨4,0,0,0,bn,g,[]⟩
      have e : takeS L.s ⟨4,0,0,0,bn,g,[]⟩ = s1 := by rw [← hs1,← htk]; rfl
      rwa [e] at this
    obtain ⟨s2,s3,s4,s5⟩ := send_at (s := s1) h7 h1 hbn hg hi hso (by rw [← hs1]; exact hP.s.text) (by rw [← hs1]; exact hpos) (by rw [← hs1]; exact hP.s.num) (by rw [← hs1]) (by rw [← hs1]) (by rw [← hs1]; exact Int.le_refl _) (by
      rw [← hs1]
      show (if (bn : Int) = 0 then (-1 : Int) else (bn : Int)) = _
      by_cases hb0 : bn = 0
      · rw [if_pos (by omega),if_pos hb0]
      · rw [if_neg (by omega),if_neg hb0]
        have : i % bn = 0 := by
          rcases ha with h | ⟨_,h⟩
          · rw [h]; exact Nat.zero_mod _
          · exact h
        rw [this,Nat.sub_zero])
    obtain ⟨s6,s7⟩ := tick_sat s4 s5
    have hT : tickL [] L = ⟨tickS (nextS s1),tickV r',⟨[nextP s1],[]⟩,⟨[],[]⟩,L.m + 1 + 1⟩ := by
      unfold tickL
      rw [hrec]
      simp only [htk,hs1,s2,if_true,fateL_nil,putW_pass]
      rw [hP.a]
      rfl
    refine ⟨⟨tickS (nextS s1),tickV r',⟨[nextP s1],[]⟩,⟨[],[]⟩,L.m + 1 + 1⟩,⟨by omega,by rw [s3]; rfl,rfl,s6,s7,r',1,htr,by omega,q2,q3,q4,q5,q6,fun h => by omega⟩,fun f n => ?_⟩
    rw [show gapAt bn g i = 1 by rw [gapAt,if_pos ha],run_go hnd,hT]
  · have hb : b = false := by
      cases b
      · rfl
      · exact absurd (q7.1 rfl).2 ha
    subst hb
    have hst : L.s.st = 2 := by rw [hP.s.st,if_neg (by omega),if_neg ha]
    have hcl := hP.one hst
    obtain ⟨hgap,hleft⟩ := hP.s.going hi ha
    have hrec : recvAll [] L.a.u L.r L.b L.m = (r',⟨[],[]⟩,L.m) := by
      rw [hP.a,hP.b,hr]
      simp only [recvAll,q1,Bool.false_eq_true,if_false]
    by_cases hg1 : g ≤ 1
    · obtain ⟨s2,s3,s4,s5⟩ := send_at (s := L.s) h7 h1 hbn hg hi hP.s.sound hP.s.text hpos hP.s.num hst hgap (by omega) hleft
      obtain ⟨s6,s7⟩ := tick_sat s4 s5
      have hT : tickL [] L = ⟨tickS (nextS L.s),tickV r',⟨[nextP L.s],[]⟩,⟨[],[]⟩,L.m + 1⟩ := by
        unfold tickL
        rw [hrec]
        simp only [takeAll,s2,if_true,fateL_nil,putW_pass]
        rw [hP.a]
        rfl
      refine ⟨⟨tickS (nextS L.s),tickV r',⟨[nextP L.s],[]⟩,⟨[],[]⟩,L.m + 1⟩,⟨by omega,by rw [s3]; rfl,rfl,s6,s7,r',1,htr,by omega,q2,q3,q4,q5,q6,fun h => by omega⟩,fun f n => ?_⟩
      rw [show gapAt bn g i = 1 by rw [gapAt,if_neg ha]; omega,run_go hnd,hT]
    · have hgo : L.s.goes = false := by simp [Snd.goes,hst,hgap,hcl]; omega
      have hns : nextS L.s = L.s := by rw [nextS,if_neg (by rw [hgo]; decide)]
      have hts : tickS L.s = { L.s with clock := 2 } := by
        unfold tickS
        rw [if_pos (.inr hst),hcl,show IntKind.wrap .i64 ((1 : Int) + 1) = 2 by decide]
        simp only
        rw [if_neg (show ¬ ((1099511627776 : Int) < 2) by decide),if_neg (by rw [hst]; omega)]
      have hsd := tick_sound hP.s.sound
      have hT : tickL [] L = ⟨tickS L.s,tickV r',⟨[],[]⟩,⟨[],[]⟩,L.m⟩ := by
        unfold tickL
        rw [hrec]
        simp only [takeAll,hgo,hns,Bool.false_eq_true,if_false]
        rw [hP.a]
      have hQ : QAt t bn g R i 2 (tickL [] L) := by
        rw [hT]
        refine ⟨rfl,rfl,?_,?_,?_,r',htr,q2,q3,q4,q5,q6,q10⟩
        · rw [hts] at hsd ⊢
          exact ⟨hsd,hP.s.text,hP.s.pos,hP.s.num,hP.s.st,fun hh => by have : L.s.st = 1 := hh; rw [hst] at this; omega,hP.s.going⟩
        · rw [hts]; exact hst
        · rw [hts]; rfl
      obtain ⟨L',p1,p2⟩ := wait_step h7 h1 hbn hg hi ha (g - 2) 2 (tickL [] L) hQ (by omega) (by omega)
      refine ⟨L',p1,fun f n => ?_⟩
      rw [show gapAt bn g i = (g - 2 + 1) + 1 by rw [gapAt,if_neg ha]; omega,show f + (g - 2 + 1 + 1) = (f + (g - 2 + 1)) + 1 by omega,run_go hnd,p2]
      congr 1
      omega
theorem last_step {t : List UInt8} (h7 : 7 < t.length) (h1 : t.length ≤ 4095) {bn g : Nat} {R : Int} (hlR : (t.length : Int) ≤ R) {L : Lnk} (hP : PAt t bn g R (t.length / 7) L) (f n : Nat) :
    ∃ L',runL [] (f + 2) n L = (L',n + 1) ∧ L'.s.st = 3 ∧ L'.r.st = 3 ∧ L'.r.got = t ∧ L'.s = L.s := by
  obtain ⟨r,c,hr,hc,hrf,hW,hR,hB,hG,h0⟩ := hP.r
  obtain ⟨r',a,b,q1,q2,q3,⟨q4,q5,q6⟩,q7,q8,q9,q10⟩ := recv_part h7 h1 hlR hc hrf hW hR hB hG h0 hP.le
  have hnd : doneL L = false := by
    rw [doneL,decide_eq_false (show ¬ (L.a.u.length + L.b.u.length = 0) by rw [hP.a]; simp)]
    simp
  have hb : b = false := by
    cases b
    · rfl
    · have := (q7.1 rfl).1; omega
  subst hb
  have hst : L.s.st = 3 := by rw [hP.s.st,if_pos rfl]
  have hr3 : r'.st = 3 := q9.2 rfl
  have hN : partsN t = 1 + t.length / 7 := by rw [partsN,if_neg (by omega)]
  have hgot : r'.got = t := by
    rcases q3 with h | ⟨_,hA,_⟩
    · omega
    · rw [hA.got,if_pos (by omega)]
  have hrec : recvAll [] L.a.u L.r L.b L.m = (r',⟨[],[]⟩,L.m) := by
    rw [hP.a,hP.b,hr]
    simp only [recvAll,q1,Bool.false_eq_true,if_false]
  have hgo : L.s.goes = false := by simp [Snd.goes,hst]
  have hns : nextS L.s = L.s := by rw [nextS,if_neg (by rw [hgo]; decide)]
  have hts : tickS L.s = L.s := by rw [tickS,if_neg (by omega)]
  have htr : tickV r' = r' := by rw [tickV,if_neg (by omega)]
  have hT : tickL [] L = ⟨L.s,r',⟨[],[]⟩,⟨[],[]⟩,L.m⟩ := by
    unfold tickL
    rw [hrec]
    simp only [takeAll,hgo,hns,hts,htr,Bool.false_eq_true,if_false]
    rw [hP.a]
  refine ⟨⟨L.s,r',⟨[],[]⟩,⟨[],[]⟩,L.m⟩,?_,hst,hr3,hgot,rfl⟩
  rw [show f + 2 = (f + 1) + 1 by omega,run_go hnd,hT,run_done]
  rw [doneL]
  simp only [hst,hr3]
  rfl
end Go.Proofs.Ytcdmhigmgpflbaa.Pe.Lk


namespace Go.Proofs.Ytcdmhigmgpflbaa.Pe.Lk
open Go.Pe Go.RowKit
set_option maxRecDepth 20000
set_option maxHeartbeats 4000000
set_option linter.unusedSimpArgs false
set_option linter.unusedVariables false

def tT (bn g : Nat) : Nat → Nat
  | 0 => 0
  | i + 1 => tT bn g i + gapAt bn g i
theorem tT_closed (bn g : Nat) : ∀ i,tT bn g (i + 1) + 1 = tkN i bn (max g 1)
  | 0 => by
    have : tkN 0 bn (max g 1) = 2 := by unfold tkN; simp
    rw [this]
    show 0 + gapAt bn g 0 + 1 = 2
    rw [gapAt,if_pos (.inl rfl)]
  | i + 1 => by
    show tT bn g (i + 1) + gapAt bn g (i + 1) + 1 = _
    have h1 := tT_closed bn g i
    have h2 := tkN_step i bn (max g 1)
    have h3 : gapAt bn g (i + 1) = if bn ≠ 0 ∧ (i + 1) % bn = 0 then 1 else max g 1 := by
      unfold gapAt
      by_cases h : bn ≠ 0 ∧ (i + 1) % bn = 0
      · rw [if_pos h,if_pos (.inr ⟨by omega,h.2⟩)]
      · rw [if_neg h,if_neg (fun hh => by
          rcases hh with hh | hh
          · omega
          · exact h ⟨by omega,hh.2⟩)]
    omega
theorem reach {t : List UInt8} (h7 : 7 < t.length) (h1 : t.length ≤ 4095) {bn g : Nat} {R : Int} (hlR : (t.length : Int) ≤ R) (hbn : bn ≤ 255) (hg : g ≤ 100) {L0 : Lnk} (h0 : PAt t bn g R 0 L0) :
    ∀ i,i ≤ t.length / 7 → ∃ L,PAt t bn g R i L ∧ ∀ f,runL [] (f + tT bn g i) 0 L0 = runL [] f (tT bn g i) L
  | 0,_ => ⟨L0,h0,fun f => rfl⟩
  | i + 1,hi => by
    obtain ⟨L,p1,p2⟩ := reach h7 h1 hlR hbn hg h0 i (by omega)
    obtain ⟨L',q1,q2⟩ := part_step h7 h1 hlR hbn hg (by omega) p1
    refine ⟨L',q1,fun f => ?_⟩
    show runL [] (f + (tT bn g i + gapAt bn g i)) 0 L0 = runL [] f (tT bn g i + gapAt bn g i) L'
    rw [show f + (tT bn g i + gapAt bn g i) = (f + gapAt bn g i) + tT bn g i by omega,p2,q2]
theorem tkN_le2 (s b G : Nat) : tkN s b G ≤ 2 + s + s * G := by
  unfold tkN
  have h1 : (if b = 0 then 0 else s / b) ≤ s := by split; omega; exact Nat.div_le_self _ _
  have h2 : (s - (if b = 0 then 0 else s / b)) * G ≤ s * G := Nat.mul_le_mul_right G (by omega)
  omega
/-- A talk that loses nothing. -/
theorem play_passes {t : List UInt8} (h0 : 1 ≤ t.length) (h1 : t.length ≤ 4095) {bn g : Nat} {R : Int} (hlR : (t.length : Int) ≤ R) (hbn : bn ≤ 255) (hg : g ≤ 100) (hgr : (t.length / 7 + 1) * (g + 2) ≤ 6000) :
    ∃ s r n,playV t R bn g [] = (s,r,n) ∧ s.st = 3 ∧ r.st = 3 ∧ r.got = t ∧ (n : Int) = ticksV t.length bn g ∧ s.pos = t.length ∧ s.text = t := by
  have he : newE t = 0 := by rw [newE,if_neg (by omega),if_neg (by omega)]
  rw [playV,if_pos he]
  by_cases h7 : t.length ≤ 7
  · have hs : newS t = ⟨3,t,t.length,0,-1,0,0,0,0⟩ := by rw [newS,if_neg (by omega),if_pos h7]
    have hp : newP t = ⟨1,t.length,0,0,0,0,t⟩ := by rw [newP,if_neg (by omega),if_pos h7]
    have hq : recvV (freshR R bn g) ⟨1,t.length,0,0,0,0,t⟩ = (⟨3,t.length,t,0,0,bn,g,0,R,0⟩,Pdu.none,false) := by
      have : ¬ (freshR R bn g).room < (t.length : Int) := by show ¬ R < _; omega
      simp only [recvV,if_true,beginR,if_neg this]
      rfl
    have hst : startL t R bn g [] = ⟨⟨3,t,t.length,0,-1,0,0,0,0⟩,freshR R bn g,⟨[⟨1,t.length,0,0,0,0,t⟩],[]⟩,⟨[],[]⟩,1⟩ := by rw [startL,hs,hp,fateL_nil,putW_pass]; rfl
    have hrun : runL [] 100000 0 (startL t R bn g []) = (⟨⟨3,t,t.length,0,-1,0,0,0,0⟩,⟨3,t.length,t,0,0,bn,g,0,R,0⟩,⟨[],[]⟩,⟨[],[]⟩,1⟩,1) := by
      rw [hst]
      show runL [] (99999 + 1) 0 _ = _
      rw [run_go (by simp [doneL])]
      have ht : tickL [] ⟨⟨3,t,t.length,0,-1,0,0,0,0⟩,freshR R bn g,⟨[⟨1,t.length,0,0,0,0,t⟩],[]⟩,⟨[],[]⟩,1⟩ = ⟨⟨3,t,t.length,0,-1,0,0,0,0⟩,⟨3,t.length,t,0,0,bn,g,0,R,0⟩,⟨[],[]⟩,⟨[],[]⟩,1⟩ := by
        simp [tickL,recvAll,hq,takeAll,nextS,Snd.goes,tickS,tickV]
      rw [ht]
      show runL [] (99998 + 1) 1 _ = _
      rw [run_done (by simp [doneL])]
    rw [hrun]
    refine ⟨_,_,_,rfl,rfl,rfl,rfl,?_,rfl,rfl⟩
    rw [tk_of (by omega) h1 hbn (by omega),if_pos h7]
  have hs : newS t = ⟨1,t,6,1,-1,0,0,0,0⟩ := by rw [newS,if_neg (by omega),if_neg h7]
  have hp : newP t = ⟨2,t.length,0,0,0,0,t.take 6⟩ := by rw [newP,if_neg (by omega),if_neg h7]
  have hM : 1 ≤ t.length / 7 := by omega
  have hsnd := new_sound (t := t)
  have hP : PAt t bn g R 0 (startL t R bn g []) := by
    rw [startL,hs,hp,fateL_nil,putW_pass]
    rw [hs] at hsnd
    refine ⟨by omega,by rw [(parts_long (by omega) h1).2.1]; rfl,rfl,⟨hsnd,rfl,by rw [if_neg (by omega)]; rfl,rfl,by rw [if_neg (by omega),if_pos (.inl rfl)],fun _ => (show (0 : Int) ≤ 100 by decide),fun _ hh => absurd (.inl rfl) hh⟩,fun hh => (by cases hh),freshR R bn g,0,?_,by omega,?_,.inl rfl,rfl,rfl,rfl,fun _ hh => (by cases hh)⟩
    · rw [skR_off (show (0 : Int) ≠ 2 by decide)]
    · simp [freshR,Rcv.fine]; omega
  obtain ⟨L,p1,p2⟩ := reach (by omega) h1 hlR hbn hg hP (t.length / 7) (Nat.le_refl _)
  have hc := tT_closed bn g (t.length / 7 - 1)
  rw [show t.length / 7 - 1 + 1 = t.length / 7 by omega] at hc
  have hle := tkN_le2 (t.length / 7 - 1) bn (max g 1)
  have hle2 : (t.length / 7 - 1) * (max g 1) ≤ (t.length / 7 + 1) * (g + 2) := Nat.mul_le_mul (by omega) (by omega)
  obtain ⟨L',q1,q2,q3,q4,q5⟩ := last_step (by omega) h1 hlR p1 (100000 - tT bn g (t.length / 7) - 2) (tT bn g (t.length / 7))
  have hrun : runL [] 100000 0 (startL t R bn g []) = (L',tT bn g (t.length / 7) + 1) := by
    have := p2 (100000 - tT bn g (t.length / 7) - 2 + 2)
    rw [show 100000 - tT bn g (t.length / 7) - 2 + 2 + tT bn g (t.length / 7) = 100000 by omega] at this
    rw [this,q1]
  rw [hrun]
  refine ⟨_,_,_,rfl,q2,q3,q4,?_,?_,?_⟩
  · rw [tk_of (by omega) h1 hbn (by omega),if_neg h7]
    omega
  · rw [q5,p1.s.pos,if_pos rfl]
  · rw [q5,p1.s.text]
end Go.Proofs.Ytcdmhigmgpflbaa.Pe.Lk

