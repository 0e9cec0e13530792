import Derived.Test.YtpnhnobnjcknjaaE10a
import Derived.Test.YtpnhnobnjcknjaaD10
namespace Go.Proofs.Ytpnhnobnjcknjaa.Pe
open Go.Pe Go.RowKit
set_option maxRecDepth 20000
set_option maxHeartbeats 4000000
set_option linter.unusedSimpArgs false
set_option linter.unusedVariables false

theorem pass_step {t : List UInt8} (h0 : 1 ≤ t.length) (h1 : t.length ≤ 4095) {bn i : Nat} {r : Rcv} {g R : Int} (hlR : (t.length : Int) ≤ R) (hroom : r.room = R) (hb : r.block = bn) (hg : r.gap = g) (hW : WAt t bn i r) (hi : i < partsN t) :
    ∃ r' a b, recvV r ((partsL t)[i]?.getD Pdu.none) = (r', a, b) ∧ WAt t bn (i + 1) r' ∧ (r'.room = R ∧ r'.block = bn ∧ r'.gap = g) ∧ (b = true ↔ i + 1 < partsN t ∧ (i = 0 ∨ (0 < bn ∧ i % bn = 0))) ∧ a = (if b = true then ⟨4, 0, 0, 0, bn, g, []⟩ else Pdu.none) ∧ (r'.st = 3 ↔ i + 1 = partsN t) := by
  have hgo : goP r = ⟨4, 0, 0, 0, bn, g, []⟩ := by rw [goP, hb, hg]
  rcases hW with rfl | ⟨hi1, hR, hL⟩
  · obtain ⟨r', a, q1, q2, q3, q4⟩ := RAt.first h0 h1 (r := r) (by omega)
    have hN : 7 < t.length ↔ 0 + 1 < partsN t := by unfold partsN; split <;> omega
    have hc : r'.room = r.room ∧ r'.block = r.block ∧ r'.gap = r.gap := by
      have := cfg_recv r r ((partsL t)[0]?.getD Pdu.none) ⟨rfl, rfl, rfl⟩
      rw [q1] at this
      exact this
    refine ⟨r', a, _, q1, .inr ⟨by omega, q2, fun h => ?_⟩, ⟨by rw [hc.1, hroom], by rw [hc.2.1, hb], by rw [hc.2.2, hg]⟩, by rw [decide_eq_true_eq, hN]; simp, by rw [q3, hgo]; simp, ?_⟩
    · rw [q4 (hN.2 h), leftAt, hb]
      by_cases hz : bn = 0
      · rw [if_pos (by omega), if_pos hz]
      · rw [if_neg (by omega), if_neg hz]
        simp
    · rw [q2.st]
      split <;> omega
  · obtain ⟨r', a, b, q1, q2, q3, q4, q5, q6⟩ := hR.step h1 hi1 hi
    have hl := hL hi
    have hlt : r.left = leftAt bn i := hl
    refine ⟨r', a, b, q1, .inr ⟨by omega, q2, fun h => ?_⟩, ⟨by rw [q6.1, hroom], by rw [q6.2.1, hb], by rw [q6.2.2, hg]⟩, ?_, by rw [q4, hgo], ?_⟩
    · rw [q5, if_neg (by omega), hl]
      unfold leftAt
      by_cases hz : bn = 0
      · simp [hz]
      · rw [if_neg hz, if_neg hz]
        have hm := succ_mod' (n := bn) (i - 1) (by omega)
        rw [show i - 1 + 1 = i by omega] at hm
        rw [show i + 1 - 1 = i by omega, hm, hb]
        have := Nat.mod_lt (i - 1) (show 0 < bn by omega)
        generalize (i - 1) % bn = q at *
        split <;> split <;> (try split) <;> omega
    · rw [q3, hl]
      unfold leftAt
      by_cases hz : bn = 0
      · simp [hz]; omega
      · rw [if_neg hz]
        have hm := succ_mod' (n := bn) (i - 1) (by omega)
        rw [show i - 1 + 1 = i by omega] at hm
        have := Nat.mod_lt (i - 1) (show 0 < bn by omega)
        rw [hm]
        generalize (i - 1) % bn = q at *
        simp only [Bool.and_eq_true, decide_eq_true_eq]
        split <;> omega
    · rw [q2.st]
      split <;> omega

/-- Whether a Go comes behind part i. -/
abbrev againAt (bn i : Nat) : Prop := i = 0 ∨ (0 < bn ∧ i % bn = 0)
/-- The sender that has sent part i, and waits for clock ticks since. -/
structure SAt (t : List UInt8) (bn g i : Nat) (s : Snd) : Prop where
  sound : s.sound
  text : s.text = t
  pos : s.pos = if i = t.length / 7 then (t.length : Int) else ((7 * i + 6 : Nat) : Int)
  num : s.num = (((i + 1) % 16 : Nat) : Int)
  st : s.st = if i = t.length / 7 then 3 else if againAt bn i then 1 else 2
  clock : s.st = 1 → s.clock ≤ 100
  going : i < t.length / 7 → ¬ againAt bn i → s.gap = g ∧ s.left = (if bn = 0 then -1 else ((bn - i % bn : Nat) : Int))
theorem send_at {t : List UInt8} (h7 : 7 < t.length) (h1 : t.length ≤ 4095) {bn g i : Nat} (hbn : bn ≤ 255) (hg : g ≤ 100) {s : Snd} (hi : i < t.length / 7) (hs : s.sound) (htx : s.text = t) (hp : s.pos = ((7 * i + 6 : Nat) : Int)) (hn : s.num = (((i + 1) % 16 : Nat) : Int))
    (hst : s.st = 2) (hgap : s.gap = g) (hcl : (g : Int) ≤ s.clock) (hleft : s.left = (if bn = 0 then -1 else ((bn - i % bn : Nat) : Int))) :
    s.goes = true ∧ (partsL t)[i + 1]? = some (nextP s) ∧ SAt t bn g (i + 1) (nextS s) ∧ (nextS s).clock = 0 := by
  have hgo : s.goes = true := by simp [Snd.goes, hst, hgap]; omega
  have hN : partsN t = 1 + t.length / 7 := by rw [partsN, if_neg (by omega)]
  have hto : nextTo s = if i + 1 = t.length / 7 then (t.length : Int) else ((7 * (i + 1) + 6 : Nat) : Int) := by
    simp only [nextTo, htx, hp]
    by_cases e : i + 1 = t.length / 7
    · rw [if_pos e]; split <;> omega
    · rw [if_neg e]; split <;> omega
  have hend : nextTo s = (t.length : Int) ↔ i + 1 = t.length / 7 := by
    rw [hto]
    split <;> omega
  have hm : i % bn < bn ∨ bn = 0 := by
    by_cases hb : bn = 0
    · exact .inr hb
    · exact .inl (Nat.mod_lt _ (by omega))
  have hsn := next_sound hs
  refine ⟨hgo, ?_, ?_, by rw [nextS, if_pos hgo]⟩
  · rw [(parts_long h7 h1).2.2 (i + 1) (by omega) (by omega), nextP, if_pos hgo]
    congr 1
    have hd : (s.text.take (nextTo s).toNat).drop s.pos.toNat = (t.drop (7 * (i + 1) - 1)).take 7 := by
      rw [htx, hp, List.drop_take]
      have e1 : ((7 * i + 6 : Nat) : Int).toNat = 7 * (i + 1) - 1 := by omega
      rw [e1, hto]
      by_cases e : i + 1 = t.length / 7
      · rw [if_pos e, List.take_of_length_le (by first | (simp; done) | (simp; omega)), List.take_of_length_le (by first | (simp; done) | (simp; omega))]
      · rw [if_neg e]
        congr 1
        omega
    rw [hd, hn]
  · have hw1 : IntKind.wrap .i64 (s.num + 1) = s.num + 1 := wrapI64 (by omega)
    have hnum : nextN s = (((i + 1 + 1) % 16 : Nat) : Int) := by
      unfold nextN
      rw [hw1, hn, show (((i + 1) % 16 : Nat) : Int) + 1 = (((i + 1) % 16 + 1 : Nat) : Int) by omega]
      show ((((i + 1) % 16 + 1) % 16 : Nat) : Int) = _
      omega
    have hsl : (s.text.length : Int) = t.length := by rw [htx]
    rw [nextS, if_pos hgo] at hsn ⊢
    refine ⟨hsn, htx, hto, hnum, ?_, fun _ => (show (0 : Int) ≤ 100 by decide), fun hlt hna => ⟨hgap, ?_⟩⟩
    · show nextT s = _
      unfold nextT
      rw [hsl]
      by_cases e : i + 1 = t.length / 7
      · rw [if_pos (hend.2 e), if_pos e]
      · rw [if_neg (fun h => e (hend.1 h)), if_neg e]
        by_cases hb : bn = 0
        · rw [hleft, if_pos hb, if_pos rfl, hst, if_neg (by omega)]
        · have hsm := succ_mod' (n := bn) i (by omega)
          have hlv : s.left = ((bn - i % bn : Nat) : Int) := by rw [hleft, if_neg hb]
          have hw2 : IntKind.wrap .i64 (s.left - 1) = s.left - 1 := wrapI64 (by omega)
          rw [if_neg (by omega), hw2]
          by_cases hz : (i + 1) % bn = 0
          · have : i % bn + 1 = bn := by
              apply Classical.byContradiction
              intro hh
              rw [if_neg hh] at hsm
              omega
            rw [if_pos (show s.left - 1 = 0 by omega), if_pos (show i + 1 = 0 ∨ (0 < bn ∧ (i + 1) % bn = 0) from .inr ⟨by omega, hz⟩)]
          · have : ¬ i % bn + 1 = bn := by
              intro hh
              rw [if_pos hh] at hsm
              omega
            rw [if_neg (show ¬ (s.left - 1 = 0) by omega), if_neg (show ¬ (i + 1 = 0 ∨ (0 < bn ∧ (i + 1) % bn = 0)) by omega), hst]
    · show nextL s = _
      unfold nextL
      rw [hsl, if_neg (fun h => by have := hend.1 h; omega)]
      by_cases hb : bn = 0
      · rw [hleft, if_pos hb, if_pos rfl, if_pos hb]
      · have hsm := succ_mod' (n := bn) i (by omega)
        have hlv : s.left = ((bn - i % bn : Nat) : Int) := by rw [hleft, if_neg hb]
        have hw2 : IntKind.wrap .i64 (s.left - 1) = s.left - 1 := wrapI64 (by omega)
        rw [if_neg (by omega), hw2, if_neg hb]
        have : ¬ i % bn + 1 = bn := by
          intro hh
          rw [if_pos hh] at hsm
          exact hna (.inr ⟨by omega, hsm⟩)
        rw [if_neg this] at hsm
        omega
end Go.Proofs.Ytpnhnobnjcknjaa.Pe
