import Derived.Test.YtcdmhigmgpflbaaLC3
import Derived.Test.YtcdmhigmgpflbaaLC7
namespace Go.Proofs.Ytcdmhigmgpflbaa.Pe.Lk
open Go.Pe Go.RowKit
set_option maxRecDepth 20000
set_option maxHeartbeats 4000000
set_option linter.unusedSimpArgs false
set_option linter.unusedVariables false

abbrev Pdu.cells (p : Pdu) : List PV := [PI p.k,PI p.l,PI p.n,PI p.s,PI p.b,PI p.g,bytesPV p.d]
abbrev pduRows (l : List Pdu) : List (List PV) := l.map Pdu.cells
/-- The parts behind the head. -/
def nexts : Nat → Int → List UInt8 → List Pdu
  | 0,_,_ => []
  | f + 1,num,d => if d = [] then [] else ⟨3,0,num,0,0,0,d.take 7⟩ :: nexts f ((num + 1).tmod 16) (d.drop 7)
def partsL (b : List UInt8) : List Pdu :=
  if b.length = 0 ∨ 4095 < b.length then [] else if b.length ≤ 7 then [⟨1,b.length,0,0,0,0,b⟩] else ⟨2,b.length,0,0,0,0,b.take 6⟩ :: nexts b.length 1 (b.drop 6)
theorem pduRows_length (l : List Pdu) : (pduRows l).length = l.length := by simp [pduRows]
end Go.Proofs.Ytcdmhigmgpflbaa.Pe.Lk


namespace Go.Proofs.Ytcdmhigmgpflbaa.Pe.Lk
open Go.Pe Go.RowKit
set_option maxRecDepth 20000
set_option maxHeartbeats 4000000
set_option linter.unusedSimpArgs false
set_option linter.unusedVariables false

theorem nexts_fuel : ∀ (f g : Nat) (num : Int) (d : List UInt8),d.length ≤ f → d.length ≤ g → nexts f num d = nexts g num d
  | 0,g,num,d,h1,h2 => by
    have : d = [] := List.eq_nil_of_length_eq_zero (by omega)
    subst this
    cases g <;> simp [nexts]
  | f + 1,0,num,d,h1,h2 => by
    have : d = [] := List.eq_nil_of_length_eq_zero (by omega)
    subst this
    simp [nexts]
  | f + 1,g + 1,num,d,h1,h2 => by
    simp only [nexts]
    split
    · rfl
    · rename_i hd
      have : 0 < d.length := List.length_pos_iff.2 hd
      rw [nexts_fuel f g _ (d.drop 7) (by simp; omega) (by simp; omega)]

theorem nexts_cons' {f : Nat} {num : Int} {d : List UInt8} (hd : d ≠ []) (hf : d.length ≤ f) : nexts f num d = ⟨3,0,num,0,0,0,d.take 7⟩ :: nexts f ((num + 1).tmod 16) (d.drop 7) := by
  have : 0 < d.length := List.length_pos_iff.2 hd
  obtain ⟨g,rfl⟩ : ∃ g,f = g + 1 := ⟨f - 1,by omega⟩
  show (if d = [] then [] else (⟨3,0,num,0,0,0,d.take 7⟩ : Pdu) :: nexts g ((num + 1).tmod 16) (d.drop 7)) = _
  rw [if_neg hd,nexts_fuel g (g + 1) _ _ (by simp; omega) (by simp; omega)]
theorem nexts_nil' (f : Nat) (num : Int) : nexts f num [] = [] := by cases f <;> simp [nexts]
theorem nexts_all : ∀ (n f : Nat) (num : Nat) (d : List UInt8),d.length ≤ n → d.length ≤ f → (nexts f ((num % 16 : Nat) : Int) d).length = (d.length + 6) / 7 ∧
    ∀ i,i < (nexts f ((num % 16 : Nat) : Int) d).length → (nexts f ((num % 16 : Nat) : Int) d)[i]? = some ⟨3,0,(((num + i) % 16 : Nat) : Int),0,0,0,(d.drop (7 * i)).take 7⟩
  | 0,f,num,d,hn,hf => by
    have : d = [] := List.eq_nil_of_length_eq_zero (by omega)
    subst this
    rw [nexts_nil']
    simp
  | n + 1,f,num,d,hn,hf => by
    by_cases hd : d = []
    · subst hd
      rw [nexts_nil']
      simp
    · have h0 : 0 < d.length := List.length_pos_iff.2 hd
      have hm : (((num % 16 : Nat) : Int) + 1).tmod 16 = (((num + 1) % 16 : Nat) : Int) := by
        have : num % 16 < 16 := Nat.mod_lt _ (by omega)
        have e : (((num % 16 : Nat) : Int) + 1) = ((num % 16 + 1 : Nat) : Int) := by omega
        rw [e,Int.tmod_eq_emod_of_nonneg (by omega)]
        omega
      rw [nexts_cons' hd hf,hm]
      obtain ⟨q1,q2⟩ := nexts_all n f (num + 1) (d.drop 7) (by simp; omega) (by simp; omega)
      refine ⟨by rw [List.length_cons,q1]; simp; omega,fun i hi => ?_⟩
      cases i with
      | zero => simp
      | succ i =>
        rw [List.getElem?_cons_succ,q2 i (by simpa using hi),List.drop_drop]
        have e1 : num + 1 + i = num + (i + 1) := by omega
        have e2 : 7 + 7 * i = 7 * (i + 1) := by omega
        rw [e1,e2]
/-- How many parts a text has. -/
def partsN (t : List UInt8) : Nat := if t.length ≤ 7 then 1 else 1 + t.length / 7
theorem parts_long {t : List UInt8} (h0 : 7 < t.length) (h1 : t.length ≤ 4095) : (partsL t).length = partsN t ∧ (partsL t)[0]? = some ⟨2,t.length,0,0,0,0,t.take 6⟩ ∧
    ∀ i,1 ≤ i → i < partsN t → (partsL t)[i]? = some ⟨3,0,((i % 16 : Nat) : Int),0,0,0,(t.drop (7 * i - 1)).take 7⟩ := by
  have hL : partsL t = ⟨2,t.length,0,0,0,0,t.take 6⟩ :: nexts t.length ((1 % 16 : Nat) : Int) (t.drop 6) := by rw [partsL,if_neg (by omega),if_neg (by omega)]; rfl
  obtain ⟨q1,q2⟩ := nexts_all t.length t.length 1 (t.drop 6) (by simp) (by simp)
  have hn : partsN t = 1 + t.length / 7 := by rw [partsN,if_neg (by omega)]
  have hlen : (nexts t.length ((1 % 16 : Nat) : Int) (t.drop 6)).length = t.length / 7 := by rw [q1]; simp; omega
  rw [hL,hn]
  refine ⟨by rw [List.length_cons,hlen]; omega,rfl,fun i hi1 hi2 => ?_⟩
  obtain ⟨j,rfl⟩ : ∃ j,i = j + 1 := ⟨i - 1,by omega⟩
  rw [List.getElem?_cons_succ,q2 j (by rw [hlen]; omega),List.drop_drop]
  have e1 : 1 + j = j + 1 := by omega
  have e2 : 6 + 7 * j = 7 * (j + 1) - 1 := by omega
  rw [e1,e2]
theorem parts_short {t : List UInt8} (h0 : 1 ≤ t.length) (h1 : t.length ≤ 7) : partsL t = [⟨1,t.length,0,0,0,0,t⟩] := by rw [partsL,if_neg (by omega),if_pos h1]
theorem parts_len {t : List UInt8} (h0 : 1 ≤ t.length) (h1 : t.length ≤ 4095) : (partsL t).length = partsN t := by
  by_cases h : t.length ≤ 7
  · rw [parts_short h0 h,partsN,if_pos h]; rfl
  · exact (parts_long (by omega) h1).1
theorem parts_right {t : List UInt8} (h0 : 1 ≤ t.length) (h1 : t.length ≤ 4095) : ∀ p ∈ partsL t,p.right = true := by
  by_cases h : t.length ≤ 7
  · rw [parts_short h0 h]
    intro p hp
    simp at hp
    subst hp
    simp [Pdu.right,z4]
    omega
  · obtain ⟨q1,q2,q3⟩ := parts_long (by omega : 7 < t.length) h1
    intro p hp
    obtain ⟨i,hi,rfl⟩ := List.getElem_of_mem hp
    have hi' := hi
    rw [q1] at hi'
    cases i with
    | zero =>
      rw [List.getElem?_eq_getElem hi] at q2
      simp only [Option.some.injEq] at q2
      rw [q2]
      simp [Pdu.right,z4]
      omega
    | succ i =>
      have := q3 (i + 1) (by omega) hi'
      rw [List.getElem?_eq_getElem hi] at this
      simp only [Option.some.injEq] at this
      rw [this]
      have hm : (i + 1) % 16 < 16 := Nat.mod_lt _ (by omega)
      rw [partsN,if_neg h] at hi'
      simp [Pdu.right,z4]
      omega
end Go.Proofs.Ytcdmhigmgpflbaa.Pe.Lk


namespace Go.Proofs.Ytcdmhigmgpflbaa.Pe.Lk
open Go.Pe Go.RowKit
set_option maxRecDepth 20000
set_option maxHeartbeats 4000000
set_option linter.unusedSimpArgs false
set_option linter.unusedVariables false

end Go.Proofs.Ytcdmhigmgpflbaa.Pe.Lk


namespace Go.Proofs.Ytcdmhigmgpflbaa.Pe.Lk
open Go.Pe Go.RowKit
set_option maxRecDepth 20000
set_option maxHeartbeats 4000000
set_option linter.unusedSimpArgs false
set_option linter.unusedVariables false

abbrev Snd.cells (s : Snd) : List PV := [PI s.st,bytesPV s.text,PI s.pos,PI s.num,PI s.left,PI s.gap,PI s.clock,PI s.waits,PI s.err]
def Snd.fine (s : Snd) : Prop := s.ok ∧ s.left ≤ 255 ∧ (s.st = 2 → s.left = -1 ∨ 1 ≤ s.left)
theorem take_fine {s : Snd} (h : s.fine) (p : Pdu) : (takeS s p).fine := by
  obtain ⟨⟨h1,h2,h3⟩,h5,h4⟩ := h
  unfold takeS
  by_cases ht : s.takes p = true
  · rw [if_pos ht]
    have hR : p.right = true := by simp [Snd.takes] at ht; exact ht.2
    have hk : p.k = 4 := by simp [Snd.takes] at ht; exact ht.1.2
    have hb : 0 ≤ p.b ∧ p.b ≤ 255 := by simp [Pdu.right,hk] at hR; omega
    split
    · exact ⟨⟨h1,h2,h3⟩,h5,by simp⟩
    · split
      · split
        · exact ⟨⟨h1,h2,h3⟩,h5,by simp⟩
        · exact ⟨⟨h1,h2,h3⟩,h5,h4⟩
      · refine ⟨⟨h1,h2,h3⟩,?_,fun _ => ?_⟩
        · simp only
          split <;> omega
        · simp only
          split <;> omega
  · rw [if_neg ht]
    exact ⟨⟨h1,h2,h3⟩,h5,h4⟩
theorem tick_fine {s : Snd} (h : s.fine) : (tickS s).fine := by
  obtain ⟨⟨h1,h2,h3⟩,h5,h4⟩ := h
  unfold tickS
  split
  · generalize (if 1099511627776 < IntKind.wrap .i64 (s.clock + 1) then 1099511627776 else IntKind.wrap .i64 (s.clock + 1)) = c
    simp only
    split
    · exact ⟨⟨h1,h2,h3⟩,h5,by simp⟩
    · exact ⟨⟨h1,h2,h3⟩,h5,h4⟩
  · exact ⟨⟨h1,h2,h3⟩,h5,h4⟩
theorem next_fine {s : Snd} (h : s.fine) : (nextS s).fine := by
  obtain ⟨⟨h1,h2,h3⟩,h5,h4⟩ := h
  unfold nextS
  split
  · rename_i hg
    have hst : s.st = 2 := by simp [Snd.goes] at hg; exact hg.1
    have hl := h4 hst
    have hw : IntKind.wrap .i64 (s.left - 1) = s.left - 1 := wrapI64 (by omega)
    have hto : 0 ≤ nextTo s ∧ nextTo s ≤ s.text.length := by simp only [nextTo]; split <;> omega
    refine ⟨⟨hto.1,hto.2,h3⟩,?_,fun h => ?_⟩
    · simp only [nextL,hw]
      repeat' split
      all_goals omega
    · simp only [nextT,nextL,hw] at h ⊢
      repeat' split at h
      all_goals first | omega | skip
      all_goals (repeat' split) <;> omega
  · exact ⟨⟨h1,h2,h3⟩,h5,h4⟩
end Go.Proofs.Ytcdmhigmgpflbaa.Pe.Lk

