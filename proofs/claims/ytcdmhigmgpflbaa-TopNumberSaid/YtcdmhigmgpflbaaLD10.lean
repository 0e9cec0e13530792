import Derived.Test.YtcdmhigmgpflbaaLC3
import Derived.Test.YtcdmhigmgpflbaaLD4
namespace Go.Proofs.Ytcdmhigmgpflbaa.Pe.Lk
open Go.Pe Go.RowKit
set_option maxRecDepth 20000
set_option maxHeartbeats 4000000
set_option linter.unusedSimpArgs false
set_option linter.unusedVariables false

end Go.Proofs.Ytcdmhigmgpflbaa.Pe.Lk


namespace Go.Proofs.Ytcdmhigmgpflbaa.Pe.Lk
open Go.Pe Go.RowKit
set_option maxRecDepth 20000
set_option maxHeartbeats 4000000
set_option linter.unusedSimpArgs false
set_option linter.unusedVariables false

def sameCfg (a b : Rcv) : Prop := b.room = a.room ∧ b.block = a.block ∧ b.gap = a.gap
theorem cfg_recv (a r : Rcv) (p : Pdu) (h : sameCfg a r) : sameCfg a (recvV r p).1 := by
  obtain ⟨h1,h2,h3⟩ := h
  unfold recvV beginR failR freshR nextV moreR
  by_cases c1 : p.k = 1
  · rw [if_pos c1]; split <;> exact ⟨h1,h2,h3⟩
  rw [if_neg c1]
  by_cases c2 : p.k = 2
  · rw [if_pos c2]; repeat' split
    all_goals exact ⟨h1,h2,h3⟩
  rw [if_neg c2]
  by_cases c3 : p.k = 3 ∧ r.st = 2
  · rw [if_pos c3]
    by_cases c4 : p.n ≠ r.num ∨ (p.d.length : Int) ≠ (if missR r < 7 then missR r else 7)
    · rw [if_pos c4]; exact ⟨h1,h2,h3⟩
    · rw [if_neg c4]; repeat' split
      all_goals exact ⟨h1,h2,h3⟩
  · rw [if_neg c3]; exact ⟨h1,h2,h3⟩
end Go.Proofs.Ytcdmhigmgpflbaa.Pe.Lk


namespace Go.Proofs.Ytcdmhigmgpflbaa.Pe.Lk
open Go.Pe Go.RowKit
set_option maxRecDepth 20000
set_option maxHeartbeats 4000000
set_option linter.unusedSimpArgs false
set_option linter.unusedVariables false

/-- The receiver behind the first i parts of a text. -/
structure RAt (t : List UInt8) (i : Nat) (r : Rcv) : Prop where
  len : r.len = t.length
  got : r.got = if i = partsN t then t else t.take (7 * i - 1)
  st : r.st = if i = partsN t then 3 else 2
  num : 7 < t.length → r.num = ((i % 16 : Nat) : Int)
  err : r.err = 0
  clock : r.clock = 0
theorem RAt.first {t : List UInt8} (h0 : 1 ≤ t.length) (h1 : t.length ≤ 4095) {r : Rcv} (hr : (t.length : Int) ≤ r.room) : ∃ r' a,recvV r ((partsL t)[0]?.getD Pdu.none) = (r',a,decide (7 < t.length)) ∧ RAt t 1 r' ∧
    (a = if 7 < t.length then goP r else Pdu.none) ∧ (7 < t.length → r'.left = if r.block = 0 then -1 else r.block) := by
  by_cases h : t.length ≤ 7
  · have hN : partsN t = 1 := by rw [partsN,if_pos h]
    rw [parts_short h0 h]
    refine ⟨⟨3,t.length,t,0,0,r.block,r.gap,0,r.room,0⟩,Pdu.none,?_,⟨rfl,by simp [hN],by simp [hN],fun h' => by omega,rfl,rfl⟩,by rw [if_neg (by omega)],fun h' => by omega⟩
    rw [decide_eq_false (by omega)]
    simp only [List.getElem?_cons_zero,Option.getD_some,recvV,if_true,beginR]
    rw [if_neg (by omega)]
    rfl
  · obtain ⟨q1,q2,q3⟩ := parts_long (by omega : 7 < t.length) h1
    have hN : partsN t = 1 + t.length / 7 := by rw [partsN,if_neg h]
    rw [q2,decide_eq_true (by omega)]
    refine ⟨⟨2,t.length,t.take 6,1,(if r.block = 0 then -1 else r.block),r.block,r.gap,0,r.room,0⟩,goP r,?_,⟨rfl,by rw [if_neg (show ¬ (1 = partsN t) by omega)],by rw [if_neg (show ¬ (1 = partsN t) by omega)],fun _ => rfl,rfl,rfl⟩,by rw [if_pos (show 7 < t.length by omega)],fun _ => rfl⟩
    simp only [Option.getD_some,recvV,if_true,beginR]
    rw [if_neg (by decide),if_neg (by omega),if_neg (by omega)]
    rfl
theorem RAt.step {t : List UInt8} (h1 : t.length ≤ 4095) {i : Nat} {r : Rcv} (h : RAt t i r) (hi : 1 ≤ i) (hn : i < partsN t) :
    ∃ r' a b,recvV r ((partsL t)[i]?.getD Pdu.none) = (r',a,b) ∧ RAt t (i + 1) r' ∧ b = (decide (i + 1 ≠ partsN t) && decide (0 ≤ r.left) && decide (r.left ≤ 1)) ∧ (a = if b = true then goP r else Pdu.none) ∧
      r'.left = (if i + 1 = partsN t then r.left else if r.left < 0 then r.left else if 1 < r.left then r.left - 1 else r.block) ∧ sameCfg r r' := by
  have hl : ¬ t.length ≤ 7 := by intro h'; rw [partsN,if_pos h'] at hn; omega
  obtain ⟨q1,q2,q3⟩ := parts_long (by omega : 7 < t.length) h1
  have hN : partsN t = 1 + t.length / 7 := by rw [partsN,if_neg hl]
  have hp := q3 i hi hn
  have hst : r.st = 2 := by rw [h.st,if_neg (by omega)]
  have hnum := h.num (by omega)
  have hgot : r.got = t.take (7 * i - 1) := by rw [h.got,if_neg (by omega)]
  have hgl : r.got.length = 7 * i - 1 := by rw [hgot]; simp; omega
  have hmiss : missR r = t.length - (7 * i - 1 : Nat) := by rw [missR,h.len,hgl]
  have hdl : ((t.drop (7 * i - 1)).take 7).length = min 7 (t.length - (7 * i - 1)) := by simp
  have hlim : (((t.drop (7 * i - 1)).take 7).length : Int) = if missR r < 7 then missR r else 7 := by
    rw [hdl,hmiss]
    split <;> omega
  have hnm : ((i % 16 : Nat) : Int) = r.num := hnum.symm
  have hm : (r.num + 1).tmod 16 = (((i + 1) % 16 : Nat) : Int) := by
    rw [hnum]
    have : i % 16 < 16 := Nat.mod_lt _ (by omega)
    have e : (((i % 16 : Nat) : Int) + 1) = ((i % 16 + 1 : Nat) : Int) := by omega
    rw [e,Int.tmod_eq_emod_of_nonneg (by omega)]
    omega
  have happ : r.got ++ (t.drop (7 * i - 1)).take 7 = t.take (7 * (i + 1) - 1) := by
    rw [hgot,← List.take_add]
    congr 1
    omega
  have hlast : i + 1 = partsN t → t.take (7 * (i + 1) - 1) = t := fun e => List.take_of_length_le (by omega)
  have hend : (((t.drop (7 * i - 1)).take 7).length : Int) = missR r ↔ i + 1 = partsN t := by
    rw [hdl,hmiss,hN]
    omega
  rw [hp]
  simp only [Option.getD_some]
  rw [recvV,if_neg (show ¬ ((3 : Int) = 1) by decide),if_neg (show ¬ ((3 : Int) = 2) by decide),if_pos ⟨rfl,hst⟩]
  unfold nextV
  rw [if_neg (by rintro (h' | h'); exact h' hnm; exact h' hlim)]
  simp only
  by_cases he : i + 1 = partsN t
  · rw [if_pos (hend.2 he)]
    refine ⟨_,_,_,rfl,⟨h.len,?_,?_,fun _ => hm,h.err,rfl⟩,by simp [he],rfl,by rw [if_pos he]; rfl,⟨rfl,rfl,rfl⟩⟩
    · rw [if_pos he]; exact happ.trans (hlast he)
    · rw [if_pos he]
  · rw [if_neg (fun h' => he (hend.1 h'))]
    have hgo : ∀ r' : Rcv,r'.len = r.len → r'.got = r.got ++ (t.drop (7 * i - 1)).take 7 → r'.st = r.st → r'.num = (r.num + 1).tmod 16 → r'.err = r.err → r'.clock = 0 → RAt t (i + 1) r' := by
      intro r' e1 e2 e3 e4 e5 e6
      exact ⟨e1.trans h.len,by rw [if_neg he,e2,happ],by rw [if_neg he,e3,hst],fun _ => e4.trans hm,e5.trans h.err,e6⟩
    by_cases hl0 : r.left < 0
    · rw [if_pos hl0]
      refine ⟨_,_,_,rfl,hgo _ rfl rfl rfl rfl rfl rfl,?_,rfl,by rw [if_neg he,if_pos hl0]; rfl,⟨rfl,rfl,rfl⟩⟩
      rw [decide_eq_false (by omega : ¬ 0 ≤ r.left)]
      simp
    · rw [if_neg hl0]
      by_cases hl1 : 1 < r.left
      · rw [if_pos hl1]
        refine ⟨_,_,_,rfl,hgo _ rfl rfl rfl rfl rfl rfl,?_,rfl,by rw [if_neg he,if_neg hl0,if_pos hl1],⟨rfl,rfl,rfl⟩⟩
        rw [decide_eq_false (by omega : ¬ r.left ≤ 1)]
        simp
      · rw [if_neg hl1]
        refine ⟨_,_,_,rfl,hgo _ rfl rfl rfl rfl rfl rfl,?_,rfl,by rw [if_neg he,if_neg hl0,if_neg hl1],⟨rfl,rfl,rfl⟩⟩
        rw [decide_eq_true (by omega : 0 ≤ r.left),decide_eq_true (by omega : r.left ≤ 1),decide_eq_true he]
        rfl
end Go.Proofs.Ytcdmhigmgpflbaa.Pe.Lk


namespace Go.Proofs.Ytcdmhigmgpflbaa.Pe.Lk
open Go.Pe Go.RowKit
set_option maxRecDepth 20000
set_option maxHeartbeats 4000000
set_option linter.unusedSimpArgs false
set_option linter.unusedVariables false

end Go.Proofs.Ytcdmhigmgpflbaa.Pe.Lk


namespace Go.Proofs.Ytcdmhigmgpflbaa.Pe.Lk
open Go.Pe Go.RowKit
set_option maxRecDepth 20000
set_option maxHeartbeats 4000000
set_option linter.unusedSimpArgs false
set_option linter.unusedVariables false

/-- A receiver behind k ticks more. -/
def skR (k : Nat) (r : Rcv) : Rcv := if r.st = 2 then (if k ≤ 100 then { r with clock := k } else failR { r with clock := 101 } 181) else r
theorem skR_zero {r : Rcv} (h : r.clock = 0) : skR 0 r = r := by
  obtain ⟨st,len,got,num,left,block,gap,clock,room,err⟩ := r
  simp only at h
  subst h
  unfold skR
  split
  · rfl
  · rfl
theorem skR_tick (k : Nat) (r : Rcv) : tickV (skR k r) = skR (k + 1) r := by
  unfold skR
  by_cases h : r.st = 2
  · rw [if_pos h,if_pos h]
    by_cases hk : k + 1 ≤ 100
    · rw [if_pos (by omega),if_pos hk]
      have : IntKind.wrap .i64 ((k : Int) + 1) = ((k + 1 : Nat) : Int) := wrapIN (by omega)
      simp only [tickV,h,if_true,this]
      rw [if_neg (by omega)]
    · rw [if_neg hk]
      by_cases hk' : k ≤ 100
      · have e : k = 100 := by omega
        subst e
        rw [if_pos hk']
        have : IntKind.wrap .i64 (((100 : Nat) : Int) + 1) = 101 := by decide
        simp only [tickV,h,if_true,this]
        rfl
      · rw [if_neg hk']
        rfl
  · rw [if_neg h,if_neg h,tickV,if_neg h]
theorem skR_off {r : Rcv} (h : r.st ≠ 2) (k : Nat) : skR k r = r := by rw [skR,if_neg h]
theorem nextV_clock {r : Rcv} {p : Pdu} {k : Int} (h : ¬ (p.n ≠ r.num ∨ (p.d.length : Int) ≠ (if missR r < 7 then missR r else 7))) : nextV { r with clock := k } p = nextV r p := by
  have h' : ¬ (p.n ≠ ({ r with clock := k } : Rcv).num ∨ (p.d.length : Int) ≠ (if missR { r with clock := k } < 7 then missR { r with clock := k } else 7)) := h
  rw [nextV,if_neg h',nextV,if_neg h]
  rfl
theorem recv_sk {t : List UInt8} {i k : Nat} {r : Rcv} (h1 : t.length ≤ 4095) (h : RAt t i r) (hi : 1 ≤ i) (hn : i < partsN t) (hk : k ≤ 100) : recvV (skR k r) ((partsL t)[i]?.getD Pdu.none) = recvV r ((partsL t)[i]?.getD Pdu.none) := by
  obtain ⟨r',a,b,q1,q2,q3⟩ := h.step h1 hi hn
  have h7 : 7 < t.length := by unfold partsN at hn; split at hn <;> omega
  have hp := (parts_long h7 h1).2.2 i hi hn
  rw [hp] at q1 ⊢
  simp only [Option.getD_some] at q1 ⊢
  have hst : r.st = 2 := by rw [h.st,if_neg (by omega)]
  rw [skR,if_pos hst,if_pos hk]
  rw [recvV,if_neg (show ¬ ((3 : Int) = 1) by decide),if_neg (show ¬ ((3 : Int) = 2) by decide),if_pos ⟨rfl,hst⟩] at q1
  rw [recvV,if_neg (show ¬ ((3 : Int) = 1) by decide),if_neg (show ¬ ((3 : Int) = 2) by decide),if_pos ⟨rfl,hst⟩,recvV,if_neg (show ¬ ((3 : Int) = 1) by decide),if_neg (show ¬ ((3 : Int) = 2) by decide),if_pos ⟨rfl,hst⟩]
  have hne : ¬ ((⟨3,0,((i % 16 : Nat) : Int),0,0,0,(t.drop (7 * i - 1)).take 7⟩ : Pdu).n ≠ r.num ∨ (((⟨3,0,((i % 16 : Nat) : Int),0,0,0,(t.drop (7 * i - 1)).take 7⟩ : Pdu).d.length : Nat) : Int) ≠ (if missR r < 7 then missR r else 7)) := by
    intro hc
    rw [nextV,if_pos hc] at q1
    have := congrArg (fun x => x.1.err) q1
    have e2 := q2.err
    simp only [failR] at this
    omega
  exact nextV_clock hne
end Go.Proofs.Ytcdmhigmgpflbaa.Pe.Lk


namespace Go.Proofs.Ytcdmhigmgpflbaa.Pe.Lk
open Go.Pe Go.RowKit
set_option maxRecDepth 20000
set_option maxHeartbeats 4000000
set_option linter.unusedSimpArgs false
set_option linter.unusedVariables false

theorem succ_mod' {n : Nat} (m : Nat) (hn : 0 < n) : (m + 1) % n = if m % n + 1 = n then 0 else m % n + 1 := by
  have h := Nat.div_add_mod m n
  have hlt := Nat.mod_lt m hn
  generalize m % n = q at *
  generalize m / n = d at *
  subst h
  split
  · rename_i e
    have : n * d + q + 1 = n * (d + 1) := by rw [Nat.mul_add]; omega
    rw [this,Nat.mul_mod_right]
  · rw [Nat.add_assoc,Nat.mul_add_mod,Nat.mod_eq_of_lt (by omega)]
/-- How many parts are left of a block behind i parts. -/
def leftAt (bn i : Nat) : Int := if bn = 0 then -1 else (bn : Int) - ((i - 1) % bn : Nat)
def WAt (t : List UInt8) (bn i : Nat) (r : Rcv) : Prop := i = 0 ∨ (1 ≤ i ∧ RAt t i r ∧ (i < partsN t → r.left = leftAt bn i))
end Go.Proofs.Ytcdmhigmgpflbaa.Pe.Lk

