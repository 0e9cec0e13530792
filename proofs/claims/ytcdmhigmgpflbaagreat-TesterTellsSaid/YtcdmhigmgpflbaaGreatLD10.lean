import Derived.Test.YtcdmhigmgpflbaaGreatLC3
import Derived.Test.YtcdmhigmgpflbaaGreatLD4
set_option maxRecDepth 20000
set_option maxHeartbeats 4000000
set_option linter.unusedSimpArgs false
set_option linter.unusedVariables false
namespace Go.Proofs.YtcdmhigmgpflbaaGreat.Pe.Lk
open Go.Pe Go.RowKit
end Go.Proofs.YtcdmhigmgpflbaaGreat.Pe.Lk
namespace Go.Proofs.YtcdmhigmgpflbaaGreat.Pe.Lk
open Go.Pe Go.RowKit
def sameCfg (a b : Rcv) : Prop := b.room = a.room ∧ b.block = a.block ∧ b.gap = a.gap
end Go.Proofs.YtcdmhigmgpflbaaGreat.Pe.Lk
namespace Go.Proofs.YtcdmhigmgpflbaaGreat.Pe.Lk
open Go.Pe Go.RowKit
structure RAt (t : List UInt8) (i : Nat) (r : Rcv) : Prop where
  len : r.len = t.length
  got : r.got = if i = partsN t then t else t.take (7 * i - 1)
  st : r.st = if i = partsN t then 3 else 2
  num : 7 < t.length → r.num = ((i % 16 : Nat) : Int)
  err : r.err = 0
  clock : r.clock = 0
theorem RAt.first {t : List UInt8} (h0 : 1 ≤ t.length) (h1 : t.length ≤ 4095) {r : Rcv} (hr : (t.length : Int) ≤ r.room) : ∃ r' a,recvV r ((partsL t)[0]?.getD Pdu.none) = (r',a,decide (7 < t.length)) ∧ RAt t 1 r' ∧
    (a = if 7 < t.length then goP r else Pdu.none) ∧ (7 < t.length → r'.left = if r.block = 0 then -1 else r.block) := by
  by_cases h : t.length ≤ 7
  · have hN : partsN t = 1 := by rw [partsN,if_pos h]
    rw [parts_short h0 h]
    refine ⟨⟨3,t.length,t,0,0,r.block,r.gap,0,r.room,0⟩,Pdu.none,?_,⟨rfl,by simp [hN],by simp [hN],fun h' => by omega,rfl,rfl⟩,by rw [if_neg (by omega)],fun h' => by omega⟩
    rw [decide_eq_false (by omega)]
    simp only [List.getElem?_cons_zero,Option.getD_some,recvV,if_true,beginR]
    rw [if_neg (by omega)]
    rfl
  · obtain ⟨q1,q2,q3⟩ := parts_long (by omega : 7 < t.length) h1
    have hN : partsN t = 1 + t.length / 7 := by rw [partsN,if_neg h]
    rw [q2,decide_eq_true (by omega)]
    refine ⟨⟨2,t.length,t.take 6,1,(if r.block = 0 then -1 else r.block),r.block,r.gap,0,r.room,0⟩,goP r,?_,⟨rfl,by rw [if_neg (show ¬ (1 = partsN t) by omega)],by rw [if_neg (show ¬ (1 = partsN t) by omega)],fun _ => rfl,rfl,rfl⟩,by rw [if_pos (show 7 < t.length by omega)],fun _ => rfl⟩
    simp only [Option.getD_some,recvV,if_true,beginR]
    rw [if_neg (by decide),if_neg (by omega),if_neg (by omega)]
    rfl
theorem RAt.step {t : List UInt8} (h1 : t.length ≤ 4095) {i : Nat} {r : Rcv} (h : RAt t i r) (hi : 1 ≤ i) (hn : i < partsN t) :
    ∃ r' a b,recvV r ((partsL t)[i]?.getD Pdu.none) = (r',a,b) ∧ RAt t (i + 1) r' ∧ b = (decide (i + 1 ≠ partsN t) && decide (0 ≤ r.left) && decide (r.left ≤ 1)) ∧ (a = if b = true then goP r else Pdu.none) ∧
      r'.left = (if i + 1 = partsN t then r.left else if r.left < 0 then r.left else if 1 < r.left then r.left - 1 else r.block) ∧ sameCfg r r' := by
  have hl : ¬ t.length ≤ 7 := by intro h'; rw [partsN,if_pos h'] at hn; omega
  obtain ⟨q1,q2,q3⟩ := parts_long (by omega : 7 < t.length) h1
  have hN : partsN t = 1 + t.length / 7 := by rw [partsN,if_neg hl]
  have hp := q3 i hi hn
  have hst : r.st = 2 := by rw [h.st,if_neg (by omega)]
  have hnum := h.num (by omega)
  have hgot : r.got = t.take (7 * i - 1) := by rw [h.got,if_neg (by omega)]
  have hgl : r.got.length = 7 * i - 1 := by rw [hgot]; simp; omega
  have hmiss : missR r = t.length - (7 * i - 1 : Nat) := by rw [missR,h.len,hgl]
  have hdl : ((t.drop (7 * i - 1)).take 7).length = min 7 (t.length - (7 * i - 1)) := by simp
  have hlim : (((t.drop (7 * i - 1)).take 7).length : Int) = if missR r < 7 then missR r else 7 := by
    rw [hdl,hmiss]
    split <;> omega
  have hnm : ((i % 16 : Nat) : Int) = r.num := hnum.symm
  have hm : (r.num + 1).tmod 16 = (((i + 1) % 16 : Nat) : Int) := by
    rw [hnum]
    have : i % 16 < 16 := Nat.mod_lt _ (by omega)
    have e : (((i % 16 : Nat) : Int) + 1) = ((i % 16 + 1 : Nat) : Int) := by omega
    rw [e,Int.tmod_eq_emod_of_nonneg (by omega)]
    omega
  have happ : r.got ++ (t.drop (7 * i - 1)).take 7 = t.take (7 * (i + 1) - 1) := by
    rw [hgot,← List.take_add]
    congr 1
    omega
  have hlast : i + 1 = partsN t → t.take (7 * (i + 1) - 1) = t := fun e => List.take_of_length_le (by omega)
  have hend : (((t.drop (7 * i - 1)).take 7).length : Int) = missR r ↔ i + 1 = partsN t := by
    rw [hdl,hmiss,hN]
    omega
  rw [hp]
  simp only [Option.getD_some]
  rw [recvV,if_neg (show ¬ ((3 : Int) = 1) by decide),if_neg (show ¬ ((3 : Int) = 2) by decide),if_pos ⟨rfl,hst⟩]
  unfold nextV
  rw [if_neg (by rintro (h' | h'); exact h' hnm; exact h' hlim)]
  simp only
  by_cases he : i + 1 = partsN t
  · rw [if_pos (hend.2 he)]
    refine ⟨_,_,_,rfl,⟨h.len,?_,?_,fun _ => hm,h.err,rfl⟩,by simp [he],rfl,by rw [if_pos he]; rfl,⟨rfl,rfl,rfl⟩⟩
    · rw [if_pos he]; exact happ.trans (hlast he)
    · rw [if_pos he]
  · rw [if_neg (fun h' => he (hend.1 h'))]
    have hgo : ∀ r' : Rcv,r'.len = r.len → r'.got = r.got ++ (t.drop (7 * i - 1)).take 7 → r'.st = r.st → r'.num = (r.num + 1).tmod 16 → r'.err = r.err → r'.clock = 0 → RAt t (i + 1) r' := by
      intro r' e1 e2 e3 e4 e5 e6
      exact ⟨e1.trans h.len,by rw [if_neg he,e2,happ],by rw [if_neg he,e3,hst],fun _ => e4.trans hm,e5.trans h.err,e6⟩
    by_cases hl0 : r.left < 0
    · rw [if_pos hl0]
      refine ⟨_,_,_,rfl,hgo _ rfl rfl rfl rfl rfl rfl,?_,rfl,by rw [if_neg he,if_pos hl0]; rfl,⟨rfl,rfl,rfl⟩⟩
      rw [decide_eq_false (by omega : ¬ 0 ≤ r.left)]
      simp
    · rw [if_neg hl0]
      by_cases hl1 : 1 < r.left
      · rw [if_pos hl1]
        refine ⟨_,_,_,rfl,hgo _ rfl rfl rfl rfl rfl rfl,?_,rfl,by rw [if_neg he,if_neg hl0,if_pos hl1],⟨rfl,rfl,rfl⟩⟩
        rw [decide_eq_false (by omega : ¬ r.left ≤ 1)]
        simp
      · rw [if_neg hl1]
        refine ⟨_,_,_,rfl,hgo _ rfl rfl rfl rfl rfl rfl,?_,rfl,by rw [if_neg he,if_neg hl0,if_neg hl1],⟨rfl,rfl,rfl⟩⟩
        rw [decide_eq_true (by omega : 0 ≤ r.left),decide_eq_true (by omega : r.left ≤ 1),decide_eq_true he]
        rfl
end Go.Proofs.YtcdmhigmgpflbaaGreat.Pe.Lk
namespace Go.Proofs.YtcdmhigmgpflbaaGreat.Pe.Lk
open Go.Pe Go.RowKit
end Go.Proofs.YtcdmhigmgpflbaaGreat.Pe.Lk
namespace Go.Proofs.YtcdmhigmgpflbaaGreat.Pe.Lk
open Go.Pe Go.RowKit
def skR (k : Nat) (r : Rcv) : Rcv := if r.st = 2 then (if k ≤ 100 then { r with clock := k } else failR { r with clock := 101 } 181) else r
end Go.Proofs.YtcdmhigmgpflbaaGreat.Pe.Lk
namespace Go.Proofs.YtcdmhigmgpflbaaGreat.Pe.Lk
open Go.Pe Go.RowKit
def leftAt (bn i : Nat) : Int := if bn = 0 then -1 else (bn : Int) - ((i - 1) % bn : Nat)
def WAt (t : List UInt8) (bn i : Nat) (r : Rcv) : Prop := i = 0 ∨ (1 ≤ i ∧ RAt t i r ∧ (i < partsN t → r.left = leftAt bn i))
end Go.Proofs.YtcdmhigmgpflbaaGreat.Pe.Lk
