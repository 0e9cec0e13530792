import Derived.Test.YtcdmhigmgpflbaaGreatLC3
import Derived.Test.YtcdmhigmgpflbaaGreatLC7
set_option maxRecDepth 20000
set_option maxHeartbeats 4000000
set_option linter.unusedSimpArgs false
set_option linter.unusedVariables false
open Nat renaming reduceAdd → zA,reduceSub → zB,reduceMul → zC,reduceLT → zD,reduceLeDiff → zE,reduceEqDiff → zF,reduceBEq → zG
open Int renaming reduceToNat → zH,reduceLT → zI,reduceLE → zJ,reduceEq → zK,reduceNe → zL,reduceAdd → zM,reduceSub → zN,reduceMul → zO,reduceNeg → zP,toNat_natCast → yCa
open List renaming length_cons → yBa
namespace Go.Proofs.YtcdmhigmgpflbaaGreat.Pe.Lk
open Go.Pe Go.RowKit
abbrev Pdu.cells (p : Pdu) : List PV := [PI p.k,PI p.l,PI p.n,PI p.s,PI p.b,PI p.g,bytesPV p.d]
abbrev pduRows (l : List Pdu) : List (List PV) := l.map Pdu.cells
def nexts : Nat → Int → List UInt8 → List Pdu
  | 0,_,_ => []
  | f + 1,num,d => if d = [] then [] else ⟨3,0,num,0,0,0,d.take 7⟩ :: nexts f ((num + 1).tmod 16) (d.drop 7)
def partsL (b : List UInt8) : List Pdu :=
  if b.length = 0 ∨ 4095 < b.length then [] else if b.length ≤ 7 then [⟨1,b.length,0,0,0,0,b⟩] else ⟨2,b.length,0,0,0,0,b.take 6⟩ :: nexts b.length 1 (b.drop 6)
def partsB (b : List UInt8) : Bool := !decide (b.length = 0 ∨ 4095 < b.length)
theorem pduRows_length (l : List Pdu) : (pduRows l).length = l.length := by simp [pduRows]
end Go.Proofs.YtcdmhigmgpflbaaGreat.Pe.Lk
namespace Go.Proofs.YtcdmhigmgpflbaaGreat.Pe.Lk
open Go.Pe Go.RowKit
theorem nexts_fuel : ∀ (f g : Nat) (num : Int) (d : List UInt8),d.length ≤ f → d.length ≤ g → nexts f num d = nexts g num d
  | 0,g,num,d,h1,h2 => by
    have : d = [] := List.eq_nil_of_length_eq_zero (by omega)
    subst this
    cases g <;> simp [nexts]
  | f + 1,0,num,d,h1,h2 => by
    have : d = [] := List.eq_nil_of_length_eq_zero (by omega)
    subst this
    simp [nexts]
  | f + 1,g + 1,num,d,h1,h2 => by
    simp only [nexts]
    split
    · rfl
    · rename_i hd
      have : 0 < d.length := List.length_pos_iff.2 hd
      rw [nexts_fuel f g _ (d.drop 7) (by simp; omega) (by simp; omega)]
theorem nexts_cons' {f : Nat} {num : Int} {d : List UInt8} (hd : d ≠ []) (hf : d.length ≤ f) : nexts f num d = ⟨3,0,num,0,0,0,d.take 7⟩ :: nexts f ((num + 1).tmod 16) (d.drop 7) := by
  have : 0 < d.length := List.length_pos_iff.2 hd
  obtain ⟨g,rfl⟩ : ∃ g,f = g + 1 := ⟨f - 1,by omega⟩
  show (if d = [] then [] else (⟨3,0,num,0,0,0,d.take 7⟩ : Pdu) :: nexts g ((num + 1).tmod 16) (d.drop 7)) = _
  rw [if_neg hd,nexts_fuel g (g + 1) _ _ (by simp; omega) (by simp; omega)]
theorem nexts_nil' (f : Nat) (num : Int) : nexts f num [] = [] := by cases f <;> simp [nexts]
theorem nexts_all : ∀ (n f : Nat) (num : Nat) (d : List UInt8),d.length ≤ n → d.length ≤ f → (nexts f ((num % 16 : Nat) : Int) d).length = (d.length + 6) / 7 ∧
    ∀ i,i < (nexts f ((num % 16 : Nat) : Int) d).length → (nexts f ((num % 16 : Nat) : Int) d)[i]? = some ⟨3,0,(((num + i) % 16 : Nat) : Int),0,0,0,(d.drop (7 * i)).take 7⟩
  | 0,f,num,d,hn,hf => by
    have : d = [] := List.eq_nil_of_length_eq_zero (by omega)
    subst this
    rw [nexts_nil']
    simp
  | n + 1,f,num,d,hn,hf => by
    by_cases hd : d = []
    · subst hd
      rw [nexts_nil']
      simp
    · have h0 : 0 < d.length := List.length_pos_iff.2 hd
      have hm : (((num % 16 : Nat) : Int) + 1).tmod 16 = (((num + 1) % 16 : Nat) : Int) := by
        have : num % 16 < 16 := Nat.mod_lt _ (by omega)
        have e : (((num % 16 : Nat) : Int) + 1) = ((num % 16 + 1 : Nat) : Int) := by omega
        rw [e,Int.tmod_eq_emod_of_nonneg (by omega)]
        omega
      rw [nexts_cons' hd hf,hm]
      obtain ⟨q1,q2⟩ := nexts_all n f (num + 1) (d.drop 7) (by simp; omega) (by simp; omega)
      refine ⟨by rw [yBa,q1]; simp; omega,fun i hi => ?_⟩
      cases i with
      | zero => simp
      | succ i =>
        rw [List.getElem?_cons_succ,q2 i (by simpa using hi),List.drop_drop]
        have e1 : num + 1 + i = num + (i + 1) := by omega
        have e2 : 7 + 7 * i = 7 * (i + 1) := by omega
        rw [e1,e2]
def partsN (t : List UInt8) : Nat := if t.length ≤ 7 then 1 else 1 + t.length / 7
theorem parts_long {t : List UInt8} (h0 : 7 < t.length) (h1 : t.length ≤ 4095) : (partsL t).length = partsN t ∧ (partsL t)[0]? = some ⟨2,t.length,0,0,0,0,t.take 6⟩ ∧
    ∀ i,1 ≤ i → i < partsN t → (partsL t)[i]? = some ⟨3,0,((i % 16 : Nat) : Int),0,0,0,(t.drop (7 * i - 1)).take 7⟩ := by
  have hL : partsL t = ⟨2,t.length,0,0,0,0,t.take 6⟩ :: nexts t.length ((1 % 16 : Nat) : Int) (t.drop 6) := by rw [partsL,if_neg (by omega),if_neg (by omega)]; rfl
  obtain ⟨q1,q2⟩ := nexts_all t.length t.length 1 (t.drop 6) (by simp) (by simp)
  have hn : partsN t = 1 + t.length / 7 := by rw [partsN,if_neg (by omega)]
  have hlen : (nexts t.length ((1 % 16 : Nat) : Int) (t.drop 6)).length = t.length / 7 := by rw [q1]; simp; omega
  rw [hL,hn]
  refine ⟨by rw [yBa,hlen]; omega,rfl,fun i hi1 hi2 => ?_⟩
  obtain ⟨j,rfl⟩ : ∃ j,i = j + 1 := ⟨i - 1,by omega⟩
  rw [List.getElem?_cons_succ,q2 j (by rw [hlen]; omega),List.drop_drop]
  have e1 : 1 + j = j + 1 := by omega
  have e2 : 6 + 7 * j = 7 * (j + 1) - 1 := by omega
  rw [e1,e2]
theorem parts_short {t : List UInt8} (h0 : 1 ≤ t.length) (h1 : t.length ≤ 7) : partsL t = [⟨1,t.length,0,0,0,0,t⟩] := by rw [partsL,if_neg (by omega),if_pos h1]
end Go.Proofs.YtcdmhigmgpflbaaGreat.Pe.Lk
namespace Go.Proofs.YtcdmhigmgpflbaaGreat.Pe.Lk
open Go.Pe Go.RowKit
def partsSt (b : List UInt8) (acc : List Pdu) (ver at_ : Nat) (num : Int) : St := ⟨58,[(0,bytesPV b),(4,PI b.length),(5,.own 2 ver),(6,PI num),(7,PI at_)],[(2,.arr 70 7 (pduRows acc) ver false)],9,0⟩
def partsI (b : List UInt8) (m : Nat) (st : St) : Prop := ∃ (acc : List Pdu) (ver at_ : Nat) (num : Int),at_ ≤ b.length + 6 ∧ acc.length ≤ at_ ∧ 0 ≤ num ∧ num ≤ 15 ∧ m = b.length + 7 - at_ ∧ acc ++ nexts b.length num (b.drop at_) = partsL b ∧ st = partsSt b acc ver at_ num
theorem partsR_calls (b : List UInt8) : PureCalls Tryz.prog 87 [bytesPV b] (.tup [.im 7 (pduRows (partsL b)),PB (partsB b)]) := by
  refine PureCalls.of tabOK mixed Tryz.func87 rfl rfl (by decide +kernel) (by simp [Tryz.ntmps87]) ?_
  simp only [go_sem,zA,zB,zC,zD,zE,zF,zG,zH,zI,zJ,zK,zL,zM,zN,zO,zP,↓reduceIte,reduceCtorEq,Tryz.ntmps87,Tryz.results87]
  by_cases h1 : b.length = 0
  · have e1 : partsL b = [] := by simp [partsL,h1]
    have e2 : partsB b = false := by simp [partsB,h1]
    have e3 : decide ((b.length : Int) = 0) = true := by simp [h1]
    simp only [go_sem,zA,zB,zC,zD,zE,zF,zG,zH,zI,zJ,zK,zL,zM,zN,zO,zP,↓reduceIte,reduceCtorEq,e1,e2,e3,Tryz.ntmps87,Tryz.results87]
  have g1 : decide ((b.length : Int) = 0) = false := by simpa using h1
  by_cases h2 : 4095 < b.length
  · have e1 : partsL b = [] := by simp [partsL,h2]
    have e2 : partsB b = false := by simp [partsB,h2]
    have e3 : decide (4095 < (b.length : Int)) = true := by simp; omega
    simp only [go_sem,zA,zB,zC,zD,zE,zF,zG,zH,zI,zJ,zK,zL,zM,zN,zO,zP,↓reduceIte,reduceCtorEq,e1,e2,g1,e3,Tryz.ntmps87,Tryz.results87]
  have g2 : decide (4095 < (b.length : Int)) = false := by simp; omega
  have e2 : partsB b = true := by simp [partsB,h1,h2]
  by_cases h3 : b.length ≤ 7
  · have e1 : partsL b = [⟨1,b.length,0,0,0,0,b⟩] := by simp only [partsL,h1,h2,h3]; simp
    have e3 : decide ((b.length : Int) ≤ 7) = true := by simp; omega
    simp only [go_sem,zA,zB,zC,zD,zE,zF,zG,zH,zI,zJ,zK,zL,zM,zN,zO,zP,↓reduceIte,reduceCtorEq,e1,e2,g1,g2,e3,Tryz.ntmps87,Tryz.results87]
    exact ⟨by omega,by omega⟩
  have g3 : decide ((b.length : Int) ≤ 7) = false := by simp; omega
  simp only [go_sem,zA,zB,zC,zD,zE,zF,zG,zH,zI,zJ,zK,zL,zM,zN,zO,zP,↓reduceIte,reduceCtorEq,g1,g2,g3]
  refine ⟨by omega,⟨by simp; omega,by simp; omega⟩,?_⟩
  refine wpA_loop (partsI b) ⟨_,_,?_,[⟨2,b.length,0,0,0,0,b.take 6⟩],0,6,1,by omega,by simp,by omega,by omega,rfl,?_,rfl⟩ ?_
  · simp only [go_sem,zA,zB,zC,zD,zE,zF,zG,zH,zI,zJ,zK,zL,zM,zN,zO,zP,↓reduceIte,reduceCtorEq,partsSt,pduRows,Pdu.cells]
  · rw [partsL,if_neg (by omega),if_neg (by omega)]
    rfl
  rintro m st ⟨acc,ver,at_,num,q1,q2,q3,q4,rfl,q5,rfl⟩
  by_cases hc : at_ < b.length
  · have e1 : decide ((at_ : Int) < (b.length : Int)) = true := by simp; omega
    have hw1 : IntKind.wrap .i64 ((at_ : Int) + 7) = ((at_ + 7 : Nat) : Int) := by rw [wrapI64 (by omega)]; rfl
    have hw2 : IntKind.wrap .i64 (num + 1) = num + 1 := wrapI64 (by omega)
    have key : nexts b.length num (b.drop at_) = ⟨3,0,num,0,0,0,(b.drop at_).take 7⟩ :: nexts b.length ((num + 1).tmod 16) (b.drop (at_ + 7)) := by
      obtain ⟨f,hf⟩ : ∃ f,b.length = f + 1 := ⟨b.length - 1,by omega⟩
      rw [hf]
      show (if b.drop at_ = [] then [] else (⟨3,0,num,0,0,0,(b.drop at_).take 7⟩ : Pdu) :: nexts f ((num + 1).tmod 16) ((b.drop at_).drop 7)) = _
      rw [if_neg (by intro h; have := congrArg List.length h; simp at this; omega),List.drop_drop]
      rw [nexts_fuel f (f + 1) _ _ (by simp; omega) (by simp; omega)]
    have hm0 : 0 ≤ (num + 1).tmod 16 := Int.tmod_nonneg _ (by omega)
    have hm1 : (num + 1).tmod 16 < 16 := Int.tmod_lt_of_pos _ (by omega)
    rw [key] at q5
    have fin : ∀ st',Weak st' (partsSt b (acc ++ [⟨3,0,num,0,0,0,(b.drop at_).take 7⟩]) (ver + 1) (at_ + 7) ((num + 1).tmod 16)) → ∃ m' s'',m' < b.length + 7 - at_ ∧ Weak st' s'' ∧ partsI b m' s'' :=
      fun st' h => ⟨b.length + 7 - (at_ + 7),_,by omega,h,_,_,_,_,by omega,by simp; omega,hm0,by omega,rfl,by rw [← q5]; simp,rfl⟩
    by_cases hg : at_ + 7 ≤ b.length
    · have e2 : decide (((at_ + 7 : Nat) : Int) > (b.length : Int)) = false := by simp; omega
      have hsl : (b.take (at_ + 7)).drop at_ = (b.drop at_).take 7 := by rw [List.drop_take]; congr 1; omega
      simp only [go_sem,zA,zB,zC,zD,zE,zF,zG,zH,zI,zJ,zK,zL,zM,zN,zO,zP,↓reduceIte,reduceCtorEq,partsSt,e1,hw1,hw2,e2,yCa,hsl]
      refine ⟨⟨by omega,by omega,by omega⟩,⟨by simp; omega,by simp; omega⟩,⟨by simp; omega,by simp; omega⟩,?_⟩
      refine fin _ ?_
      simp only [go_sem,zA,zB,zC,zD,zE,zF,zG,zH,zI,zJ,zK,zL,zM,zN,zO,zP,↓reduceIte,reduceCtorEq,partsSt]
      simp [pduRows]
    · have e2 : decide (((at_ + 7 : Nat) : Int) > (b.length : Int)) = true := by simp; omega
      have hsl : (b.take b.length).drop at_ = (b.drop at_).take 7 := by rw [List.take_length,List.take_of_length_le (by simp; omega)]
      simp only [go_sem,zA,zB,zC,zD,zE,zF,zG,zH,zI,zJ,zK,zL,zM,zN,zO,zP,↓reduceIte,reduceCtorEq,partsSt,e1,hw1,hw2,e2,yCa,hsl]
      refine ⟨⟨by omega,by omega,by omega⟩,⟨by simp; omega,by simp; omega⟩,⟨by simp; omega,by simp; omega⟩,?_⟩
      refine fin _ ?_
      simp only [go_sem,zA,zB,zC,zD,zE,zF,zG,zH,zI,zJ,zK,zL,zM,zN,zO,zP,↓reduceIte,reduceCtorEq,partsSt]
      simp [pduRows]
  · have e1 : decide ((at_ : Int) < (b.length : Int)) = false := by simp; omega
    simp only [go_sem,zA,zB,zC,zD,zE,zF,zG,zH,zI,zJ,zK,zL,zM,zN,zO,zP,↓reduceIte,reduceCtorEq,partsSt,e1,Tryz.ntmps87,Tryz.results87]
    have hn : nexts b.length num (b.drop at_) = [] := by
      rw [List.drop_eq_nil_of_le (by omega)]
      cases b.length <;> simp [nexts]
    rw [hn,List.append_nil] at q5
    rw [q5]
    exact ⟨rfl,e2⟩
end Go.Proofs.YtcdmhigmgpflbaaGreat.Pe.Lk
namespace Go.Proofs.YtcdmhigmgpflbaaGreat.Pe.Lk
open Go.Pe Go.RowKit
theorem takeR_calls (s : Snd) (p : Pdu) : PureCalls Tryz.prog 92 [s.pv,p.pv] (takeS s p).pv := by
  refine PureCalls.of tabOK mixed Tryz.func92 rfl rfl (by decide +kernel) (by simp [Tryz.ntmps92]) ?_
  obtain ⟨st,te,pos,num,left,gap,clock,waits,err⟩ := s
  obtain ⟨k,l,n,sy,b,g,d⟩ := p
  generalize hres : takeS ⟨st,te,pos,num,left,gap,clock,waits,err⟩ ⟨k,l,n,sy,b,g,d⟩ = res
  simp only [go_sem,zA,zB,zC,zD,zE,zF,zG,zH,zI,zJ,zK,zL,zM,zN,zO,zP,↓reduceIte,reduceCtorEq,Tryz.ntmps92,Tryz.results92,Snd.pv,Pdu.pv]
  cases hR : Pdu.right ⟨k,l,n,sy,b,g,d⟩ with
  | false =>
    repeat' (first | (refine wantK_splitN (fun h => ?_) (fun h => ?_) <;> simp only [go_sem,zA,zB,zC,zD,zE,zF,zG,zH,zI,zJ,zK,zL,zM,zN,zO,zP,↓reduceIte,reduceCtorEq,Tryz.ntmps92,Tryz.results92, *]) | (refine wantK_split (fun h => ?_) (fun h => ?_) <;> simp only [go_sem,zA,zB,zC,zD,zE,zF,zG,zH,zI,zJ,zK,zL,zM,zN,zO,zP,↓reduceIte,reduceCtorEq,Tryz.ntmps92,Tryz.results92, *]) | (refine condK_splitN (fun h => ?_) (fun h => ?_) <;> simp only [go_sem,zA,zB,zC,zD,zE,zF,zG,zH,zI,zJ,zK,zL,zM,zN,zO,zP,↓reduceIte,reduceCtorEq,Tryz.ntmps92,Tryz.results92, *]) | (refine condK_split (fun h => ?_) (fun h => ?_) <;> simp only [go_sem,zA,zB,zC,zD,zE,zF,zG,zH,zI,zJ,zK,zL,zM,zN,zO,zP,↓reduceIte,reduceCtorEq,Tryz.ntmps92,Tryz.results92, *]) | (refine drawK_splitN (fun h => ?_) (fun h => ?_) <;> simp only [go_sem,zA,zB,zC,zD,zE,zF,zG,zH,zI,zJ,zK,zL,zM,zN,zO,zP,↓reduceIte,reduceCtorEq,Tryz.ntmps92,Tryz.results92, *]) | (refine drawK_split (fun h => ?_) (fun h => ?_) <;> simp only [go_sem,zA,zB,zC,zD,zE,zF,zG,zH,zI,zJ,zK,zL,zM,zN,zO,zP,↓reduceIte,reduceCtorEq,Tryz.ntmps92,Tryz.results92, *]) | (refine endD_intro (by decide +kernel) ?_; simp only [go_sem,zA,zB,zC,zD,zE,zF,zG,zH,zI,zJ,zK,zL,zM,zN,zO,zP,↓reduceIte,reduceCtorEq,Tryz.ntmps92,Tryz.results92, *]) | (with_reducible refine And.intro ?_ ?_))
    any_goals (refine CallA.same (rightR_calls ⟨k,l,n,sy,b,g,d⟩) (by simp only [go_sem,zA,zB,zC,zD,zE,zF,zG,zH,zI,zJ,zK,zL,zM,zN,zO,zP,↓reduceIte,reduceCtorEq,Pdu.pv]) ?_; simp only [go_sem,zA,zB,zC,zD,zE,zF,zG,zH,zI,zJ,zK,zL,zM,zN,zO,zP,↓reduceIte,reduceCtorEq,Tryz.ntmps92,Tryz.results92,hR])
    all_goals subst hres
    all_goals (first | omega | (simp_all [FrzR_agg,FrzR_tup,FrzRL_cons,FrzRL_nil,FrzR_lit,FrzR_im,FrzR_own,frzOwn,FrzR_nilS,lk,hpF_eq,takeS,Snd.takes]; done) | (simp_all [FrzR_agg,FrzR_tup,FrzRL_cons,FrzRL_nil,FrzR_lit,FrzR_im,FrzR_own,frzOwn,FrzR_nilS,lk,hpF_eq,takeS,Snd.takes]; omega) | ((simp_all [FrzR_agg,FrzR_tup,FrzRL_cons,FrzRL_nil,FrzR_lit,FrzR_im,FrzR_own,frzOwn,FrzR_nilS,lk,hpF_eq,takeS,Snd.takes]; repeat' split) <;> (first | omega | (simp_all [FrzR_agg,FrzR_tup,FrzRL_cons,FrzRL_nil,FrzR_lit,FrzR_im,FrzR_own,frzOwn,FrzR_nilS,lk,hpF_eq,takeS,Snd.takes]; done) | (simp_all [FrzR_agg,FrzR_tup,FrzRL_cons,FrzRL_nil,FrzR_lit,FrzR_im,FrzR_own,frzOwn,FrzR_nilS,lk,hpF_eq,takeS,Snd.takes]; omega))) | (repeat' split) <;> (first | omega | (simp_all [FrzR_agg,FrzR_tup,FrzRL_cons,FrzRL_nil,FrzR_lit,FrzR_im,FrzR_own,frzOwn,FrzR_nilS,lk,hpF_eq,takeS,Snd.takes]; done) | (simp_all [FrzR_agg,FrzR_tup,FrzRL_cons,FrzRL_nil,FrzR_lit,FrzR_im,FrzR_own,frzOwn,FrzR_nilS,lk,hpF_eq,takeS,Snd.takes]; omega)))
  | true =>
    have hsy : k = 4 → sy = 0 ∨ sy = 1 ∨ sy = 2 := by
      intro h2'
      subst h2'
      simp [Pdu.right] at hR
      omega
    repeat' (first | (refine wantK_splitN (fun h => ?_) (fun h => ?_) <;> simp only [go_sem,zA,zB,zC,zD,zE,zF,zG,zH,zI,zJ,zK,zL,zM,zN,zO,zP,↓reduceIte,reduceCtorEq,Tryz.ntmps92,Tryz.results92, *]) | (refine wantK_split (fun h => ?_) (fun h => ?_) <;> simp only [go_sem,zA,zB,zC,zD,zE,zF,zG,zH,zI,zJ,zK,zL,zM,zN,zO,zP,↓reduceIte,reduceCtorEq,Tryz.ntmps92,Tryz.results92, *]) | (refine condK_splitN (fun h => ?_) (fun h => ?_) <;> simp only [go_sem,zA,zB,zC,zD,zE,zF,zG,zH,zI,zJ,zK,zL,zM,zN,zO,zP,↓reduceIte,reduceCtorEq,Tryz.ntmps92,Tryz.results92, *]) | (refine condK_split (fun h => ?_) (fun h => ?_) <;> simp only [go_sem,zA,zB,zC,zD,zE,zF,zG,zH,zI,zJ,zK,zL,zM,zN,zO,zP,↓reduceIte,reduceCtorEq,Tryz.ntmps92,Tryz.results92, *]) | (refine drawK_splitN (fun h => ?_) (fun h => ?_) <;> simp only [go_sem,zA,zB,zC,zD,zE,zF,zG,zH,zI,zJ,zK,zL,zM,zN,zO,zP,↓reduceIte,reduceCtorEq,Tryz.ntmps92,Tryz.results92, *]) | (refine drawK_split (fun h => ?_) (fun h => ?_) <;> simp only [go_sem,zA,zB,zC,zD,zE,zF,zG,zH,zI,zJ,zK,zL,zM,zN,zO,zP,↓reduceIte,reduceCtorEq,Tryz.ntmps92,Tryz.results92, *]) | (refine endD_intro (by decide +kernel) ?_; simp only [go_sem,zA,zB,zC,zD,zE,zF,zG,zH,zI,zJ,zK,zL,zM,zN,zO,zP,↓reduceIte,reduceCtorEq,Tryz.ntmps92,Tryz.results92, *]) | (with_reducible refine And.intro ?_ ?_))
    any_goals (refine CallA.same (rightR_calls ⟨k,l,n,sy,b,g,d⟩) (by simp only [go_sem,zA,zB,zC,zD,zE,zF,zG,zH,zI,zJ,zK,zL,zM,zN,zO,zP,↓reduceIte,reduceCtorEq,Pdu.pv]) ?_; simp only [go_sem,zA,zB,zC,zD,zE,zF,zG,zH,zI,zJ,zK,zL,zM,zN,zO,zP,↓reduceIte,reduceCtorEq,Tryz.ntmps92,Tryz.results92,hR])
    any_goals (subst hres; simp_all [takeS,Snd.takes]; done)
    repeat' (first | (refine wantK_splitN (fun h => ?_) (fun h => ?_) <;> simp only [go_sem,zA,zB,zC,zD,zE,zF,zG,zH,zI,zJ,zK,zL,zM,zN,zO,zP,↓reduceIte,reduceCtorEq,Tryz.ntmps92,Tryz.results92, *]) | (refine wantK_split (fun h => ?_) (fun h => ?_) <;> simp only [go_sem,zA,zB,zC,zD,zE,zF,zG,zH,zI,zJ,zK,zL,zM,zN,zO,zP,↓reduceIte,reduceCtorEq,Tryz.ntmps92,Tryz.results92, *]) | (refine condK_splitN (fun h => ?_) (fun h => ?_) <;> simp only [go_sem,zA,zB,zC,zD,zE,zF,zG,zH,zI,zJ,zK,zL,zM,zN,zO,zP,↓reduceIte,reduceCtorEq,Tryz.ntmps92,Tryz.results92, *]) | (refine condK_split (fun h => ?_) (fun h => ?_) <;> simp only [go_sem,zA,zB,zC,zD,zE,zF,zG,zH,zI,zJ,zK,zL,zM,zN,zO,zP,↓reduceIte,reduceCtorEq,Tryz.ntmps92,Tryz.results92, *]) | (refine drawK_splitN (fun h => ?_) (fun h => ?_) <;> simp only [go_sem,zA,zB,zC,zD,zE,zF,zG,zH,zI,zJ,zK,zL,zM,zN,zO,zP,↓reduceIte,reduceCtorEq,Tryz.ntmps92,Tryz.results92, *]) | (refine drawK_split (fun h => ?_) (fun h => ?_) <;> simp only [go_sem,zA,zB,zC,zD,zE,zF,zG,zH,zI,zJ,zK,zL,zM,zN,zO,zP,↓reduceIte,reduceCtorEq,Tryz.ntmps92,Tryz.results92, *]) | (refine endD_intro (by decide +kernel) ?_; simp only [go_sem,zA,zB,zC,zD,zE,zF,zG,zH,zI,zJ,zK,zL,zM,zN,zO,zP,↓reduceIte,reduceCtorEq,Tryz.ntmps92,Tryz.results92, *]) | (with_reducible refine And.intro ?_ ?_))
    all_goals subst hres
    all_goals (first | omega | (simp_all [FrzR_agg,FrzR_tup,FrzRL_cons,FrzRL_nil,FrzR_lit,FrzR_im,FrzR_own,frzOwn,FrzR_nilS,lk,hpF_eq,takeS,Snd.takes]; done) | (simp_all [FrzR_agg,FrzR_tup,FrzRL_cons,FrzRL_nil,FrzR_lit,FrzR_im,FrzR_own,frzOwn,FrzR_nilS,lk,hpF_eq,takeS,Snd.takes]; omega) | ((simp_all [FrzR_agg,FrzR_tup,FrzRL_cons,FrzRL_nil,FrzR_lit,FrzR_im,FrzR_own,frzOwn,FrzR_nilS,lk,hpF_eq,takeS,Snd.takes]; repeat' split) <;> (first | omega | (simp_all [FrzR_agg,FrzR_tup,FrzRL_cons,FrzRL_nil,FrzR_lit,FrzR_im,FrzR_own,frzOwn,FrzR_nilS,lk,hpF_eq,takeS,Snd.takes]; done) | (simp_all [FrzR_agg,FrzR_tup,FrzRL_cons,FrzRL_nil,FrzR_lit,FrzR_im,FrzR_own,frzOwn,FrzR_nilS,lk,hpF_eq,takeS,Snd.takes]; omega))) | (repeat' split) <;> (first | omega | (simp_all [FrzR_agg,FrzR_tup,FrzRL_cons,FrzRL_nil,FrzR_lit,FrzR_im,FrzR_own,frzOwn,FrzR_nilS,lk,hpF_eq,takeS,Snd.takes]; done) | (simp_all [FrzR_agg,FrzR_tup,FrzRL_cons,FrzRL_nil,FrzR_lit,FrzR_im,FrzR_own,frzOwn,FrzR_nilS,lk,hpF_eq,takeS,Snd.takes]; omega)))
theorem tickR_calls (s : Snd) : PureCalls Tryz.prog 94 [s.pv] (tickS s).pv := by
  refine PureCalls.of tabOK mixed Tryz.func94 rfl rfl (by decide +kernel) (by simp [Tryz.ntmps94]) ?_
  obtain ⟨st,te,pos,num,left,gap,clock,waits,err⟩ := s
  generalize hres : tickS ⟨st,te,pos,num,left,gap,clock,waits,err⟩ = res
  simp only [go_sem,zA,zB,zC,zD,zE,zF,zG,zH,zI,zJ,zK,zL,zM,zN,zO,zP,↓reduceIte,reduceCtorEq,Tryz.ntmps94,Tryz.results94,Snd.pv]
  repeat' (first | (refine wantK_splitN (fun h => ?_) (fun h => ?_) <;> simp only [go_sem,zA,zB,zC,zD,zE,zF,zG,zH,zI,zJ,zK,zL,zM,zN,zO,zP,↓reduceIte,reduceCtorEq,Tryz.ntmps94,Tryz.results94, *]) | (refine wantK_split (fun h => ?_) (fun h => ?_) <;> simp only [go_sem,zA,zB,zC,zD,zE,zF,zG,zH,zI,zJ,zK,zL,zM,zN,zO,zP,↓reduceIte,reduceCtorEq,Tryz.ntmps94,Tryz.results94, *]) | (refine condK_splitN (fun h => ?_) (fun h => ?_) <;> simp only [go_sem,zA,zB,zC,zD,zE,zF,zG,zH,zI,zJ,zK,zL,zM,zN,zO,zP,↓reduceIte,reduceCtorEq,Tryz.ntmps94,Tryz.results94, *]) | (refine condK_split (fun h => ?_) (fun h => ?_) <;> simp only [go_sem,zA,zB,zC,zD,zE,zF,zG,zH,zI,zJ,zK,zL,zM,zN,zO,zP,↓reduceIte,reduceCtorEq,Tryz.ntmps94,Tryz.results94, *]) | (refine drawK_splitN (fun h => ?_) (fun h => ?_) <;> simp only [go_sem,zA,zB,zC,zD,zE,zF,zG,zH,zI,zJ,zK,zL,zM,zN,zO,zP,↓reduceIte,reduceCtorEq,Tryz.ntmps94,Tryz.results94, *]) | (refine drawK_split (fun h => ?_) (fun h => ?_) <;> simp only [go_sem,zA,zB,zC,zD,zE,zF,zG,zH,zI,zJ,zK,zL,zM,zN,zO,zP,↓reduceIte,reduceCtorEq,Tryz.ntmps94,Tryz.results94, *]) | (refine endD_intro (by decide +kernel) ?_; simp only [go_sem,zA,zB,zC,zD,zE,zF,zG,zH,zI,zJ,zK,zL,zM,zN,zO,zP,↓reduceIte,reduceCtorEq,Tryz.ntmps94,Tryz.results94, *]) | (with_reducible refine And.intro ?_ ?_))
  all_goals subst hres
  all_goals (first | omega | (simp_all [FrzR_agg,FrzR_tup,FrzRL_cons,FrzRL_nil,FrzR_lit,FrzR_im,FrzR_own,frzOwn,FrzR_nilS,lk,hpF_eq,tickS]; done) | (simp_all [FrzR_agg,FrzR_tup,FrzRL_cons,FrzRL_nil,FrzR_lit,FrzR_im,FrzR_own,frzOwn,FrzR_nilS,lk,hpF_eq,tickS]; omega) | ((simp_all [FrzR_agg,FrzR_tup,FrzRL_cons,FrzRL_nil,FrzR_lit,FrzR_im,FrzR_own,frzOwn,FrzR_nilS,lk,hpF_eq,tickS]; repeat' split) <;> (first | omega | (simp_all [FrzR_agg,FrzR_tup,FrzRL_cons,FrzRL_nil,FrzR_lit,FrzR_im,FrzR_own,frzOwn,FrzR_nilS,lk,hpF_eq,tickS]; done) | (simp_all [FrzR_agg,FrzR_tup,FrzRL_cons,FrzRL_nil,FrzR_lit,FrzR_im,FrzR_own,frzOwn,FrzR_nilS,lk,hpF_eq,tickS]; omega))) | (repeat' split) <;> (first | omega | (simp_all [FrzR_agg,FrzR_tup,FrzRL_cons,FrzRL_nil,FrzR_lit,FrzR_im,FrzR_own,frzOwn,FrzR_nilS,lk,hpF_eq,tickS]; done) | (simp_all [FrzR_agg,FrzR_tup,FrzRL_cons,FrzRL_nil,FrzR_lit,FrzR_im,FrzR_own,frzOwn,FrzR_nilS,lk,hpF_eq,tickS]; omega)))
theorem newR_calls (l : List UInt8) : PureCalls Tryz.prog 65 [bytesPV l] (.tup [(newS l).pv,(newP l).pv,PI (newE l)]) := by
  refine PureCalls.of tabOK mixed Tryz.func65 rfl rfl (by decide +kernel) (by simp [Tryz.ntmps65]) ?_
  by_cases h0 : l.length = 0
  · have e1 : decide ((l.length : Int) < 1) = true := by simp; omega
    rw [show newS l = Snd.zero by simp [newS,h0],show newP l = Pdu.zero by simp [newP,h0],show newE l = 1 by simp [newE,h0]]
    simp only [go_sem,zA,zB,zC,zD,zE,zF,zG,zH,zI,zJ,zK,zL,zM,zN,zO,zP,↓reduceIte,reduceCtorEq,Tryz.ntmps65,Tryz.results65,e1,Snd.pv,Pdu.pv,Snd.zero,Pdu.zero,rowsB_nil]
  have e1 : decide ((l.length : Int) < 1) = false := by simp; omega
  by_cases h1 : 4095 < l.length
  · have e2 : decide ((l.length : Int) > 4095) = true := by simp; omega
    rw [show newS l = Snd.zero by simp [newS,h1],show newP l = Pdu.zero by simp [newP,h1],show newE l = 182 by simp only [newE,h0,h1]; simp]
    simp only [go_sem,zA,zB,zC,zD,zE,zF,zG,zH,zI,zJ,zK,zL,zM,zN,zO,zP,↓reduceIte,reduceCtorEq,Tryz.ntmps65,Tryz.results65,e1,e2,Snd.pv,Pdu.pv,Snd.zero,Pdu.zero,rowsB_nil]
  have e2 : decide ((l.length : Int) > 4095) = false := by simp; omega
  rw [show newE l = 0 by simp only [newE,h0,h1]; simp]
  by_cases h2 : l.length ≤ 7
  · have e3 : decide ((l.length : Int) > 7) = false := by simp; omega
    have cP := partsR_calls l
    rw [show partsL l = [⟨1,l.length,0,0,0,0,l⟩] by rw [partsL,if_neg (by omega),if_pos h2]] at cP
    rw [show newS l = ⟨3,l,l.length,0,-1,0,0,0,0⟩ by rw [newS,if_neg (by omega),if_pos h2],show newP l = ⟨1,l.length,0,0,0,0,l⟩ by rw [newP,if_neg (by omega),if_pos h2]]
    simp only [go_sem,zA,zB,zC,zD,zE,zF,zG,zH,zI,zJ,zK,zL,zM,zN,zO,zP,↓reduceIte,reduceCtorEq,Tryz.ntmps65,Tryz.results65,e1,e2]
    refine CallA.same cP (by simp only [go_sem,zA,zB,zC,zD,zE,zF,zG,zH,zI,zJ,zK,zL,zM,zN,zO,zP,↓reduceIte,reduceCtorEq]) ?_
    simp only [go_sem,zA,zB,zC,zD,zE,zF,zG,zH,zI,zJ,zK,zL,zM,zN,zO,zP,↓reduceIte,reduceCtorEq,Tryz.ntmps65,Tryz.results65,e3,pduRows,Pdu.cells]
    refine ⟨⟨by omega,by omega⟩,endD_intro (by decide +kernel) ?_⟩
    simp only [go_sem,zA,zB,zC,zD,zE,zF,zG,zH,zI,zJ,zK,zL,zM,zN,zO,zP,↓reduceIte,reduceCtorEq,Tryz.ntmps65,Tryz.results65,Snd.pv,Pdu.pv]
  have e3 : decide ((l.length : Int) > 7) = true := by simp; omega
  have cP := partsR_calls l
  rw [show partsL l = ⟨2,l.length,0,0,0,0,l.take 6⟩ :: nexts l.length 1 (l.drop 6) by rw [partsL,if_neg (by omega),if_neg (by omega)]] at cP
  rw [show newS l = ⟨1,l,6,1,-1,0,0,0,0⟩ by rw [newS,if_neg (by omega),if_neg (by omega)],show newP l = ⟨2,l.length,0,0,0,0,l.take 6⟩ by rw [newP,if_neg (by omega),if_neg (by omega)]]
  simp only [go_sem,zA,zB,zC,zD,zE,zF,zG,zH,zI,zJ,zK,zL,zM,zN,zO,zP,↓reduceIte,reduceCtorEq,Tryz.ntmps65,Tryz.results65,e1,e2]
  refine CallA.same cP (by simp only [go_sem,zA,zB,zC,zD,zE,zF,zG,zH,zI,zJ,zK,zL,zM,zN,zO,zP,↓reduceIte,reduceCtorEq]) ?_
  simp only [go_sem,zA,zB,zC,zD,zE,zF,zG,zH,zI,zJ,zK,zL,zM,zN,zO,zP,↓reduceIte,reduceCtorEq,Tryz.ntmps65,Tryz.results65,e3,pduRows,Pdu.cells]
  refine ⟨⟨by omega,by omega⟩,by simp,endD_intro (by decide +kernel) ?_⟩
  simp only [go_sem,zA,zB,zC,zD,zE,zF,zG,zH,zI,zJ,zK,zL,zM,zN,zO,zP,↓reduceIte,reduceCtorEq,Tryz.ntmps65,Tryz.results65,Snd.pv,Pdu.pv]
theorem nextR_calls (s : Snd) (hs : s.ok) (hl : s.st = 2 → s.left = -1 ∨ 1 ≤ s.left) : PureCalls Tryz.prog 93 [s.pv] (.tup [(nextS s).pv,(nextP s).pv,PB s.goes]) := by
  refine PureCalls.of tabOK mixed Tryz.func93 rfl rfl (by decide +kernel) (by simp [Tryz.ntmps93]) ?_
  obtain ⟨st,te,pos,num,left,gap,clock,waits,err⟩ := s
  obtain ⟨h0,h1,h2⟩ := hs
  simp only at h0 h1 h2 hl
  have hw : IntKind.wrap .i64 ((te.length : Int) - pos) = te.length - pos := wrapI64 (by omega)
  have hw2 : IntKind.wrap .i64 (pos + if (te.length : Int) - pos < 7 then (te.length : Int) - pos else 7) = nextTo ⟨st,te,pos,num,left,gap,clock,waits,err⟩ := by
    rw [wrapI64 (by split <;> omega)]
    simp only [nextTo]
    split <;> split <;> omega
  have ht0 : pos ≤ nextTo ⟨st,te,pos,num,left,gap,clock,waits,err⟩ ∧ nextTo ⟨st,te,pos,num,left,gap,clock,waits,err⟩ ≤ te.length := by
    simp only [nextTo]
    split <;> omega
  generalize hS : nextS ⟨st,te,pos,num,left,gap,clock,waits,err⟩ = rs
  generalize hP : nextP ⟨st,te,pos,num,left,gap,clock,waits,err⟩ = rp
  simp only [nextS,nextP,nextN,nextL,nextT] at hS hP
  generalize hto : nextTo ⟨st,te,pos,num,left,gap,clock,waits,err⟩ = to at hw2 ht0 hS hP
  by_cases hg : st = 2 ∧ ¬ clock < gap
  · have f1 : decide (st = 2) = true := by simp [hg.1]
    have f2 : decide (clock < gap) = false := by simp; omega
    have hG : Snd.goes ⟨st,te,pos,num,left,gap,clock,waits,err⟩ = true := by simp [Snd.goes,f1,f2]
    rw [hG] at hS hP ⊢
    simp only [if_true] at hS hP
    subst hS hP
    have hl' := hl hg.1
    simp only [go_sem,zA,zB,zC,zD,zE,zF,zG,zH,zI,zJ,zK,zL,zM,zN,zO,zP,↓reduceIte,reduceCtorEq,Tryz.ntmps93,Tryz.results93,Snd.pv,Pdu.pv,hw,hw2,f1,f2]
    refine ⟨⟨by omega,by omega,by omega⟩,⟨by simp; omega,by simp; omega⟩,endD_intro (by decide +kernel) ?_⟩
    by_cases he : to = te.length
    · have f3 : decide (to = (te.length : Int)) = true := by simp [he]
      simp only [go_sem,zA,zB,zC,zD,zE,zF,zG,zH,zI,zJ,zK,zL,zM,zN,zO,zP,↓reduceIte,reduceCtorEq,f3,hw2]
      repeat' (first | (refine wantK_splitN (fun h => ?_) (fun h => ?_) <;> simp only [go_sem,zA,zB,zC,zD,zE,zF,zG,zH,zI,zJ,zK,zL,zM,zN,zO,zP,↓reduceIte,reduceCtorEq,Tryz.ntmps93,Tryz.results93,f3, *]) | (refine wantK_split (fun h => ?_) (fun h => ?_) <;> simp only [go_sem,zA,zB,zC,zD,zE,zF,zG,zH,zI,zJ,zK,zL,zM,zN,zO,zP,↓reduceIte,reduceCtorEq,Tryz.ntmps93,Tryz.results93,f3, *]) | (refine condK_splitN (fun h => ?_) (fun h => ?_) <;> simp only [go_sem,zA,zB,zC,zD,zE,zF,zG,zH,zI,zJ,zK,zL,zM,zN,zO,zP,↓reduceIte,reduceCtorEq,Tryz.ntmps93,Tryz.results93,f3, *]) | (refine condK_split (fun h => ?_) (fun h => ?_) <;> simp only [go_sem,zA,zB,zC,zD,zE,zF,zG,zH,zI,zJ,zK,zL,zM,zN,zO,zP,↓reduceIte,reduceCtorEq,Tryz.ntmps93,Tryz.results93,f3, *]) | (refine drawK_splitN (fun h => ?_) (fun h => ?_) <;> simp only [go_sem,zA,zB,zC,zD,zE,zF,zG,zH,zI,zJ,zK,zL,zM,zN,zO,zP,↓reduceIte,reduceCtorEq,Tryz.ntmps93,Tryz.results93,f3, *]) | (refine drawK_split (fun h => ?_) (fun h => ?_) <;> simp only [go_sem,zA,zB,zC,zD,zE,zF,zG,zH,zI,zJ,zK,zL,zM,zN,zO,zP,↓reduceIte,reduceCtorEq,Tryz.ntmps93,Tryz.results93,f3, *]) | (refine endD_intro (by decide +kernel) ?_; simp only [go_sem,zA,zB,zC,zD,zE,zF,zG,zH,zI,zJ,zK,zL,zM,zN,zO,zP,↓reduceIte,reduceCtorEq,Tryz.ntmps93,Tryz.results93,f3, *]) | (with_reducible refine And.intro ?_ ?_))
      all_goals simp_all
    have f3 : decide (to = (te.length : Int)) = false := by simp [he]
    by_cases hl0 : left = -1
    · subst hl0
      have f4 : decide ((-1 : Int) > 0) = false := by decide
      simp only [go_sem,zA,zB,zC,zD,zE,zF,zG,zH,zI,zJ,zK,zL,zM,zN,zO,zP,↓reduceIte,reduceCtorEq,f3,f4,hw2]
      repeat' (first | (refine wantK_splitN (fun h => ?_) (fun h => ?_) <;> simp only [go_sem,zA,zB,zC,zD,zE,zF,zG,zH,zI,zJ,zK,zL,zM,zN,zO,zP,↓reduceIte,reduceCtorEq,Tryz.ntmps93,Tryz.results93,f3, *]) | (refine wantK_split (fun h => ?_) (fun h => ?_) <;> simp only [go_sem,zA,zB,zC,zD,zE,zF,zG,zH,zI,zJ,zK,zL,zM,zN,zO,zP,↓reduceIte,reduceCtorEq,Tryz.ntmps93,Tryz.results93,f3, *]) | (refine condK_splitN (fun h => ?_) (fun h => ?_) <;> simp only [go_sem,zA,zB,zC,zD,zE,zF,zG,zH,zI,zJ,zK,zL,zM,zN,zO,zP,↓reduceIte,reduceCtorEq,Tryz.ntmps93,Tryz.results93,f3, *]) | (refine condK_split (fun h => ?_) (fun h => ?_) <;> simp only [go_sem,zA,zB,zC,zD,zE,zF,zG,zH,zI,zJ,zK,zL,zM,zN,zO,zP,↓reduceIte,reduceCtorEq,Tryz.ntmps93,Tryz.results93,f3, *]) | (refine drawK_splitN (fun h => ?_) (fun h => ?_) <;> simp only [go_sem,zA,zB,zC,zD,zE,zF,zG,zH,zI,zJ,zK,zL,zM,zN,zO,zP,↓reduceIte,reduceCtorEq,Tryz.ntmps93,Tryz.results93,f3, *]) | (refine drawK_split (fun h => ?_) (fun h => ?_) <;> simp only [go_sem,zA,zB,zC,zD,zE,zF,zG,zH,zI,zJ,zK,zL,zM,zN,zO,zP,↓reduceIte,reduceCtorEq,Tryz.ntmps93,Tryz.results93,f3, *]) | (refine endD_intro (by decide +kernel) ?_; simp only [go_sem,zA,zB,zC,zD,zE,zF,zG,zH,zI,zJ,zK,zL,zM,zN,zO,zP,↓reduceIte,reduceCtorEq,Tryz.ntmps93,Tryz.results93,f3, *]) | (with_reducible refine And.intro ?_ ?_))
      all_goals simp_all
    have f4 : decide (left > 0) = true := by simp; omega
    simp only [go_sem,zA,zB,zC,zD,zE,zF,zG,zH,zI,zJ,zK,zL,zM,zN,zO,zP,↓reduceIte,reduceCtorEq,f3,f4,hw2]
    repeat' (first | (refine wantK_splitN (fun h => ?_) (fun h => ?_) <;> simp only [go_sem,zA,zB,zC,zD,zE,zF,zG,zH,zI,zJ,zK,zL,zM,zN,zO,zP,↓reduceIte,reduceCtorEq,Tryz.ntmps93,Tryz.results93,f3, *]) | (refine wantK_split (fun h => ?_) (fun h => ?_) <;> simp only [go_sem,zA,zB,zC,zD,zE,zF,zG,zH,zI,zJ,zK,zL,zM,zN,zO,zP,↓reduceIte,reduceCtorEq,Tryz.ntmps93,Tryz.results93,f3, *]) | (refine condK_splitN (fun h => ?_) (fun h => ?_) <;> simp only [go_sem,zA,zB,zC,zD,zE,zF,zG,zH,zI,zJ,zK,zL,zM,zN,zO,zP,↓reduceIte,reduceCtorEq,Tryz.ntmps93,Tryz.results93,f3, *]) | (refine condK_split (fun h => ?_) (fun h => ?_) <;> simp only [go_sem,zA,zB,zC,zD,zE,zF,zG,zH,zI,zJ,zK,zL,zM,zN,zO,zP,↓reduceIte,reduceCtorEq,Tryz.ntmps93,Tryz.results93,f3, *]) | (refine drawK_splitN (fun h => ?_) (fun h => ?_) <;> simp only [go_sem,zA,zB,zC,zD,zE,zF,zG,zH,zI,zJ,zK,zL,zM,zN,zO,zP,↓reduceIte,reduceCtorEq,Tryz.ntmps93,Tryz.results93,f3, *]) | (refine drawK_split (fun h => ?_) (fun h => ?_) <;> simp only [go_sem,zA,zB,zC,zD,zE,zF,zG,zH,zI,zJ,zK,zL,zM,zN,zO,zP,↓reduceIte,reduceCtorEq,Tryz.ntmps93,Tryz.results93,f3, *]) | (refine endD_intro (by decide +kernel) ?_; simp only [go_sem,zA,zB,zC,zD,zE,zF,zG,zH,zI,zJ,zK,zL,zM,zN,zO,zP,↓reduceIte,reduceCtorEq,Tryz.ntmps93,Tryz.results93,f3, *]) | (with_reducible refine And.intro ?_ ?_))
    all_goals simp_all
  · have hG : Snd.goes ⟨st,te,pos,num,left,gap,clock,waits,err⟩ = false := by simp [Snd.goes]; omega
    rw [hG] at hS hP ⊢
    simp only [Bool.false_eq_true,if_false] at hS hP
    subst hS hP
    simp only [go_sem,zA,zB,zC,zD,zE,zF,zG,zH,zI,zJ,zK,zL,zM,zN,zO,zP,↓reduceIte,reduceCtorEq,Tryz.ntmps93,Tryz.results93,Snd.pv,Pdu.pv,Pdu.zero]
    repeat' (first | (refine wantK_splitN (fun h => ?_) (fun h => ?_) <;> simp only [go_sem,zA,zB,zC,zD,zE,zF,zG,zH,zI,zJ,zK,zL,zM,zN,zO,zP,↓reduceIte,reduceCtorEq,Tryz.ntmps93,Tryz.results93,Snd.pv,Pdu.pv,Pdu.zero, *]) | (refine wantK_split (fun h => ?_) (fun h => ?_) <;> simp only [go_sem,zA,zB,zC,zD,zE,zF,zG,zH,zI,zJ,zK,zL,zM,zN,zO,zP,↓reduceIte,reduceCtorEq,Tryz.ntmps93,Tryz.results93,Snd.pv,Pdu.pv,Pdu.zero, *]) | (refine condK_splitN (fun h => ?_) (fun h => ?_) <;> simp only [go_sem,zA,zB,zC,zD,zE,zF,zG,zH,zI,zJ,zK,zL,zM,zN,zO,zP,↓reduceIte,reduceCtorEq,Tryz.ntmps93,Tryz.results93,Snd.pv,Pdu.pv,Pdu.zero, *]) | (refine condK_split (fun h => ?_) (fun h => ?_) <;> simp only [go_sem,zA,zB,zC,zD,zE,zF,zG,zH,zI,zJ,zK,zL,zM,zN,zO,zP,↓reduceIte,reduceCtorEq,Tryz.ntmps93,Tryz.results93,Snd.pv,Pdu.pv,Pdu.zero, *]) | (refine drawK_splitN (fun h => ?_) (fun h => ?_) <;> simp only [go_sem,zA,zB,zC,zD,zE,zF,zG,zH,zI,zJ,zK,zL,zM,zN,zO,zP,↓reduceIte,reduceCtorEq,Tryz.ntmps93,Tryz.results93,Snd.pv,Pdu.pv,Pdu.zero, *]) | (refine drawK_split (fun h => ?_) (fun h => ?_) <;> simp only [go_sem,zA,zB,zC,zD,zE,zF,zG,zH,zI,zJ,zK,zL,zM,zN,zO,zP,↓reduceIte,reduceCtorEq,Tryz.ntmps93,Tryz.results93,Snd.pv,Pdu.pv,Pdu.zero, *]) | (refine endD_intro (by decide +kernel) ?_; simp only [go_sem,zA,zB,zC,zD,zE,zF,zG,zH,zI,zJ,zK,zL,zM,zN,zO,zP,↓reduceIte,reduceCtorEq,Tryz.ntmps93,Tryz.results93,Snd.pv,Pdu.pv,Pdu.zero, *]) | (with_reducible refine And.intro ?_ ?_))
    all_goals simp_all
abbrev Snd.cells (s : Snd) : List PV := [PI s.st,bytesPV s.text,PI s.pos,PI s.num,PI s.left,PI s.gap,PI s.clock,PI s.waits,PI s.err]
def Snd.fine (s : Snd) : Prop := s.ok ∧ s.left ≤ 255 ∧ (s.st = 2 → s.left = -1 ∨ 1 ≤ s.left)
theorem take_fine {s : Snd} (h : s.fine) (p : Pdu) : (takeS s p).fine := by
  obtain ⟨⟨h1,h2,h3⟩,h5,h4⟩ := h
  unfold takeS
  by_cases ht : s.takes p = true
  · rw [if_pos ht]
    have hR : p.right = true := by simp [Snd.takes] at ht; exact ht.2
    have hk : p.k = 4 := by simp [Snd.takes] at ht; exact ht.1.2
    have hb : 0 ≤ p.b ∧ p.b ≤ 255 := by simp [Pdu.right,hk] at hR; omega
    split
    · exact ⟨⟨h1,h2,h3⟩,h5,by simp⟩
    · split
      · split
        · exact ⟨⟨h1,h2,h3⟩,h5,by simp⟩
        · exact ⟨⟨h1,h2,h3⟩,h5,h4⟩
      · refine ⟨⟨h1,h2,h3⟩,?_,fun _ => ?_⟩
        · simp only
          split <;> omega
        · simp only
          split <;> omega
  · rw [if_neg ht]
    exact ⟨⟨h1,h2,h3⟩,h5,h4⟩
theorem tick_fine {s : Snd} (h : s.fine) : (tickS s).fine := by
  obtain ⟨⟨h1,h2,h3⟩,h5,h4⟩ := h
  unfold tickS
  split
  · generalize (if 1099511627776 < IntKind.wrap .i64 (s.clock + 1) then 1099511627776 else IntKind.wrap .i64 (s.clock + 1)) = c
    simp only
    split
    · exact ⟨⟨h1,h2,h3⟩,h5,by simp⟩
    · exact ⟨⟨h1,h2,h3⟩,h5,h4⟩
  · exact ⟨⟨h1,h2,h3⟩,h5,h4⟩
theorem next_fine {s : Snd} (h : s.fine) : (nextS s).fine := by
  obtain ⟨⟨h1,h2,h3⟩,h5,h4⟩ := h
  unfold nextS
  split
  · rename_i hg
    have hst : s.st = 2 := by simp [Snd.goes] at hg; exact hg.1
    have hl := h4 hst
    have hw : IntKind.wrap .i64 (s.left - 1) = s.left - 1 := wrapI64 (by omega)
    have hto : 0 ≤ nextTo s ∧ nextTo s ≤ s.text.length := by simp only [nextTo]; split <;> omega
    refine ⟨⟨hto.1,hto.2,h3⟩,?_,fun h => ?_⟩
    · simp only [nextL,hw]
      repeat' split
      all_goals omega
    · simp only [nextT,nextL,hw] at h ⊢
      repeat' split at h
      all_goals first | omega | skip
      all_goals (repeat' split) <;> omega
  · exact ⟨⟨h1,h2,h3⟩,h5,h4⟩
end Go.Proofs.YtcdmhigmgpflbaaGreat.Pe.Lk
