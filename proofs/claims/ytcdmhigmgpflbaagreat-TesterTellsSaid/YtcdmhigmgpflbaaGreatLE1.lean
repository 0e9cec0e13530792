import Derived.Test.YtcdmhigmgpflbaaGreatLD4
import Derived.Test.YtcdmhigmgpflbaaGreatLCR18
set_option maxRecDepth 20000
set_option maxHeartbeats 4000000
set_option linter.unusedSimpArgs false
set_option linter.unusedVariables false
open Nat renaming reduceAdd → zA,reduceSub → zB,reduceMul → zC,reduceLT → zD,reduceLeDiff → zE,reduceEqDiff → zF,reduceBEq → zG
open Int renaming reduceToNat → zH,reduceLT → zI,reduceLE → zJ,reduceEq → zK,reduceNe → zL,reduceAdd → zM,reduceSub → zN,reduceMul → zO,reduceNeg → zP
namespace Go.Proofs.YtcdmhigmgpflbaaGreat.Pe.Lk
open Go.Pe Go.RowKit
structure Way where
  u : List Pdu
  h : List Pdu
structure Lnk where
  s : Snd
  r : Rcv
  a : Way
  b : Way
  m : Nat
def fateL (fates : List Int) (k : Nat) : Int := fates.getD k 1
def putW (w : Way) (p : Pdu) (f : Int) : Way := if f = 2 then w else if f = 4 then ⟨w.u,w.h ++ [p]⟩ else if f = 3 then ⟨w.u ++ [p] ++ [p] ++ w.h,[]⟩ else ⟨w.u ++ [p] ++ w.h,[]⟩
def recvAll (fates : List Int) : List Pdu → Rcv → Way → Nat → Rcv × Way × Nat
  | [],r,b,m => (r,b,m)
  | p :: l,r,b,m => if (recvV r p).2.2 then recvAll fates l (recvV r p).1 (putW b (recvV r p).2.1 (fateL fates m)) (m + 1) else recvAll fates l (recvV r p).1 b m
def takeAll : List Pdu → Snd → Snd
  | [],s => s
  | p :: l,s => takeAll l (takeS s p)
def tickL (fates : List Int) (L : Lnk) : Lnk :=
  let x := recvAll fates L.a.u L.r L.b L.m
  let s := takeAll x.2.1.u L.s
  ⟨tickS (nextS s),tickV x.1,if s.goes then putW ⟨[],L.a.h⟩ (nextP s) (fateL fates x.2.2) else ⟨[],L.a.h⟩,⟨[],x.2.1.h⟩,if s.goes then x.2.2 + 1 else x.2.2⟩
def doneL (L : Lnk) : Bool := (decide (L.s.st = 3) || decide (L.s.st = 4)) && !decide (L.r.st = 2) && decide (L.a.u.length + L.b.u.length = 0)
def runL (fates : List Int) : Nat → Nat → Lnk → Lnk × Nat
  | 0,n,L => (L,n)
  | f + 1,n,L => if doneL L then (L,n) else runL fates f (n + 1) (tickL fates L)
def startL (t : List UInt8) (room block gap : Int) (fates : List Int) : Lnk := ⟨newS t,freshR room block gap,putW ⟨[],[]⟩ (newP t) (fateL fates 0),⟨[],[]⟩,1⟩
def playV (t : List UInt8) (room block gap : Int) (fates : List Int) : Snd × Rcv × Nat :=
  if newE t = 0 then ((runL fates 100000 0 (startL t room block gap fates)).1.s,(runL fates 100000 0 (startL t room block gap fates)).1.r,(runL fates 100000 0 (startL t room block gap fates)).2)
  else (⟨4,[],0,0,0,0,0,0,newE t⟩,freshR room block gap,0)
def Snd.sound (s : Snd) : Prop := s.fine ∧ 0 ≤ s.num ∧ s.num ≤ 15 ∧ (s.st = 1 ∨ s.st = 2 → s.pos < s.text.length)
theorem take_sound {s : Snd} (h : s.sound) (p : Pdu) : (takeS s p).sound := by
  refine ⟨take_fine h.1 p,?_⟩
  obtain ⟨_,h1,h2,h3⟩ := h
  unfold takeS
  by_cases ht : s.takes p = true
  · rw [if_pos ht]
    have hst : s.st = 1 := by simp [Snd.takes] at ht; exact ht.1.1
    have h3' := h3 (.inl hst)
    split
    · exact ⟨h1,h2,fun _ => h3'⟩
    · split
      · split
        · exact ⟨h1,h2,fun _ => h3'⟩
        · exact ⟨h1,h2,fun _ => h3'⟩
      · exact ⟨h1,h2,fun _ => h3'⟩
  · rw [if_neg ht]
    exact ⟨h1,h2,h3⟩
theorem tick_sound {s : Snd} (h : s.sound) : (tickS s).sound := by
  refine ⟨tick_fine h.1,?_⟩
  obtain ⟨_,h1,h2,h3⟩ := h
  unfold tickS
  split
  · rename_i hst
    generalize (if 1099511627776 < IntKind.wrap .i64 (s.clock + 1) then 1099511627776 else IntKind.wrap .i64 (s.clock + 1)) = c
    simp only
    split
    · exact ⟨h1,h2,fun _ => h3 hst⟩
    · exact ⟨h1,h2,h3⟩
  · exact ⟨h1,h2,h3⟩
theorem next_sound {s : Snd} (h : s.sound) : (nextS s).sound := by
  refine ⟨next_fine h.1,?_⟩
  obtain ⟨⟨⟨p1,p2,p3⟩,_,_⟩,h1,h2,h3⟩ := h
  unfold nextS
  split
  · rename_i hg
    have hst : s.st = 2 := by simp [Snd.goes] at hg; exact hg.1
    have h3' := h3 (.inr hst)
    have hw : IntKind.wrap .i64 (s.num + 1) = s.num + 1 := wrapI64 (by omega)
    have m1 : 0 ≤ (s.num + 1).tmod 16 := Int.tmod_nonneg _ (by omega)
    have m2 : (s.num + 1).tmod 16 < 16 := Int.tmod_lt_of_pos _ (by omega)
    refine ⟨by simp only [nextN,hw]; exact m1,by simp only [nextN,hw]; omega,fun hh => ?_⟩
    simp only [nextT] at hh ⊢
    by_cases e : nextTo s = s.text.length
    · rw [if_pos e] at hh; omega
    · have : nextTo s ≤ s.text.length := by simp only [nextTo]; split <;> omega
      omega
  · exact ⟨h1,h2,h3⟩
theorem nextP_right {s : Snd} (h : s.sound) (hg : s.goes = true) : (nextP s).right = true := by
  obtain ⟨⟨⟨p1,p2,p3⟩,_,_⟩,h1,h2,h3⟩ := h
  have hst : s.st = 2 := by simp [Snd.goes] at hg; exact hg.1
  have h3' := h3 (.inr hst)
  rw [nextP,if_pos hg]
  have hto : s.pos < nextTo s ∧ nextTo s ≤ s.pos + 7 ∧ nextTo s ≤ s.text.length := by simp only [nextTo]; split <;> omega
  have hlen : ((s.text.take (nextTo s).toNat).drop s.pos.toNat).length = (nextTo s).toNat - s.pos.toNat := by simp; omega
  simp only [Pdu.right,show ¬ ((3 : Int) = 1) by decide,show ¬ ((3 : Int) = 2) by decide,if_false,if_true,Bool.and_eq_true,decide_eq_true_eq,z4,hlen]
  simp
  omega
theorem new_sound {t : List UInt8} : (newS t).sound := by
  unfold newS Snd.sound Snd.fine Snd.ok
  split
  · simp [Snd.zero]
  · split
    · simp; omega
    · simp; omega
theorem newP_right {t : List UInt8} (h : newE t = 0) : (newP t).right = true := by
  unfold newE at h
  split at h
  · omega
  · split at h
    · omega
    · rename_i a b
      unfold newP
      rw [if_neg (by omega)]
      split
      · simp [Pdu.right,z4]; omega
      · simp [Pdu.right,z4]; omega
def Way.len (w : Way) : Nat := w.u.length + w.h.length
def Way.good (w : Way) : Prop := (∀ p ∈ w.u,p.right = true) ∧ (∀ p ∈ w.h,p.right = true)
theorem putW_len (w : Way) (p : Pdu) (f : Int) : (putW w p f).len ≤ w.len + 2 := by
  unfold putW Way.len
  repeat' split
  all_goals simp <;> omega
theorem putW_good {w : Way} (h : w.good) {p : Pdu} (hp : p.right = true) (f : Int) : (putW w p f).good := by
  obtain ⟨h1,h2⟩ := h
  unfold putW
  split
  · exact ⟨h1,h2⟩
  · split
    · exact ⟨h1,fun q hq => by simp at hq; rcases hq with hq | rfl; exact h2 q hq; exact hp⟩
    · split
      · refine ⟨fun q hq => ?_,fun q hq => by simp at hq⟩
        simp at hq
        rcases hq with hq | rfl | hq
        · exact h1 q hq
        · exact hp
        · exact h2 q hq
      · refine ⟨fun q hq => ?_,fun q hq => by simp at hq⟩
        simp at hq
        rcases hq with hq | rfl | hq
        · exact h1 q hq
        · exact hp
        · exact h2 q hq
theorem takeAll_sound : ∀ {l : List Pdu} {s : Snd},s.sound → (takeAll l s).sound
  | [],_,h => h
  | p :: l,s,h => by
    show (takeAll l (takeS s p)).sound
    exact takeAll_sound (take_sound h p)
def LInv (L : Lnk) (n : Nat) : Prop := L.s.sound ∧ L.r.fine ∧ L.a.good ∧ ∃ D,L.a.len + D ≤ 2 * (n + 1) ∧ L.b.len ≤ 2 * D ∧ L.m ≤ n + 1 + D
end Go.Proofs.YtcdmhigmgpflbaaGreat.Pe.Lk
namespace Go.Proofs.YtcdmhigmgpflbaaGreat.Pe.Lk
open Go.Pe Go.RowKit
theorem lk_fresh {nx : Nat} : ∀ {hp : List (Nat × Blk)},(∀ x ∈ hp,x.1 < nx) → lk nx hp = none
  | [],_ => rfl
  | (j,x) :: l,h => by
    have h1 : j < nx := h (j,x) List.mem_cons_self
    rw [lk,if_neg (by omega)]
    exact lk_fresh fun y hy => h y (List.mem_cons_of_mem _ hy)
theorem fate_eff {fates : List Int} {m mb fb : Nat} {H : Heap} (hne : ¬ fb = mb) (hm : m ≤ 1000000) (h1 : H mb = some (.box 3 [PI m])) (h2 : H fb = some (.box 27 [intsPV fates])) :
    EffCalls Tryz.prog 55 [.ptr mb 0,.ptr fb 0] H (PI (fateL fates m)) [(mb,.box 3 [PI ((m + 1 : Nat) : Int)])] := by
  refine EffCalls.of ⟨_,by rfl,by decide +kernel,by decide +kernel⟩ fun hp nx hH hx => ?_
  have e1 : lk mb hp = some (.box 3 [PI m]) := by rw [hH mb (by simp [footL,ptrsOf,deepL,deepB]),h1]
  have e2 : lk fb hp = some (.box 27 [intsPV fates]) := by rw [hH fb (by simp [footL,ptrsOf,deepL,deepB]),h2]
  refine CallA.into tabOK mixed Tryz.func55 rfl rfl (by decide +kernel) (by simp [Tryz.ntmps55]) ?_
  have e3 := lk_fresh hx
  have hw := wrapIN (i := m) (by omega)
  have hw2 : IntKind.wrap .i64 (((m + 1 : Nat) : Int) - 1) = m := by rw [wrapI64 (by omega)]; omega
  by_cases hc : m < fates.length
  · have f1 : decide (((m + 1 : Nat) : Int) > (fates.length : Int)) = false := by simp; omega
    have f2 : (m : Int) < (fates.length : Int) := by omega
    have f3 : (0 : Int) ≤ (m : Int) := by omega
    have f4 : (fates.map rowI).getD m [] = [PI (fateL fates m)] := by simp [List.getD_eq_getElem?_getD,fateL,hc,rowI]
    simp only [go_sem,zA,zB,zC,zD,zE,zF,zG,zH,zI,zJ,zK,zL,zM,zN,zO,zP,↓reduceIte,reduceCtorEq,Tryz.ntmps55,Tryz.results55,e1,e2,e3,hne,hw,hw2,f1,f2,f3,f4,Int.toNat_natCast,List.length_map]
    intro b
    rfl
  · have f1 : decide (((m + 1 : Nat) : Int) > (fates.length : Int)) = true := by simp; omega
    have f4 : fateL fates m = 1 := by simp [fateL,List.getD_eq_getElem?_getD,List.getElem?_eq_none (Nat.le_of_not_lt hc)]
    simp only [go_sem,zA,zB,zC,zD,zE,zF,zG,zH,zI,zJ,zK,zL,zM,zN,zO,zP,↓reduceIte,reduceCtorEq,Tryz.ntmps55,Tryz.results55,e1,e2,e3,hne,hw,hw2,f1,List.length_map]
    exact ⟨f4.symm,fun b => rfl⟩
end Go.Proofs.YtcdmhigmgpflbaaGreat.Pe.Lk
