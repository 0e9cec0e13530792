import Derived.Test.YtcdmhigmgpflbaaGreatLE10a
set_option maxRecDepth 20000
set_option maxHeartbeats 4000000
set_option linter.unusedSimpArgs false
set_option linter.unusedVariables false
open Nat renaming reduceAdd → zA,reduceSub → zB,reduceMul → zC,reduceLT → zD,reduceLeDiff → zE,reduceEqDiff → zF,reduceBEq → zG
open Int renaming reduceToNat → zH,reduceLT → zI,reduceLE → zJ,reduceEq → zK,reduceNe → zL,reduceAdd → zM,reduceSub → zN,reduceMul → zO,reduceNeg → zP,toNat_natCast → yCa,natCast_zero → yCb
open List renaming length_cons → yBa,length_nil → yBb,nil_append → yBc,cons_append → yBl,length_map → yBm
namespace Go.Proofs.YtcdmhigmgpflbaaGreat.Pe.Lk
open Go.Pe Go.RowKit
attribute [go_sem] pduRows_length
def fateR (fates : List Int) (k : Nat) : Int := if fateL fates k < 1 ∨ 4 < fateL fates k then 1 else fateL fates k
theorem fateR_calls (fates : List Int) (k : Nat) : PureCalls Tryz.prog 89 [intsPV fates,PI k] (PI (fateR fates k)) := by
  refine PureCalls.of tabOK mixed Tryz.func89 rfl rfl (by decide +kernel) (by simp [Tryz.ntmps89]) ?_
  by_cases hc : k < fates.length
  · have g1 : decide ((k : Int) ≥ (fates.length : Int)) = false := by simp; omega
    have f2 : (k : Int) < (fates.length : Int) := by omega
    have f3 : (0 : Int) ≤ (k : Int) := by omega
    have f4 : (fates.map rowI).getD k [] = [PI (fateL fates k)] := by simp [List.getD_eq_getElem?_getD,fateL,hc,rowI]
    unfold fateR
    generalize fateL fates k = f at f4
    by_cases h1 : f < 1
    · have g2 : decide (f < 1) = true := by simpa using h1
      rw [if_pos (.inl h1)]
      simp only [go_sem,zA,zB,zC,zD,zE,zF,zG,zH,zI,zJ,zK,zL,zM,zN,zO,zP,↓reduceIte,reduceCtorEq,g1,f2,f3,f4,g2,yCa,yBm,Tryz.ntmps89,Tryz.results89]
    have g2 : decide (f < 1) = false := by simpa using h1
    by_cases h2 : 4 < f
    · have g3 : decide (f > 4) = true := by simpa using h2
      rw [if_pos (.inr h2)]
      simp only [go_sem,zA,zB,zC,zD,zE,zF,zG,zH,zI,zJ,zK,zL,zM,zN,zO,zP,↓reduceIte,reduceCtorEq,g1,f2,f3,f4,g2,g3,yCa,yBm,Tryz.ntmps89,Tryz.results89]
    have g3 : decide (f > 4) = false := by simpa using h2
    rw [if_neg (by omega)]
    simp only [go_sem,zA,zB,zC,zD,zE,zF,zG,zH,zI,zJ,zK,zL,zM,zN,zO,zP,↓reduceIte,reduceCtorEq,g1,f2,f3,f4,g2,g3,yCa,yBm,Tryz.ntmps89,Tryz.results89]
  · have g1 : decide ((k : Int) ≥ (fates.length : Int)) = true := by simp; omega
    have f4 : fateL fates k = 1 := by simp [fateL,List.getD_eq_getElem?_getD,List.getElem?_eq_none (Nat.le_of_not_lt hc)]
    rw [fateR,f4,if_neg (by omega)]
    simp only [go_sem,zA,zB,zC,zD,zE,zF,zG,zH,zI,zJ,zK,zL,zM,zN,zO,zP,↓reduceIte,reduceCtorEq,g1,yBm,Tryz.ntmps89,Tryz.results89]
theorem putW_fate (w : Way) (p : Pdu) (fates : List Int) (k : Nat) : putW w p (fateR fates k) = putW w p (fateL fates k) := by
  unfold fateR
  split
  · unfold putW
    rw [if_neg (by omega),if_neg (by omega),if_neg (by omega),if_neg (by omega),if_neg (by omega),if_neg (by omega)]
  · rfl
abbrev Way.cells (w : Way) : List PV := [.im 7 (pduRows w.u),.im 7 (pduRows w.h)]
theorem putR_calls (w : Way) (p : Pdu) (f : Int) (hw : w.len ≤ 1000000) : PureCalls Tryz.prog 88 [.agg w.cells,.agg p.cells,PI f] (.agg (putW w p f).cells) := by
  refine PureCalls.of tabOK mixed Tryz.func88 rfl rfl (by decide +kernel) (by simp [Tryz.ntmps88]) ?_
  have hl : w.len = w.u.length + w.h.length := rfl
  obtain ⟨u,h⟩ := w
  simp only at hl
  simp only [go_sem,zA,zB,zC,zD,zE,zF,zG,zH,zI,zJ,zK,zL,zM,zN,zO,zP,↓reduceIte,reduceCtorEq,Tryz.ntmps88,Tryz.results88]
  by_cases h2 : f = 2
  · have f2 : decide (f = 2) = true := by simpa using h2
    rw [show putW ⟨u,h⟩ p f = ⟨u,h⟩ by simp [putW,h2]]
    simp only [go_sem,zA,zB,zC,zD,zE,zF,zG,zH,zI,zJ,zK,zL,zM,zN,zO,zP,↓reduceIte,reduceCtorEq,f2,Tryz.ntmps88,Tryz.results88]
  have f2 : decide (f = 2) = false := by simpa using h2
  by_cases h4 : f = 4
  · have f4 : decide (f = 4) = true := by simpa using h4
    rw [show putW ⟨u,h⟩ p f = ⟨u,h ++ [p]⟩ by simp [putW,h4]]
    simp only [go_sem,zA,zB,zC,zD,zE,zF,zG,zH,zI,zJ,zK,zL,zM,zN,zO,zP,↓reduceIte,reduceCtorEq,f2,f4]
    repeat (first | refine And.intro (by omega) ?_ | refine And.intro (by simp only [List.length_append,yBa,yBb,pduRows_length]; omega) ?_)
    (refine endD_intro (by decide +kernel) ?_; simp only [go_sem,zA,zB,zC,zD,zE,zF,zG,zH,zI,zJ,zK,zL,zM,zN,zO,zP,↓reduceIte,reduceCtorEq,pduRows_append,pduRows_one,Tryz.ntmps88,Tryz.results88])
  have f4 : decide (f = 4) = false := by simpa using h4
  simp only [go_sem,zA,zB,zC,zD,zE,zF,zG,zH,zI,zJ,zK,zL,zM,zN,zO,zP,↓reduceIte,reduceCtorEq,f2,f4]
  repeat (first | refine And.intro (by omega) ?_ | refine And.intro (by simp only [List.length_append,yBa,yBb,pduRows_length]; omega) ?_)
  (refine endD_intro (by decide +kernel) ?_; simp only [go_sem,zA,zB,zC,zD,zE,zF,zG,zH,zI,zJ,zK,zL,zM,zN,zO,zP,↓reduceIte,reduceCtorEq])
  by_cases h3 : f = 3
  · have f3 : decide (f = 3) = true := by simpa using h3
    rw [show putW ⟨u,h⟩ p f = ⟨u ++ [p] ++ [p] ++ h,[]⟩ by simp [putW,h2,h4,h3]]
    simp only [go_sem,zA,zB,zC,zD,zE,zF,zG,zH,zI,zJ,zK,zL,zM,zN,zO,zP,↓reduceIte,reduceCtorEq,f3]
    repeat (first | refine And.intro (by omega) ?_ | refine And.intro (by simp only [List.length_append,yBa,yBb,pduRows_length]; omega) ?_)
    simp only [go_sem,zA,zB,zC,zD,zE,zF,zG,zH,zI,zJ,zK,zL,zM,zN,zO,zP,↓reduceIte,reduceCtorEq,pduRows_append,pduRows_one,pduRows_nil,Tryz.ntmps88,Tryz.results88]
  have f3 : decide (f = 3) = false := by simpa using h3
  rw [show putW ⟨u,h⟩ p f = ⟨u ++ [p] ++ h,[]⟩ by simp [putW,h2,h4,h3]]
  simp only [go_sem,zA,zB,zC,zD,zE,zF,zG,zH,zI,zJ,zK,zL,zM,zN,zO,zP,↓reduceIte,reduceCtorEq,f3]
  repeat (first | refine And.intro (by omega) ?_ | refine And.intro (by simp only [List.length_append,yBa,yBb,pduRows_length]; omega) ?_)
  simp only [go_sem,zA,zB,zC,zD,zE,zF,zG,zH,zI,zJ,zK,zL,zM,zN,zO,zP,↓reduceIte,reduceCtorEq,pduRows_append,pduRows_one,pduRows_nil,Tryz.ntmps88,Tryz.results88]
abbrev bothC (a b : Way) (m : Nat) : List PV := [.im 7 (pduRows a.u),.im 7 (pduRows a.h),.im 7 (pduRows b.u),.im 7 (pduRows b.h),PI m]
theorem thereR_calls (a b : Way) (m : Nat) (p : Pdu) (fates : List Int) (ha : a.len ≤ 1000000) (hm : m ≤ 1000000) : PureCalls Tryz.prog 66 [.agg (bothC a b m),.agg p.cells,intsPV fates] (.agg (bothC (putW a p (fateL fates m)) b (m + 1))) := by
  refine PureCalls.of tabOK mixed Tryz.func66 rfl rfl (by decide +kernel) (by simp [Tryz.ntmps66]) ?_
  have cF := fateR_calls fates m
  have cP := putR_calls a p (fateR fates m) ha
  rw [putW_fate] at cP
  generalize putW a p (fateL fates m) = a' at cP
  have hw := wrapIN (i := m) (by omega)
  simp only [go_sem,zA,zB,zC,zD,zE,zF,zG,zH,zI,zJ,zK,zL,zM,zN,zO,zP,↓reduceIte,reduceCtorEq,Tryz.ntmps66,Tryz.results66]
  (refine callD_pure (cF) (by simp only [go_sem,zA,zB,zC,zD,zE,zF,zG,zH,zI,zJ,zK,zL,zM,zN,zO,zP,↓reduceIte,reduceCtorEq] <;> first | rfl | decide) ?_; simp only [go_sem,zA,zB,zC,zD,zE,zF,zG,zH,zI,zJ,zK,zL,zM,zN,zO,zP,↓reduceIte,reduceCtorEq])
  (refine callD_pure (cP) (by simp only [go_sem,zA,zB,zC,zD,zE,zF,zG,zH,zI,zJ,zK,zL,zM,zN,zO,zP,↓reduceIte,reduceCtorEq] <;> first | rfl | decide) ?_; simp only [go_sem,zA,zB,zC,zD,zE,zF,zG,zH,zI,zJ,zK,zL,zM,zN,zO,zP,↓reduceIte,reduceCtorEq])
  (refine endD_intro (by decide +kernel) ?_; simp only [go_sem,zA,zB,zC,zD,zE,zF,zG,zH,zI,zJ,zK,zL,zM,zN,zO,zP,↓reduceIte,reduceCtorEq,hw,Tryz.ntmps66,Tryz.results66])
theorem backR_calls (a b : Way) (m : Nat) (p : Pdu) (fates : List Int) (hb : b.len ≤ 1000000) (hm : m ≤ 1000000) : PureCalls Tryz.prog 91 [.agg (bothC a b m),.agg p.cells,intsPV fates] (.agg (bothC a (putW b p (fateL fates m)) (m + 1))) := by
  refine PureCalls.of tabOK mixed Tryz.func91 rfl rfl (by decide +kernel) (by simp [Tryz.ntmps91]) ?_
  have cF := fateR_calls fates m
  have cP := putR_calls b p (fateR fates m) hb
  rw [putW_fate] at cP
  generalize putW b p (fateL fates m) = b' at cP
  have hw := wrapIN (i := m) (by omega)
  simp only [go_sem,zA,zB,zC,zD,zE,zF,zG,zH,zI,zJ,zK,zL,zM,zN,zO,zP,↓reduceIte,reduceCtorEq,Tryz.ntmps91,Tryz.results91]
  (refine callD_pure (cF) (by simp only [go_sem,zA,zB,zC,zD,zE,zF,zG,zH,zI,zJ,zK,zL,zM,zN,zO,zP,↓reduceIte,reduceCtorEq] <;> first | rfl | decide) ?_; simp only [go_sem,zA,zB,zC,zD,zE,zF,zG,zH,zI,zJ,zK,zL,zM,zN,zO,zP,↓reduceIte,reduceCtorEq])
  (refine callD_pure (cP) (by simp only [go_sem,zA,zB,zC,zD,zE,zF,zG,zH,zI,zJ,zK,zL,zM,zN,zO,zP,↓reduceIte,reduceCtorEq] <;> first | rfl | decide) ?_; simp only [go_sem,zA,zB,zC,zD,zE,zF,zG,zH,zI,zJ,zK,zL,zM,zN,zO,zP,↓reduceIte,reduceCtorEq])
  (refine endD_intro (by decide +kernel) ?_; simp only [go_sem,zA,zB,zC,zD,zE,zF,zG,zH,zI,zJ,zK,zL,zM,zN,zO,zP,↓reduceIte,reduceCtorEq,hw,Tryz.ntmps91,Tryz.results91])
end Go.Proofs.YtcdmhigmgpflbaaGreat.Pe.Lk
namespace Go.Proofs.YtcdmhigmgpflbaaGreat.Pe.Lk
open Go.Pe Go.RowKit
abbrev nilS' : PV := .lit (.slice none 0 0)
def rcv0' : Rcv := ⟨0,0,[],0,0,0,0,0,0,0⟩
def refSt (fates : List Int) (env : List (Nat × PV)) (s : Snd) (r : Rcv) (w : List PV) : St := ⟨81,[(3,intsPV fates),(4,.ptr 0 0),(5,.ptr 1 0),(6,.ptr 2 0),(8,.ptr 3 0),(9,.ptr 4 0),(10,.ptr 5 0)] ++ env,
  [(0,.box 49 s.cells),(1,.box 51 r.cells),(2,.box 93 w),(3,.box 49 Snd.zero.cells),(4,.box 51 rcv0'.cells),(5,.box 93 [nilS',nilS',nilS',nilS',PI 0])],60,0⟩
def ref1St (fates : List Int) (s : Snd) (r : Rcv) (x : PV) (au ah : List Pdu) (b : Way) (m i : Nat) : St := refSt fates [(11,.im 7 (pduRows au)),(12,PI i)] s r [x,.im 7 (pduRows ah),.im 7 (pduRows b.u),.im 7 (pduRows b.h),PI m]
def ref1I (fates : List Int) (s : Snd) (au ah : List Pdu) (X : Rcv × Way × Nat) (mm : Nat) (st : St) : Prop := ∃ (i : Nat) (r : Rcv) (x : PV) (b : Way) (m : Nat),i ≤ au.length ∧ mm = au.length - i ∧ r.fine ∧ (x = nilS' ∨ x = .im 7 []) ∧
  recvAll fates (au.drop i) r b m = X ∧ b.len + 2 * (au.length - i) ≤ 900000 ∧ m + (au.length - i) ≤ 900000 ∧ st = ref1St fates s r x au ah b m i
def ref2St (fates : List Int) (s : Snd) (r : Rcv) (x : PV) (ah : List Pdu) (b : Way) (m i : Nat) : St := refSt fates [(16,.im 7 (pduRows b.u)),(17,PI i)] s r [x,.im 7 (pduRows ah),nilS',.im 7 (pduRows b.h),PI m]
def ref2I (fates : List Int) (r : Rcv) (x : PV) (ah : List Pdu) (b : Way) (m : Nat) (S : Snd) (mm : Nat) (st : St) : Prop := ∃ (i : Nat) (s : Snd),i ≤ b.u.length ∧ mm = b.u.length - i ∧ s.sound ∧ takeAll (b.u.drop i) s = S ∧ st = ref2St fates s r x ah b m i
theorem tickRef_calls (fates : List Int) (L : Lnk) (hs0 : L.s.sound) (hr0 : L.r.fine) (hg : L.a.good) (hal : L.a.len ≤ 200004) (hbl : L.b.len ≤ 400008) (hm0 : L.m ≤ 400004) : PureCalls Tryz.prog 67 [L.s.pv,L.r.pv,.agg (bothC L.a L.b L.m),intsPV fates]
    (.tup [(tickL fates L).s.pv,(tickL fates L).r.pv,.agg (bothC (tickL fates L).a (tickL fates L).b (tickL fates L).m)]) := by
  refine PureCalls.of tabOK mixed Tryz.func67 rfl rfl (by decide +kernel) (by simp [Tryz.ntmps67]) ?_
  obtain ⟨s0,r0,a,b0,m0⟩ := L
  simp only at hs0 hr0 hg hal hbl hm0
  have hal' : a.len = a.u.length + a.h.length := rfl
  have hwk : ∀ st : St,True := fun _ => trivial
  simp only [go_sem,zA,zB,zC,zD,zE,zF,zG,zH,zI,zJ,zK,zL,zM,zN,zO,zP,↓reduceIte,reduceCtorEq,Snd.pv,Rcv.pv,Tryz.ntmps67,Tryz.results67]
  refine wpA_loop (ref1I fates s0 a.u a.h (recvAll fates a.u r0 b0 m0)) ⟨_,_,?_,0,r0,nilS',b0,m0,by omega,rfl,hr0,.inl rfl,by rw [List.drop_zero],by omega,by omega,rfl⟩ ?_
  · simp only [go_sem,zA,zB,zC,zD,zE,zF,zG,zH,zI,zJ,zK,zL,zM,zN,zO,zP,↓reduceIte,reduceCtorEq,ref1St,refSt,yBl,yBc,yCb,Snd.zero,rcv0',rowsB_nil] <;> (first | rfl | exact ⟨rfl,rfl⟩)
  rintro mm st ⟨i,r,x,b,m,hi,rfl,hr,hx,hrec,hb1,hm1,rfl⟩
  have hblx : b.len = b.u.length + b.h.length := rfl
  by_cases hci : i < a.u.length
  · have g1 : decide ((i : Int) < (a.u.length : Int)) = true := by simp; omega
    have f1' : (i : Int) < (a.u.length : Int) := by omega
    have f0 : (0 : Int) ≤ (i : Int) := by omega
    have hw := wrapIN (i := i) (by omega)
    have hrow := pduRows_at hci
    have hpr := hg.1 _ (List.getElem_mem hci)
    rw [List.drop_eq_getElem_cons hci,recvAll] at hrec
    generalize a.u[i] = pi at hrow hpr hrec
    have c1 := takeV_calls r pi hr hpr
    have hf1 := fine_recv hr hpr
    generalize recvV r pi = y at c1 hf1 hrec
    obtain ⟨r',q,bb⟩ := y
    simp only at c1 hf1 hrec
    have hpl := putW_len b q (fateL fates m)
    have cB := backR_calls ⟨[],a.h⟩ b m q fates (by omega) (by omega)
    generalize hb' : putW b q (fateL fates m) = b' at hrec cB hpl
    cases bb with
    | false =>
      simp only [Bool.false_eq_true,if_false] at hrec
      have fin : ∀ x,(x = nilS' ∨ x = .im 7 []) → ∀ st',Weak st' (ref1St fates s0 r' x a.u a.h b m (i + 1)) → ∃ m' s'',m' < a.u.length - i ∧ Weak st' s'' ∧ ref1I fates s0 a.u a.h (recvAll fates a.u r0 b0 m0) m' s'' :=
        fun x hx st' h => ⟨a.u.length - (i + 1),_,by omega,h,i + 1,r',x,b,m,by omega,rfl,hf1,hx,hrec,by omega,by omega,rfl⟩
      simp only [go_sem,zA,zB,zC,zD,zE,zF,zG,zH,zI,zJ,zK,zL,zM,zN,zO,zP,↓reduceIte,reduceCtorEq,ref1St,refSt,yBl,yBc,g1,f1',f0,yCa,hrow]
      (refine callD_pure (c1) (by simp only [go_sem,zA,zB,zC,zD,zE,zF,zG,zH,zI,zJ,zK,zL,zM,zN,zO,zP,↓reduceIte,reduceCtorEq,Rcv.pv,Pdu.pv] <;> first | rfl | decide) ?_; simp only [go_sem,zA,zB,zC,zD,zE,zF,zG,zH,zI,zJ,zK,zL,zM,zN,zO,zP,↓reduceIte,reduceCtorEq,Rcv.pv,Pdu.pv])
      (refine endD_intro (by decide +kernel) ?_; simp only [go_sem,zA,zB,zC,zD,zE,zF,zG,zH,zI,zJ,zK,zL,zM,zN,zO,zP,↓reduceIte,reduceCtorEq,hw])
      refine fin x hx _ ?_
      simp only [go_sem,zA,zB,zC,zD,zE,zF,zG,zH,zI,zJ,zK,zL,zM,zN,zO,zP,↓reduceIte,reduceCtorEq,ref1St,refSt,yBl,yBc] <;> (rcases hx with rfl | rfl <;> rfl)
    | true =>
      simp only [if_true] at hrec
      have fin : ∀ st',Weak st' (ref1St fates s0 r' (.im 7 []) a.u a.h b' (m + 1) (i + 1)) → ∃ m' s'',m' < a.u.length - i ∧ Weak st' s'' ∧ ref1I fates s0 a.u a.h (recvAll fates a.u r0 b0 m0) m' s'' :=
        fun st' h => ⟨a.u.length - (i + 1),_,by omega,h,i + 1,r',.im 7 [],b',m + 1,by omega,rfl,hf1,.inr rfl,hrec,by omega,by omega,rfl⟩
      rcases hx with rfl | rfl
      · simp only [go_sem,zA,zB,zC,zD,zE,zF,zG,zH,zI,zJ,zK,zL,zM,zN,zO,zP,↓reduceIte,reduceCtorEq,ref1St,refSt,yBl,yBc,g1,f1',f0,yCa,hrow]
        (refine callD_pure (c1) (by simp only [go_sem,zA,zB,zC,zD,zE,zF,zG,zH,zI,zJ,zK,zL,zM,zN,zO,zP,↓reduceIte,reduceCtorEq,Rcv.pv,Pdu.pv] <;> first | rfl | decide) ?_; simp only [go_sem,zA,zB,zC,zD,zE,zF,zG,zH,zI,zJ,zK,zL,zM,zN,zO,zP,↓reduceIte,reduceCtorEq,Rcv.pv,Pdu.pv])
        (refine endD_intro (by decide +kernel) ?_; simp only [go_sem,zA,zB,zC,zD,zE,zF,zG,zH,zI,zJ,zK,zL,zM,zN,zO,zP,↓reduceIte,reduceCtorEq])
        (refine CallA.pure (cB) (by simp only [go_sem,zA,zB,zC,zD,zE,zF,zG,zH,zI,zJ,zK,zL,zM,zN,zO,zP,↓reduceIte,reduceCtorEq,pduRows_nil,hw] <;> first | rfl | decide) ?_; simp only [go_sem,zA,zB,zC,zD,zE,zF,zG,zH,zI,zJ,zK,zL,zM,zN,zO,zP,↓reduceIte,reduceCtorEq,pduRows_nil,hw])
        refine fin _ ?_
        simp only [go_sem,zA,zB,zC,zD,zE,zF,zG,zH,zI,zJ,zK,zL,zM,zN,zO,zP,↓reduceIte,reduceCtorEq,ref1St,refSt,yBl,yBc,pduRows_nil] <;> rfl
      · simp only [go_sem,zA,zB,zC,zD,zE,zF,zG,zH,zI,zJ,zK,zL,zM,zN,zO,zP,↓reduceIte,reduceCtorEq,ref1St,refSt,yBl,yBc,g1,f1',f0,yCa,hrow]
        (refine callD_pure (c1) (by simp only [go_sem,zA,zB,zC,zD,zE,zF,zG,zH,zI,zJ,zK,zL,zM,zN,zO,zP,↓reduceIte,reduceCtorEq,Rcv.pv,Pdu.pv] <;> first | rfl | decide) ?_; simp only [go_sem,zA,zB,zC,zD,zE,zF,zG,zH,zI,zJ,zK,zL,zM,zN,zO,zP,↓reduceIte,reduceCtorEq,Rcv.pv,Pdu.pv])
        (refine endD_intro (by decide +kernel) ?_; simp only [go_sem,zA,zB,zC,zD,zE,zF,zG,zH,zI,zJ,zK,zL,zM,zN,zO,zP,↓reduceIte,reduceCtorEq])
        (refine CallA.pure (cB) (by simp only [go_sem,zA,zB,zC,zD,zE,zF,zG,zH,zI,zJ,zK,zL,zM,zN,zO,zP,↓reduceIte,reduceCtorEq,pduRows_nil,hw] <;> first | rfl | decide) ?_; simp only [go_sem,zA,zB,zC,zD,zE,zF,zG,zH,zI,zJ,zK,zL,zM,zN,zO,zP,↓reduceIte,reduceCtorEq,pduRows_nil,hw])
        refine fin _ ?_
        simp only [go_sem,zA,zB,zC,zD,zE,zF,zG,zH,zI,zJ,zK,zL,zM,zN,zO,zP,↓reduceIte,reduceCtorEq,ref1St,refSt,yBl,yBc,pduRows_nil] <;> rfl
  have hix : i = a.u.length := by omega
  rw [hix,List.drop_length,recvAll] at hrec
  have g1 : decide ((i : Int) < (a.u.length : Int)) = false := by simp; omega
  simp only [go_sem,zA,zB,zC,zD,zE,zF,zG,zH,zI,zJ,zK,zL,zM,zN,zO,zP,↓reduceIte,reduceCtorEq,ref1St,refSt,yBl,yBc,g1]
  refine wpA_loop (ref2I fates r x a.h b m (takeAll b.u s0)) ⟨_,_,?_,0,s0,by omega,rfl,hs0,by rw [List.drop_zero],rfl⟩ ?_
  · simp only [go_sem,zA,zB,zC,zD,zE,zF,zG,zH,zI,zJ,zK,zL,zM,zN,zO,zP,↓reduceIte,reduceCtorEq,ref2St,refSt,yBl,yBc,yCb] <;> (rcases hx with rfl | rfl <;> rfl)
  rintro mm st ⟨j,s,hj,rfl,hs,htk,rfl⟩
  by_cases hcj : j < b.u.length
  · have g2 : decide ((j : Int) < (b.u.length : Int)) = true := by simp; omega
    have f1' : (j : Int) < (b.u.length : Int) := by omega
    have f0 : (0 : Int) ≤ (j : Int) := by omega
    have hw := wrapIN (i := j) (by omega)
    have hrow := pduRows_at hcj
    rw [List.drop_eq_getElem_cons hcj,takeAll] at htk
    generalize b.u[j] = pi at hrow htk
    have c1 := takeR_calls s pi
    have hs1 := take_sound hs pi
    generalize takeS s pi = s' at c1 hs1 htk
    simp only [go_sem,zA,zB,zC,zD,zE,zF,zG,zH,zI,zJ,zK,zL,zM,zN,zO,zP,↓reduceIte,reduceCtorEq,ref2St,refSt,yBl,yBc,g2,f1',f0,yCa,hrow]
    (refine callD_pure (c1) (by simp only [go_sem,zA,zB,zC,zD,zE,zF,zG,zH,zI,zJ,zK,zL,zM,zN,zO,zP,↓reduceIte,reduceCtorEq,Snd.pv,Pdu.pv] <;> first | rfl | decide) ?_; simp only [go_sem,zA,zB,zC,zD,zE,zF,zG,zH,zI,zJ,zK,zL,zM,zN,zO,zP,↓reduceIte,reduceCtorEq,Snd.pv,Pdu.pv])
    (refine endD_intro (by decide +kernel) ?_; simp only [go_sem,zA,zB,zC,zD,zE,zF,zG,zH,zI,zJ,zK,zL,zM,zN,zO,zP,↓reduceIte,reduceCtorEq,hw])
    refine ⟨b.u.length - (j + 1),_,by omega,?_,j + 1,s',by omega,rfl,hs1,htk,rfl⟩
    simp only [go_sem,zA,zB,zC,zD,zE,zF,zG,zH,zI,zJ,zK,zL,zM,zN,zO,zP,↓reduceIte,reduceCtorEq,ref2St,refSt,yBl,yBc] <;> (rcases hx with rfl | rfl <;> rfl)
  have hjx : j = b.u.length := by omega
  rw [hjx,List.drop_length,takeAll] at htk
  have g2 : decide ((j : Int) < (b.u.length : Int)) = false := by simp; omega
  have cNx := nextR_calls s hs.1.1 hs.1.2.2
  have cTk := tickR_calls (nextS s)
  have cTr := tickV_calls r
  have hT : tickL fates ⟨s0,r0,a,b0,m0⟩ = ⟨tickS (nextS s),tickV r,if s.goes then putW ⟨[],a.h⟩ (nextP s) (fateL fates m) else ⟨[],a.h⟩,⟨[],b.h⟩,if s.goes then m + 1 else m⟩ := by
    unfold tickL
    simp only
    rw [← hrec]
    simp only [← htk]
  rw [hT]
  have cT := thereR_calls ⟨[],a.h⟩ ⟨[],b.h⟩ m (nextP s) fates (by simp [Way.len]; omega) (by omega)
  generalize nextP s = np at cNx cT ⊢
  generalize hg' : putW ⟨[],a.h⟩ np (fateL fates m) = a' at cT ⊢
  cases hgo : s.goes with
  | false =>
    rw [hgo] at cNx
    rcases hx with rfl | rfl
    · simp only [go_sem,zA,zB,zC,zD,zE,zF,zG,zH,zI,zJ,zK,zL,zM,zN,zO,zP,↓reduceIte,reduceCtorEq,ref2St,refSt,yBl,yBc,g2]
      (refine CallA.pure (cNx) (by simp only [go_sem,zA,zB,zC,zD,zE,zF,zG,zH,zI,zJ,zK,zL,zM,zN,zO,zP,↓reduceIte,reduceCtorEq,Snd.pv,Pdu.pv] <;> first | rfl | decide) ?_; simp only [go_sem,zA,zB,zC,zD,zE,zF,zG,zH,zI,zJ,zK,zL,zM,zN,zO,zP,↓reduceIte,reduceCtorEq,Snd.pv,Pdu.pv])
      (refine callD_pure (cTk) (by simp only [go_sem,zA,zB,zC,zD,zE,zF,zG,zH,zI,zJ,zK,zL,zM,zN,zO,zP,↓reduceIte,reduceCtorEq,Snd.pv] <;> first | rfl | decide) ?_; simp only [go_sem,zA,zB,zC,zD,zE,zF,zG,zH,zI,zJ,zK,zL,zM,zN,zO,zP,↓reduceIte,reduceCtorEq,Snd.pv])
      (refine callD_pure (cTr) (by simp only [go_sem,zA,zB,zC,zD,zE,zF,zG,zH,zI,zJ,zK,zL,zM,zN,zO,zP,↓reduceIte,reduceCtorEq,Rcv.pv] <;> first | rfl | decide) ?_; simp only [go_sem,zA,zB,zC,zD,zE,zF,zG,zH,zI,zJ,zK,zL,zM,zN,zO,zP,↓reduceIte,reduceCtorEq,Rcv.pv])
      (refine endD_intro (by decide +kernel) ?_; simp only [go_sem,zA,zB,zC,zD,zE,zF,zG,zH,zI,zJ,zK,zL,zM,zN,zO,zP,↓reduceIte,reduceCtorEq,pduRows_nil,Snd.pv,Rcv.pv,Tryz.ntmps67,Tryz.results67])
    · simp only [go_sem,zA,zB,zC,zD,zE,zF,zG,zH,zI,zJ,zK,zL,zM,zN,zO,zP,↓reduceIte,reduceCtorEq,ref2St,refSt,yBl,yBc,g2]
      (refine CallA.pure (cNx) (by simp only [go_sem,zA,zB,zC,zD,zE,zF,zG,zH,zI,zJ,zK,zL,zM,zN,zO,zP,↓reduceIte,reduceCtorEq,Snd.pv,Pdu.pv] <;> first | rfl | decide) ?_; simp only [go_sem,zA,zB,zC,zD,zE,zF,zG,zH,zI,zJ,zK,zL,zM,zN,zO,zP,↓reduceIte,reduceCtorEq,Snd.pv,Pdu.pv])
      (refine callD_pure (cTk) (by simp only [go_sem,zA,zB,zC,zD,zE,zF,zG,zH,zI,zJ,zK,zL,zM,zN,zO,zP,↓reduceIte,reduceCtorEq,Snd.pv] <;> first | rfl | decide) ?_; simp only [go_sem,zA,zB,zC,zD,zE,zF,zG,zH,zI,zJ,zK,zL,zM,zN,zO,zP,↓reduceIte,reduceCtorEq,Snd.pv])
      (refine callD_pure (cTr) (by simp only [go_sem,zA,zB,zC,zD,zE,zF,zG,zH,zI,zJ,zK,zL,zM,zN,zO,zP,↓reduceIte,reduceCtorEq,Rcv.pv] <;> first | rfl | decide) ?_; simp only [go_sem,zA,zB,zC,zD,zE,zF,zG,zH,zI,zJ,zK,zL,zM,zN,zO,zP,↓reduceIte,reduceCtorEq,Rcv.pv])
      (refine endD_intro (by decide +kernel) ?_; simp only [go_sem,zA,zB,zC,zD,zE,zF,zG,zH,zI,zJ,zK,zL,zM,zN,zO,zP,↓reduceIte,reduceCtorEq,pduRows_nil,Snd.pv,Rcv.pv,Tryz.ntmps67,Tryz.results67])
  | true =>
    rw [hgo] at cNx
    rcases hx with rfl | rfl
    · simp only [go_sem,zA,zB,zC,zD,zE,zF,zG,zH,zI,zJ,zK,zL,zM,zN,zO,zP,↓reduceIte,reduceCtorEq,ref2St,refSt,yBl,yBc,g2]
      (refine CallA.pure (cNx) (by simp only [go_sem,zA,zB,zC,zD,zE,zF,zG,zH,zI,zJ,zK,zL,zM,zN,zO,zP,↓reduceIte,reduceCtorEq,Snd.pv,Pdu.pv] <;> first | rfl | decide) ?_; simp only [go_sem,zA,zB,zC,zD,zE,zF,zG,zH,zI,zJ,zK,zL,zM,zN,zO,zP,↓reduceIte,reduceCtorEq,Snd.pv,Pdu.pv])
      (refine CallA.pure (cT) (by simp only [go_sem,zA,zB,zC,zD,zE,zF,zG,zH,zI,zJ,zK,zL,zM,zN,zO,zP,↓reduceIte,reduceCtorEq,pduRows_nil] <;> first | rfl | decide) ?_; simp only [go_sem,zA,zB,zC,zD,zE,zF,zG,zH,zI,zJ,zK,zL,zM,zN,zO,zP,↓reduceIte,reduceCtorEq,pduRows_nil])
      (refine callD_pure (cTk) (by simp only [go_sem,zA,zB,zC,zD,zE,zF,zG,zH,zI,zJ,zK,zL,zM,zN,zO,zP,↓reduceIte,reduceCtorEq,Snd.pv] <;> first | rfl | decide) ?_; simp only [go_sem,zA,zB,zC,zD,zE,zF,zG,zH,zI,zJ,zK,zL,zM,zN,zO,zP,↓reduceIte,reduceCtorEq,Snd.pv])
      (refine callD_pure (cTr) (by simp only [go_sem,zA,zB,zC,zD,zE,zF,zG,zH,zI,zJ,zK,zL,zM,zN,zO,zP,↓reduceIte,reduceCtorEq,Rcv.pv] <;> first | rfl | decide) ?_; simp only [go_sem,zA,zB,zC,zD,zE,zF,zG,zH,zI,zJ,zK,zL,zM,zN,zO,zP,↓reduceIte,reduceCtorEq,Rcv.pv])
      (refine endD_intro (by decide +kernel) ?_; simp only [go_sem,zA,zB,zC,zD,zE,zF,zG,zH,zI,zJ,zK,zL,zM,zN,zO,zP,↓reduceIte,reduceCtorEq,pduRows_nil,Snd.pv,Rcv.pv,Tryz.ntmps67,Tryz.results67])
    · simp only [go_sem,zA,zB,zC,zD,zE,zF,zG,zH,zI,zJ,zK,zL,zM,zN,zO,zP,↓reduceIte,reduceCtorEq,ref2St,refSt,yBl,yBc,g2]
      (refine CallA.pure (cNx) (by simp only [go_sem,zA,zB,zC,zD,zE,zF,zG,zH,zI,zJ,zK,zL,zM,zN,zO,zP,↓reduceIte,reduceCtorEq,Snd.pv,Pdu.pv] <;> first | rfl | decide) ?_; simp only [go_sem,zA,zB,zC,zD,zE,zF,zG,zH,zI,zJ,zK,zL,zM,zN,zO,zP,↓reduceIte,reduceCtorEq,Snd.pv,Pdu.pv])
      (refine CallA.pure (cT) (by simp only [go_sem,zA,zB,zC,zD,zE,zF,zG,zH,zI,zJ,zK,zL,zM,zN,zO,zP,↓reduceIte,reduceCtorEq,pduRows_nil] <;> first | rfl | decide) ?_; simp only [go_sem,zA,zB,zC,zD,zE,zF,zG,zH,zI,zJ,zK,zL,zM,zN,zO,zP,↓reduceIte,reduceCtorEq,pduRows_nil])
      (refine callD_pure (cTk) (by simp only [go_sem,zA,zB,zC,zD,zE,zF,zG,zH,zI,zJ,zK,zL,zM,zN,zO,zP,↓reduceIte,reduceCtorEq,Snd.pv] <;> first | rfl | decide) ?_; simp only [go_sem,zA,zB,zC,zD,zE,zF,zG,zH,zI,zJ,zK,zL,zM,zN,zO,zP,↓reduceIte,reduceCtorEq,Snd.pv])
      (refine callD_pure (cTr) (by simp only [go_sem,zA,zB,zC,zD,zE,zF,zG,zH,zI,zJ,zK,zL,zM,zN,zO,zP,↓reduceIte,reduceCtorEq,Rcv.pv] <;> first | rfl | decide) ?_; simp only [go_sem,zA,zB,zC,zD,zE,zF,zG,zH,zI,zJ,zK,zL,zM,zN,zO,zP,↓reduceIte,reduceCtorEq,Rcv.pv])
      (refine endD_intro (by decide +kernel) ?_; simp only [go_sem,zA,zB,zC,zD,zE,zF,zG,zH,zI,zJ,zK,zL,zM,zN,zO,zP,↓reduceIte,reduceCtorEq,pduRows_nil,Snd.pv,Rcv.pv,Tryz.ntmps67,Tryz.results67])
end Go.Proofs.YtcdmhigmgpflbaaGreat.Pe.Lk
namespace Go.Proofs.YtcdmhigmgpflbaaGreat.Pe.Lk
open Go.Pe Go.RowKit
def prSt (fates : List Int) (L : Lnk) (n : Nat) : St := ⟨85,[(4,intsPV fates),(10,.ptr 0 0),(11,.ptr 1 0),(13,.ptr 2 0),(14,.ptr 4 0),(17,.ptr 8 0),(18,PI n)],
  [(0,.box 49 Snd.zero.cells),(1,.box 51 rcv0'.cells),(2,.box 51 L.r.cells),(4,.box 49 L.s.cells),(8,.box 93 (bothC L.a L.b L.m))],40,0⟩
def prI (fates : List Int) (X : Lnk × Nat) (m : Nat) (st : St) : Prop := ∃ (n : Nat) (L : Lnk),n ≤ 100000 ∧ m = 100000 - n ∧ LInv L n ∧ runL fates (100000 - n) n L = X ∧ st = prSt fates L n
theorem playRef_calls (t : List UInt8) (room block gap : Int) (fates : List Int) (hb : 0 ≤ block ∧ block ≤ 255) : PureCalls Tryz.prog 44 [bytesPV t,PI room,PI block,PI gap,intsPV fates] (.tup [(playV t room block gap fates).1.pv,(playV t room block gap fates).2.1.pv,PI (playV t room block gap fates).2.2]) := by
  refine PureCalls.of tabOK mixed Tryz.func44 rfl rfl (by decide +kernel) (by simp [Tryz.ntmps44]) ?_
  have cN := newV_calls room block gap
  have cS := newR_calls t
  simp only [go_sem,zA,zB,zC,zD,zE,zF,zG,zH,zI,zJ,zK,zL,zM,zN,zO,zP,↓reduceIte,reduceCtorEq,Tryz.ntmps44,Tryz.results44]
  (refine CallA.pure (cN) (by simp only [go_sem,zA,zB,zC,zD,zE,zF,zG,zH,zI,zJ,zK,zL,zM,zN,zO,zP,↓reduceIte,reduceCtorEq,freshR,Rcv.pv] <;> first | rfl | decide) ?_; simp only [go_sem,zA,zB,zC,zD,zE,zF,zG,zH,zI,zJ,zK,zL,zM,zN,zO,zP,↓reduceIte,reduceCtorEq,freshR,Rcv.pv])
  by_cases he : newE t = 0
  rotate_left 1
  · have f1 : decide (newE t = 0) = false := by simpa using he
    (refine CallA.pure (cS) (by simp only [go_sem,zA,zB,zC,zD,zE,zF,zG,zH,zI,zJ,zK,zL,zM,zN,zO,zP,↓reduceIte,reduceCtorEq,Snd.pv,Pdu.pv,f1,Tryz.ntmps44,Tryz.results44] <;> first | rfl | decide) ?_; simp only [go_sem,zA,zB,zC,zD,zE,zF,zG,zH,zI,zJ,zK,zL,zM,zN,zO,zP,↓reduceIte,reduceCtorEq,Snd.pv,Pdu.pv,f1,Tryz.ntmps44,Tryz.results44])
    simp only [playV,if_neg he]
    (refine endD_intro (by decide +kernel) ?_; simp only [go_sem,zA,zB,zC,zD,zE,zF,zG,zH,zI,zJ,zK,zL,zM,zN,zO,zP,↓reduceIte,reduceCtorEq,Snd.pv,freshR,Rcv.pv,Tryz.ntmps44,Tryz.results44])
  have f1 : decide (newE t = 0) = true := by simpa using he
  rw [he] at cS
  simp only [playV,if_pos he]
  generalize hX : runL fates 100000 0 (startL t room block gap fates) = X
  have hpr := newP_right he
  have hps := new_sound (t := t)
  unfold startL at hX
  generalize newP t = p0 at cS hX hpr
  generalize newS t = s0 at cS hX hps
  have hrf : (freshR room block gap).fine := by simp [freshR,Rcv.fine]; omega
  have hI0 : LInv ⟨s0,freshR room block gap,putW ⟨[],[]⟩ p0 (fateL fates 0),⟨[],[]⟩,1⟩ 0 := by
    refine ⟨hps,hrf,putW_good ⟨fun p hp => by simp at hp,fun p hp => by simp at hp⟩ hpr _,0,?_,by simp [Way.len],by simp⟩
    have := putW_len ⟨[],[]⟩ p0 (fateL fates 0)
    have e0 : Way.len ⟨[],[]⟩ = 0 := rfl
    show Way.len (putW _ _ _) + 0 ≤ _
    omega
  have cT := thereR_calls ⟨[],[]⟩ ⟨[],[]⟩ 0 p0 fates (by simp [Way.len]) (by omega)
  (refine CallA.pure (cS) (by simp only [go_sem,zA,zB,zC,zD,zE,zF,zG,zH,zI,zJ,zK,zL,zM,zN,zO,zP,↓reduceIte,reduceCtorEq,Snd.pv,Pdu.pv] <;> first | rfl | decide) ?_; simp only [go_sem,zA,zB,zC,zD,zE,zF,zG,zH,zI,zJ,zK,zL,zM,zN,zO,zP,↓reduceIte,reduceCtorEq,Snd.pv,Pdu.pv])
  (refine CallA.pure (cT) (by simp only [go_sem,zA,zB,zC,zD,zE,zF,zG,zH,zI,zJ,zK,zL,zM,zN,zO,zP,↓reduceIte,reduceCtorEq,pduRows_nil] <;> first | rfl | decide) ?_; simp only [go_sem,zA,zB,zC,zD,zE,zF,zG,zH,zI,zJ,zK,zL,zM,zN,zO,zP,↓reduceIte,reduceCtorEq,pduRows_nil])
  refine wpA_loop (prI fates X) ⟨_,_,?_,0,_,by omega,rfl,hI0,hX,rfl⟩ ?_
  · simp only [go_sem,zA,zB,zC,zD,zE,zF,zG,zH,zI,zJ,zK,zL,zM,zN,zO,zP,↓reduceIte,reduceCtorEq,prSt,Snd.zero,rcv0',rowsB_nil,yCb,freshR] <;> (first | rfl | exact ⟨rfl,rfl⟩ | exact ⟨rfl,rfl,rfl⟩)
  clear hX hI0 cT cS
  rintro m st ⟨n,L,hn,rfl,hI,hX,rfl⟩
  have hI' := hI
  obtain ⟨hss,hrf',hgd,D,hD1,hD2,hD3⟩ := hI
  have hal : L.a.len = L.a.u.length + L.a.h.length := rfl
  have hbl0 : L.b.len = L.b.u.length + L.b.h.length := rfl
  by_cases hc : n < 100000
  rotate_left 1
  · have e : n = 100000 := by omega
    subst e
    rw [Nat.sub_self,runL] at hX
    subst hX
    have f1 : decide (((100000 : Nat) : Int) < 100000) = false := by decide
    simp only [go_sem,zA,zB,zC,zD,zE,zF,zG,zH,zI,zJ,zK,zL,zM,zN,zO,zP,↓reduceIte,reduceCtorEq,prSt,f1]
    (refine endD_intro (by decide +kernel) ?_; simp only [go_sem,zA,zB,zC,zD,zE,zF,zG,zH,zI,zJ,zK,zL,zM,zN,zO,zP,↓reduceIte,reduceCtorEq,Tryz.ntmps44,Tryz.results44])
  have f1 : decide ((n : Int) < 100000) = true := by simp; omega
  obtain ⟨k,hk⟩ : ∃ k,100000 - n = k + 1 := ⟨100000 - n - 1,by omega⟩
  rw [hk,runL] at hX
  have hw := wrapIN (i := n) (by omega)
  have cTk := tickRef_calls fates L hss hrf' hgd (by omega) (by omega) (by omega)
  by_cases h3 : L.s.st = 3
  · have g3 : decide (L.s.st = 3) = true := by simp [h3]
    by_cases h2 : L.r.st = 2
    · have g2 : decide (L.r.st = 2) = true := by simp [h2]
      have hnd : doneL L = false := by rw [doneL,g2]; simp
      rw [hnd] at hX
      have fin : ∀ st',Weak st' (prSt fates (tickL fates L) (n + 1)) → ∃ m' s'',m' < 100000 - n ∧ Weak st' s'' ∧ prI fates X m' s'' := fun st' h => ⟨100000 - (n + 1),_,by omega,h,n + 1,tickL fates L,by omega,rfl,hI'.tick,by rw [show 100000 - (n + 1) = k by omega]; simpa using hX,rfl⟩
      simp only [go_sem,zA,zB,zC,zD,zE,zF,zG,zH,zI,zJ,zK,zL,zM,zN,zO,zP,↓reduceIte,reduceCtorEq,prSt,f1,g3,g2]
      (refine CallA.pure (cTk) (by simp only [go_sem,zA,zB,zC,zD,zE,zF,zG,zH,zI,zJ,zK,zL,zM,zN,zO,zP,↓reduceIte,reduceCtorEq,Snd.pv,Rcv.pv,hw] <;> first | rfl | decide) ?_; simp only [go_sem,zA,zB,zC,zD,zE,zF,zG,zH,zI,zJ,zK,zL,zM,zN,zO,zP,↓reduceIte,reduceCtorEq,Snd.pv,Rcv.pv,hw])
      refine fin _ ?_
      simp only [go_sem,zA,zB,zC,zD,zE,zF,zG,zH,zI,zJ,zK,zL,zM,zN,zO,zP,↓reduceIte,reduceCtorEq,prSt]
    have g2 : decide (L.r.st = 2) = false := by simp [h2]
    by_cases hza : L.a.u.length = 0
    rotate_left 1
    · have ga : decide ((L.a.u.length : Int) = 0) = false := by simp only [decide_eq_false_iff_not]; omega
      have hnd : doneL L = false := by rw [doneL,decide_eq_false (show ¬ (L.a.u.length + L.b.u.length = 0) by omega)]; simp
      rw [hnd] at hX
      have fin : ∀ st',Weak st' (prSt fates (tickL fates L) (n + 1)) → ∃ m' s'',m' < 100000 - n ∧ Weak st' s'' ∧ prI fates X m' s'' := fun st' h => ⟨100000 - (n + 1),_,by omega,h,n + 1,tickL fates L,by omega,rfl,hI'.tick,by rw [show 100000 - (n + 1) = k by omega]; simpa using hX,rfl⟩
      simp only [go_sem,zA,zB,zC,zD,zE,zF,zG,zH,zI,zJ,zK,zL,zM,zN,zO,zP,↓reduceIte,reduceCtorEq,prSt,f1,g3,g2,ga]
      (refine CallA.pure (cTk) (by simp only [go_sem,zA,zB,zC,zD,zE,zF,zG,zH,zI,zJ,zK,zL,zM,zN,zO,zP,↓reduceIte,reduceCtorEq,Snd.pv,Rcv.pv,hw] <;> first | rfl | decide) ?_; simp only [go_sem,zA,zB,zC,zD,zE,zF,zG,zH,zI,zJ,zK,zL,zM,zN,zO,zP,↓reduceIte,reduceCtorEq,Snd.pv,Rcv.pv,hw])
      refine fin _ ?_
      simp only [go_sem,zA,zB,zC,zD,zE,zF,zG,zH,zI,zJ,zK,zL,zM,zN,zO,zP,↓reduceIte,reduceCtorEq,prSt]
    have ga : decide ((L.a.u.length : Int) = 0) = true := by simp only [decide_eq_true_eq]; omega
    by_cases hzb : L.b.u.length = 0
    rotate_left 1
    · have gb : decide ((L.b.u.length : Int) = 0) = false := by simp only [decide_eq_false_iff_not]; omega
      have hnd : doneL L = false := by rw [doneL,decide_eq_false (show ¬ (L.a.u.length + L.b.u.length = 0) by omega)]; simp
      rw [hnd] at hX
      have fin : ∀ st',Weak st' (prSt fates (tickL fates L) (n + 1)) → ∃ m' s'',m' < 100000 - n ∧ Weak st' s'' ∧ prI fates X m' s'' := fun st' h => ⟨100000 - (n + 1),_,by omega,h,n + 1,tickL fates L,by omega,rfl,hI'.tick,by rw [show 100000 - (n + 1) = k by omega]; simpa using hX,rfl⟩
      simp only [go_sem,zA,zB,zC,zD,zE,zF,zG,zH,zI,zJ,zK,zL,zM,zN,zO,zP,↓reduceIte,reduceCtorEq,prSt,f1,g3,g2,ga,gb]
      (refine CallA.pure (cTk) (by simp only [go_sem,zA,zB,zC,zD,zE,zF,zG,zH,zI,zJ,zK,zL,zM,zN,zO,zP,↓reduceIte,reduceCtorEq,Snd.pv,Rcv.pv,hw] <;> first | rfl | decide) ?_; simp only [go_sem,zA,zB,zC,zD,zE,zF,zG,zH,zI,zJ,zK,zL,zM,zN,zO,zP,↓reduceIte,reduceCtorEq,Snd.pv,Rcv.pv,hw])
      refine fin _ ?_
      simp only [go_sem,zA,zB,zC,zD,zE,zF,zG,zH,zI,zJ,zK,zL,zM,zN,zO,zP,↓reduceIte,reduceCtorEq,prSt]
    have gb : decide ((L.b.u.length : Int) = 0) = true := by simp only [decide_eq_true_eq]; omega
    have hd : doneL L = true := by rw [doneL,g3,g2,decide_eq_true (show L.a.u.length + L.b.u.length = 0 by omega)]; rfl
    rw [hd,if_pos rfl] at hX
    subst hX
    simp only [go_sem,zA,zB,zC,zD,zE,zF,zG,zH,zI,zJ,zK,zL,zM,zN,zO,zP,↓reduceIte,reduceCtorEq,prSt,f1,g3,g2,ga,gb]
    (refine endD_intro (by decide +kernel) ?_; simp only [go_sem,zA,zB,zC,zD,zE,zF,zG,zH,zI,zJ,zK,zL,zM,zN,zO,zP,↓reduceIte,reduceCtorEq,Tryz.ntmps44,Tryz.results44])
  have g3 : decide (L.s.st = 3) = false := by simp [h3]
  by_cases h4 : L.s.st = 4
  · have g4 : decide (L.s.st = 4) = true := by simp [h4]
    by_cases h2 : L.r.st = 2
    · have g2 : decide (L.r.st = 2) = true := by simp [h2]
      have hnd : doneL L = false := by rw [doneL,g2]; simp
      rw [hnd] at hX
      have fin : ∀ st',Weak st' (prSt fates (tickL fates L) (n + 1)) → ∃ m' s'',m' < 100000 - n ∧ Weak st' s'' ∧ prI fates X m' s'' := fun st' h => ⟨100000 - (n + 1),_,by omega,h,n + 1,tickL fates L,by omega,rfl,hI'.tick,by rw [show 100000 - (n + 1) = k by omega]; simpa using hX,rfl⟩
      simp only [go_sem,zA,zB,zC,zD,zE,zF,zG,zH,zI,zJ,zK,zL,zM,zN,zO,zP,↓reduceIte,reduceCtorEq,prSt,f1,g3,g4,g2]
      (refine CallA.pure (cTk) (by simp only [go_sem,zA,zB,zC,zD,zE,zF,zG,zH,zI,zJ,zK,zL,zM,zN,zO,zP,↓reduceIte,reduceCtorEq,Snd.pv,Rcv.pv,hw] <;> first | rfl | decide) ?_; simp only [go_sem,zA,zB,zC,zD,zE,zF,zG,zH,zI,zJ,zK,zL,zM,zN,zO,zP,↓reduceIte,reduceCtorEq,Snd.pv,Rcv.pv,hw])
      refine fin _ ?_
      simp only [go_sem,zA,zB,zC,zD,zE,zF,zG,zH,zI,zJ,zK,zL,zM,zN,zO,zP,↓reduceIte,reduceCtorEq,prSt]
    have g2 : decide (L.r.st = 2) = false := by simp [h2]
    by_cases hza : L.a.u.length = 0
    rotate_left 1
    · have ga : decide ((L.a.u.length : Int) = 0) = false := by simp only [decide_eq_false_iff_not]; omega
      have hnd : doneL L = false := by rw [doneL,decide_eq_false (show ¬ (L.a.u.length + L.b.u.length = 0) by omega)]; simp
      rw [hnd] at hX
      have fin : ∀ st',Weak st' (prSt fates (tickL fates L) (n + 1)) → ∃ m' s'',m' < 100000 - n ∧ Weak st' s'' ∧ prI fates X m' s'' := fun st' h => ⟨100000 - (n + 1),_,by omega,h,n + 1,tickL fates L,by omega,rfl,hI'.tick,by rw [show 100000 - (n + 1) = k by omega]; simpa using hX,rfl⟩
      simp only [go_sem,zA,zB,zC,zD,zE,zF,zG,zH,zI,zJ,zK,zL,zM,zN,zO,zP,↓reduceIte,reduceCtorEq,prSt,f1,g3,g4,g2,ga]
      (refine CallA.pure (cTk) (by simp only [go_sem,zA,zB,zC,zD,zE,zF,zG,zH,zI,zJ,zK,zL,zM,zN,zO,zP,↓reduceIte,reduceCtorEq,Snd.pv,Rcv.pv,hw] <;> first | rfl | decide) ?_; simp only [go_sem,zA,zB,zC,zD,zE,zF,zG,zH,zI,zJ,zK,zL,zM,zN,zO,zP,↓reduceIte,reduceCtorEq,Snd.pv,Rcv.pv,hw])
      refine fin _ ?_
      simp only [go_sem,zA,zB,zC,zD,zE,zF,zG,zH,zI,zJ,zK,zL,zM,zN,zO,zP,↓reduceIte,reduceCtorEq,prSt]
    have ga : decide ((L.a.u.length : Int) = 0) = true := by simp only [decide_eq_true_eq]; omega
    by_cases hzb : L.b.u.length = 0
    rotate_left 1
    · have gb : decide ((L.b.u.length : Int) = 0) = false := by simp only [decide_eq_false_iff_not]; omega
      have hnd : doneL L = false := by rw [doneL,decide_eq_false (show ¬ (L.a.u.length + L.b.u.length = 0) by omega)]; simp
      rw [hnd] at hX
      have fin : ∀ st',Weak st' (prSt fates (tickL fates L) (n + 1)) → ∃ m' s'',m' < 100000 - n ∧ Weak st' s'' ∧ prI fates X m' s'' := fun st' h => ⟨100000 - (n + 1),_,by omega,h,n + 1,tickL fates L,by omega,rfl,hI'.tick,by rw [show 100000 - (n + 1) = k by omega]; simpa using hX,rfl⟩
      simp only [go_sem,zA,zB,zC,zD,zE,zF,zG,zH,zI,zJ,zK,zL,zM,zN,zO,zP,↓reduceIte,reduceCtorEq,prSt,f1,g3,g4,g2,ga,gb]
      (refine CallA.pure (cTk) (by simp only [go_sem,zA,zB,zC,zD,zE,zF,zG,zH,zI,zJ,zK,zL,zM,zN,zO,zP,↓reduceIte,reduceCtorEq,Snd.pv,Rcv.pv,hw] <;> first | rfl | decide) ?_; simp only [go_sem,zA,zB,zC,zD,zE,zF,zG,zH,zI,zJ,zK,zL,zM,zN,zO,zP,↓reduceIte,reduceCtorEq,Snd.pv,Rcv.pv,hw])
      refine fin _ ?_
      simp only [go_sem,zA,zB,zC,zD,zE,zF,zG,zH,zI,zJ,zK,zL,zM,zN,zO,zP,↓reduceIte,reduceCtorEq,prSt]
    have gb : decide ((L.b.u.length : Int) = 0) = true := by simp only [decide_eq_true_eq]; omega
    have hd : doneL L = true := by rw [doneL,g3,g4,g2,decide_eq_true (show L.a.u.length + L.b.u.length = 0 by omega)]; rfl
    rw [hd,if_pos rfl] at hX
    subst hX
    simp only [go_sem,zA,zB,zC,zD,zE,zF,zG,zH,zI,zJ,zK,zL,zM,zN,zO,zP,↓reduceIte,reduceCtorEq,prSt,f1,g3,g4,g2,ga,gb]
    (refine endD_intro (by decide +kernel) ?_; simp only [go_sem,zA,zB,zC,zD,zE,zF,zG,zH,zI,zJ,zK,zL,zM,zN,zO,zP,↓reduceIte,reduceCtorEq,Tryz.ntmps44,Tryz.results44])
  have g4 : decide (L.s.st = 4) = false := by simp [h4]
  have hnd : doneL L = false := by rw [doneL,g3,g4]; rfl
  rw [hnd] at hX
  have fin : ∀ st',Weak st' (prSt fates (tickL fates L) (n + 1)) → ∃ m' s'',m' < 100000 - n ∧ Weak st' s'' ∧ prI fates X m' s'' := fun st' h => ⟨100000 - (n + 1),_,by omega,h,n + 1,tickL fates L,by omega,rfl,hI'.tick,by rw [show 100000 - (n + 1) = k by omega]; simpa using hX,rfl⟩
  simp only [go_sem,zA,zB,zC,zD,zE,zF,zG,zH,zI,zJ,zK,zL,zM,zN,zO,zP,↓reduceIte,reduceCtorEq,prSt,f1,g3,g4]
  (refine CallA.pure (cTk) (by simp only [go_sem,zA,zB,zC,zD,zE,zF,zG,zH,zI,zJ,zK,zL,zM,zN,zO,zP,↓reduceIte,reduceCtorEq,Snd.pv,Rcv.pv,hw] <;> first | rfl | decide) ?_; simp only [go_sem,zA,zB,zC,zD,zE,zF,zG,zH,zI,zJ,zK,zL,zM,zN,zO,zP,↓reduceIte,reduceCtorEq,Snd.pv,Rcv.pv,hw])
  refine fin _ ?_
  simp only [go_sem,zA,zB,zC,zD,zE,zF,zG,zH,zI,zJ,zK,zL,zM,zN,zO,zP,↓reduceIte,reduceCtorEq,prSt]
end Go.Proofs.YtcdmhigmgpflbaaGreat.Pe.Lk
