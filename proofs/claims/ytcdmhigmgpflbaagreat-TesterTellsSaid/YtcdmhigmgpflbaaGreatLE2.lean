import Derived.Test.YtcdmhigmgpflbaaGreatLE1
set_option maxRecDepth 20000
set_option maxHeartbeats 8000000
set_option linter.unusedSimpArgs false
set_option linter.unusedVariables false
open Nat renaming reduceAdd → zA,reduceSub → zB,reduceMul → zC,reduceLT → zD,reduceLeDiff → zE,reduceEqDiff → zF,reduceBEq → zG
open Int renaming reduceToNat → zH,reduceLT → zI,reduceLE → zJ,reduceEq → zK,reduceNe → zL,reduceAdd → zM,reduceSub → zN,reduceMul → zO,reduceNeg → zP,toNat_natCast → yCa
open List renaming length_cons → yBa,length_nil → yBb,nil_append → yBc,set_cons_zero → yBd,set_cons_succ → yBe,append_nil → yBf,cons_append → yBl
namespace Go.Proofs.YtcdmhigmgpflbaaGreat.Pe.Lk
open Go.Pe Go.RowKit
theorem pduRows_nil : pduRows [] = [] := rfl
theorem pduRows_one (p : Pdu) : pduRows [p] = [p.cells] := by simp [pduRows]
theorem pduRows_append (a b : List Pdu) : pduRows (a ++ b) = pduRows a ++ pduRows b := by simp [pduRows]
theorem pduRows_at {l : List Pdu} {i : Nat} (h : i < l.length) : (pduRows l).getD i [] = l[i].cells := by simp [pduRows,List.getD_eq_getElem?_getD,h]
theorem recvAll_inv {fates : List Int} : ∀ {l : List Pdu} {r : Rcv} {b : Way} {m : Nat},r.fine → (∀ p ∈ l,p.right = true) → (recvAll fates l r b m).1.fine ∧ (recvAll fates l r b m).2.1.len ≤ b.len + 2 * l.length ∧ (recvAll fates l r b m).2.2 ≤ m + l.length
  | [],r,b,m,h,_ => ⟨h,by simp [recvAll],by simp [recvAll]⟩
  | p :: l,r,b,m,h,hp => by
    have h1 := fine_recv h (hp p List.mem_cons_self)
    have hp' : ∀ q ∈ l,q.right = true := fun q hq => hp q (List.mem_cons_of_mem _ hq)
    rw [recvAll]
    split
    · obtain ⟨q1,q2,q3⟩ := recvAll_inv (fates := fates) (b := putW b (recvV r p).2.1 (fateL fates m)) (m := m + 1) h1 hp'
      have := putW_len b (recvV r p).2.1 (fateL fates m)
      refine ⟨q1,?_,?_⟩
      · rw [yBa]; omega
      · rw [yBa]; omega
    · obtain ⟨q1,q2,q3⟩ := recvAll_inv (fates := fates) (b := b) (m := m) h1 hp'
      refine ⟨q1,?_,?_⟩
      · rw [yBa]; omega
      · rw [yBa]; omega
theorem LInv.tick {fates : List Int} {L : Lnk} {n : Nat} (h : LInv L n) : LInv (tickL fates L) (n + 1) := by
  obtain ⟨h1,h2,⟨h3,h3'⟩,D,h4,h5,h6⟩ := h
  obtain ⟨q1,q2,q3⟩ := recvAll_inv (fates := fates) (l := L.a.u) (b := L.b) (m := L.m) h2 h3
  have hs := takeAll_sound (l := (recvAll fates L.a.u L.r L.b L.m).2.1.u) h1
  have hal : L.a.len = L.a.u.length + L.a.h.length := rfl
  have hbl : (recvAll fates L.a.u L.r L.b L.m).2.1.len = (recvAll fates L.a.u L.r L.b L.m).2.1.u.length + (recvAll fates L.a.u L.r L.b L.m).2.1.h.length := rfl
  obtain ⟨x,hx⟩ : ∃ x,recvAll fates L.a.u L.r L.b L.m = x := ⟨_,rfl⟩
  have hT : tickL fates L = ⟨tickS (nextS (takeAll x.2.1.u L.s)),tickV x.1,if (takeAll x.2.1.u L.s).goes then putW ⟨[],L.a.h⟩ (nextP (takeAll x.2.1.u L.s)) (fateL fates x.2.2) else ⟨[],L.a.h⟩,⟨[],x.2.1.h⟩,if (takeAll x.2.1.u L.s).goes then x.2.2 + 1 else x.2.2⟩ := by rw [← hx]; rfl
  rw [hx] at q1 q2 q3 hs hbl
  rw [hT]
  have e0 : Way.len ⟨[],L.a.h⟩ = L.a.h.length := by simp [Way.len]
  have e1 : Way.len ⟨[],x.2.1.h⟩ = x.2.1.h.length := by simp [Way.len]
  have e2 : Way.good ⟨[],L.a.h⟩ := ⟨fun p hp => (by cases hp),h3'⟩
  refine ⟨tick_sound (next_sound hs),fine_tick q1,?_,D + L.a.u.length,?_,?_,?_⟩
  · simp only
    split
    · rename_i hg
      exact putW_good e2 (nextP_right hs hg) _
    · exact e2
  · simp only
    split
    · have := putW_len ⟨[],L.a.h⟩ (nextP (takeAll x.2.1.u L.s)) (fateL fates x.2.2)
      omega
    · omega
  · simp only
    omega
  · simp only
    split <;> omega
theorem fate_at {fates : List Int} {m mb fb : Nat} {H : Heap} {f : Int} (hf : fateL fates m = f) (hne : ¬ fb = mb) (hm : m ≤ 1000000) (h1 : H mb = some (.box 3 [PI m])) (h2 : H fb = some (.box 27 [intsPV fates])) :
    EffCalls Tryz.prog 55 [.ptr mb 0,.ptr fb 0] H (PI f) [(mb,.box 3 [PI ((m + 1 : Nat) : Int)])] := hf ▸ fate_eff hne hm h1 h2
structure Held (p : Prop) : Prop where
  h : p
abbrev nilS : PV := .lit (.slice none 0 0)
abbrev arrP (b : Nat) (l : List Pdu) (v : Nat) : Nat × Blk := (b,.arr 70 7 (pduRows l) v false)
abbrev fnF : PV := .fn (.func 55) [] [.ptr 9 0,.ptr 0 0]
abbrev fnT : PV := .fn (.func 56) [.ptr 11 0] []
abbrev fnP : PV := .fn (.func 57) [.ptr 12 0] []
def rcv0 : Rcv := ⟨0,0,[],0,0,0,0,0,0,0⟩
def rawSt (fates : List Int) (s : Snd) (r : Rcv) (p : Pdu) (m n : Nat) (env : List (Nat × PV)) (c d : List PV) (arrs : List (Nat × Blk)) : St := ⟨131,
  [(10,.ptr 1 0),(11,.ptr 2 0),(13,.ptr 3 0),(14,.ptr 5 0),(15,.ptr 6 0),(18,fnF),(19,.ptr 11 0),(20,.ptr 12 0),(21,fnT),(22,fnP),(53,PI n)] ++ env,
  [(0,.box 27 [intsPV fates]),(1,.box 49 Snd.zero.cells),(2,.box 51 rcv0.cells),(3,.box 51 r.cells),(5,.box 49 s.cells),(6,.box 70 p.cells),(9,.box 3 [PI m]),
   (11,.box 76 c),(12,.box 76 d)] ++ arrs,200,0⟩
def lkSt (fates : List Int) (L : Lnk) (p : Pdu) (n va vb vc vd : Nat) : St :=
  rawSt fates L.s L.r p L.m n [] [.own 101 va,.own 102 vb] [.own 103 vc,.own 104 vd] [arrP 101 L.a.u va,arrP 102 L.a.h vb,arrP 103 L.b.u vc,arrP 104 L.b.h vd]
def lkI (fates : List Int) (X : Lnk × Nat) (m : Nat) (st : St) : Prop := ∃ (n : Nat) (L : Lnk) (p : Pdu) (va vb vc vd : Nat),n ≤ 100000 ∧ m = 100000 - n ∧ LInv L n ∧ runL fates (100000 - n) n L = X ∧ st = lkSt fates L p n va vb vc vd
def in1St (fates : List Int) (L : Lnk) (p : Pdu) (n va vb : Nat) (r : Rcv) (b : Way) (m vc vd i : Nat) : St :=
  rawSt fates L.s r p m n [(83,.own 101 va),(84,PI L.a.u.length),(85,PI i)] [.own 105 0,.own 102 vb] [.own 103 vc,.own 104 vd] [arrP 101 L.a.u va,arrP 105 [] 0,arrP 102 L.a.h vb,arrP 103 b.u vc,arrP 104 b.h vd]
def in1I (fates : List Int) (L : Lnk) (p : Pdu) (n va vb : Nat) (X : Rcv × Way × Nat) (mm : Nat) (st : St) : Prop := ∃ (i : Nat) (r : Rcv) (b : Way) (m vc vd : Nat),i ≤ L.a.u.length ∧ mm = L.a.u.length - i ∧ r.fine ∧
  recvAll fates (L.a.u.drop i) r b m = X ∧ b.len + 2 * (L.a.u.length - i) ≤ 400004 ∧ m + (L.a.u.length - i) ≤ 400004 ∧ st = in1St fates L p n va vb r b m vc vd i
def in2St (fates : List Int) (ah : List Pdu) (p : Pdu) (n vb : Nat) (r : Rcv) (b : Way) (m vc vd : Nat) (s : Snd) (i : Nat) : St :=
  rawSt fates s r p m n [(103,.own 103 vc),(104,PI b.u.length),(105,PI i)] [.own 105 0,.own 102 vb] [.own 106 0,.own 104 vd] [arrP 105 [] 0,arrP 102 ah vb,arrP 103 b.u vc,arrP 106 [] 0,arrP 104 b.h vd]
def in2I (fates : List Int) (ah : List Pdu) (p : Pdu) (n vb : Nat) (r : Rcv) (b : Way) (m vc vd : Nat) (S : Snd) (mm : Nat) (st : St) : Prop := ∃ (i : Nat) (s : Snd),i ≤ b.u.length ∧ mm = b.u.length - i ∧ s.sound ∧ takeAll (b.u.drop i) s = S ∧ st = in2St fates ah p n vb r b m vc vd s i
theorem play_calls (t : List UInt8) (room block gap : Int) (fates : List Int) (hb : 0 ≤ block ∧ block ≤ 255) : PureCalls Tryz.prog 41 [bytesPV t,PI room,PI block,PI gap,intsPV fates] (.tup [(playV t room block gap fates).1.pv,(playV t room block gap fates).2.1.pv,PI (playV t room block gap fates).2.2]) := by
  refine PureCalls.of tabOK mixed Tryz.func41 rfl rfl (by decide +kernel) (by simp [Tryz.ntmps41]) ?_
  have cN := newT_calls room block gap
  have cS := new_calls t
  simp only [go_sem,zA,zB,zC,zD,zE,zF,zG,zH,zI,zJ,zK,zL,zM,zN,zO,zP,↓reduceIte,reduceCtorEq,Tryz.ntmps41,Tryz.results41]
  (refine CallA.pure (cN) (by simp only [go_sem,zA,zB,zC,zD,zE,zF,zG,zH,zI,zJ,zK,zL,zM,zN,zO,zP,↓reduceIte,reduceCtorEq,freshR,Rcv.pv] <;> first | rfl | decide) ?_; simp only [go_sem,zA,zB,zC,zD,zE,zF,zG,zH,zI,zJ,zK,zL,zM,zN,zO,zP,↓reduceIte,reduceCtorEq,freshR,Rcv.pv])
  by_cases he : newE t = 0
  rotate_left 1
  · have f1 : decide (newE t = 0) = false := by simpa using he
    (refine CallA.pure (cS) (by simp only [go_sem,zA,zB,zC,zD,zE,zF,zG,zH,zI,zJ,zK,zL,zM,zN,zO,zP,↓reduceIte,reduceCtorEq,Snd.pv,Pdu.pv,f1,Tryz.ntmps41,Tryz.results41] <;> first | rfl | decide) ?_; simp only [go_sem,zA,zB,zC,zD,zE,zF,zG,zH,zI,zJ,zK,zL,zM,zN,zO,zP,↓reduceIte,reduceCtorEq,Snd.pv,Pdu.pv,f1,Tryz.ntmps41,Tryz.results41])
    simp only [playV,if_neg he]
    (refine endD_intro (by decide +kernel) ?_; simp only [go_sem,zA,zB,zC,zD,zE,zF,zG,zH,zI,zJ,zK,zL,zM,zN,zO,zP,↓reduceIte,reduceCtorEq,Snd.pv,freshR,Rcv.pv,Tryz.ntmps41,Tryz.results41])
  have f1 : decide (newE t = 0) = true := by simpa using he
  rw [he] at cS
  simp only [playV,if_pos he]
  generalize hX : runL fates 100000 0 (startL t room block gap fates) = X
  have hpr := newP_right he
  have hps := new_sound (t := t)
  unfold startL at hX
  generalize newP t = p0 at cS hX hpr
  generalize newS t = s0 at cS hX hps
  have hrf : (freshR room block gap).fine := by simp [freshR,Rcv.fine]; omega
  have hI0 : LInv ⟨s0,freshR room block gap,putW ⟨[],[]⟩ p0 (fateL fates 0),⟨[],[]⟩,1⟩ 0 := by
    refine ⟨hps,hrf,putW_good ⟨fun p hp => by simp at hp,fun p hp => by simp at hp⟩ hpr _,0,?_,by simp [Way.len],by simp⟩
    have := putW_len ⟨[],[]⟩ p0 (fateL fates 0)
    have e0 : Way.len ⟨[],[]⟩ = 0 := rfl
    show Way.len (putW _ _ _) + 0 ≤ _
    omega
  obtain ⟨f,hf⟩ : ∃ f,fateL fates 0 = f := ⟨_,rfl⟩
  rw [hf] at hX hI0
  (refine CallA.pure (cS) (by simp only [go_sem,zA,zB,zC,zD,zE,zF,zG,zH,zI,zJ,zK,zL,zM,zN,zO,zP,↓reduceIte,reduceCtorEq,Snd.pv,Pdu.pv] <;> first | rfl | decide) ?_; simp only [go_sem,zA,zB,zC,zD,zE,zF,zG,zH,zI,zJ,zK,zL,zM,zN,zO,zP,↓reduceIte,reduceCtorEq,Snd.pv,Pdu.pv])
  refine (fun (hmain : Held (?T : Prop)) => ?main) (Held.mk ?hm)
  case' main => skip
  refine callD_eff (fate_at hf (by decide) (by decide) (by simp only [go_sem,zA,zB,zC,zD,zE,zF,zG,zH,zI,zJ,zK,zL,zM,zN,zO,zP,↓reduceIte,reduceCtorEq] <;> rfl) (by simp only [go_sem,zA,zB,zC,zD,zE,zF,zG,zH,zI,zJ,zK,zL,zM,zN,zO,zP,↓reduceIte,reduceCtorEq] <;> rfl)) ?_
  simp only [go_sem,zA,zB,zC,zD,zE,zF,zG,zH,zI,zJ,zK,zL,zM,zN,zO,zP,↓reduceIte,reduceCtorEq]
  refine callD_tail (by decide +kernel) (by decide +kernel) ?_
  simp only [go_sem,zA,zB,zC,zD,zE,zF,zG,zH,zI,zJ,zK,zL,zM,zN,zO,zP,↓reduceIte,reduceCtorEq]
  refine CallA.into tabOK mixed Tryz.func57 rfl rfl (by decide +kernel) (by simp [Tryz.ntmps57]) ?_
  simp only [go_sem,zA,zB,zC,zD,zE,zF,zG,zH,zI,zJ,zK,zL,zM,zN,zO,zP,↓reduceIte,reduceCtorEq,Tryz.ntmps57,Tryz.results57]
  have hgo : ∀ st : St,(∃ va vb vc vd,WeakS st (lkSt fates ⟨s0,freshR room block gap,putW ⟨[],[]⟩ p0 f,⟨[],[]⟩,1⟩ p0 0 va vb vc vd)) → ∃ m s,WeakS st s ∧ lkI fates X m s :=
    fun st ⟨va,vb,vc,vd,h⟩ => ⟨_,_,h,0,_,p0,va,vb,vc,vd,by omega,rfl,hI0,hX,rfl⟩
  by_cases h2 : f = 2
  · have f2 : decide (f = 2) = true := by simpa using h2
    simp only [go_sem,zA,zB,zC,zD,zE,zF,zG,zH,zI,zJ,zK,zL,zM,zN,zO,zP,↓reduceIte,reduceCtorEq,f2,Tryz.ntmps57,Tryz.results57]
    refine wpA_loopS (lkI fates X) (hgo _ ⟨0,0,0,0,?wk0⟩) ?bd0
    case bd0 => exact hmain.h
    rw [show putW ⟨[],[]⟩ p0 f = ⟨[],[]⟩ by simp [putW,h2]]
    refine .seq (s := rawSt fates s0 (freshR room block gap) p0 1 0 [] [nilS,nilS] [nilS,nilS] []) (by simp only [go_sem,zA,zB,zC,zD,zE,zF,zG,zH,zI,zJ,zK,zL,zM,zN,zO,zP,↓reduceIte,reduceCtorEq,rawSt,lkSt,in1St,in2St,nilS,arrP,fnF,fnT,fnP,rcv0,Snd.zero,Rcv.cells,Snd.cells,Pdu.cells,St.sw,envSw,hpSw,PV.sw,swL,Blk.sw,swp,yBd,yBe,pduRows_nil,pduRows_one,pduRows_append,yBc,yBf,rowsB_nil,freshR] <;> (first | rfl | exact ⟨rfl,rfl⟩ | exact ⟨rfl,rfl,rfl⟩ | exact ⟨rfl,rfl,rfl,rfl⟩)) ?_
    refine .nil 11 0 101 70 7 76 _ rfl rfl rfl ?_
    refine .nil 11 1 102 70 7 76 _ rfl rfl rfl ?_
    refine .nil 12 0 103 70 7 76 _ rfl rfl rfl ?_
    refine .nil 12 1 104 70 7 76 _ rfl rfl rfl ?_
    exact .weak (by simp only [go_sem,zA,zB,zC,zD,zE,zF,zG,zH,zI,zJ,zK,zL,zM,zN,zO,zP,↓reduceIte,reduceCtorEq,rawSt,lkSt,in1St,in2St,nilS,arrP,fnF,fnT,fnP,rcv0,Snd.zero,Rcv.cells,Snd.cells,Pdu.cells,St.sw,envSw,hpSw,PV.sw,swL,Blk.sw,swp,yBd,yBe,pduRows_nil,pduRows_one,pduRows_append,yBc,yBf,rowsB_nil,freshR] <;> (first | rfl | exact ⟨rfl,rfl⟩ | exact ⟨rfl,rfl,rfl⟩ | exact ⟨rfl,rfl,rfl,rfl⟩))
  have f2 : decide (f = 2) = false := by simpa using h2
  by_cases h4 : f = 4
  · have f4 : decide (f = 4) = true := by simpa using h4
    simp only [go_sem,zA,zB,zC,zD,zE,zF,zG,zH,zI,zJ,zK,zL,zM,zN,zO,zP,↓reduceIte,reduceCtorEq,f2,f4,Tryz.ntmps57,Tryz.results57]
    (refine endD_intro (by decide +kernel) ?_; simp only [go_sem,zA,zB,zC,zD,zE,zF,zG,zH,zI,zJ,zK,zL,zM,zN,zO,zP,↓reduceIte,reduceCtorEq,Tryz.ntmps57,Tryz.results57])
    refine wpA_loopS (lkI fates X) (hgo _ ⟨0,0,0,0,?wk1⟩) ?bd1
    case bd1 => exact hmain.h
    rw [show putW ⟨[],[]⟩ p0 f = ⟨[],[p0]⟩ by simp [putW,h2,h4]]
    refine .seq (s := rawSt fates s0 (freshR room block gap) p0 1 0 [] [nilS,.own 24 0] [nilS,nilS] [arrP 24 [p0] 0]) (by simp only [go_sem,zA,zB,zC,zD,zE,zF,zG,zH,zI,zJ,zK,zL,zM,zN,zO,zP,↓reduceIte,reduceCtorEq,rawSt,lkSt,in1St,in2St,nilS,arrP,fnF,fnT,fnP,rcv0,Snd.zero,Rcv.cells,Snd.cells,Pdu.cells,St.sw,envSw,hpSw,PV.sw,swL,Blk.sw,swp,yBd,yBe,pduRows_nil,pduRows_one,pduRows_append,yBc,yBf,rowsB_nil,freshR] <;> (first | rfl | exact ⟨rfl,rfl⟩ | exact ⟨rfl,rfl,rfl⟩ | exact ⟨rfl,rfl,rfl,rfl⟩)) ?_
    refine .nil 11 0 101 70 7 76 _ rfl rfl rfl ?_
    refine .nil 12 0 103 70 7 76 _ rfl rfl rfl ?_
    refine .nil 12 1 104 70 7 76 _ rfl rfl rfl ?_
    refine .sw 24 102 (Nat.zero_le _) (Nat.zero_le _) ?_
    exact .weak (by simp only [go_sem,zA,zB,zC,zD,zE,zF,zG,zH,zI,zJ,zK,zL,zM,zN,zO,zP,↓reduceIte,reduceCtorEq,rawSt,lkSt,in1St,in2St,nilS,arrP,fnF,fnT,fnP,rcv0,Snd.zero,Rcv.cells,Snd.cells,Pdu.cells,St.sw,envSw,hpSw,PV.sw,swL,Blk.sw,swp,yBd,yBe,pduRows_nil,pduRows_one,pduRows_append,yBc,yBf,rowsB_nil,freshR] <;> (first | rfl | exact ⟨rfl,rfl⟩ | exact ⟨rfl,rfl,rfl⟩ | exact ⟨rfl,rfl,rfl,rfl⟩))
  have f4 : decide (f = 4) = false := by simpa using h4
  by_cases h3 : f = 3
  · have f3 : decide (f = 3) = true := by simpa using h3
    simp only [go_sem,zA,zB,zC,zD,zE,zF,zG,zH,zI,zJ,zK,zL,zM,zN,zO,zP,↓reduceIte,reduceCtorEq,f2,f4,f3,Tryz.ntmps57,Tryz.results57]
    (refine endD_intro (by decide +kernel) ?_; simp only [go_sem,zA,zB,zC,zD,zE,zF,zG,zH,zI,zJ,zK,zL,zM,zN,zO,zP,↓reduceIte,reduceCtorEq,Tryz.ntmps57,Tryz.results57])
    (refine endD_intro (by decide +kernel) ?_; simp only [go_sem,zA,zB,zC,zD,zE,zF,zG,zH,zI,zJ,zK,zL,zM,zN,zO,zP,↓reduceIte,reduceCtorEq,Tryz.ntmps57,Tryz.results57])
    refine wpA_loopS (lkI fates X) (hgo _ ⟨2,0,0,0,?wk2⟩) ?bd2
    case bd2 => exact hmain.h
    rw [show putW ⟨[],[]⟩ p0 f = ⟨[p0,p0],[]⟩ by simp [putW,h2,h4,h3]]
    refine .seq (s := rawSt fates s0 (freshR room block gap) p0 1 0 [] [.own 24 2,nilS] [nilS,nilS] [arrP 24 [p0,p0] 2]) (by simp only [go_sem,zA,zB,zC,zD,zE,zF,zG,zH,zI,zJ,zK,zL,zM,zN,zO,zP,↓reduceIte,reduceCtorEq,rawSt,lkSt,in1St,in2St,nilS,arrP,fnF,fnT,fnP,rcv0,Snd.zero,Rcv.cells,Snd.cells,Pdu.cells,St.sw,envSw,hpSw,PV.sw,swL,Blk.sw,swp,yBd,yBe,pduRows_nil,pduRows_one,pduRows_append,yBc,yBf,rowsB_nil,freshR] <;> (first | rfl | exact ⟨rfl,rfl⟩ | exact ⟨rfl,rfl,rfl⟩ | exact ⟨rfl,rfl,rfl,rfl⟩)) ?_
    refine .nil 11 1 102 70 7 76 _ rfl rfl rfl ?_
    refine .nil 12 0 103 70 7 76 _ rfl rfl rfl ?_
    refine .nil 12 1 104 70 7 76 _ rfl rfl rfl ?_
    refine .sw 24 101 (Nat.zero_le _) (Nat.zero_le _) ?_
    exact .weak (by simp only [go_sem,zA,zB,zC,zD,zE,zF,zG,zH,zI,zJ,zK,zL,zM,zN,zO,zP,↓reduceIte,reduceCtorEq,rawSt,lkSt,in1St,in2St,nilS,arrP,fnF,fnT,fnP,rcv0,Snd.zero,Rcv.cells,Snd.cells,Pdu.cells,St.sw,envSw,hpSw,PV.sw,swL,Blk.sw,swp,yBd,yBe,pduRows_nil,pduRows_one,pduRows_append,yBc,yBf,rowsB_nil,freshR] <;> (first | rfl | exact ⟨rfl,rfl⟩ | exact ⟨rfl,rfl,rfl⟩ | exact ⟨rfl,rfl,rfl,rfl⟩))
  have f3 : decide (f = 3) = false := by simpa using h3
  simp only [go_sem,zA,zB,zC,zD,zE,zF,zG,zH,zI,zJ,zK,zL,zM,zN,zO,zP,↓reduceIte,reduceCtorEq,f2,f4,f3,Tryz.ntmps57,Tryz.results57]
  (refine endD_intro (by decide +kernel) ?_; simp only [go_sem,zA,zB,zC,zD,zE,zF,zG,zH,zI,zJ,zK,zL,zM,zN,zO,zP,↓reduceIte,reduceCtorEq,Tryz.ntmps57,Tryz.results57])
  refine wpA_loopS (lkI fates X) (hgo _ ⟨1,0,0,0,?wk3⟩) ?bd3
  case bd3 => exact hmain.h
  rw [show putW ⟨[],[]⟩ p0 f = ⟨[p0],[]⟩ by simp [putW,h2,h4,h3]]
  refine .seq (s := rawSt fates s0 (freshR room block gap) p0 1 0 [] [.own 24 1,nilS] [nilS,nilS] [arrP 24 [p0] 1]) (by simp only [go_sem,zA,zB,zC,zD,zE,zF,zG,zH,zI,zJ,zK,zL,zM,zN,zO,zP,↓reduceIte,reduceCtorEq,rawSt,lkSt,in1St,in2St,nilS,arrP,fnF,fnT,fnP,rcv0,Snd.zero,Rcv.cells,Snd.cells,Pdu.cells,St.sw,envSw,hpSw,PV.sw,swL,Blk.sw,swp,yBd,yBe,pduRows_nil,pduRows_one,pduRows_append,yBc,yBf,rowsB_nil,freshR] <;> (first | rfl | exact ⟨rfl,rfl⟩ | exact ⟨rfl,rfl,rfl⟩ | exact ⟨rfl,rfl,rfl,rfl⟩)) ?_
  refine .nil 11 1 102 70 7 76 _ rfl rfl rfl ?_
  refine .nil 12 0 103 70 7 76 _ rfl rfl rfl ?_
  refine .nil 12 1 104 70 7 76 _ rfl rfl rfl ?_
  refine .sw 24 101 (Nat.zero_le _) (Nat.zero_le _) ?_
  exact .weak (by simp only [go_sem,zA,zB,zC,zD,zE,zF,zG,zH,zI,zJ,zK,zL,zM,zN,zO,zP,↓reduceIte,reduceCtorEq,rawSt,lkSt,in1St,in2St,nilS,arrP,fnF,fnT,fnP,rcv0,Snd.zero,Rcv.cells,Snd.cells,Pdu.cells,St.sw,envSw,hpSw,PV.sw,swL,Blk.sw,swp,yBd,yBe,pduRows_nil,pduRows_one,pduRows_append,yBc,yBf,rowsB_nil,freshR] <;> (first | rfl | exact ⟨rfl,rfl⟩ | exact ⟨rfl,rfl,rfl⟩ | exact ⟨rfl,rfl,rfl,rfl⟩))
  case' hm => skip
  rintro m st ⟨n,L,p,va,vb,vc,vd,hn,rfl,hI,hX,rfl⟩
  have hI' := hI
  obtain ⟨hss,hrf',hgd,D,hD1,hD2,hD3⟩ := hI
  have hal : L.a.len = L.a.u.length + L.a.h.length := rfl
  have hbl0 : L.b.len = L.b.u.length + L.b.h.length := rfl
  by_cases hc : n < 100000
  rotate_left 1
  · have e : n = 100000 := by omega
    subst e
    rw [Nat.sub_self,runL] at hX
    subst hX
    have f1 : decide (((100000 : Nat) : Int) < 100000) = false := by decide
    simp only [go_sem,zA,zB,zC,zD,zE,zF,zG,zH,zI,zJ,zK,zL,zM,zN,zO,zP,↓reduceIte,reduceCtorEq,rawSt,lkSt,in1St,in2St,nilS,arrP,fnF,fnT,fnP,yBl,yBc,f1]
    (refine endD_intro (by decide +kernel) ?_; simp only [go_sem,zA,zB,zC,zD,zE,zF,zG,zH,zI,zJ,zK,zL,zM,zN,zO,zP,↓reduceIte,reduceCtorEq,Tryz.ntmps41,Tryz.results41])
  have f1 : decide ((n : Int) < 100000) = true := by simp; omega
  obtain ⟨k,hk⟩ : ∃ k,100000 - n = k + 1 := ⟨100000 - n - 1,by omega⟩
  rw [hk,runL] at hX
  have hwz : IntKind.wrap .i64 ((L.a.u.length : Int) + (L.b.u.length : Int)) = (L.a.u.length : Int) + (L.b.u.length : Int) := wrapI64 (by omega)
  by_cases h3 : L.s.st = 3
  · have g3 : decide (L.s.st = 3) = true := by simp [h3]
    by_cases h2 : L.r.st = 2
    · have g2 : decide (L.r.st = 2) = true := by simp [h2]
      have hnd : doneL L = false := by rw [doneL,g2]; simp
      rw [hnd] at hX
      have hX' : runL fates (100000 - (n + 1)) (n + 1) (tickL fates L) = X := by rw [show 100000 - (n + 1) = k by omega]; simpa using hX
      simp only [go_sem,zA,zB,zC,zD,zE,zF,zG,zH,zI,zJ,zK,zL,zM,zN,zO,zP,↓reduceIte,reduceCtorEq,rawSt,lkSt,in1St,in2St,nilS,arrP,fnF,fnT,fnP,yBl,yBc,f1,hwz,g3,g2]
      refine CallA.into tabOK mixed Tryz.func56 rfl rfl (by decide +kernel) (by simp [Tryz.ntmps56]) ?_
      simp only [go_sem,zA,zB,zC,zD,zE,zF,zG,zH,zI,zJ,zK,zL,zM,zN,zO,zP,↓reduceIte,reduceCtorEq,Tryz.ntmps56,Tryz.results56,Tryz.ntmps41,Tryz.results41]
      refine wpA_loopS (in1I fates L p n va vb (recvAll fates L.a.u L.r L.b L.m)) ⟨_,_,?_,0,L.r,L.b,L.m,vc,vd,by omega,rfl,hrf',by rw [List.drop_zero],by omega,by omega,rfl⟩ ?_
      · refine .seq (s := rawSt fates L.s L.r p L.m n [(83,.own 101 va),(84,PI L.a.u.length),(85,PI ((0 : Nat) : Int))] [nilS,.own 102 vb] [.own 103 vc,.own 104 vd] [arrP 101 L.a.u va,arrP 102 L.a.h vb,arrP 103 L.b.u vc,arrP 104 L.b.h vd]) (by simp only [go_sem,zA,zB,zC,zD,zE,zF,zG,zH,zI,zJ,zK,zL,zM,zN,zO,zP,↓reduceIte,reduceCtorEq,rawSt,lkSt,in1St,in2St,nilS,arrP,fnF,fnT,fnP,rcv0,Snd.zero,Rcv.cells,Snd.cells,Pdu.cells,St.sw,envSw,hpSw,PV.sw,swL,Blk.sw,swp,yBd,yBe,pduRows_nil,pduRows_one,pduRows_append,yBc,yBf,rowsB_nil,freshR] <;> (first | rfl | exact ⟨rfl,rfl⟩ | exact ⟨rfl,rfl,rfl⟩ | exact ⟨rfl,rfl,rfl,rfl⟩)) ?_
        refine .nil 11 0 105 70 7 76 _ rfl rfl rfl ?_
        exact .weak (by simp only [go_sem,zA,zB,zC,zD,zE,zF,zG,zH,zI,zJ,zK,zL,zM,zN,zO,zP,↓reduceIte,reduceCtorEq,rawSt,lkSt,in1St,in2St,nilS,arrP,fnF,fnT,fnP,rcv0,Snd.zero,Rcv.cells,Snd.cells,Pdu.cells,St.sw,envSw,hpSw,PV.sw,swL,Blk.sw,swp,yBd,yBe,pduRows_nil,pduRows_one,pduRows_append,yBc,yBf,rowsB_nil,freshR] <;> (first | rfl | exact ⟨rfl,rfl⟩ | exact ⟨rfl,rfl,rfl⟩ | exact ⟨rfl,rfl,rfl,rfl⟩))
      rintro mm st ⟨i,r,b,m,vc',vd',hi,rfl,hr,hrec,hb1,hm1,rfl⟩
      have hbl : b.len = b.u.length + b.h.length := rfl
      by_cases hci : i < L.a.u.length
      · have g1 : decide ((i : Int) < (L.a.u.length : Int)) = true := by simp; omega
        have f1' : (i : Int) < (L.a.u.length : Int) := by omega
        have f0 : (0 : Int) ≤ (i : Int) := by omega
        have hw := wrapIN (i := i) (by omega)
        have hrow := pduRows_at hci
        have hpr := hgd.1 _ (List.getElem_mem hci)
        rw [List.drop_eq_getElem_cons hci,recvAll] at hrec
        generalize L.a.u[i] = pi at hrow hpr hrec
        have c1 := takeT_calls r pi hr hpr
        have hf1 := fine_recv hr hpr
        generalize recvV r pi = x at c1 hf1 hrec
        obtain ⟨r',q,bb⟩ := x
        simp only at c1 hf1 hrec
        simp only [go_sem,zA,zB,zC,zD,zE,zF,zG,zH,zI,zJ,zK,zL,zM,zN,zO,zP,↓reduceIte,reduceCtorEq,rawSt,lkSt,in1St,in2St,nilS,arrP,fnF,fnT,fnP,yBl,yBc,g1,f1',f0,yCa,hrow]
        refine ⟨hci,?_⟩
        (refine CallA.pure (c1) (by simp only [go_sem,zA,zB,zC,zD,zE,zF,zG,zH,zI,zJ,zK,zL,zM,zN,zO,zP,↓reduceIte,reduceCtorEq,Rcv.pv,Pdu.pv] <;> first | rfl | decide) ?_; simp only [go_sem,zA,zB,zC,zD,zE,zF,zG,zH,zI,zJ,zK,zL,zM,zN,zO,zP,↓reduceIte,reduceCtorEq,Rcv.pv,Pdu.pv])
        cases bb with
        | false =>
          simp only [Bool.false_eq_true,if_false] at hrec
          simp only [go_sem,zA,zB,zC,zD,zE,zF,zG,zH,zI,zJ,zK,zL,zM,zN,zO,zP,↓reduceIte,reduceCtorEq,hw]
          refine ⟨L.a.u.length - (i + 1),_,by omega,?_,i + 1,r',b,m,vc',vd',by omega,rfl,hf1,hrec,by omega,by omega,rfl⟩
          exact .weak (by simp only [go_sem,zA,zB,zC,zD,zE,zF,zG,zH,zI,zJ,zK,zL,zM,zN,zO,zP,↓reduceIte,reduceCtorEq,rawSt,lkSt,in1St,in2St,nilS,arrP,fnF,fnT,fnP,rcv0,Snd.zero,Rcv.cells,Snd.cells,Pdu.cells,St.sw,envSw,hpSw,PV.sw,swL,Blk.sw,swp,yBd,yBe,pduRows_nil,pduRows_one,pduRows_append,yBc,yBf,rowsB_nil,freshR] <;> (first | rfl | exact ⟨rfl,rfl⟩ | exact ⟨rfl,rfl,rfl⟩ | exact ⟨rfl,rfl,rfl,rfl⟩))
        | true =>
          simp only [if_true] at hrec
          obtain ⟨f,hf⟩ : ∃ f,fateL fates m = f := ⟨_,rfl⟩
          rw [hf] at hrec
          have hpl := putW_len b q f
          simp only [go_sem,zA,zB,zC,zD,zE,zF,zG,zH,zI,zJ,zK,zL,zM,zN,zO,zP,↓reduceIte,reduceCtorEq]
          refine callD_eff (fate_at hf (by decide) (by omega) (by simp only [go_sem,zA,zB,zC,zD,zE,zF,zG,zH,zI,zJ,zK,zL,zM,zN,zO,zP,↓reduceIte,reduceCtorEq] <;> rfl) (by simp only [go_sem,zA,zB,zC,zD,zE,zF,zG,zH,zI,zJ,zK,zL,zM,zN,zO,zP,↓reduceIte,reduceCtorEq] <;> rfl)) ?_
          simp only [go_sem,zA,zB,zC,zD,zE,zF,zG,zH,zI,zJ,zK,zL,zM,zN,zO,zP,↓reduceIte,reduceCtorEq]
          refine callD_tail (by decide +kernel) (by decide +kernel) ?_
          simp only [go_sem,zA,zB,zC,zD,zE,zF,zG,zH,zI,zJ,zK,zL,zM,zN,zO,zP,↓reduceIte,reduceCtorEq]
          refine CallA.into tabOK mixed Tryz.func57 rfl rfl (by decide +kernel) (by simp [Tryz.ntmps57]) ?_
          simp only [go_sem,zA,zB,zC,zD,zE,zF,zG,zH,zI,zJ,zK,zL,zM,zN,zO,zP,↓reduceIte,reduceCtorEq,Tryz.ntmps57,Tryz.results57,hw]
          by_cases h2 : f = 2
          · have f2 : decide (f = 2) = true := by simpa using h2
            simp only [go_sem,zA,zB,zC,zD,zE,zF,zG,zH,zI,zJ,zK,zL,zM,zN,zO,zP,↓reduceIte,reduceCtorEq,f2,hw,Tryz.ntmps57,Tryz.results57]
            rw [show putW b q f = ⟨b.u,b.h⟩ by simp [putW,h2]] at hrec hpl
            refine ⟨L.a.u.length - (i + 1),_,by omega,?_,i + 1,r',⟨b.u,b.h⟩,m + 1,vc',vd',by omega,rfl,hf1,hrec,by omega,by omega,rfl⟩
            refine .seq (s := rawSt fates L.s r' p (m + 1) n [(83,.own 101 va),(84,PI L.a.u.length),(85,PI ((i + 1 : Nat) : Int))] [.own 105 0,.own 102 vb] [.own 103 vc',.own 104 vd'] ([arrP 101 L.a.u va,arrP 105 [] 0,arrP 102 L.a.h vb,arrP 103 (b.u) vc',arrP 104 (b.h) vd'])) (by simp only [go_sem,zA,zB,zC,zD,zE,zF,zG,zH,zI,zJ,zK,zL,zM,zN,zO,zP,↓reduceIte,reduceCtorEq,rawSt,lkSt,in1St,in2St,nilS,arrP,fnF,fnT,fnP,rcv0,Snd.zero,Rcv.cells,Snd.cells,Pdu.cells,St.sw,envSw,hpSw,PV.sw,swL,Blk.sw,swp,yBd,yBe,pduRows_nil,pduRows_one,pduRows_append,yBc,yBf,rowsB_nil,freshR] <;> (first | rfl | exact ⟨rfl,rfl⟩ | exact ⟨rfl,rfl,rfl⟩ | exact ⟨rfl,rfl,rfl,rfl⟩)) ?_
            exact .weak (by simp only [go_sem,zA,zB,zC,zD,zE,zF,zG,zH,zI,zJ,zK,zL,zM,zN,zO,zP,↓reduceIte,reduceCtorEq,rawSt,lkSt,in1St,in2St,nilS,arrP,fnF,fnT,fnP,rcv0,Snd.zero,Rcv.cells,Snd.cells,Pdu.cells,St.sw,envSw,hpSw,PV.sw,swL,Blk.sw,swp,yBd,yBe,pduRows_nil,pduRows_one,pduRows_append,yBc,yBf,rowsB_nil,freshR] <;> (first | rfl | exact ⟨rfl,rfl⟩ | exact ⟨rfl,rfl,rfl⟩ | exact ⟨rfl,rfl,rfl,rfl⟩))
          have f2 : decide (f = 2) = false := by simpa using h2
          by_cases h4 : f = 4
          · have f4 : decide (f = 4) = true := by simpa using h4
            simp only [go_sem,zA,zB,zC,zD,zE,zF,zG,zH,zI,zJ,zK,zL,zM,zN,zO,zP,↓reduceIte,reduceCtorEq,f2,f4,hw,Tryz.ntmps57,Tryz.results57]
            repeat (first | refine And.intro (by omega) ?_ | refine And.intro (by simp only [List.length_append,yBa,yBb,pduRows_length]; omega) ?_)
            (refine endD_intro (by decide +kernel) ?_; simp only [go_sem,zA,zB,zC,zD,zE,zF,zG,zH,zI,zJ,zK,zL,zM,zN,zO,zP,↓reduceIte,reduceCtorEq,hw,Tryz.ntmps57,Tryz.results57])
            rw [show putW b q f = ⟨b.u,b.h ++ [q]⟩ by simp [putW,h2,h4]] at hrec hpl
            refine ⟨L.a.u.length - (i + 1),_,by omega,?_,i + 1,r',⟨b.u,b.h ++ [q]⟩,m + 1,vc',(vd' + 1),by omega,rfl,hf1,hrec,by omega,by omega,rfl⟩
            refine .seq (s := rawSt fates L.s r' p (m + 1) n [(83,.own 101 va),(84,PI L.a.u.length),(85,PI ((i + 1 : Nat) : Int))] [.own 105 0,.own 102 vb] [.own 103 vc',.own 104 (vd' + 1)] ([arrP 101 L.a.u va,arrP 105 [] 0,arrP 102 L.a.h vb,arrP 103 (b.u) vc',arrP 104 (b.h ++ [q]) (vd' + 1)])) (by simp only [go_sem,zA,zB,zC,zD,zE,zF,zG,zH,zI,zJ,zK,zL,zM,zN,zO,zP,↓reduceIte,reduceCtorEq,rawSt,lkSt,in1St,in2St,nilS,arrP,fnF,fnT,fnP,rcv0,Snd.zero,Rcv.cells,Snd.cells,Pdu.cells,St.sw,envSw,hpSw,PV.sw,swL,Blk.sw,swp,yBd,yBe,pduRows_nil,pduRows_one,pduRows_append,yBc,yBf,rowsB_nil,freshR] <;> (first | rfl | exact ⟨rfl,rfl⟩ | exact ⟨rfl,rfl,rfl⟩ | exact ⟨rfl,rfl,rfl,rfl⟩)) ?_
            exact .weak (by simp only [go_sem,zA,zB,zC,zD,zE,zF,zG,zH,zI,zJ,zK,zL,zM,zN,zO,zP,↓reduceIte,reduceCtorEq,rawSt,lkSt,in1St,in2St,nilS,arrP,fnF,fnT,fnP,rcv0,Snd.zero,Rcv.cells,Snd.cells,Pdu.cells,St.sw,envSw,hpSw,PV.sw,swL,Blk.sw,swp,yBd,yBe,pduRows_nil,pduRows_one,pduRows_append,yBc,yBf,rowsB_nil,freshR] <;> (first | rfl | exact ⟨rfl,rfl⟩ | exact ⟨rfl,rfl,rfl⟩ | exact ⟨rfl,rfl,rfl,rfl⟩))
          have f4 : decide (f = 4) = false := by simpa using h4
          by_cases h3 : f = 3
          · have f3 : decide (f = 3) = true := by simpa using h3
            simp only [go_sem,zA,zB,zC,zD,zE,zF,zG,zH,zI,zJ,zK,zL,zM,zN,zO,zP,↓reduceIte,reduceCtorEq,f2,f4,f3,hw,Tryz.ntmps57,Tryz.results57]
            repeat (first | refine And.intro (by omega) ?_ | refine And.intro (by simp only [List.length_append,yBa,yBb,pduRows_length]; omega) ?_)
            (refine endD_intro (by decide +kernel) ?_; simp only [go_sem,zA,zB,zC,zD,zE,zF,zG,zH,zI,zJ,zK,zL,zM,zN,zO,zP,↓reduceIte,reduceCtorEq,hw,Tryz.ntmps57,Tryz.results57])
            repeat (first | refine And.intro (by omega) ?_ | refine And.intro (by simp only [List.length_append,yBa,yBb,pduRows_length]; omega) ?_)
            (refine endD_intro (by decide +kernel) ?_; simp only [go_sem,zA,zB,zC,zD,zE,zF,zG,zH,zI,zJ,zK,zL,zM,zN,zO,zP,↓reduceIte,reduceCtorEq,hw,Tryz.ntmps57,Tryz.results57])
            rw [show putW b q f = ⟨b.u ++ [q] ++ [q] ++ b.h,[]⟩ by simp [putW,h2,h4,h3]] at hrec hpl
            refine ⟨L.a.u.length - (i + 1),_,by omega,?_,i + 1,r',⟨b.u ++ [q] ++ [q] ++ b.h,[]⟩,m + 1,(vc' + 3),0,by omega,rfl,hf1,hrec,by omega,by omega,rfl⟩
            refine .seq (s := rawSt fates L.s r' p (m + 1) n [(83,.own 101 va),(84,PI L.a.u.length),(85,PI ((i + 1 : Nat) : Int))] [.own 105 0,.own 102 vb] [.own 103 (vc' + 3),nilS] ([arrP 101 L.a.u va,arrP 105 [] 0,arrP 102 L.a.h vb,arrP 103 (b.u ++ [q] ++ [q] ++ b.h) (vc' + 3)])) (by simp only [go_sem,zA,zB,zC,zD,zE,zF,zG,zH,zI,zJ,zK,zL,zM,zN,zO,zP,↓reduceIte,reduceCtorEq,rawSt,lkSt,in1St,in2St,nilS,arrP,fnF,fnT,fnP,rcv0,Snd.zero,Rcv.cells,Snd.cells,Pdu.cells,St.sw,envSw,hpSw,PV.sw,swL,Blk.sw,swp,yBd,yBe,pduRows_nil,pduRows_one,pduRows_append,yBc,yBf,rowsB_nil,freshR] <;> (first | rfl | exact ⟨rfl,rfl⟩ | exact ⟨rfl,rfl,rfl⟩ | exact ⟨rfl,rfl,rfl,rfl⟩)) ?_
            refine .nil 12 1 104 70 7 76 _ rfl rfl rfl ?_
            exact .weak (by simp only [go_sem,zA,zB,zC,zD,zE,zF,zG,zH,zI,zJ,zK,zL,zM,zN,zO,zP,↓reduceIte,reduceCtorEq,rawSt,lkSt,in1St,in2St,nilS,arrP,fnF,fnT,fnP,rcv0,Snd.zero,Rcv.cells,Snd.cells,Pdu.cells,St.sw,envSw,hpSw,PV.sw,swL,Blk.sw,swp,yBd,yBe,pduRows_nil,pduRows_one,pduRows_append,yBc,yBf,rowsB_nil,freshR] <;> (first | rfl | exact ⟨rfl,rfl⟩ | exact ⟨rfl,rfl,rfl⟩ | exact ⟨rfl,rfl,rfl,rfl⟩))
          have f3 : decide (f = 3) = false := by simpa using h3
          simp only [go_sem,zA,zB,zC,zD,zE,zF,zG,zH,zI,zJ,zK,zL,zM,zN,zO,zP,↓reduceIte,reduceCtorEq,f2,f4,f3,hw,Tryz.ntmps57,Tryz.results57]
          repeat (first | refine And.intro (by omega) ?_ | refine And.intro (by simp only [List.length_append,yBa,yBb,pduRows_length]; omega) ?_)
          (refine endD_intro (by decide +kernel) ?_; simp only [go_sem,zA,zB,zC,zD,zE,zF,zG,zH,zI,zJ,zK,zL,zM,zN,zO,zP,↓reduceIte,reduceCtorEq,hw,Tryz.ntmps57,Tryz.results57])
          rw [show putW b q f = ⟨b.u ++ [q] ++ b.h,[]⟩ by simp [putW,h2,h4,h3]] at hrec hpl
          refine ⟨L.a.u.length - (i + 1),_,by omega,?_,i + 1,r',⟨b.u ++ [q] ++ b.h,[]⟩,m + 1,(vc' + 2),0,by omega,rfl,hf1,hrec,by omega,by omega,rfl⟩
          refine .seq (s := rawSt fates L.s r' p (m + 1) n [(83,.own 101 va),(84,PI L.a.u.length),(85,PI ((i + 1 : Nat) : Int))] [.own 105 0,.own 102 vb] [.own 103 (vc' + 2),nilS] ([arrP 101 L.a.u va,arrP 105 [] 0,arrP 102 L.a.h vb,arrP 103 (b.u ++ [q] ++ b.h) (vc' + 2)])) (by simp only [go_sem,zA,zB,zC,zD,zE,zF,zG,zH,zI,zJ,zK,zL,zM,zN,zO,zP,↓reduceIte,reduceCtorEq,rawSt,lkSt,in1St,in2St,nilS,arrP,fnF,fnT,fnP,rcv0,Snd.zero,Rcv.cells,Snd.cells,Pdu.cells,St.sw,envSw,hpSw,PV.sw,swL,Blk.sw,swp,yBd,yBe,pduRows_nil,pduRows_one,pduRows_append,yBc,yBf,rowsB_nil,freshR] <;> (first | rfl | exact ⟨rfl,rfl⟩ | exact ⟨rfl,rfl,rfl⟩ | exact ⟨rfl,rfl,rfl,rfl⟩)) ?_
          refine .nil 12 1 104 70 7 76 _ rfl rfl rfl ?_
          exact .weak (by simp only [go_sem,zA,zB,zC,zD,zE,zF,zG,zH,zI,zJ,zK,zL,zM,zN,zO,zP,↓reduceIte,reduceCtorEq,rawSt,lkSt,in1St,in2St,nilS,arrP,fnF,fnT,fnP,rcv0,Snd.zero,Rcv.cells,Snd.cells,Pdu.cells,St.sw,envSw,hpSw,PV.sw,swL,Blk.sw,swp,yBd,yBe,pduRows_nil,pduRows_one,pduRows_append,yBc,yBf,rowsB_nil,freshR] <;> (first | rfl | exact ⟨rfl,rfl⟩ | exact ⟨rfl,rfl,rfl⟩ | exact ⟨rfl,rfl,rfl,rfl⟩))
      have hix : i = L.a.u.length := by omega
      rw [hix,List.drop_length,recvAll] at hrec
      have g1 : decide ((i : Int) < (L.a.u.length : Int)) = false := by simp; omega
      simp only [go_sem,zA,zB,zC,zD,zE,zF,zG,zH,zI,zJ,zK,zL,zM,zN,zO,zP,↓reduceIte,reduceCtorEq,rawSt,lkSt,in1St,in2St,nilS,arrP,fnF,fnT,fnP,yBl,yBc,g1]
      refine CallA.into tabOK mixed Tryz.func56 rfl rfl (by decide +kernel) (by simp [Tryz.ntmps56]) ?_
      simp only [go_sem,zA,zB,zC,zD,zE,zF,zG,zH,zI,zJ,zK,zL,zM,zN,zO,zP,↓reduceIte,reduceCtorEq,Tryz.ntmps56,Tryz.results56,Tryz.ntmps41,Tryz.results41]
      refine wpA_loopS (in2I fates L.a.h p n vb r b m vc' vd' (takeAll b.u L.s)) ⟨_,_,?_,0,L.s,by omega,rfl,hss,by rw [List.drop_zero],rfl⟩ ?_
      · refine .seq (s := rawSt fates L.s r p m n [(103,.own 103 vc'),(104,PI b.u.length),(105,PI ((0 : Nat) : Int))] [.own 105 0,.own 102 vb] [nilS,.own 104 vd'] [arrP 105 [] 0,arrP 102 L.a.h vb,arrP 103 b.u vc',arrP 104 b.h vd']) (by simp only [go_sem,zA,zB,zC,zD,zE,zF,zG,zH,zI,zJ,zK,zL,zM,zN,zO,zP,↓reduceIte,reduceCtorEq,rawSt,lkSt,in1St,in2St,nilS,arrP,fnF,fnT,fnP,rcv0,Snd.zero,Rcv.cells,Snd.cells,Pdu.cells,St.sw,envSw,hpSw,PV.sw,swL,Blk.sw,swp,yBd,yBe,pduRows_nil,pduRows_one,pduRows_append,yBc,yBf,rowsB_nil,freshR] <;> (first | rfl | exact ⟨rfl,rfl⟩ | exact ⟨rfl,rfl,rfl⟩ | exact ⟨rfl,rfl,rfl,rfl⟩)) ?_
        refine .nil 12 0 106 70 7 76 _ rfl rfl rfl ?_
        exact .weak (by simp only [go_sem,zA,zB,zC,zD,zE,zF,zG,zH,zI,zJ,zK,zL,zM,zN,zO,zP,↓reduceIte,reduceCtorEq,rawSt,lkSt,in1St,in2St,nilS,arrP,fnF,fnT,fnP,rcv0,Snd.zero,Rcv.cells,Snd.cells,Pdu.cells,St.sw,envSw,hpSw,PV.sw,swL,Blk.sw,swp,yBd,yBe,pduRows_nil,pduRows_one,pduRows_append,yBc,yBf,rowsB_nil,freshR] <;> (first | rfl | exact ⟨rfl,rfl⟩ | exact ⟨rfl,rfl,rfl⟩ | exact ⟨rfl,rfl,rfl,rfl⟩))
      rintro mm st ⟨j,s,hj,rfl,hs,htk,rfl⟩
      by_cases hcj : j < b.u.length
      · have g2 : decide ((j : Int) < (b.u.length : Int)) = true := by simp; omega
        have f1' : (j : Int) < (b.u.length : Int) := by omega
        have f0 : (0 : Int) ≤ (j : Int) := by omega
        have hw := wrapIN (i := j) (by omega)
        have hrow := pduRows_at hcj
        rw [List.drop_eq_getElem_cons hcj,takeAll] at htk
        generalize b.u[j] = pi at hrow htk
        have c1 := take_calls s pi
        have hs1 := take_sound hs pi
        generalize takeS s pi = s' at c1 hs1 htk
        simp only [go_sem,zA,zB,zC,zD,zE,zF,zG,zH,zI,zJ,zK,zL,zM,zN,zO,zP,↓reduceIte,reduceCtorEq,rawSt,lkSt,in1St,in2St,nilS,arrP,fnF,fnT,fnP,yBl,yBc,g2,f1',f0,yCa,hrow]
        refine ⟨hcj,?_⟩
        (refine CallA.pure (c1) (by simp only [go_sem,zA,zB,zC,zD,zE,zF,zG,zH,zI,zJ,zK,zL,zM,zN,zO,zP,↓reduceIte,reduceCtorEq,Snd.pv,Pdu.pv,hw] <;> first | rfl | decide) ?_; simp only [go_sem,zA,zB,zC,zD,zE,zF,zG,zH,zI,zJ,zK,zL,zM,zN,zO,zP,↓reduceIte,reduceCtorEq,Snd.pv,Pdu.pv,hw])
        refine ⟨b.u.length - (j + 1),_,by omega,?_,j + 1,s',by omega,rfl,hs1,htk,rfl⟩
        exact .weak (by simp only [go_sem,zA,zB,zC,zD,zE,zF,zG,zH,zI,zJ,zK,zL,zM,zN,zO,zP,↓reduceIte,reduceCtorEq,rawSt,lkSt,in1St,in2St,nilS,arrP,fnF,fnT,fnP,rcv0,Snd.zero,Rcv.cells,Snd.cells,Pdu.cells,St.sw,envSw,hpSw,PV.sw,swL,Blk.sw,swp,yBd,yBe,pduRows_nil,pduRows_one,pduRows_append,yBc,yBf,rowsB_nil,freshR] <;> (first | rfl | exact ⟨rfl,rfl⟩ | exact ⟨rfl,rfl,rfl⟩ | exact ⟨rfl,rfl,rfl,rfl⟩))
      have hjx : j = b.u.length := by omega
      rw [hjx,List.drop_length,takeAll] at htk
      have g2 : decide ((j : Int) < (b.u.length : Int)) = false := by simp; omega
      have cNx := next_calls s hs.1.1
      have cTk := tick_calls (nextS s)
      have cTr := tickT_at r
      have hwn := wrapIN (i := n) (by omega)
      have hT : tickL fates L = ⟨tickS (nextS s),tickV r,if s.goes then putW ⟨[],L.a.h⟩ (nextP s) (fateL fates m) else ⟨[],L.a.h⟩,⟨[],b.h⟩,if s.goes then m + 1 else m⟩ := by
        unfold tickL
        rw [← hrec]
        simp only [← htk]
      simp only [go_sem,zA,zB,zC,zD,zE,zF,zG,zH,zI,zJ,zK,zL,zM,zN,zO,zP,↓reduceIte,reduceCtorEq,rawSt,lkSt,in1St,in2St,nilS,arrP,fnF,fnT,fnP,yBl,yBc,g2]
      (refine CallA.pure (cNx) (by simp only [go_sem,zA,zB,zC,zD,zE,zF,zG,zH,zI,zJ,zK,zL,zM,zN,zO,zP,↓reduceIte,reduceCtorEq,Snd.pv,Pdu.pv] <;> first | rfl | decide) ?_; simp only [go_sem,zA,zB,zC,zD,zE,zF,zG,zH,zI,zJ,zK,zL,zM,zN,zO,zP,↓reduceIte,reduceCtorEq,Snd.pv,Pdu.pv])
      cases hg : s.goes with
      | false =>
        rw [hg] at hT
        have hT' : tickL fates L = ⟨tickS (nextS s),tickV r,⟨[],L.a.h⟩,⟨[],b.h⟩,m⟩ := by rw [hT]; rfl
        simp only [go_sem,zA,zB,zC,zD,zE,zF,zG,zH,zI,zJ,zK,zL,zM,zN,zO,zP,↓reduceIte,reduceCtorEq]
        (refine callD_pure (cTk) (by simp only [go_sem,zA,zB,zC,zD,zE,zF,zG,zH,zI,zJ,zK,zL,zM,zN,zO,zP,↓reduceIte,reduceCtorEq,Snd.pv] <;> first | rfl | decide) ?_; simp only [go_sem,zA,zB,zC,zD,zE,zF,zG,zH,zI,zJ,zK,zL,zM,zN,zO,zP,↓reduceIte,reduceCtorEq,Snd.pv])
        (refine callD_pure (cTr) (by simp only [go_sem,zA,zB,zC,zD,zE,zF,zG,zH,zI,zJ,zK,zL,zM,zN,zO,zP,↓reduceIte,reduceCtorEq,Rcv.pv] <;> first | rfl | decide) ?_; simp only [go_sem,zA,zB,zC,zD,zE,zF,zG,zH,zI,zJ,zK,zL,zM,zN,zO,zP,↓reduceIte,reduceCtorEq,Rcv.pv])
        (refine endD_intro (by decide +kernel) ?_; simp only [go_sem,zA,zB,zC,zD,zE,zF,zG,zH,zI,zJ,zK,zL,zM,zN,zO,zP,↓reduceIte,reduceCtorEq,hwn])
        refine ⟨100000 - (n + 1),_,by omega,?_,n + 1,tickL fates L,nextP s,0,vb,0,vd',by omega,rfl,hI'.tick,hX',rfl⟩
        rw [hT']
        refine .seq (s := rawSt fates (tickS (nextS s)) (tickV r) (nextP s) m (n + 1) [] [.own 105 0,.own 102 vb] [.own 106 0,.own 104 vd'] ([arrP 105 ([]) 0,arrP 106 [] 0,arrP 104 b.h vd',arrP 102 (L.a.h) vb])) (by simp only [go_sem,zA,zB,zC,zD,zE,zF,zG,zH,zI,zJ,zK,zL,zM,zN,zO,zP,↓reduceIte,reduceCtorEq,rawSt,lkSt,in1St,in2St,nilS,arrP,fnF,fnT,fnP,rcv0,Snd.zero,Rcv.cells,Snd.cells,Pdu.cells,St.sw,envSw,hpSw,PV.sw,swL,Blk.sw,swp,yBd,yBe,pduRows_nil,pduRows_one,pduRows_append,yBc,yBf,rowsB_nil,freshR] <;> (first | rfl | exact ⟨rfl,rfl⟩ | exact ⟨rfl,rfl,rfl⟩ | exact ⟨rfl,rfl,rfl,rfl⟩)) ?_
        refine .sw 105 101 (Nat.zero_le _) (Nat.zero_le _) ?_
        refine .sw 106 103 (Nat.zero_le _) (Nat.zero_le _) ?_
        exact .weak (by simp only [go_sem,zA,zB,zC,zD,zE,zF,zG,zH,zI,zJ,zK,zL,zM,zN,zO,zP,↓reduceIte,reduceCtorEq,rawSt,lkSt,in1St,in2St,nilS,arrP,fnF,fnT,fnP,rcv0,Snd.zero,Rcv.cells,Snd.cells,Pdu.cells,St.sw,envSw,hpSw,PV.sw,swL,Blk.sw,swp,yBd,yBe,pduRows_nil,pduRows_one,pduRows_append,yBc,yBf,rowsB_nil,freshR] <;> (first | rfl | exact ⟨rfl,rfl⟩ | exact ⟨rfl,rfl,rfl⟩ | exact ⟨rfl,rfl,rfl,rfl⟩))
      | true =>
        obtain ⟨f,hf⟩ : ∃ f,fateL fates m = f := ⟨_,rfl⟩
        simp only [go_sem,zA,zB,zC,zD,zE,zF,zG,zH,zI,zJ,zK,zL,zM,zN,zO,zP,↓reduceIte,reduceCtorEq]
        refine callD_eff (fate_at hf (by decide) (by omega) (by simp only [go_sem,zA,zB,zC,zD,zE,zF,zG,zH,zI,zJ,zK,zL,zM,zN,zO,zP,↓reduceIte,reduceCtorEq] <;> rfl) (by simp only [go_sem,zA,zB,zC,zD,zE,zF,zG,zH,zI,zJ,zK,zL,zM,zN,zO,zP,↓reduceIte,reduceCtorEq] <;> rfl)) ?_
        simp only [go_sem,zA,zB,zC,zD,zE,zF,zG,zH,zI,zJ,zK,zL,zM,zN,zO,zP,↓reduceIte,reduceCtorEq]
        refine callD_tail (by decide +kernel) (by decide +kernel) ?_
        simp only [go_sem,zA,zB,zC,zD,zE,zF,zG,zH,zI,zJ,zK,zL,zM,zN,zO,zP,↓reduceIte,reduceCtorEq]
        refine CallA.into tabOK mixed Tryz.func57 rfl rfl (by decide +kernel) (by simp [Tryz.ntmps57]) ?_
        simp only [go_sem,zA,zB,zC,zD,zE,zF,zG,zH,zI,zJ,zK,zL,zM,zN,zO,zP,↓reduceIte,reduceCtorEq,Tryz.ntmps57,Tryz.results57]
        by_cases h2 : f = 2
        · have f2 : decide (f = 2) = true := by simpa using h2
          simp only [go_sem,zA,zB,zC,zD,zE,zF,zG,zH,zI,zJ,zK,zL,zM,zN,zO,zP,↓reduceIte,reduceCtorEq,f2,Tryz.ntmps57,Tryz.results57]
          have hT' : tickL fates L = ⟨tickS (nextS s),tickV r,⟨[],L.a.h⟩,⟨[],b.h⟩,m + 1⟩ := by rw [hT,if_pos hg,if_pos hg,hf]; simp [putW,h2]
          (refine callD_pure (cTk) (by simp only [go_sem,zA,zB,zC,zD,zE,zF,zG,zH,zI,zJ,zK,zL,zM,zN,zO,zP,↓reduceIte,reduceCtorEq,Snd.pv] <;> first | rfl | decide) ?_; simp only [go_sem,zA,zB,zC,zD,zE,zF,zG,zH,zI,zJ,zK,zL,zM,zN,zO,zP,↓reduceIte,reduceCtorEq,Snd.pv])
          (refine callD_pure (cTr) (by simp only [go_sem,zA,zB,zC,zD,zE,zF,zG,zH,zI,zJ,zK,zL,zM,zN,zO,zP,↓reduceIte,reduceCtorEq,Rcv.pv] <;> first | rfl | decide) ?_; simp only [go_sem,zA,zB,zC,zD,zE,zF,zG,zH,zI,zJ,zK,zL,zM,zN,zO,zP,↓reduceIte,reduceCtorEq,Rcv.pv])
          (refine endD_intro (by decide +kernel) ?_; simp only [go_sem,zA,zB,zC,zD,zE,zF,zG,zH,zI,zJ,zK,zL,zM,zN,zO,zP,↓reduceIte,reduceCtorEq,hwn])
          refine ⟨100000 - (n + 1),_,by omega,?_,n + 1,tickL fates L,nextP s,0,vb,0,vd',by omega,rfl,hI'.tick,hX',rfl⟩
          rw [hT']
          refine .seq (s := rawSt fates (tickS (nextS s)) (tickV r) (nextP s) (m + 1) (n + 1) [] [.own 105 0,.own 102 vb] [.own 106 0,.own 104 vd'] ([arrP 105 ([]) 0,arrP 106 [] 0,arrP 104 b.h vd',arrP 102 (L.a.h) vb])) (by simp only [go_sem,zA,zB,zC,zD,zE,zF,zG,zH,zI,zJ,zK,zL,zM,zN,zO,zP,↓reduceIte,reduceCtorEq,rawSt,lkSt,in1St,in2St,nilS,arrP,fnF,fnT,fnP,rcv0,Snd.zero,Rcv.cells,Snd.cells,Pdu.cells,St.sw,envSw,hpSw,PV.sw,swL,Blk.sw,swp,yBd,yBe,pduRows_nil,pduRows_one,pduRows_append,yBc,yBf,rowsB_nil,freshR] <;> (first | rfl | exact ⟨rfl,rfl⟩ | exact ⟨rfl,rfl,rfl⟩ | exact ⟨rfl,rfl,rfl,rfl⟩)) ?_
          refine .sw 105 101 (Nat.zero_le _) (Nat.zero_le _) ?_
          refine .sw 106 103 (Nat.zero_le _) (Nat.zero_le _) ?_
          exact .weak (by simp only [go_sem,zA,zB,zC,zD,zE,zF,zG,zH,zI,zJ,zK,zL,zM,zN,zO,zP,↓reduceIte,reduceCtorEq,rawSt,lkSt,in1St,in2St,nilS,arrP,fnF,fnT,fnP,rcv0,Snd.zero,Rcv.cells,Snd.cells,Pdu.cells,St.sw,envSw,hpSw,PV.sw,swL,Blk.sw,swp,yBd,yBe,pduRows_nil,pduRows_one,pduRows_append,yBc,yBf,rowsB_nil,freshR] <;> (first | rfl | exact ⟨rfl,rfl⟩ | exact ⟨rfl,rfl,rfl⟩ | exact ⟨rfl,rfl,rfl,rfl⟩))
        have f2 : decide (f = 2) = false := by simpa using h2
        by_cases h4 : f = 4
        · have f4 : decide (f = 4) = true := by simpa using h4
          simp only [go_sem,zA,zB,zC,zD,zE,zF,zG,zH,zI,zJ,zK,zL,zM,zN,zO,zP,↓reduceIte,reduceCtorEq,f2,f4,Tryz.ntmps57,Tryz.results57]
          repeat (first | refine And.intro (by omega) ?_ | refine And.intro (by simp only [List.length_append,yBa,yBb,pduRows_length]; omega) ?_)
          (refine endD_intro (by decide +kernel) ?_; simp only [go_sem,zA,zB,zC,zD,zE,zF,zG,zH,zI,zJ,zK,zL,zM,zN,zO,zP,↓reduceIte,reduceCtorEq,Tryz.ntmps57,Tryz.results57])
          have hT' : tickL fates L = ⟨tickS (nextS s),tickV r,⟨[],L.a.h ++ [nextP s]⟩,⟨[],b.h⟩,m + 1⟩ := by rw [hT,if_pos hg,if_pos hg,hf]; simp [putW,h2,h4]
          (refine callD_pure (cTk) (by simp only [go_sem,zA,zB,zC,zD,zE,zF,zG,zH,zI,zJ,zK,zL,zM,zN,zO,zP,↓reduceIte,reduceCtorEq,Snd.pv] <;> first | rfl | decide) ?_; simp only [go_sem,zA,zB,zC,zD,zE,zF,zG,zH,zI,zJ,zK,zL,zM,zN,zO,zP,↓reduceIte,reduceCtorEq,Snd.pv])
          (refine callD_pure (cTr) (by simp only [go_sem,zA,zB,zC,zD,zE,zF,zG,zH,zI,zJ,zK,zL,zM,zN,zO,zP,↓reduceIte,reduceCtorEq,Rcv.pv] <;> first | rfl | decide) ?_; simp only [go_sem,zA,zB,zC,zD,zE,zF,zG,zH,zI,zJ,zK,zL,zM,zN,zO,zP,↓reduceIte,reduceCtorEq,Rcv.pv])
          (refine endD_intro (by decide +kernel) ?_; simp only [go_sem,zA,zB,zC,zD,zE,zF,zG,zH,zI,zJ,zK,zL,zM,zN,zO,zP,↓reduceIte,reduceCtorEq,hwn])
          refine ⟨100000 - (n + 1),_,by omega,?_,n + 1,tickL fates L,nextP s,0,(vb + 1),0,vd',by omega,rfl,hI'.tick,hX',rfl⟩
          rw [hT']
          refine .seq (s := rawSt fates (tickS (nextS s)) (tickV r) (nextP s) (m + 1) (n + 1) [] [.own 105 0,.own 102 (vb + 1)] [.own 106 0,.own 104 vd'] ([arrP 105 ([]) 0,arrP 106 [] 0,arrP 104 b.h vd',arrP 102 (L.a.h ++ [nextP s]) (vb + 1)])) (by simp only [go_sem,zA,zB,zC,zD,zE,zF,zG,zH,zI,zJ,zK,zL,zM,zN,zO,zP,↓reduceIte,reduceCtorEq,rawSt,lkSt,in1St,in2St,nilS,arrP,fnF,fnT,fnP,rcv0,Snd.zero,Rcv.cells,Snd.cells,Pdu.cells,St.sw,envSw,hpSw,PV.sw,swL,Blk.sw,swp,yBd,yBe,pduRows_nil,pduRows_one,pduRows_append,yBc,yBf,rowsB_nil,freshR] <;> (first | rfl | exact ⟨rfl,rfl⟩ | exact ⟨rfl,rfl,rfl⟩ | exact ⟨rfl,rfl,rfl,rfl⟩)) ?_
          refine .sw 105 101 (Nat.zero_le _) (Nat.zero_le _) ?_
          refine .sw 106 103 (Nat.zero_le _) (Nat.zero_le _) ?_
          exact .weak (by simp only [go_sem,zA,zB,zC,zD,zE,zF,zG,zH,zI,zJ,zK,zL,zM,zN,zO,zP,↓reduceIte,reduceCtorEq,rawSt,lkSt,in1St,in2St,nilS,arrP,fnF,fnT,fnP,rcv0,Snd.zero,Rcv.cells,Snd.cells,Pdu.cells,St.sw,envSw,hpSw,PV.sw,swL,Blk.sw,swp,yBd,yBe,pduRows_nil,pduRows_one,pduRows_append,yBc,yBf,rowsB_nil,freshR] <;> (first | rfl | exact ⟨rfl,rfl⟩ | exact ⟨rfl,rfl,rfl⟩ | exact ⟨rfl,rfl,rfl,rfl⟩))
        have f4 : decide (f = 4) = false := by simpa using h4
        by_cases h3 : f = 3
        · have f3 : decide (f = 3) = true := by simpa using h3
          simp only [go_sem,zA,zB,zC,zD,zE,zF,zG,zH,zI,zJ,zK,zL,zM,zN,zO,zP,↓reduceIte,reduceCtorEq,f2,f4,f3,Tryz.ntmps57,Tryz.results57]
          repeat (first | refine And.intro (by omega) ?_ | refine And.intro (by simp only [List.length_append,yBa,yBb,pduRows_length]; omega) ?_)
          (refine endD_intro (by decide +kernel) ?_; simp only [go_sem,zA,zB,zC,zD,zE,zF,zG,zH,zI,zJ,zK,zL,zM,zN,zO,zP,↓reduceIte,reduceCtorEq,Tryz.ntmps57,Tryz.results57])
          repeat (first | refine And.intro (by omega) ?_ | refine And.intro (by simp only [List.length_append,yBa,yBb,pduRows_length]; omega) ?_)
          (refine endD_intro (by decide +kernel) ?_; simp only [go_sem,zA,zB,zC,zD,zE,zF,zG,zH,zI,zJ,zK,zL,zM,zN,zO,zP,↓reduceIte,reduceCtorEq,Tryz.ntmps57,Tryz.results57])
          have hT' : tickL fates L = ⟨tickS (nextS s),tickV r,⟨[nextP s] ++ [nextP s] ++ L.a.h,[]⟩,⟨[],b.h⟩,m + 1⟩ := by rw [hT,if_pos hg,if_pos hg,hf]; simp [putW,h2,h4,h3]
          (refine callD_pure (cTk) (by simp only [go_sem,zA,zB,zC,zD,zE,zF,zG,zH,zI,zJ,zK,zL,zM,zN,zO,zP,↓reduceIte,reduceCtorEq,Snd.pv] <;> first | rfl | decide) ?_; simp only [go_sem,zA,zB,zC,zD,zE,zF,zG,zH,zI,zJ,zK,zL,zM,zN,zO,zP,↓reduceIte,reduceCtorEq,Snd.pv])
          (refine callD_pure (cTr) (by simp only [go_sem,zA,zB,zC,zD,zE,zF,zG,zH,zI,zJ,zK,zL,zM,zN,zO,zP,↓reduceIte,reduceCtorEq,Rcv.pv] <;> first | rfl | decide) ?_; simp only [go_sem,zA,zB,zC,zD,zE,zF,zG,zH,zI,zJ,zK,zL,zM,zN,zO,zP,↓reduceIte,reduceCtorEq,Rcv.pv])
          (refine endD_intro (by decide +kernel) ?_; simp only [go_sem,zA,zB,zC,zD,zE,zF,zG,zH,zI,zJ,zK,zL,zM,zN,zO,zP,↓reduceIte,reduceCtorEq,hwn])
          refine ⟨100000 - (n + 1),_,by omega,?_,n + 1,tickL fates L,nextP s,3,0,0,vd',by omega,rfl,hI'.tick,hX',rfl⟩
          rw [hT']
          refine .seq (s := rawSt fates (tickS (nextS s)) (tickV r) (nextP s) (m + 1) (n + 1) [] [.own 105 3,nilS] [.own 106 0,.own 104 vd'] ([arrP 105 ([nextP s] ++ [nextP s] ++ L.a.h) 3,arrP 106 [] 0,arrP 104 b.h vd'])) (by simp only [go_sem,zA,zB,zC,zD,zE,zF,zG,zH,zI,zJ,zK,zL,zM,zN,zO,zP,↓reduceIte,reduceCtorEq,rawSt,lkSt,in1St,in2St,nilS,arrP,fnF,fnT,fnP,rcv0,Snd.zero,Rcv.cells,Snd.cells,Pdu.cells,St.sw,envSw,hpSw,PV.sw,swL,Blk.sw,swp,yBd,yBe,pduRows_nil,pduRows_one,pduRows_append,yBc,yBf,rowsB_nil,freshR] <;> (first | rfl | exact ⟨rfl,rfl⟩ | exact ⟨rfl,rfl,rfl⟩ | exact ⟨rfl,rfl,rfl,rfl⟩)) ?_
          refine .nil 11 1 102 70 7 76 _ rfl rfl rfl ?_
          refine .sw 105 101 (Nat.zero_le _) (Nat.zero_le _) ?_
          refine .sw 106 103 (Nat.zero_le _) (Nat.zero_le _) ?_
          exact .weak (by simp only [go_sem,zA,zB,zC,zD,zE,zF,zG,zH,zI,zJ,zK,zL,zM,zN,zO,zP,↓reduceIte,reduceCtorEq,rawSt,lkSt,in1St,in2St,nilS,arrP,fnF,fnT,fnP,rcv0,Snd.zero,Rcv.cells,Snd.cells,Pdu.cells,St.sw,envSw,hpSw,PV.sw,swL,Blk.sw,swp,yBd,yBe,pduRows_nil,pduRows_one,pduRows_append,yBc,yBf,rowsB_nil,freshR] <;> (first | rfl | exact ⟨rfl,rfl⟩ | exact ⟨rfl,rfl,rfl⟩ | exact ⟨rfl,rfl,rfl,rfl⟩))
        have f3 : decide (f = 3) = false := by simpa using h3
        simp only [go_sem,zA,zB,zC,zD,zE,zF,zG,zH,zI,zJ,zK,zL,zM,zN,zO,zP,↓reduceIte,reduceCtorEq,f2,f4,f3,Tryz.ntmps57,Tryz.results57]
        repeat (first | refine And.intro (by omega) ?_ | refine And.intro (by simp only [List.length_append,yBa,yBb,pduRows_length]; omega) ?_)
        (refine endD_intro (by decide +kernel) ?_; simp only [go_sem,zA,zB,zC,zD,zE,zF,zG,zH,zI,zJ,zK,zL,zM,zN,zO,zP,↓reduceIte,reduceCtorEq,Tryz.ntmps57,Tryz.results57])
        have hT' : tickL fates L = ⟨tickS (nextS s),tickV r,⟨[nextP s] ++ L.a.h,[]⟩,⟨[],b.h⟩,m + 1⟩ := by rw [hT,if_pos hg,if_pos hg,hf]; simp [putW,h2,h4,h3]
        (refine callD_pure (cTk) (by simp only [go_sem,zA,zB,zC,zD,zE,zF,zG,zH,zI,zJ,zK,zL,zM,zN,zO,zP,↓reduceIte,reduceCtorEq,Snd.pv] <;> first | rfl | decide) ?_; simp only [go_sem,zA,zB,zC,zD,zE,zF,zG,zH,zI,zJ,zK,zL,zM,zN,zO,zP,↓reduceIte,reduceCtorEq,Snd.pv])
        (refine callD_pure (cTr) (by simp only [go_sem,zA,zB,zC,zD,zE,zF,zG,zH,zI,zJ,zK,zL,zM,zN,zO,zP,↓reduceIte,reduceCtorEq,Rcv.pv] <;> first | rfl | decide) ?_; simp only [go_sem,zA,zB,zC,zD,zE,zF,zG,zH,zI,zJ,zK,zL,zM,zN,zO,zP,↓reduceIte,reduceCtorEq,Rcv.pv])
        (refine endD_intro (by decide +kernel) ?_; simp only [go_sem,zA,zB,zC,zD,zE,zF,zG,zH,zI,zJ,zK,zL,zM,zN,zO,zP,↓reduceIte,reduceCtorEq,hwn])
        refine ⟨100000 - (n + 1),_,by omega,?_,n + 1,tickL fates L,nextP s,2,0,0,vd',by omega,rfl,hI'.tick,hX',rfl⟩
        rw [hT']
        refine .seq (s := rawSt fates (tickS (nextS s)) (tickV r) (nextP s) (m + 1) (n + 1) [] [.own 105 2,nilS] [.own 106 0,.own 104 vd'] ([arrP 105 ([nextP s] ++ L.a.h) 2,arrP 106 [] 0,arrP 104 b.h vd'])) (by simp only [go_sem,zA,zB,zC,zD,zE,zF,zG,zH,zI,zJ,zK,zL,zM,zN,zO,zP,↓reduceIte,reduceCtorEq,rawSt,lkSt,in1St,in2St,nilS,arrP,fnF,fnT,fnP,rcv0,Snd.zero,Rcv.cells,Snd.cells,Pdu.cells,St.sw,envSw,hpSw,PV.sw,swL,Blk.sw,swp,yBd,yBe,pduRows_nil,pduRows_one,pduRows_append,yBc,yBf,rowsB_nil,freshR] <;> (first | rfl | exact ⟨rfl,rfl⟩ | exact ⟨rfl,rfl,rfl⟩ | exact ⟨rfl,rfl,rfl,rfl⟩)) ?_
        refine .nil 11 1 102 70 7 76 _ rfl rfl rfl ?_
        refine .sw 105 101 (Nat.zero_le _) (Nat.zero_le _) ?_
        refine .sw 106 103 (Nat.zero_le _) (Nat.zero_le _) ?_
        exact .weak (by simp only [go_sem,zA,zB,zC,zD,zE,zF,zG,zH,zI,zJ,zK,zL,zM,zN,zO,zP,↓reduceIte,reduceCtorEq,rawSt,lkSt,in1St,in2St,nilS,arrP,fnF,fnT,fnP,rcv0,Snd.zero,Rcv.cells,Snd.cells,Pdu.cells,St.sw,envSw,hpSw,PV.sw,swL,Blk.sw,swp,yBd,yBe,pduRows_nil,pduRows_one,pduRows_append,yBc,yBf,rowsB_nil,freshR] <;> (first | rfl | exact ⟨rfl,rfl⟩ | exact ⟨rfl,rfl,rfl⟩ | exact ⟨rfl,rfl,rfl,rfl⟩))
    have g2 : decide (L.r.st = 2) = false := by simp [h2]
    by_cases hz : L.a.u.length + L.b.u.length = 0
    · have gz : decide ((L.a.u.length : Int) + (L.b.u.length : Int) = 0) = true := by simp only [decide_eq_true_eq]; omega
      have hd : doneL L = true := by rw [doneL,g3,g2,decide_eq_true hz]; rfl
      rw [hd,if_pos rfl] at hX
      subst hX
      simp only [go_sem,zA,zB,zC,zD,zE,zF,zG,zH,zI,zJ,zK,zL,zM,zN,zO,zP,↓reduceIte,reduceCtorEq,rawSt,lkSt,in1St,in2St,nilS,arrP,fnF,fnT,fnP,yBl,yBc,f1,hwz,g3,g2,gz]
      (refine endD_intro (by decide +kernel) ?_; simp only [go_sem,zA,zB,zC,zD,zE,zF,zG,zH,zI,zJ,zK,zL,zM,zN,zO,zP,↓reduceIte,reduceCtorEq,Tryz.ntmps41,Tryz.results41])
    have gz : decide ((L.a.u.length : Int) + (L.b.u.length : Int) = 0) = false := by simp only [decide_eq_false_iff_not]; omega
    have hnd : doneL L = false := by rw [doneL,decide_eq_false hz]; simp
    rw [hnd] at hX
    have hX' : runL fates (100000 - (n + 1)) (n + 1) (tickL fates L) = X := by rw [show 100000 - (n + 1) = k by omega]; simpa using hX
    simp only [go_sem,zA,zB,zC,zD,zE,zF,zG,zH,zI,zJ,zK,zL,zM,zN,zO,zP,↓reduceIte,reduceCtorEq,rawSt,lkSt,in1St,in2St,nilS,arrP,fnF,fnT,fnP,yBl,yBc,f1,hwz,g3,g2,gz]
    refine CallA.into tabOK mixed Tryz.func56 rfl rfl (by decide +kernel) (by simp [Tryz.ntmps56]) ?_
    simp only [go_sem,zA,zB,zC,zD,zE,zF,zG,zH,zI,zJ,zK,zL,zM,zN,zO,zP,↓reduceIte,reduceCtorEq,Tryz.ntmps56,Tryz.results56,Tryz.ntmps41,Tryz.results41]
    refine wpA_loopS (in1I fates L p n va vb (recvAll fates L.a.u L.r L.b L.m)) ⟨_,_,?_,0,L.r,L.b,L.m,vc,vd,by omega,rfl,hrf',by rw [List.drop_zero],by omega,by omega,rfl⟩ ?_
    · refine .seq (s := rawSt fates L.s L.r p L.m n [(83,.own 101 va),(84,PI L.a.u.length),(85,PI ((0 : Nat) : Int))] [nilS,.own 102 vb] [.own 103 vc,.own 104 vd] [arrP 101 L.a.u va,arrP 102 L.a.h vb,arrP 103 L.b.u vc,arrP 104 L.b.h vd]) (by simp only [go_sem,zA,zB,zC,zD,zE,zF,zG,zH,zI,zJ,zK,zL,zM,zN,zO,zP,↓reduceIte,reduceCtorEq,rawSt,lkSt,in1St,in2St,nilS,arrP,fnF,fnT,fnP,rcv0,Snd.zero,Rcv.cells,Snd.cells,Pdu.cells,St.sw,envSw,hpSw,PV.sw,swL,Blk.sw,swp,yBd,yBe,pduRows_nil,pduRows_one,pduRows_append,yBc,yBf,rowsB_nil,freshR] <;> (first | rfl | exact ⟨rfl,rfl⟩ | exact ⟨rfl,rfl,rfl⟩ | exact ⟨rfl,rfl,rfl,rfl⟩)) ?_
      refine .nil 11 0 105 70 7 76 _ rfl rfl rfl ?_
      exact .weak (by simp only [go_sem,zA,zB,zC,zD,zE,zF,zG,zH,zI,zJ,zK,zL,zM,zN,zO,zP,↓reduceIte,reduceCtorEq,rawSt,lkSt,in1St,in2St,nilS,arrP,fnF,fnT,fnP,rcv0,Snd.zero,Rcv.cells,Snd.cells,Pdu.cells,St.sw,envSw,hpSw,PV.sw,swL,Blk.sw,swp,yBd,yBe,pduRows_nil,pduRows_one,pduRows_append,yBc,yBf,rowsB_nil,freshR] <;> (first | rfl | exact ⟨rfl,rfl⟩ | exact ⟨rfl,rfl,rfl⟩ | exact ⟨rfl,rfl,rfl,rfl⟩))
    rintro mm st ⟨i,r,b,m,vc',vd',hi,rfl,hr,hrec,hb1,hm1,rfl⟩
    have hbl : b.len = b.u.length + b.h.length := rfl
    by_cases hci : i < L.a.u.length
    · have g1 : decide ((i : Int) < (L.a.u.length : Int)) = true := by simp; omega
      have f1' : (i : Int) < (L.a.u.length : Int) := by omega
      have f0 : (0 : Int) ≤ (i : Int) := by omega
      have hw := wrapIN (i := i) (by omega)
      have hrow := pduRows_at hci
      have hpr := hgd.1 _ (List.getElem_mem hci)
      rw [List.drop_eq_getElem_cons hci,recvAll] at hrec
      generalize L.a.u[i] = pi at hrow hpr hrec
      have c1 := takeT_calls r pi hr hpr
      have hf1 := fine_recv hr hpr
      generalize recvV r pi = x at c1 hf1 hrec
      obtain ⟨r',q,bb⟩ := x
      simp only at c1 hf1 hrec
      simp only [go_sem,zA,zB,zC,zD,zE,zF,zG,zH,zI,zJ,zK,zL,zM,zN,zO,zP,↓reduceIte,reduceCtorEq,rawSt,lkSt,in1St,in2St,nilS,arrP,fnF,fnT,fnP,yBl,yBc,g1,f1',f0,yCa,hrow]
      refine ⟨hci,?_⟩
      (refine CallA.pure (c1) (by simp only [go_sem,zA,zB,zC,zD,zE,zF,zG,zH,zI,zJ,zK,zL,zM,zN,zO,zP,↓reduceIte,reduceCtorEq,Rcv.pv,Pdu.pv] <;> first | rfl | decide) ?_; simp only [go_sem,zA,zB,zC,zD,zE,zF,zG,zH,zI,zJ,zK,zL,zM,zN,zO,zP,↓reduceIte,reduceCtorEq,Rcv.pv,Pdu.pv])
      cases bb with
      | false =>
        simp only [Bool.false_eq_true,if_false] at hrec
        simp only [go_sem,zA,zB,zC,zD,zE,zF,zG,zH,zI,zJ,zK,zL,zM,zN,zO,zP,↓reduceIte,reduceCtorEq,hw]
        refine ⟨L.a.u.length - (i + 1),_,by omega,?_,i + 1,r',b,m,vc',vd',by omega,rfl,hf1,hrec,by omega,by omega,rfl⟩
        exact .weak (by simp only [go_sem,zA,zB,zC,zD,zE,zF,zG,zH,zI,zJ,zK,zL,zM,zN,zO,zP,↓reduceIte,reduceCtorEq,rawSt,lkSt,in1St,in2St,nilS,arrP,fnF,fnT,fnP,rcv0,Snd.zero,Rcv.cells,Snd.cells,Pdu.cells,St.sw,envSw,hpSw,PV.sw,swL,Blk.sw,swp,yBd,yBe,pduRows_nil,pduRows_one,pduRows_append,yBc,yBf,rowsB_nil,freshR] <;> (first | rfl | exact ⟨rfl,rfl⟩ | exact ⟨rfl,rfl,rfl⟩ | exact ⟨rfl,rfl,rfl,rfl⟩))
      | true =>
        simp only [if_true] at hrec
        obtain ⟨f,hf⟩ : ∃ f,fateL fates m = f := ⟨_,rfl⟩
        rw [hf] at hrec
        have hpl := putW_len b q f
        simp only [go_sem,zA,zB,zC,zD,zE,zF,zG,zH,zI,zJ,zK,zL,zM,zN,zO,zP,↓reduceIte,reduceCtorEq]
        refine callD_eff (fate_at hf (by decide) (by omega) (by simp only [go_sem,zA,zB,zC,zD,zE,zF,zG,zH,zI,zJ,zK,zL,zM,zN,zO,zP,↓reduceIte,reduceCtorEq] <;> rfl) (by simp only [go_sem,zA,zB,zC,zD,zE,zF,zG,zH,zI,zJ,zK,zL,zM,zN,zO,zP,↓reduceIte,reduceCtorEq] <;> rfl)) ?_
        simp only [go_sem,zA,zB,zC,zD,zE,zF,zG,zH,zI,zJ,zK,zL,zM,zN,zO,zP,↓reduceIte,reduceCtorEq]
        refine callD_tail (by decide +kernel) (by decide +kernel) ?_
        simp only [go_sem,zA,zB,zC,zD,zE,zF,zG,zH,zI,zJ,zK,zL,zM,zN,zO,zP,↓reduceIte,reduceCtorEq]
        refine CallA.into tabOK mixed Tryz.func57 rfl rfl (by decide +kernel) (by simp [Tryz.ntmps57]) ?_
        simp only [go_sem,zA,zB,zC,zD,zE,zF,zG,zH,zI,zJ,zK,zL,zM,zN,zO,zP,↓reduceIte,reduceCtorEq,Tryz.ntmps57,Tryz.results57,hw]
        by_cases h2 : f = 2
        · have f2 : decide (f = 2) = true := by simpa using h2
          simp only [go_sem,zA,zB,zC,zD,zE,zF,zG,zH,zI,zJ,zK,zL,zM,zN,zO,zP,↓reduceIte,reduceCtorEq,f2,hw,Tryz.ntmps57,Tryz.results57]
          rw [show putW b q f = ⟨b.u,b.h⟩ by simp [putW,h2]] at hrec hpl
          refine ⟨L.a.u.length - (i + 1),_,by omega,?_,i + 1,r',⟨b.u,b.h⟩,m + 1,vc',vd',by omega,rfl,hf1,hrec,by omega,by omega,rfl⟩
          refine .seq (s := rawSt fates L.s r' p (m + 1) n [(83,.own 101 va),(84,PI L.a.u.length),(85,PI ((i + 1 : Nat) : Int))] [.own 105 0,.own 102 vb] [.own 103 vc',.own 104 vd'] ([arrP 101 L.a.u va,arrP 105 [] 0,arrP 102 L.a.h vb,arrP 103 (b.u) vc',arrP 104 (b.h) vd'])) (by simp only [go_sem,zA,zB,zC,zD,zE,zF,zG,zH,zI,zJ,zK,zL,zM,zN,zO,zP,↓reduceIte,reduceCtorEq,rawSt,lkSt,in1St,in2St,nilS,arrP,fnF,fnT,fnP,rcv0,Snd.zero,Rcv.cells,Snd.cells,Pdu.cells,St.sw,envSw,hpSw,PV.sw,swL,Blk.sw,swp,yBd,yBe,pduRows_nil,pduRows_one,pduRows_append,yBc,yBf,rowsB_nil,freshR] <;> (first | rfl | exact ⟨rfl,rfl⟩ | exact ⟨rfl,rfl,rfl⟩ | exact ⟨rfl,rfl,rfl,rfl⟩)) ?_
          exact .weak (by simp only [go_sem,zA,zB,zC,zD,zE,zF,zG,zH,zI,zJ,zK,zL,zM,zN,zO,zP,↓reduceIte,reduceCtorEq,rawSt,lkSt,in1St,in2St,nilS,arrP,fnF,fnT,fnP,rcv0,Snd.zero,Rcv.cells,Snd.cells,Pdu.cells,St.sw,envSw,hpSw,PV.sw,swL,Blk.sw,swp,yBd,yBe,pduRows_nil,pduRows_one,pduRows_append,yBc,yBf,rowsB_nil,freshR] <;> (first | rfl | exact ⟨rfl,rfl⟩ | exact ⟨rfl,rfl,rfl⟩ | exact ⟨rfl,rfl,rfl,rfl⟩))
        have f2 : decide (f = 2) = false := by simpa using h2
        by_cases h4 : f = 4
        · have f4 : decide (f = 4) = true := by simpa using h4
          simp only [go_sem,zA,zB,zC,zD,zE,zF,zG,zH,zI,zJ,zK,zL,zM,zN,zO,zP,↓reduceIte,reduceCtorEq,f2,f4,hw,Tryz.ntmps57,Tryz.results57]
          repeat (first | refine And.intro (by omega) ?_ | refine And.intro (by simp only [List.length_append,yBa,yBb,pduRows_length]; omega) ?_)
          (refine endD_intro (by decide +kernel) ?_; simp only [go_sem,zA,zB,zC,zD,zE,zF,zG,zH,zI,zJ,zK,zL,zM,zN,zO,zP,↓reduceIte,reduceCtorEq,hw,Tryz.ntmps57,Tryz.results57])
          rw [show putW b q f = ⟨b.u,b.h ++ [q]⟩ by simp [putW,h2,h4]] at hrec hpl
          refine ⟨L.a.u.length - (i + 1),_,by omega,?_,i + 1,r',⟨b.u,b.h ++ [q]⟩,m + 1,vc',(vd' + 1),by omega,rfl,hf1,hrec,by omega,by omega,rfl⟩
          refine .seq (s := rawSt fates L.s r' p (m + 1) n [(83,.own 101 va),(84,PI L.a.u.length),(85,PI ((i + 1 : Nat) : Int))] [.own 105 0,.own 102 vb] [.own 103 vc',.own 104 (vd' + 1)] ([arrP 101 L.a.u va,arrP 105 [] 0,arrP 102 L.a.h vb,arrP 103 (b.u) vc',arrP 104 (b.h ++ [q]) (vd' + 1)])) (by simp only [go_sem,zA,zB,zC,zD,zE,zF,zG,zH,zI,zJ,zK,zL,zM,zN,zO,zP,↓reduceIte,reduceCtorEq,rawSt,lkSt,in1St,in2St,nilS,arrP,fnF,fnT,fnP,rcv0,Snd.zero,Rcv.cells,Snd.cells,Pdu.cells,St.sw,envSw,hpSw,PV.sw,swL,Blk.sw,swp,yBd,yBe,pduRows_nil,pduRows_one,pduRows_append,yBc,yBf,rowsB_nil,freshR] <;> (first | rfl | exact ⟨rfl,rfl⟩ | exact ⟨rfl,rfl,rfl⟩ | exact ⟨rfl,rfl,rfl,rfl⟩)) ?_
          exact .weak (by simp only [go_sem,zA,zB,zC,zD,zE,zF,zG,zH,zI,zJ,zK,zL,zM,zN,zO,zP,↓reduceIte,reduceCtorEq,rawSt,lkSt,in1St,in2St,nilS,arrP,fnF,fnT,fnP,rcv0,Snd.zero,Rcv.cells,Snd.cells,Pdu.cells,St.sw,envSw,hpSw,PV.sw,swL,Blk.sw,swp,yBd,yBe,pduRows_nil,pduRows_one,pduRows_append,yBc,yBf,rowsB_nil,freshR] <;> (first | rfl | exact ⟨rfl,rfl⟩ | exact ⟨rfl,rfl,rfl⟩ | exact ⟨rfl,rfl,rfl,rfl⟩))
        have f4 : decide (f = 4) = false := by simpa using h4
        by_cases h3 : f = 3
        · have f3 : decide (f = 3) = true := by simpa using h3
          simp only [go_sem,zA,zB,zC,zD,zE,zF,zG,zH,zI,zJ,zK,zL,zM,zN,zO,zP,↓reduceIte,reduceCtorEq,f2,f4,f3,hw,Tryz.ntmps57,Tryz.results57]
          repeat (first | refine And.intro (by omega) ?_ | refine And.intro (by simp only [List.length_append,yBa,yBb,pduRows_length]; omega) ?_)
          (refine endD_intro (by decide +kernel) ?_; simp only [go_sem,zA,zB,zC,zD,zE,zF,zG,zH,zI,zJ,zK,zL,zM,zN,zO,zP,↓reduceIte,reduceCtorEq,hw,Tryz.ntmps57,Tryz.results57])
          repeat (first | refine And.intro (by omega) ?_ | refine And.intro (by simp only [List.length_append,yBa,yBb,pduRows_length]; omega) ?_)
          (refine endD_intro (by decide +kernel) ?_; simp only [go_sem,zA,zB,zC,zD,zE,zF,zG,zH,zI,zJ,zK,zL,zM,zN,zO,zP,↓reduceIte,reduceCtorEq,hw,Tryz.ntmps57,Tryz.results57])
          rw [show putW b q f = ⟨b.u ++ [q] ++ [q] ++ b.h,[]⟩ by simp [putW,h2,h4,h3]] at hrec hpl
          refine ⟨L.a.u.length - (i + 1),_,by omega,?_,i + 1,r',⟨b.u ++ [q] ++ [q] ++ b.h,[]⟩,m + 1,(vc' + 3),0,by omega,rfl,hf1,hrec,by omega,by omega,rfl⟩
          refine .seq (s := rawSt fates L.s r' p (m + 1) n [(83,.own 101 va),(84,PI L.a.u.length),(85,PI ((i + 1 : Nat) : Int))] [.own 105 0,.own 102 vb] [.own 103 (vc' + 3),nilS] ([arrP 101 L.a.u va,arrP 105 [] 0,arrP 102 L.a.h vb,arrP 103 (b.u ++ [q] ++ [q] ++ b.h) (vc' + 3)])) (by simp only [go_sem,zA,zB,zC,zD,zE,zF,zG,zH,zI,zJ,zK,zL,zM,zN,zO,zP,↓reduceIte,reduceCtorEq,rawSt,lkSt,in1St,in2St,nilS,arrP,fnF,fnT,fnP,rcv0,Snd.zero,Rcv.cells,Snd.cells,Pdu.cells,St.sw,envSw,hpSw,PV.sw,swL,Blk.sw,swp,yBd,yBe,pduRows_nil,pduRows_one,pduRows_append,yBc,yBf,rowsB_nil,freshR] <;> (first | rfl | exact ⟨rfl,rfl⟩ | exact ⟨rfl,rfl,rfl⟩ | exact ⟨rfl,rfl,rfl,rfl⟩)) ?_
          refine .nil 12 1 104 70 7 76 _ rfl rfl rfl ?_
          exact .weak (by simp only [go_sem,zA,zB,zC,zD,zE,zF,zG,zH,zI,zJ,zK,zL,zM,zN,zO,zP,↓reduceIte,reduceCtorEq,rawSt,lkSt,in1St,in2St,nilS,arrP,fnF,fnT,fnP,rcv0,Snd.zero,Rcv.cells,Snd.cells,Pdu.cells,St.sw,envSw,hpSw,PV.sw,swL,Blk.sw,swp,yBd,yBe,pduRows_nil,pduRows_one,pduRows_append,yBc,yBf,rowsB_nil,freshR] <;> (first | rfl | exact ⟨rfl,rfl⟩ | exact ⟨rfl,rfl,rfl⟩ | exact ⟨rfl,rfl,rfl,rfl⟩))
        have f3 : decide (f = 3) = false := by simpa using h3
        simp only [go_sem,zA,zB,zC,zD,zE,zF,zG,zH,zI,zJ,zK,zL,zM,zN,zO,zP,↓reduceIte,reduceCtorEq,f2,f4,f3,hw,Tryz.ntmps57,Tryz.results57]
        repeat (first | refine And.intro (by omega) ?_ | refine And.intro (by simp only [List.length_append,yBa,yBb,pduRows_length]; omega) ?_)
        (refine endD_intro (by decide +kernel) ?_; simp only [go_sem,zA,zB,zC,zD,zE,zF,zG,zH,zI,zJ,zK,zL,zM,zN,zO,zP,↓reduceIte,reduceCtorEq,hw,Tryz.ntmps57,Tryz.results57])
        rw [show putW b q f = ⟨b.u ++ [q] ++ b.h,[]⟩ by simp [putW,h2,h4,h3]] at hrec hpl
        refine ⟨L.a.u.length - (i + 1),_,by omega,?_,i + 1,r',⟨b.u ++ [q] ++ b.h,[]⟩,m + 1,(vc' + 2),0,by omega,rfl,hf1,hrec,by omega,by omega,rfl⟩
        refine .seq (s := rawSt fates L.s r' p (m + 1) n [(83,.own 101 va),(84,PI L.a.u.length),(85,PI ((i + 1 : Nat) : Int))] [.own 105 0,.own 102 vb] [.own 103 (vc' + 2),nilS] ([arrP 101 L.a.u va,arrP 105 [] 0,arrP 102 L.a.h vb,arrP 103 (b.u ++ [q] ++ b.h) (vc' + 2)])) (by simp only [go_sem,zA,zB,zC,zD,zE,zF,zG,zH,zI,zJ,zK,zL,zM,zN,zO,zP,↓reduceIte,reduceCtorEq,rawSt,lkSt,in1St,in2St,nilS,arrP,fnF,fnT,fnP,rcv0,Snd.zero,Rcv.cells,Snd.cells,Pdu.cells,St.sw,envSw,hpSw,PV.sw,swL,Blk.sw,swp,yBd,yBe,pduRows_nil,pduRows_one,pduRows_append,yBc,yBf,rowsB_nil,freshR] <;> (first | rfl | exact ⟨rfl,rfl⟩ | exact ⟨rfl,rfl,rfl⟩ | exact ⟨rfl,rfl,rfl,rfl⟩)) ?_
        refine .nil 12 1 104 70 7 76 _ rfl rfl rfl ?_
        exact .weak (by simp only [go_sem,zA,zB,zC,zD,zE,zF,zG,zH,zI,zJ,zK,zL,zM,zN,zO,zP,↓reduceIte,reduceCtorEq,rawSt,lkSt,in1St,in2St,nilS,arrP,fnF,fnT,fnP,rcv0,Snd.zero,Rcv.cells,Snd.cells,Pdu.cells,St.sw,envSw,hpSw,PV.sw,swL,Blk.sw,swp,yBd,yBe,pduRows_nil,pduRows_one,pduRows_append,yBc,yBf,rowsB_nil,freshR] <;> (first | rfl | exact ⟨rfl,rfl⟩ | exact ⟨rfl,rfl,rfl⟩ | exact ⟨rfl,rfl,rfl,rfl⟩))
    have hix : i = L.a.u.length := by omega
    rw [hix,List.drop_length,recvAll] at hrec
    have g1 : decide ((i : Int) < (L.a.u.length : Int)) = false := by simp; omega
    simp only [go_sem,zA,zB,zC,zD,zE,zF,zG,zH,zI,zJ,zK,zL,zM,zN,zO,zP,↓reduceIte,reduceCtorEq,rawSt,lkSt,in1St,in2St,nilS,arrP,fnF,fnT,fnP,yBl,yBc,g1]
    refine CallA.into tabOK mixed Tryz.func56 rfl rfl (by decide +kernel) (by simp [Tryz.ntmps56]) ?_
    simp only [go_sem,zA,zB,zC,zD,zE,zF,zG,zH,zI,zJ,zK,zL,zM,zN,zO,zP,↓reduceIte,reduceCtorEq,Tryz.ntmps56,Tryz.results56,Tryz.ntmps41,Tryz.results41]
    refine wpA_loopS (in2I fates L.a.h p n vb r b m vc' vd' (takeAll b.u L.s)) ⟨_,_,?_,0,L.s,by omega,rfl,hss,by rw [List.drop_zero],rfl⟩ ?_
    · refine .seq (s := rawSt fates L.s r p m n [(103,.own 103 vc'),(104,PI b.u.length),(105,PI ((0 : Nat) : Int))] [.own 105 0,.own 102 vb] [nilS,.own 104 vd'] [arrP 105 [] 0,arrP 102 L.a.h vb,arrP 103 b.u vc',arrP 104 b.h vd']) (by simp only [go_sem,zA,zB,zC,zD,zE,zF,zG,zH,zI,zJ,zK,zL,zM,zN,zO,zP,↓reduceIte,reduceCtorEq,rawSt,lkSt,in1St,in2St,nilS,arrP,fnF,fnT,fnP,rcv0,Snd.zero,Rcv.cells,Snd.cells,Pdu.cells,St.sw,envSw,hpSw,PV.sw,swL,Blk.sw,swp,yBd,yBe,pduRows_nil,pduRows_one,pduRows_append,yBc,yBf,rowsB_nil,freshR] <;> (first | rfl | exact ⟨rfl,rfl⟩ | exact ⟨rfl,rfl,rfl⟩ | exact ⟨rfl,rfl,rfl,rfl⟩)) ?_
      refine .nil 12 0 106 70 7 76 _ rfl rfl rfl ?_
      exact .weak (by simp only [go_sem,zA,zB,zC,zD,zE,zF,zG,zH,zI,zJ,zK,zL,zM,zN,zO,zP,↓reduceIte,reduceCtorEq,rawSt,lkSt,in1St,in2St,nilS,arrP,fnF,fnT,fnP,rcv0,Snd.zero,Rcv.cells,Snd.cells,Pdu.cells,St.sw,envSw,hpSw,PV.sw,swL,Blk.sw,swp,yBd,yBe,pduRows_nil,pduRows_one,pduRows_append,yBc,yBf,rowsB_nil,freshR] <;> (first | rfl | exact ⟨rfl,rfl⟩ | exact ⟨rfl,rfl,rfl⟩ | exact ⟨rfl,rfl,rfl,rfl⟩))
    rintro mm st ⟨j,s,hj,rfl,hs,htk,rfl⟩
    by_cases hcj : j < b.u.length
    · have g2 : decide ((j : Int) < (b.u.length : Int)) = true := by simp; omega
      have f1' : (j : Int) < (b.u.length : Int) := by omega
      have f0 : (0 : Int) ≤ (j : Int) := by omega
      have hw := wrapIN (i := j) (by omega)
      have hrow := pduRows_at hcj
      rw [List.drop_eq_getElem_cons hcj,takeAll] at htk
      generalize b.u[j] = pi at hrow htk
      have c1 := take_calls s pi
      have hs1 := take_sound hs pi
      generalize takeS s pi = s' at c1 hs1 htk
      simp only [go_sem,zA,zB,zC,zD,zE,zF,zG,zH,zI,zJ,zK,zL,zM,zN,zO,zP,↓reduceIte,reduceCtorEq,rawSt,lkSt,in1St,in2St,nilS,arrP,fnF,fnT,fnP,yBl,yBc,g2,f1',f0,yCa,hrow]
      refine ⟨hcj,?_⟩
      (refine CallA.pure (c1) (by simp only [go_sem,zA,zB,zC,zD,zE,zF,zG,zH,zI,zJ,zK,zL,zM,zN,zO,zP,↓reduceIte,reduceCtorEq,Snd.pv,Pdu.pv,hw] <;> first | rfl | decide) ?_; simp only [go_sem,zA,zB,zC,zD,zE,zF,zG,zH,zI,zJ,zK,zL,zM,zN,zO,zP,↓reduceIte,reduceCtorEq,Snd.pv,Pdu.pv,hw])
      refine ⟨b.u.length - (j + 1),_,by omega,?_,j + 1,s',by omega,rfl,hs1,htk,rfl⟩
      exact .weak (by simp only [go_sem,zA,zB,zC,zD,zE,zF,zG,zH,zI,zJ,zK,zL,zM,zN,zO,zP,↓reduceIte,reduceCtorEq,rawSt,lkSt,in1St,in2St,nilS,arrP,fnF,fnT,fnP,rcv0,Snd.zero,Rcv.cells,Snd.cells,Pdu.cells,St.sw,envSw,hpSw,PV.sw,swL,Blk.sw,swp,yBd,yBe,pduRows_nil,pduRows_one,pduRows_append,yBc,yBf,rowsB_nil,freshR] <;> (first | rfl | exact ⟨rfl,rfl⟩ | exact ⟨rfl,rfl,rfl⟩ | exact ⟨rfl,rfl,rfl,rfl⟩))
    have hjx : j = b.u.length := by omega
    rw [hjx,List.drop_length,takeAll] at htk
    have g2 : decide ((j : Int) < (b.u.length : Int)) = false := by simp; omega
    have cNx := next_calls s hs.1.1
    have cTk := tick_calls (nextS s)
    have cTr := tickT_at r
    have hwn := wrapIN (i := n) (by omega)
    have hT : tickL fates L = ⟨tickS (nextS s),tickV r,if s.goes then putW ⟨[],L.a.h⟩ (nextP s) (fateL fates m) else ⟨[],L.a.h⟩,⟨[],b.h⟩,if s.goes then m + 1 else m⟩ := by
      unfold tickL
      rw [← hrec]
      simp only [← htk]
    simp only [go_sem,zA,zB,zC,zD,zE,zF,zG,zH,zI,zJ,zK,zL,zM,zN,zO,zP,↓reduceIte,reduceCtorEq,rawSt,lkSt,in1St,in2St,nilS,arrP,fnF,fnT,fnP,yBl,yBc,g2]
    (refine CallA.pure (cNx) (by simp only [go_sem,zA,zB,zC,zD,zE,zF,zG,zH,zI,zJ,zK,zL,zM,zN,zO,zP,↓reduceIte,reduceCtorEq,Snd.pv,Pdu.pv] <;> first | rfl | decide) ?_; simp only [go_sem,zA,zB,zC,zD,zE,zF,zG,zH,zI,zJ,zK,zL,zM,zN,zO,zP,↓reduceIte,reduceCtorEq,Snd.pv,Pdu.pv])
    cases hg : s.goes with
    | false =>
      rw [hg] at hT
      have hT' : tickL fates L = ⟨tickS (nextS s),tickV r,⟨[],L.a.h⟩,⟨[],b.h⟩,m⟩ := by rw [hT]; rfl
      simp only [go_sem,zA,zB,zC,zD,zE,zF,zG,zH,zI,zJ,zK,zL,zM,zN,zO,zP,↓reduceIte,reduceCtorEq]
      (refine callD_pure (cTk) (by simp only [go_sem,zA,zB,zC,zD,zE,zF,zG,zH,zI,zJ,zK,zL,zM,zN,zO,zP,↓reduceIte,reduceCtorEq,Snd.pv] <;> first | rfl | decide) ?_; simp only [go_sem,zA,zB,zC,zD,zE,zF,zG,zH,zI,zJ,zK,zL,zM,zN,zO,zP,↓reduceIte,reduceCtorEq,Snd.pv])
      (refine callD_pure (cTr) (by simp only [go_sem,zA,zB,zC,zD,zE,zF,zG,zH,zI,zJ,zK,zL,zM,zN,zO,zP,↓reduceIte,reduceCtorEq,Rcv.pv] <;> first | rfl | decide) ?_; simp only [go_sem,zA,zB,zC,zD,zE,zF,zG,zH,zI,zJ,zK,zL,zM,zN,zO,zP,↓reduceIte,reduceCtorEq,Rcv.pv])
      (refine endD_intro (by decide +kernel) ?_; simp only [go_sem,zA,zB,zC,zD,zE,zF,zG,zH,zI,zJ,zK,zL,zM,zN,zO,zP,↓reduceIte,reduceCtorEq,hwn])
      refine ⟨100000 - (n + 1),_,by omega,?_,n + 1,tickL fates L,nextP s,0,vb,0,vd',by omega,rfl,hI'.tick,hX',rfl⟩
      rw [hT']
      refine .seq (s := rawSt fates (tickS (nextS s)) (tickV r) (nextP s) m (n + 1) [] [.own 105 0,.own 102 vb] [.own 106 0,.own 104 vd'] ([arrP 105 ([]) 0,arrP 106 [] 0,arrP 104 b.h vd',arrP 102 (L.a.h) vb])) (by simp only [go_sem,zA,zB,zC,zD,zE,zF,zG,zH,zI,zJ,zK,zL,zM,zN,zO,zP,↓reduceIte,reduceCtorEq,rawSt,lkSt,in1St,in2St,nilS,arrP,fnF,fnT,fnP,rcv0,Snd.zero,Rcv.cells,Snd.cells,Pdu.cells,St.sw,envSw,hpSw,PV.sw,swL,Blk.sw,swp,yBd,yBe,pduRows_nil,pduRows_one,pduRows_append,yBc,yBf,rowsB_nil,freshR] <;> (first | rfl | exact ⟨rfl,rfl⟩ | exact ⟨rfl,rfl,rfl⟩ | exact ⟨rfl,rfl,rfl,rfl⟩)) ?_
      refine .sw 105 101 (Nat.zero_le _) (Nat.zero_le _) ?_
      refine .sw 106 103 (Nat.zero_le _) (Nat.zero_le _) ?_
      exact .weak (by simp only [go_sem,zA,zB,zC,zD,zE,zF,zG,zH,zI,zJ,zK,zL,zM,zN,zO,zP,↓reduceIte,reduceCtorEq,rawSt,lkSt,in1St,in2St,nilS,arrP,fnF,fnT,fnP,rcv0,Snd.zero,Rcv.cells,Snd.cells,Pdu.cells,St.sw,envSw,hpSw,PV.sw,swL,Blk.sw,swp,yBd,yBe,pduRows_nil,pduRows_one,pduRows_append,yBc,yBf,rowsB_nil,freshR] <;> (first | rfl | exact ⟨rfl,rfl⟩ | exact ⟨rfl,rfl,rfl⟩ | exact ⟨rfl,rfl,rfl,rfl⟩))
    | true =>
      obtain ⟨f,hf⟩ : ∃ f,fateL fates m = f := ⟨_,rfl⟩
      simp only [go_sem,zA,zB,zC,zD,zE,zF,zG,zH,zI,zJ,zK,zL,zM,zN,zO,zP,↓reduceIte,reduceCtorEq]
      refine callD_eff (fate_at hf (by decide) (by omega) (by simp only [go_sem,zA,zB,zC,zD,zE,zF,zG,zH,zI,zJ,zK,zL,zM,zN,zO,zP,↓reduceIte,reduceCtorEq] <;> rfl) (by simp only [go_sem,zA,zB,zC,zD,zE,zF,zG,zH,zI,zJ,zK,zL,zM,zN,zO,zP,↓reduceIte,reduceCtorEq] <;> rfl)) ?_
      simp only [go_sem,zA,zB,zC,zD,zE,zF,zG,zH,zI,zJ,zK,zL,zM,zN,zO,zP,↓reduceIte,reduceCtorEq]
      refine callD_tail (by decide +kernel) (by decide +kernel) ?_
      simp only [go_sem,zA,zB,zC,zD,zE,zF,zG,zH,zI,zJ,zK,zL,zM,zN,zO,zP,↓reduceIte,reduceCtorEq]
      refine CallA.into tabOK mixed Tryz.func57 rfl rfl (by decide +kernel) (by simp [Tryz.ntmps57]) ?_
      simp only [go_sem,zA,zB,zC,zD,zE,zF,zG,zH,zI,zJ,zK,zL,zM,zN,zO,zP,↓reduceIte,reduceCtorEq,Tryz.ntmps57,Tryz.results57]
      by_cases h2 : f = 2
      · have f2 : decide (f = 2) = true := by simpa using h2
        simp only [go_sem,zA,zB,zC,zD,zE,zF,zG,zH,zI,zJ,zK,zL,zM,zN,zO,zP,↓reduceIte,reduceCtorEq,f2,Tryz.ntmps57,Tryz.results57]
        have hT' : tickL fates L = ⟨tickS (nextS s),tickV r,⟨[],L.a.h⟩,⟨[],b.h⟩,m + 1⟩ := by rw [hT,if_pos hg,if_pos hg,hf]; simp [putW,h2]
        (refine callD_pure (cTk) (by simp only [go_sem,zA,zB,zC,zD,zE,zF,zG,zH,zI,zJ,zK,zL,zM,zN,zO,zP,↓reduceIte,reduceCtorEq,Snd.pv] <;> first | rfl | decide) ?_; simp only [go_sem,zA,zB,zC,zD,zE,zF,zG,zH,zI,zJ,zK,zL,zM,zN,zO,zP,↓reduceIte,reduceCtorEq,Snd.pv])
        (refine callD_pure (cTr) (by simp only [go_sem,zA,zB,zC,zD,zE,zF,zG,zH,zI,zJ,zK,zL,zM,zN,zO,zP,↓reduceIte,reduceCtorEq,Rcv.pv] <;> first | rfl | decide) ?_; simp only [go_sem,zA,zB,zC,zD,zE,zF,zG,zH,zI,zJ,zK,zL,zM,zN,zO,zP,↓reduceIte,reduceCtorEq,Rcv.pv])
        (refine endD_intro (by decide +kernel) ?_; simp only [go_sem,zA,zB,zC,zD,zE,zF,zG,zH,zI,zJ,zK,zL,zM,zN,zO,zP,↓reduceIte,reduceCtorEq,hwn])
        refine ⟨100000 - (n + 1),_,by omega,?_,n + 1,tickL fates L,nextP s,0,vb,0,vd',by omega,rfl,hI'.tick,hX',rfl⟩
        rw [hT']
        refine .seq (s := rawSt fates (tickS (nextS s)) (tickV r) (nextP s) (m + 1) (n + 1) [] [.own 105 0,.own 102 vb] [.own 106 0,.own 104 vd'] ([arrP 105 ([]) 0,arrP 106 [] 0,arrP 104 b.h vd',arrP 102 (L.a.h) vb])) (by simp only [go_sem,zA,zB,zC,zD,zE,zF,zG,zH,zI,zJ,zK,zL,zM,zN,zO,zP,↓reduceIte,reduceCtorEq,rawSt,lkSt,in1St,in2St,nilS,arrP,fnF,fnT,fnP,rcv0,Snd.zero,Rcv.cells,Snd.cells,Pdu.cells,St.sw,envSw,hpSw,PV.sw,swL,Blk.sw,swp,yBd,yBe,pduRows_nil,pduRows_one,pduRows_append,yBc,yBf,rowsB_nil,freshR] <;> (first | rfl | exact ⟨rfl,rfl⟩ | exact ⟨rfl,rfl,rfl⟩ | exact ⟨rfl,rfl,rfl,rfl⟩)) ?_
        refine .sw 105 101 (Nat.zero_le _) (Nat.zero_le _) ?_
        refine .sw 106 103 (Nat.zero_le _) (Nat.zero_le _) ?_
        exact .weak (by simp only [go_sem,zA,zB,zC,zD,zE,zF,zG,zH,zI,zJ,zK,zL,zM,zN,zO,zP,↓reduceIte,reduceCtorEq,rawSt,lkSt,in1St,in2St,nilS,arrP,fnF,fnT,fnP,rcv0,Snd.zero,Rcv.cells,Snd.cells,Pdu.cells,St.sw,envSw,hpSw,PV.sw,swL,Blk.sw,swp,yBd,yBe,pduRows_nil,pduRows_one,pduRows_append,yBc,yBf,rowsB_nil,freshR] <;> (first | rfl | exact ⟨rfl,rfl⟩ | exact ⟨rfl,rfl,rfl⟩ | exact ⟨rfl,rfl,rfl,rfl⟩))
      have f2 : decide (f = 2) = false := by simpa using h2
      by_cases h4 : f = 4
      · have f4 : decide (f = 4) = true := by simpa using h4
        simp only [go_sem,zA,zB,zC,zD,zE,zF,zG,zH,zI,zJ,zK,zL,zM,zN,zO,zP,↓reduceIte,reduceCtorEq,f2,f4,Tryz.ntmps57,Tryz.results57]
        repeat (first | refine And.intro (by omega) ?_ | refine And.intro (by simp only [List.length_append,yBa,yBb,pduRows_length]; omega) ?_)
        (refine endD_intro (by decide +kernel) ?_; simp only [go_sem,zA,zB,zC,zD,zE,zF,zG,zH,zI,zJ,zK,zL,zM,zN,zO,zP,↓reduceIte,reduceCtorEq,Tryz.ntmps57,Tryz.results57])
        have hT' : tickL fates L = ⟨tickS (nextS s),tickV r,⟨[],L.a.h ++ [nextP s]⟩,⟨[],b.h⟩,m + 1⟩ := by rw [hT,if_pos hg,if_pos hg,hf]; simp [putW,h2,h4]
        (refine callD_pure (cTk) (by simp only [go_sem,zA,zB,zC,zD,zE,zF,zG,zH,zI,zJ,zK,zL,zM,zN,zO,zP,↓reduceIte,reduceCtorEq,Snd.pv] <;> first | rfl | decide) ?_; simp only [go_sem,zA,zB,zC,zD,zE,zF,zG,zH,zI,zJ,zK,zL,zM,zN,zO,zP,↓reduceIte,reduceCtorEq,Snd.pv])
        (refine callD_pure (cTr) (by simp only [go_sem,zA,zB,zC,zD,zE,zF,zG,zH,zI,zJ,zK,zL,zM,zN,zO,zP,↓reduceIte,reduceCtorEq,Rcv.pv] <;> first | rfl | decide) ?_; simp only [go_sem,zA,zB,zC,zD,zE,zF,zG,zH,zI,zJ,zK,zL,zM,zN,zO,zP,↓reduceIte,reduceCtorEq,Rcv.pv])
        (refine endD_intro (by decide +kernel) ?_; simp only [go_sem,zA,zB,zC,zD,zE,zF,zG,zH,zI,zJ,zK,zL,zM,zN,zO,zP,↓reduceIte,reduceCtorEq,hwn])
        refine ⟨100000 - (n + 1),_,by omega,?_,n + 1,tickL fates L,nextP s,0,(vb + 1),0,vd',by omega,rfl,hI'.tick,hX',rfl⟩
        rw [hT']
        refine .seq (s := rawSt fates (tickS (nextS s)) (tickV r) (nextP s) (m + 1) (n + 1) [] [.own 105 0,.own 102 (vb + 1)] [.own 106 0,.own 104 vd'] ([arrP 105 ([]) 0,arrP 106 [] 0,arrP 104 b.h vd',arrP 102 (L.a.h ++ [nextP s]) (vb + 1)])) (by simp only [go_sem,zA,zB,zC,zD,zE,zF,zG,zH,zI,zJ,zK,zL,zM,zN,zO,zP,↓reduceIte,reduceCtorEq,rawSt,lkSt,in1St,in2St,nilS,arrP,fnF,fnT,fnP,rcv0,Snd.zero,Rcv.cells,Snd.cells,Pdu.cells,St.sw,envSw,hpSw,PV.sw,swL,Blk.sw,swp,yBd,yBe,pduRows_nil,pduRows_one,pduRows_append,yBc,yBf,rowsB_nil,freshR] <;> (first | rfl | exact ⟨rfl,rfl⟩ | exact ⟨rfl,rfl,rfl⟩ | exact ⟨rfl,rfl,rfl,rfl⟩)) ?_
        refine .sw 105 101 (Nat.zero_le _) (Nat.zero_le _) ?_
        refine .sw 106 103 (Nat.zero_le _) (Nat.zero_le _) ?_
        exact .weak (by simp only [go_sem,zA,zB,zC,zD,zE,zF,zG,zH,zI,zJ,zK,zL,zM,zN,zO,zP,↓reduceIte,reduceCtorEq,rawSt,lkSt,in1St,in2St,nilS,arrP,fnF,fnT,fnP,rcv0,Snd.zero,Rcv.cells,Snd.cells,Pdu.cells,St.sw,envSw,hpSw,PV.sw,swL,Blk.sw,swp,yBd,yBe,pduRows_nil,pduRows_one,pduRows_append,yBc,yBf,rowsB_nil,freshR] <;> (first | rfl | exact ⟨rfl,rfl⟩ | exact ⟨rfl,rfl,rfl⟩ | exact ⟨rfl,rfl,rfl,rfl⟩))
      have f4 : decide (f = 4) = false := by simpa using h4
      by_cases h3 : f = 3
      · have f3 : decide (f = 3) = true := by simpa using h3
        simp only [go_sem,zA,zB,zC,zD,zE,zF,zG,zH,zI,zJ,zK,zL,zM,zN,zO,zP,↓reduceIte,reduceCtorEq,f2,f4,f3,Tryz.ntmps57,Tryz.results57]
        repeat (first | refine And.intro (by omega) ?_ | refine And.intro (by simp only [List.length_append,yBa,yBb,pduRows_length]; omega) ?_)
        (refine endD_intro (by decide +kernel) ?_; simp only [go_sem,zA,zB,zC,zD,zE,zF,zG,zH,zI,zJ,zK,zL,zM,zN,zO,zP,↓reduceIte,reduceCtorEq,Tryz.ntmps57,Tryz.results57])
        repeat (first | refine And.intro (by omega) ?_ | refine And.intro (by simp only [List.length_append,yBa,yBb,pduRows_length]; omega) ?_)
        (refine endD_intro (by decide +kernel) ?_; simp only [go_sem,zA,zB,zC,zD,zE,zF,zG,zH,zI,zJ,zK,zL,zM,zN,zO,zP,↓reduceIte,reduceCtorEq,Tryz.ntmps57,Tryz.results57])
        have hT' : tickL fates L = ⟨tickS (nextS s),tickV r,⟨[nextP s] ++ [nextP s] ++ L.a.h,[]⟩,⟨[],b.h⟩,m + 1⟩ := by rw [hT,if_pos hg,if_pos hg,hf]; simp [putW,h2,h4,h3]
        (refine callD_pure (cTk) (by simp only [go_sem,zA,zB,zC,zD,zE,zF,zG,zH,zI,zJ,zK,zL,zM,zN,zO,zP,↓reduceIte,reduceCtorEq,Snd.pv] <;> first | rfl | decide) ?_; simp only [go_sem,zA,zB,zC,zD,zE,zF,zG,zH,zI,zJ,zK,zL,zM,zN,zO,zP,↓reduceIte,reduceCtorEq,Snd.pv])
        (refine callD_pure (cTr) (by simp only [go_sem,zA,zB,zC,zD,zE,zF,zG,zH,zI,zJ,zK,zL,zM,zN,zO,zP,↓reduceIte,reduceCtorEq,Rcv.pv] <;> first | rfl | decide) ?_; simp only [go_sem,zA,zB,zC,zD,zE,zF,zG,zH,zI,zJ,zK,zL,zM,zN,zO,zP,↓reduceIte,reduceCtorEq,Rcv.pv])
        (refine endD_intro (by decide +kernel) ?_; simp only [go_sem,zA,zB,zC,zD,zE,zF,zG,zH,zI,zJ,zK,zL,zM,zN,zO,zP,↓reduceIte,reduceCtorEq,hwn])
        refine ⟨100000 - (n + 1),_,by omega,?_,n + 1,tickL fates L,nextP s,3,0,0,vd',by omega,rfl,hI'.tick,hX',rfl⟩
        rw [hT']
        refine .seq (s := rawSt fates (tickS (nextS s)) (tickV r) (nextP s) (m + 1) (n + 1) [] [.own 105 3,nilS] [.own 106 0,.own 104 vd'] ([arrP 105 ([nextP s] ++ [nextP s] ++ L.a.h) 3,arrP 106 [] 0,arrP 104 b.h vd'])) (by simp only [go_sem,zA,zB,zC,zD,zE,zF,zG,zH,zI,zJ,zK,zL,zM,zN,zO,zP,↓reduceIte,reduceCtorEq,rawSt,lkSt,in1St,in2St,nilS,arrP,fnF,fnT,fnP,rcv0,Snd.zero,Rcv.cells,Snd.cells,Pdu.cells,St.sw,envSw,hpSw,PV.sw,swL,Blk.sw,swp,yBd,yBe,pduRows_nil,pduRows_one,pduRows_append,yBc,yBf,rowsB_nil,freshR] <;> (first | rfl | exact ⟨rfl,rfl⟩ | exact ⟨rfl,rfl,rfl⟩ | exact ⟨rfl,rfl,rfl,rfl⟩)) ?_
        refine .nil 11 1 102 70 7 76 _ rfl rfl rfl ?_
        refine .sw 105 101 (Nat.zero_le _) (Nat.zero_le _) ?_
        refine .sw 106 103 (Nat.zero_le _) (Nat.zero_le _) ?_
        exact .weak (by simp only [go_sem,zA,zB,zC,zD,zE,zF,zG,zH,zI,zJ,zK,zL,zM,zN,zO,zP,↓reduceIte,reduceCtorEq,rawSt,lkSt,in1St,in2St,nilS,arrP,fnF,fnT,fnP,rcv0,Snd.zero,Rcv.cells,Snd.cells,Pdu.cells,St.sw,envSw,hpSw,PV.sw,swL,Blk.sw,swp,yBd,yBe,pduRows_nil,pduRows_one,pduRows_append,yBc,yBf,rowsB_nil,freshR] <;> (first | rfl | exact ⟨rfl,rfl⟩ | exact ⟨rfl,rfl,rfl⟩ | exact ⟨rfl,rfl,rfl,rfl⟩))
      have f3 : decide (f = 3) = false := by simpa using h3
      simp only [go_sem,zA,zB,zC,zD,zE,zF,zG,zH,zI,zJ,zK,zL,zM,zN,zO,zP,↓reduceIte,reduceCtorEq,f2,f4,f3,Tryz.ntmps57,Tryz.results57]
      repeat (first | refine And.intro (by omega) ?_ | refine And.intro (by simp only [List.length_append,yBa,yBb,pduRows_length]; omega) ?_)
      (refine endD_intro (by decide +kernel) ?_; simp only [go_sem,zA,zB,zC,zD,zE,zF,zG,zH,zI,zJ,zK,zL,zM,zN,zO,zP,↓reduceIte,reduceCtorEq,Tryz.ntmps57,Tryz.results57])
      have hT' : tickL fates L = ⟨tickS (nextS s),tickV r,⟨[nextP s] ++ L.a.h,[]⟩,⟨[],b.h⟩,m + 1⟩ := by rw [hT,if_pos hg,if_pos hg,hf]; simp [putW,h2,h4,h3]
      (refine callD_pure (cTk) (by simp only [go_sem,zA,zB,zC,zD,zE,zF,zG,zH,zI,zJ,zK,zL,zM,zN,zO,zP,↓reduceIte,reduceCtorEq,Snd.pv] <;> first | rfl | decide) ?_; simp only [go_sem,zA,zB,zC,zD,zE,zF,zG,zH,zI,zJ,zK,zL,zM,zN,zO,zP,↓reduceIte,reduceCtorEq,Snd.pv])
      (refine callD_pure (cTr) (by simp only [go_sem,zA,zB,zC,zD,zE,zF,zG,zH,zI,zJ,zK,zL,zM,zN,zO,zP,↓reduceIte,reduceCtorEq,Rcv.pv] <;> first | rfl | decide) ?_; simp only [go_sem,zA,zB,zC,zD,zE,zF,zG,zH,zI,zJ,zK,zL,zM,zN,zO,zP,↓reduceIte,reduceCtorEq,Rcv.pv])
      (refine endD_intro (by decide +kernel) ?_; simp only [go_sem,zA,zB,zC,zD,zE,zF,zG,zH,zI,zJ,zK,zL,zM,zN,zO,zP,↓reduceIte,reduceCtorEq,hwn])
      refine ⟨100000 - (n + 1),_,by omega,?_,n + 1,tickL fates L,nextP s,2,0,0,vd',by omega,rfl,hI'.tick,hX',rfl⟩
      rw [hT']
      refine .seq (s := rawSt fates (tickS (nextS s)) (tickV r) (nextP s) (m + 1) (n + 1) [] [.own 105 2,nilS] [.own 106 0,.own 104 vd'] ([arrP 105 ([nextP s] ++ L.a.h) 2,arrP 106 [] 0,arrP 104 b.h vd'])) (by simp only [go_sem,zA,zB,zC,zD,zE,zF,zG,zH,zI,zJ,zK,zL,zM,zN,zO,zP,↓reduceIte,reduceCtorEq,rawSt,lkSt,in1St,in2St,nilS,arrP,fnF,fnT,fnP,rcv0,Snd.zero,Rcv.cells,Snd.cells,Pdu.cells,St.sw,envSw,hpSw,PV.sw,swL,Blk.sw,swp,yBd,yBe,pduRows_nil,pduRows_one,pduRows_append,yBc,yBf,rowsB_nil,freshR] <;> (first | rfl | exact ⟨rfl,rfl⟩ | exact ⟨rfl,rfl,rfl⟩ | exact ⟨rfl,rfl,rfl,rfl⟩)) ?_
      refine .nil 11 1 102 70 7 76 _ rfl rfl rfl ?_
      refine .sw 105 101 (Nat.zero_le _) (Nat.zero_le _) ?_
      refine .sw 106 103 (Nat.zero_le _) (Nat.zero_le _) ?_
      exact .weak (by simp only [go_sem,zA,zB,zC,zD,zE,zF,zG,zH,zI,zJ,zK,zL,zM,zN,zO,zP,↓reduceIte,reduceCtorEq,rawSt,lkSt,in1St,in2St,nilS,arrP,fnF,fnT,fnP,rcv0,Snd.zero,Rcv.cells,Snd.cells,Pdu.cells,St.sw,envSw,hpSw,PV.sw,swL,Blk.sw,swp,yBd,yBe,pduRows_nil,pduRows_one,pduRows_append,yBc,yBf,rowsB_nil,freshR] <;> (first | rfl | exact ⟨rfl,rfl⟩ | exact ⟨rfl,rfl,rfl⟩ | exact ⟨rfl,rfl,rfl,rfl⟩))
  have g3 : decide (L.s.st = 3) = false := by simp [h3]
  by_cases h4 : L.s.st = 4
  · have g4 : decide (L.s.st = 4) = true := by simp [h4]
    by_cases h2 : L.r.st = 2
    · have g2 : decide (L.r.st = 2) = true := by simp [h2]
      have hnd : doneL L = false := by rw [doneL,g2]; simp
      rw [hnd] at hX
      have hX' : runL fates (100000 - (n + 1)) (n + 1) (tickL fates L) = X := by rw [show 100000 - (n + 1) = k by omega]; simpa using hX
      simp only [go_sem,zA,zB,zC,zD,zE,zF,zG,zH,zI,zJ,zK,zL,zM,zN,zO,zP,↓reduceIte,reduceCtorEq,rawSt,lkSt,in1St,in2St,nilS,arrP,fnF,fnT,fnP,yBl,yBc,f1,hwz,g3,g4,g2]
      refine CallA.into tabOK mixed Tryz.func56 rfl rfl (by decide +kernel) (by simp [Tryz.ntmps56]) ?_
      simp only [go_sem,zA,zB,zC,zD,zE,zF,zG,zH,zI,zJ,zK,zL,zM,zN,zO,zP,↓reduceIte,reduceCtorEq,Tryz.ntmps56,Tryz.results56,Tryz.ntmps41,Tryz.results41]
      refine wpA_loopS (in1I fates L p n va vb (recvAll fates L.a.u L.r L.b L.m)) ⟨_,_,?_,0,L.r,L.b,L.m,vc,vd,by omega,rfl,hrf',by rw [List.drop_zero],by omega,by omega,rfl⟩ ?_
      · refine .seq (s := rawSt fates L.s L.r p L.m n [(83,.own 101 va),(84,PI L.a.u.length),(85,PI ((0 : Nat) : Int))] [nilS,.own 102 vb] [.own 103 vc,.own 104 vd] [arrP 101 L.a.u va,arrP 102 L.a.h vb,arrP 103 L.b.u vc,arrP 104 L.b.h vd]) (by simp only [go_sem,zA,zB,zC,zD,zE,zF,zG,zH,zI,zJ,zK,zL,zM,zN,zO,zP,↓reduceIte,reduceCtorEq,rawSt,lkSt,in1St,in2St,nilS,arrP,fnF,fnT,fnP,rcv0,Snd.zero,Rcv.cells,Snd.cells,Pdu.cells,St.sw,envSw,hpSw,PV.sw,swL,Blk.sw,swp,yBd,yBe,pduRows_nil,pduRows_one,pduRows_append,yBc,yBf,rowsB_nil,freshR] <;> (first | rfl | exact ⟨rfl,rfl⟩ | exact ⟨rfl,rfl,rfl⟩ | exact ⟨rfl,rfl,rfl,rfl⟩)) ?_
        refine .nil 11 0 105 70 7 76 _ rfl rfl rfl ?_
        exact .weak (by simp only [go_sem,zA,zB,zC,zD,zE,zF,zG,zH,zI,zJ,zK,zL,zM,zN,zO,zP,↓reduceIte,reduceCtorEq,rawSt,lkSt,in1St,in2St,nilS,arrP,fnF,fnT,fnP,rcv0,Snd.zero,Rcv.cells,Snd.cells,Pdu.cells,St.sw,envSw,hpSw,PV.sw,swL,Blk.sw,swp,yBd,yBe,pduRows_nil,pduRows_one,pduRows_append,yBc,yBf,rowsB_nil,freshR] <;> (first | rfl | exact ⟨rfl,rfl⟩ | exact ⟨rfl,rfl,rfl⟩ | exact ⟨rfl,rfl,rfl,rfl⟩))
      rintro mm st ⟨i,r,b,m,vc',vd',hi,rfl,hr,hrec,hb1,hm1,rfl⟩
      have hbl : b.len = b.u.length + b.h.length := rfl
      by_cases hci : i < L.a.u.length
      · have g1 : decide ((i : Int) < (L.a.u.length : Int)) = true := by simp; omega
        have f1' : (i : Int) < (L.a.u.length : Int) := by omega
        have f0 : (0 : Int) ≤ (i : Int) := by omega
        have hw := wrapIN (i := i) (by omega)
        have hrow := pduRows_at hci
        have hpr := hgd.1 _ (List.getElem_mem hci)
        rw [List.drop_eq_getElem_cons hci,recvAll] at hrec
        generalize L.a.u[i] = pi at hrow hpr hrec
        have c1 := takeT_calls r pi hr hpr
        have hf1 := fine_recv hr hpr
        generalize recvV r pi = x at c1 hf1 hrec
        obtain ⟨r',q,bb⟩ := x
        simp only at c1 hf1 hrec
        simp only [go_sem,zA,zB,zC,zD,zE,zF,zG,zH,zI,zJ,zK,zL,zM,zN,zO,zP,↓reduceIte,reduceCtorEq,rawSt,lkSt,in1St,in2St,nilS,arrP,fnF,fnT,fnP,yBl,yBc,g1,f1',f0,yCa,hrow]
        refine ⟨hci,?_⟩
        (refine CallA.pure (c1) (by simp only [go_sem,zA,zB,zC,zD,zE,zF,zG,zH,zI,zJ,zK,zL,zM,zN,zO,zP,↓reduceIte,reduceCtorEq,Rcv.pv,Pdu.pv] <;> first | rfl | decide) ?_; simp only [go_sem,zA,zB,zC,zD,zE,zF,zG,zH,zI,zJ,zK,zL,zM,zN,zO,zP,↓reduceIte,reduceCtorEq,Rcv.pv,Pdu.pv])
        cases bb with
        | false =>
          simp only [Bool.false_eq_true,if_false] at hrec
          simp only [go_sem,zA,zB,zC,zD,zE,zF,zG,zH,zI,zJ,zK,zL,zM,zN,zO,zP,↓reduceIte,reduceCtorEq,hw]
          refine ⟨L.a.u.length - (i + 1),_,by omega,?_,i + 1,r',b,m,vc',vd',by omega,rfl,hf1,hrec,by omega,by omega,rfl⟩
          exact .weak (by simp only [go_sem,zA,zB,zC,zD,zE,zF,zG,zH,zI,zJ,zK,zL,zM,zN,zO,zP,↓reduceIte,reduceCtorEq,rawSt,lkSt,in1St,in2St,nilS,arrP,fnF,fnT,fnP,rcv0,Snd.zero,Rcv.cells,Snd.cells,Pdu.cells,St.sw,envSw,hpSw,PV.sw,swL,Blk.sw,swp,yBd,yBe,pduRows_nil,pduRows_one,pduRows_append,yBc,yBf,rowsB_nil,freshR] <;> (first | rfl | exact ⟨rfl,rfl⟩ | exact ⟨rfl,rfl,rfl⟩ | exact ⟨rfl,rfl,rfl,rfl⟩))
        | true =>
          simp only [if_true] at hrec
          obtain ⟨f,hf⟩ : ∃ f,fateL fates m = f := ⟨_,rfl⟩
          rw [hf] at hrec
          have hpl := putW_len b q f
          simp only [go_sem,zA,zB,zC,zD,zE,zF,zG,zH,zI,zJ,zK,zL,zM,zN,zO,zP,↓reduceIte,reduceCtorEq]
          refine callD_eff (fate_at hf (by decide) (by omega) (by simp only [go_sem,zA,zB,zC,zD,zE,zF,zG,zH,zI,zJ,zK,zL,zM,zN,zO,zP,↓reduceIte,reduceCtorEq] <;> rfl) (by simp only [go_sem,zA,zB,zC,zD,zE,zF,zG,zH,zI,zJ,zK,zL,zM,zN,zO,zP,↓reduceIte,reduceCtorEq] <;> rfl)) ?_
          simp only [go_sem,zA,zB,zC,zD,zE,zF,zG,zH,zI,zJ,zK,zL,zM,zN,zO,zP,↓reduceIte,reduceCtorEq]
          refine callD_tail (by decide +kernel) (by decide +kernel) ?_
          simp only [go_sem,zA,zB,zC,zD,zE,zF,zG,zH,zI,zJ,zK,zL,zM,zN,zO,zP,↓reduceIte,reduceCtorEq]
          refine CallA.into tabOK mixed Tryz.func57 rfl rfl (by decide +kernel) (by simp [Tryz.ntmps57]) ?_
          simp only [go_sem,zA,zB,zC,zD,zE,zF,zG,zH,zI,zJ,zK,zL,zM,zN,zO,zP,↓reduceIte,reduceCtorEq,Tryz.ntmps57,Tryz.results57,hw]
          by_cases h2 : f = 2
          · have f2 : decide (f = 2) = true := by simpa using h2
            simp only [go_sem,zA,zB,zC,zD,zE,zF,zG,zH,zI,zJ,zK,zL,zM,zN,zO,zP,↓reduceIte,reduceCtorEq,f2,hw,Tryz.ntmps57,Tryz.results57]
            rw [show putW b q f = ⟨b.u,b.h⟩ by simp [putW,h2]] at hrec hpl
            refine ⟨L.a.u.length - (i + 1),_,by omega,?_,i + 1,r',⟨b.u,b.h⟩,m + 1,vc',vd',by omega,rfl,hf1,hrec,by omega,by omega,rfl⟩
            refine .seq (s := rawSt fates L.s r' p (m + 1) n [(83,.own 101 va),(84,PI L.a.u.length),(85,PI ((i + 1 : Nat) : Int))] [.own 105 0,.own 102 vb] [.own 103 vc',.own 104 vd'] ([arrP 101 L.a.u va,arrP 105 [] 0,arrP 102 L.a.h vb,arrP 103 (b.u) vc',arrP 104 (b.h) vd'])) (by simp only [go_sem,zA,zB,zC,zD,zE,zF,zG,zH,zI,zJ,zK,zL,zM,zN,zO,zP,↓reduceIte,reduceCtorEq,rawSt,lkSt,in1St,in2St,nilS,arrP,fnF,fnT,fnP,rcv0,Snd.zero,Rcv.cells,Snd.cells,Pdu.cells,St.sw,envSw,hpSw,PV.sw,swL,Blk.sw,swp,yBd,yBe,pduRows_nil,pduRows_one,pduRows_append,yBc,yBf,rowsB_nil,freshR] <;> (first | rfl | exact ⟨rfl,rfl⟩ | exact ⟨rfl,rfl,rfl⟩ | exact ⟨rfl,rfl,rfl,rfl⟩)) ?_
            exact .weak (by simp only [go_sem,zA,zB,zC,zD,zE,zF,zG,zH,zI,zJ,zK,zL,zM,zN,zO,zP,↓reduceIte,reduceCtorEq,rawSt,lkSt,in1St,in2St,nilS,arrP,fnF,fnT,fnP,rcv0,Snd.zero,Rcv.cells,Snd.cells,Pdu.cells,St.sw,envSw,hpSw,PV.sw,swL,Blk.sw,swp,yBd,yBe,pduRows_nil,pduRows_one,pduRows_append,yBc,yBf,rowsB_nil,freshR] <;> (first | rfl | exact ⟨rfl,rfl⟩ | exact ⟨rfl,rfl,rfl⟩ | exact ⟨rfl,rfl,rfl,rfl⟩))
          have f2 : decide (f = 2) = false := by simpa using h2
          by_cases h4 : f = 4
          · have f4 : decide (f = 4) = true := by simpa using h4
            simp only [go_sem,zA,zB,zC,zD,zE,zF,zG,zH,zI,zJ,zK,zL,zM,zN,zO,zP,↓reduceIte,reduceCtorEq,f2,f4,hw,Tryz.ntmps57,Tryz.results57]
            repeat (first | refine And.intro (by omega) ?_ | refine And.intro (by simp only [List.length_append,yBa,yBb,pduRows_length]; omega) ?_)
            (refine endD_intro (by decide +kernel) ?_; simp only [go_sem,zA,zB,zC,zD,zE,zF,zG,zH,zI,zJ,zK,zL,zM,zN,zO,zP,↓reduceIte,reduceCtorEq,hw,Tryz.ntmps57,Tryz.results57])
            rw [show putW b q f = ⟨b.u,b.h ++ [q]⟩ by simp [putW,h2,h4]] at hrec hpl
            refine ⟨L.a.u.length - (i + 1),_,by omega,?_,i + 1,r',⟨b.u,b.h ++ [q]⟩,m + 1,vc',(vd' + 1),by omega,rfl,hf1,hrec,by omega,by omega,rfl⟩
            refine .seq (s := rawSt fates L.s r' p (m + 1) n [(83,.own 101 va),(84,PI L.a.u.length),(85,PI ((i + 1 : Nat) : Int))] [.own 105 0,.own 102 vb] [.own 103 vc',.own 104 (vd' + 1)] ([arrP 101 L.a.u va,arrP 105 [] 0,arrP 102 L.a.h vb,arrP 103 (b.u) vc',arrP 104 (b.h ++ [q]) (vd' + 1)])) (by simp only [go_sem,zA,zB,zC,zD,zE,zF,zG,zH,zI,zJ,zK,zL,zM,zN,zO,zP,↓reduceIte,reduceCtorEq,rawSt,lkSt,in1St,in2St,nilS,arrP,fnF,fnT,fnP,rcv0,Snd.zero,Rcv.cells,Snd.cells,Pdu.cells,St.sw,envSw,hpSw,PV.sw,swL,Blk.sw,swp,yBd,yBe,pduRows_nil,pduRows_one,pduRows_append,yBc,yBf,rowsB_nil,freshR] <;> (first | rfl | exact ⟨rfl,rfl⟩ | exact ⟨rfl,rfl,rfl⟩ | exact ⟨rfl,rfl,rfl,rfl⟩)) ?_
            exact .weak (by simp only [go_sem,zA,zB,zC,zD,zE,zF,zG,zH,zI,zJ,zK,zL,zM,zN,zO,zP,↓reduceIte,reduceCtorEq,rawSt,lkSt,in1St,in2St,nilS,arrP,fnF,fnT,fnP,rcv0,Snd.zero,Rcv.cells,Snd.cells,Pdu.cells,St.sw,envSw,hpSw,PV.sw,swL,Blk.sw,swp,yBd,yBe,pduRows_nil,pduRows_one,pduRows_append,yBc,yBf,rowsB_nil,freshR] <;> (first | rfl | exact ⟨rfl,rfl⟩ | exact ⟨rfl,rfl,rfl⟩ | exact ⟨rfl,rfl,rfl,rfl⟩))
          have f4 : decide (f = 4) = false := by simpa using h4
          by_cases h3 : f = 3
          · have f3 : decide (f = 3) = true := by simpa using h3
            simp only [go_sem,zA,zB,zC,zD,zE,zF,zG,zH,zI,zJ,zK,zL,zM,zN,zO,zP,↓reduceIte,reduceCtorEq,f2,f4,f3,hw,Tryz.ntmps57,Tryz.results57]
            repeat (first | refine And.intro (by omega) ?_ | refine And.intro (by simp only [List.length_append,yBa,yBb,pduRows_length]; omega) ?_)
            (refine endD_intro (by decide +kernel) ?_; simp only [go_sem,zA,zB,zC,zD,zE,zF,zG,zH,zI,zJ,zK,zL,zM,zN,zO,zP,↓reduceIte,reduceCtorEq,hw,Tryz.ntmps57,Tryz.results57])
            repeat (first | refine And.intro (by omega) ?_ | refine And.intro (by simp only [List.length_append,yBa,yBb,pduRows_length]; omega) ?_)
            (refine endD_intro (by decide +kernel) ?_; simp only [go_sem,zA,zB,zC,zD,zE,zF,zG,zH,zI,zJ,zK,zL,zM,zN,zO,zP,↓reduceIte,reduceCtorEq,hw,Tryz.ntmps57,Tryz.results57])
            rw [show putW b q f = ⟨b.u ++ [q] ++ [q] ++ b.h,[]⟩ by simp [putW,h2,h4,h3]] at hrec hpl
            refine ⟨L.a.u.length - (i + 1),_,by omega,?_,i + 1,r',⟨b.u ++ [q] ++ [q] ++ b.h,[]⟩,m + 1,(vc' + 3),0,by omega,rfl,hf1,hrec,by omega,by omega,rfl⟩
            refine .seq (s := rawSt fates L.s r' p (m + 1) n [(83,.own 101 va),(84,PI L.a.u.length),(85,PI ((i + 1 : Nat) : Int))] [.own 105 0,.own 102 vb] [.own 103 (vc' + 3),nilS] ([arrP 101 L.a.u va,arrP 105 [] 0,arrP 102 L.a.h vb,arrP 103 (b.u ++ [q] ++ [q] ++ b.h) (vc' + 3)])) (by simp only [go_sem,zA,zB,zC,zD,zE,zF,zG,zH,zI,zJ,zK,zL,zM,zN,zO,zP,↓reduceIte,reduceCtorEq,rawSt,lkSt,in1St,in2St,nilS,arrP,fnF,fnT,fnP,rcv0,Snd.zero,Rcv.cells,Snd.cells,Pdu.cells,St.sw,envSw,hpSw,PV.sw,swL,Blk.sw,swp,yBd,yBe,pduRows_nil,pduRows_one,pduRows_append,yBc,yBf,rowsB_nil,freshR] <;> (first | rfl | exact ⟨rfl,rfl⟩ | exact ⟨rfl,rfl,rfl⟩ | exact ⟨rfl,rfl,rfl,rfl⟩)) ?_
            refine .nil 12 1 104 70 7 76 _ rfl rfl rfl ?_
            exact .weak (by simp only [go_sem,zA,zB,zC,zD,zE,zF,zG,zH,zI,zJ,zK,zL,zM,zN,zO,zP,↓reduceIte,reduceCtorEq,rawSt,lkSt,in1St,in2St,nilS,arrP,fnF,fnT,fnP,rcv0,Snd.zero,Rcv.cells,Snd.cells,Pdu.cells,St.sw,envSw,hpSw,PV.sw,swL,Blk.sw,swp,yBd,yBe,pduRows_nil,pduRows_one,pduRows_append,yBc,yBf,rowsB_nil,freshR] <;> (first | rfl | exact ⟨rfl,rfl⟩ | exact ⟨rfl,rfl,rfl⟩ | exact ⟨rfl,rfl,rfl,rfl⟩))
          have f3 : decide (f = 3) = false := by simpa using h3
          simp only [go_sem,zA,zB,zC,zD,zE,zF,zG,zH,zI,zJ,zK,zL,zM,zN,zO,zP,↓reduceIte,reduceCtorEq,f2,f4,f3,hw,Tryz.ntmps57,Tryz.results57]
          repeat (first | refine And.intro (by omega) ?_ | refine And.intro (by simp only [List.length_append,yBa,yBb,pduRows_length]; omega) ?_)
          (refine endD_intro (by decide +kernel) ?_; simp only [go_sem,zA,zB,zC,zD,zE,zF,zG,zH,zI,zJ,zK,zL,zM,zN,zO,zP,↓reduceIte,reduceCtorEq,hw,Tryz.ntmps57,Tryz.results57])
          rw [show putW b q f = ⟨b.u ++ [q] ++ b.h,[]⟩ by simp [putW,h2,h4,h3]] at hrec hpl
          refine ⟨L.a.u.length - (i + 1),_,by omega,?_,i + 1,r',⟨b.u ++ [q] ++ b.h,[]⟩,m + 1,(vc' + 2),0,by omega,rfl,hf1,hrec,by omega,by omega,rfl⟩
          refine .seq (s := rawSt fates L.s r' p (m + 1) n [(83,.own 101 va),(84,PI L.a.u.length),(85,PI ((i + 1 : Nat) : Int))] [.own 105 0,.own 102 vb] [.own 103 (vc' + 2),nilS] ([arrP 101 L.a.u va,arrP 105 [] 0,arrP 102 L.a.h vb,arrP 103 (b.u ++ [q] ++ b.h) (vc' + 2)])) (by simp only [go_sem,zA,zB,zC,zD,zE,zF,zG,zH,zI,zJ,zK,zL,zM,zN,zO,zP,↓reduceIte,reduceCtorEq,rawSt,lkSt,in1St,in2St,nilS,arrP,fnF,fnT,fnP,rcv0,Snd.zero,Rcv.cells,Snd.cells,Pdu.cells,St.sw,envSw,hpSw,PV.sw,swL,Blk.sw,swp,yBd,yBe,pduRows_nil,pduRows_one,pduRows_append,yBc,yBf,rowsB_nil,freshR] <;> (first | rfl | exact ⟨rfl,rfl⟩ | exact ⟨rfl,rfl,rfl⟩ | exact ⟨rfl,rfl,rfl,rfl⟩)) ?_
          refine .nil 12 1 104 70 7 76 _ rfl rfl rfl ?_
          exact .weak (by simp only [go_sem,zA,zB,zC,zD,zE,zF,zG,zH,zI,zJ,zK,zL,zM,zN,zO,zP,↓reduceIte,reduceCtorEq,rawSt,lkSt,in1St,in2St,nilS,arrP,fnF,fnT,fnP,rcv0,Snd.zero,Rcv.cells,Snd.cells,Pdu.cells,St.sw,envSw,hpSw,PV.sw,swL,Blk.sw,swp,yBd,yBe,pduRows_nil,pduRows_one,pduRows_append,yBc,yBf,rowsB_nil,freshR] <;> (first | rfl | exact ⟨rfl,rfl⟩ | exact ⟨rfl,rfl,rfl⟩ | exact ⟨rfl,rfl,rfl,rfl⟩))
      have hix : i = L.a.u.length := by omega
      rw [hix,List.drop_length,recvAll] at hrec
      have g1 : decide ((i : Int) < (L.a.u.length : Int)) = false := by simp; omega
      simp only [go_sem,zA,zB,zC,zD,zE,zF,zG,zH,zI,zJ,zK,zL,zM,zN,zO,zP,↓reduceIte,reduceCtorEq,rawSt,lkSt,in1St,in2St,nilS,arrP,fnF,fnT,fnP,yBl,yBc,g1]
      refine CallA.into tabOK mixed Tryz.func56 rfl rfl (by decide +kernel) (by simp [Tryz.ntmps56]) ?_
      simp only [go_sem,zA,zB,zC,zD,zE,zF,zG,zH,zI,zJ,zK,zL,zM,zN,zO,zP,↓reduceIte,reduceCtorEq,Tryz.ntmps56,Tryz.results56,Tryz.ntmps41,Tryz.results41]
      refine wpA_loopS (in2I fates L.a.h p n vb r b m vc' vd' (takeAll b.u L.s)) ⟨_,_,?_,0,L.s,by omega,rfl,hss,by rw [List.drop_zero],rfl⟩ ?_
      · refine .seq (s := rawSt fates L.s r p m n [(103,.own 103 vc'),(104,PI b.u.length),(105,PI ((0 : Nat) : Int))] [.own 105 0,.own 102 vb] [nilS,.own 104 vd'] [arrP 105 [] 0,arrP 102 L.a.h vb,arrP 103 b.u vc',arrP 104 b.h vd']) (by simp only [go_sem,zA,zB,zC,zD,zE,zF,zG,zH,zI,zJ,zK,zL,zM,zN,zO,zP,↓reduceIte,reduceCtorEq,rawSt,lkSt,in1St,in2St,nilS,arrP,fnF,fnT,fnP,rcv0,Snd.zero,Rcv.cells,Snd.cells,Pdu.cells,St.sw,envSw,hpSw,PV.sw,swL,Blk.sw,swp,yBd,yBe,pduRows_nil,pduRows_one,pduRows_append,yBc,yBf,rowsB_nil,freshR] <;> (first | rfl | exact ⟨rfl,rfl⟩ | exact ⟨rfl,rfl,rfl⟩ | exact ⟨rfl,rfl,rfl,rfl⟩)) ?_
        refine .nil 12 0 106 70 7 76 _ rfl rfl rfl ?_
        exact .weak (by simp only [go_sem,zA,zB,zC,zD,zE,zF,zG,zH,zI,zJ,zK,zL,zM,zN,zO,zP,↓reduceIte,reduceCtorEq,rawSt,lkSt,in1St,in2St,nilS,arrP,fnF,fnT,fnP,rcv0,Snd.zero,Rcv.cells,Snd.cells,Pdu.cells,St.sw,envSw,hpSw,PV.sw,swL,Blk.sw,swp,yBd,yBe,pduRows_nil,pduRows_one,pduRows_append,yBc,yBf,rowsB_nil,freshR] <;> (first | rfl | exact ⟨rfl,rfl⟩ | exact ⟨rfl,rfl,rfl⟩ | exact ⟨rfl,rfl,rfl,rfl⟩))
      rintro mm st ⟨j,s,hj,rfl,hs,htk,rfl⟩
      by_cases hcj : j < b.u.length
      · have g2 : decide ((j : Int) < (b.u.length : Int)) = true := by simp; omega
        have f1' : (j : Int) < (b.u.length : Int) := by omega
        have f0 : (0 : Int) ≤ (j : Int) := by omega
        have hw := wrapIN (i := j) (by omega)
        have hrow := pduRows_at hcj
        rw [List.drop_eq_getElem_cons hcj,takeAll] at htk
        generalize b.u[j] = pi at hrow htk
        have c1 := take_calls s pi
        have hs1 := take_sound hs pi
        generalize takeS s pi = s' at c1 hs1 htk
        simp only [go_sem,zA,zB,zC,zD,zE,zF,zG,zH,zI,zJ,zK,zL,zM,zN,zO,zP,↓reduceIte,reduceCtorEq,rawSt,lkSt,in1St,in2St,nilS,arrP,fnF,fnT,fnP,yBl,yBc,g2,f1',f0,yCa,hrow]
        refine ⟨hcj,?_⟩
        (refine CallA.pure (c1) (by simp only [go_sem,zA,zB,zC,zD,zE,zF,zG,zH,zI,zJ,zK,zL,zM,zN,zO,zP,↓reduceIte,reduceCtorEq,Snd.pv,Pdu.pv,hw] <;> first | rfl | decide) ?_; simp only [go_sem,zA,zB,zC,zD,zE,zF,zG,zH,zI,zJ,zK,zL,zM,zN,zO,zP,↓reduceIte,reduceCtorEq,Snd.pv,Pdu.pv,hw])
        refine ⟨b.u.length - (j + 1),_,by omega,?_,j + 1,s',by omega,rfl,hs1,htk,rfl⟩
        exact .weak (by simp only [go_sem,zA,zB,zC,zD,zE,zF,zG,zH,zI,zJ,zK,zL,zM,zN,zO,zP,↓reduceIte,reduceCtorEq,rawSt,lkSt,in1St,in2St,nilS,arrP,fnF,fnT,fnP,rcv0,Snd.zero,Rcv.cells,Snd.cells,Pdu.cells,St.sw,envSw,hpSw,PV.sw,swL,Blk.sw,swp,yBd,yBe,pduRows_nil,pduRows_one,pduRows_append,yBc,yBf,rowsB_nil,freshR] <;> (first | rfl | exact ⟨rfl,rfl⟩ | exact ⟨rfl,rfl,rfl⟩ | exact ⟨rfl,rfl,rfl,rfl⟩))
      have hjx : j = b.u.length := by omega
      rw [hjx,List.drop_length,takeAll] at htk
      have g2 : decide ((j : Int) < (b.u.length : Int)) = false := by simp; omega
      have cNx := next_calls s hs.1.1
      have cTk := tick_calls (nextS s)
      have cTr := tickT_at r
      have hwn := wrapIN (i := n) (by omega)
      have hT : tickL fates L = ⟨tickS (nextS s),tickV r,if s.goes then putW ⟨[],L.a.h⟩ (nextP s) (fateL fates m) else ⟨[],L.a.h⟩,⟨[],b.h⟩,if s.goes then m + 1 else m⟩ := by
        unfold tickL
        rw [← hrec]
        simp only [← htk]
      simp only [go_sem,zA,zB,zC,zD,zE,zF,zG,zH,zI,zJ,zK,zL,zM,zN,zO,zP,↓reduceIte,reduceCtorEq,rawSt,lkSt,in1St,in2St,nilS,arrP,fnF,fnT,fnP,yBl,yBc,g2]
      (refine CallA.pure (cNx) (by simp only [go_sem,zA,zB,zC,zD,zE,zF,zG,zH,zI,zJ,zK,zL,zM,zN,zO,zP,↓reduceIte,reduceCtorEq,Snd.pv,Pdu.pv] <;> first | rfl | decide) ?_; simp only [go_sem,zA,zB,zC,zD,zE,zF,zG,zH,zI,zJ,zK,zL,zM,zN,zO,zP,↓reduceIte,reduceCtorEq,Snd.pv,Pdu.pv])
      cases hg : s.goes with
      | false =>
        rw [hg] at hT
        have hT' : tickL fates L = ⟨tickS (nextS s),tickV r,⟨[],L.a.h⟩,⟨[],b.h⟩,m⟩ := by rw [hT]; rfl
        simp only [go_sem,zA,zB,zC,zD,zE,zF,zG,zH,zI,zJ,zK,zL,zM,zN,zO,zP,↓reduceIte,reduceCtorEq]
        (refine callD_pure (cTk) (by simp only [go_sem,zA,zB,zC,zD,zE,zF,zG,zH,zI,zJ,zK,zL,zM,zN,zO,zP,↓reduceIte,reduceCtorEq,Snd.pv] <;> first | rfl | decide) ?_; simp only [go_sem,zA,zB,zC,zD,zE,zF,zG,zH,zI,zJ,zK,zL,zM,zN,zO,zP,↓reduceIte,reduceCtorEq,Snd.pv])
        (refine callD_pure (cTr) (by simp only [go_sem,zA,zB,zC,zD,zE,zF,zG,zH,zI,zJ,zK,zL,zM,zN,zO,zP,↓reduceIte,reduceCtorEq,Rcv.pv] <;> first | rfl | decide) ?_; simp only [go_sem,zA,zB,zC,zD,zE,zF,zG,zH,zI,zJ,zK,zL,zM,zN,zO,zP,↓reduceIte,reduceCtorEq,Rcv.pv])
        (refine endD_intro (by decide +kernel) ?_; simp only [go_sem,zA,zB,zC,zD,zE,zF,zG,zH,zI,zJ,zK,zL,zM,zN,zO,zP,↓reduceIte,reduceCtorEq,hwn])
        refine ⟨100000 - (n + 1),_,by omega,?_,n + 1,tickL fates L,nextP s,0,vb,0,vd',by omega,rfl,hI'.tick,hX',rfl⟩
        rw [hT']
        refine .seq (s := rawSt fates (tickS (nextS s)) (tickV r) (nextP s) m (n + 1) [] [.own 105 0,.own 102 vb] [.own 106 0,.own 104 vd'] ([arrP 105 ([]) 0,arrP 106 [] 0,arrP 104 b.h vd',arrP 102 (L.a.h) vb])) (by simp only [go_sem,zA,zB,zC,zD,zE,zF,zG,zH,zI,zJ,zK,zL,zM,zN,zO,zP,↓reduceIte,reduceCtorEq,rawSt,lkSt,in1St,in2St,nilS,arrP,fnF,fnT,fnP,rcv0,Snd.zero,Rcv.cells,Snd.cells,Pdu.cells,St.sw,envSw,hpSw,PV.sw,swL,Blk.sw,swp,yBd,yBe,pduRows_nil,pduRows_one,pduRows_append,yBc,yBf,rowsB_nil,freshR] <;> (first | rfl | exact ⟨rfl,rfl⟩ | exact ⟨rfl,rfl,rfl⟩ | exact ⟨rfl,rfl,rfl,rfl⟩)) ?_
        refine .sw 105 101 (Nat.zero_le _) (Nat.zero_le _) ?_
        refine .sw 106 103 (Nat.zero_le _) (Nat.zero_le _) ?_
        exact .weak (by simp only [go_sem,zA,zB,zC,zD,zE,zF,zG,zH,zI,zJ,zK,zL,zM,zN,zO,zP,↓reduceIte,reduceCtorEq,rawSt,lkSt,in1St,in2St,nilS,arrP,fnF,fnT,fnP,rcv0,Snd.zero,Rcv.cells,Snd.cells,Pdu.cells,St.sw,envSw,hpSw,PV.sw,swL,Blk.sw,swp,yBd,yBe,pduRows_nil,pduRows_one,pduRows_append,yBc,yBf,rowsB_nil,freshR] <;> (first | rfl | exact ⟨rfl,rfl⟩ | exact ⟨rfl,rfl,rfl⟩ | exact ⟨rfl,rfl,rfl,rfl⟩))
      | true =>
        obtain ⟨f,hf⟩ : ∃ f,fateL fates m = f := ⟨_,rfl⟩
        simp only [go_sem,zA,zB,zC,zD,zE,zF,zG,zH,zI,zJ,zK,zL,zM,zN,zO,zP,↓reduceIte,reduceCtorEq]
        refine callD_eff (fate_at hf (by decide) (by omega) (by simp only [go_sem,zA,zB,zC,zD,zE,zF,zG,zH,zI,zJ,zK,zL,zM,zN,zO,zP,↓reduceIte,reduceCtorEq] <;> rfl) (by simp only [go_sem,zA,zB,zC,zD,zE,zF,zG,zH,zI,zJ,zK,zL,zM,zN,zO,zP,↓reduceIte,reduceCtorEq] <;> rfl)) ?_
        simp only [go_sem,zA,zB,zC,zD,zE,zF,zG,zH,zI,zJ,zK,zL,zM,zN,zO,zP,↓reduceIte,reduceCtorEq]
        refine callD_tail (by decide +kernel) (by decide +kernel) ?_
        simp only [go_sem,zA,zB,zC,zD,zE,zF,zG,zH,zI,zJ,zK,zL,zM,zN,zO,zP,↓reduceIte,reduceCtorEq]
        refine CallA.into tabOK mixed Tryz.func57 rfl rfl (by decide +kernel) (by simp [Tryz.ntmps57]) ?_
        simp only [go_sem,zA,zB,zC,zD,zE,zF,zG,zH,zI,zJ,zK,zL,zM,zN,zO,zP,↓reduceIte,reduceCtorEq,Tryz.ntmps57,Tryz.results57]
        by_cases h2 : f = 2
        · have f2 : decide (f = 2) = true := by simpa using h2
          simp only [go_sem,zA,zB,zC,zD,zE,zF,zG,zH,zI,zJ,zK,zL,zM,zN,zO,zP,↓reduceIte,reduceCtorEq,f2,Tryz.ntmps57,Tryz.results57]
          have hT' : tickL fates L = ⟨tickS (nextS s),tickV r,⟨[],L.a.h⟩,⟨[],b.h⟩,m + 1⟩ := by rw [hT,if_pos hg,if_pos hg,hf]; simp [putW,h2]
          (refine callD_pure (cTk) (by simp only [go_sem,zA,zB,zC,zD,zE,zF,zG,zH,zI,zJ,zK,zL,zM,zN,zO,zP,↓reduceIte,reduceCtorEq,Snd.pv] <;> first | rfl | decide) ?_; simp only [go_sem,zA,zB,zC,zD,zE,zF,zG,zH,zI,zJ,zK,zL,zM,zN,zO,zP,↓reduceIte,reduceCtorEq,Snd.pv])
          (refine callD_pure (cTr) (by simp only [go_sem,zA,zB,zC,zD,zE,zF,zG,zH,zI,zJ,zK,zL,zM,zN,zO,zP,↓reduceIte,reduceCtorEq,Rcv.pv] <;> first | rfl | decide) ?_; simp only [go_sem,zA,zB,zC,zD,zE,zF,zG,zH,zI,zJ,zK,zL,zM,zN,zO,zP,↓reduceIte,reduceCtorEq,Rcv.pv])
          (refine endD_intro (by decide +kernel) ?_; simp only [go_sem,zA,zB,zC,zD,zE,zF,zG,zH,zI,zJ,zK,zL,zM,zN,zO,zP,↓reduceIte,reduceCtorEq,hwn])
          refine ⟨100000 - (n + 1),_,by omega,?_,n + 1,tickL fates L,nextP s,0,vb,0,vd',by omega,rfl,hI'.tick,hX',rfl⟩
          rw [hT']
          refine .seq (s := rawSt fates (tickS (nextS s)) (tickV r) (nextP s) (m + 1) (n + 1) [] [.own 105 0,.own 102 vb] [.own 106 0,.own 104 vd'] ([arrP 105 ([]) 0,arrP 106 [] 0,arrP 104 b.h vd',arrP 102 (L.a.h) vb])) (by simp only [go_sem,zA,zB,zC,zD,zE,zF,zG,zH,zI,zJ,zK,zL,zM,zN,zO,zP,↓reduceIte,reduceCtorEq,rawSt,lkSt,in1St,in2St,nilS,arrP,fnF,fnT,fnP,rcv0,Snd.zero,Rcv.cells,Snd.cells,Pdu.cells,St.sw,envSw,hpSw,PV.sw,swL,Blk.sw,swp,yBd,yBe,pduRows_nil,pduRows_one,pduRows_append,yBc,yBf,rowsB_nil,freshR] <;> (first | rfl | exact ⟨rfl,rfl⟩ | exact ⟨rfl,rfl,rfl⟩ | exact ⟨rfl,rfl,rfl,rfl⟩)) ?_
          refine .sw 105 101 (Nat.zero_le _) (Nat.zero_le _) ?_
          refine .sw 106 103 (Nat.zero_le _) (Nat.zero_le _) ?_
          exact .weak (by simp only [go_sem,zA,zB,zC,zD,zE,zF,zG,zH,zI,zJ,zK,zL,zM,zN,zO,zP,↓reduceIte,reduceCtorEq,rawSt,lkSt,in1St,in2St,nilS,arrP,fnF,fnT,fnP,rcv0,Snd.zero,Rcv.cells,Snd.cells,Pdu.cells,St.sw,envSw,hpSw,PV.sw,swL,Blk.sw,swp,yBd,yBe,pduRows_nil,pduRows_one,pduRows_append,yBc,yBf,rowsB_nil,freshR] <;> (first | rfl | exact ⟨rfl,rfl⟩ | exact ⟨rfl,rfl,rfl⟩ | exact ⟨rfl,rfl,rfl,rfl⟩))
        have f2 : decide (f = 2) = false := by simpa using h2
        by_cases h4 : f = 4
        · have f4 : decide (f = 4) = true := by simpa using h4
          simp only [go_sem,zA,zB,zC,zD,zE,zF,zG,zH,zI,zJ,zK,zL,zM,zN,zO,zP,↓reduceIte,reduceCtorEq,f2,f4,Tryz.ntmps57,Tryz.results57]
          repeat (first | refine And.intro (by omega) ?_ | refine And.intro (by simp only [List.length_append,yBa,yBb,pduRows_length]; omega) ?_)
          (refine endD_intro (by decide +kernel) ?_; simp only [go_sem,zA,zB,zC,zD,zE,zF,zG,zH,zI,zJ,zK,zL,zM,zN,zO,zP,↓reduceIte,reduceCtorEq,Tryz.ntmps57,Tryz.results57])
          have hT' : tickL fates L = ⟨tickS (nextS s),tickV r,⟨[],L.a.h ++ [nextP s]⟩,⟨[],b.h⟩,m + 1⟩ := by rw [hT,if_pos hg,if_pos hg,hf]; simp [putW,h2,h4]
          (refine callD_pure (cTk) (by simp only [go_sem,zA,zB,zC,zD,zE,zF,zG,zH,zI,zJ,zK,zL,zM,zN,zO,zP,↓reduceIte,reduceCtorEq,Snd.pv] <;> first | rfl | decide) ?_; simp only [go_sem,zA,zB,zC,zD,zE,zF,zG,zH,zI,zJ,zK,zL,zM,zN,zO,zP,↓reduceIte,reduceCtorEq,Snd.pv])
          (refine callD_pure (cTr) (by simp only [go_sem,zA,zB,zC,zD,zE,zF,zG,zH,zI,zJ,zK,zL,zM,zN,zO,zP,↓reduceIte,reduceCtorEq,Rcv.pv] <;> first | rfl | decide) ?_; simp only [go_sem,zA,zB,zC,zD,zE,zF,zG,zH,zI,zJ,zK,zL,zM,zN,zO,zP,↓reduceIte,reduceCtorEq,Rcv.pv])
          (refine endD_intro (by decide +kernel) ?_; simp only [go_sem,zA,zB,zC,zD,zE,zF,zG,zH,zI,zJ,zK,zL,zM,zN,zO,zP,↓reduceIte,reduceCtorEq,hwn])
          refine ⟨100000 - (n + 1),_,by omega,?_,n + 1,tickL fates L,nextP s,0,(vb + 1),0,vd',by omega,rfl,hI'.tick,hX',rfl⟩
          rw [hT']
          refine .seq (s := rawSt fates (tickS (nextS s)) (tickV r) (nextP s) (m + 1) (n + 1) [] [.own 105 0,.own 102 (vb + 1)] [.own 106 0,.own 104 vd'] ([arrP 105 ([]) 0,arrP 106 [] 0,arrP 104 b.h vd',arrP 102 (L.a.h ++ [nextP s]) (vb + 1)])) (by simp only [go_sem,zA,zB,zC,zD,zE,zF,zG,zH,zI,zJ,zK,zL,zM,zN,zO,zP,↓reduceIte,reduceCtorEq,rawSt,lkSt,in1St,in2St,nilS,arrP,fnF,fnT,fnP,rcv0,Snd.zero,Rcv.cells,Snd.cells,Pdu.cells,St.sw,envSw,hpSw,PV.sw,swL,Blk.sw,swp,yBd,yBe,pduRows_nil,pduRows_one,pduRows_append,yBc,yBf,rowsB_nil,freshR] <;> (first | rfl | exact ⟨rfl,rfl⟩ | exact ⟨rfl,rfl,rfl⟩ | exact ⟨rfl,rfl,rfl,rfl⟩)) ?_
          refine .sw 105 101 (Nat.zero_le _) (Nat.zero_le _) ?_
          refine .sw 106 103 (Nat.zero_le _) (Nat.zero_le _) ?_
          exact .weak (by simp only [go_sem,zA,zB,zC,zD,zE,zF,zG,zH,zI,zJ,zK,zL,zM,zN,zO,zP,↓reduceIte,reduceCtorEq,rawSt,lkSt,in1St,in2St,nilS,arrP,fnF,fnT,fnP,rcv0,Snd.zero,Rcv.cells,Snd.cells,Pdu.cells,St.sw,envSw,hpSw,PV.sw,swL,Blk.sw,swp,yBd,yBe,pduRows_nil,pduRows_one,pduRows_append,yBc,yBf,rowsB_nil,freshR] <;> (first | rfl | exact ⟨rfl,rfl⟩ | exact ⟨rfl,rfl,rfl⟩ | exact ⟨rfl,rfl,rfl,rfl⟩))
        have f4 : decide (f = 4) = false := by simpa using h4
        by_cases h3 : f = 3
        · have f3 : decide (f = 3) = true := by simpa using h3
          simp only [go_sem,zA,zB,zC,zD,zE,zF,zG,zH,zI,zJ,zK,zL,zM,zN,zO,zP,↓reduceIte,reduceCtorEq,f2,f4,f3,Tryz.ntmps57,Tryz.results57]
          repeat (first | refine And.intro (by omega) ?_ | refine And.intro (by simp only [List.length_append,yBa,yBb,pduRows_length]; omega) ?_)
          (refine endD_intro (by decide +kernel) ?_; simp only [go_sem,zA,zB,zC,zD,zE,zF,zG,zH,zI,zJ,zK,zL,zM,zN,zO,zP,↓reduceIte,reduceCtorEq,Tryz.ntmps57,Tryz.results57])
          repeat (first | refine And.intro (by omega) ?_ | refine And.intro (by simp only [List.length_append,yBa,yBb,pduRows_length]; omega) ?_)
          (refine endD_intro (by decide +kernel) ?_; simp only [go_sem,zA,zB,zC,zD,zE,zF,zG,zH,zI,zJ,zK,zL,zM,zN,zO,zP,↓reduceIte,reduceCtorEq,Tryz.ntmps57,Tryz.results57])
          have hT' : tickL fates L = ⟨tickS (nextS s),tickV r,⟨[nextP s] ++ [nextP s] ++ L.a.h,[]⟩,⟨[],b.h⟩,m + 1⟩ := by rw [hT,if_pos hg,if_pos hg,hf]; simp [putW,h2,h4,h3]
          (refine callD_pure (cTk) (by simp only [go_sem,zA,zB,zC,zD,zE,zF,zG,zH,zI,zJ,zK,zL,zM,zN,zO,zP,↓reduceIte,reduceCtorEq,Snd.pv] <;> first | rfl | decide) ?_; simp only [go_sem,zA,zB,zC,zD,zE,zF,zG,zH,zI,zJ,zK,zL,zM,zN,zO,zP,↓reduceIte,reduceCtorEq,Snd.pv])
          (refine callD_pure (cTr) (by simp only [go_sem,zA,zB,zC,zD,zE,zF,zG,zH,zI,zJ,zK,zL,zM,zN,zO,zP,↓reduceIte,reduceCtorEq,Rcv.pv] <;> first | rfl | decide) ?_; simp only [go_sem,zA,zB,zC,zD,zE,zF,zG,zH,zI,zJ,zK,zL,zM,zN,zO,zP,↓reduceIte,reduceCtorEq,Rcv.pv])
          (refine endD_intro (by decide +kernel) ?_; simp only [go_sem,zA,zB,zC,zD,zE,zF,zG,zH,zI,zJ,zK,zL,zM,zN,zO,zP,↓reduceIte,reduceCtorEq,hwn])
          refine ⟨100000 - (n + 1),_,by omega,?_,n + 1,tickL fates L,nextP s,3,0,0,vd',by omega,rfl,hI'.tick,hX',rfl⟩
          rw [hT']
          refine .seq (s := rawSt fates (tickS (nextS s)) (tickV r) (nextP s) (m + 1) (n + 1) [] [.own 105 3,nilS] [.own 106 0,.own 104 vd'] ([arrP 105 ([nextP s] ++ [nextP s] ++ L.a.h) 3,arrP 106 [] 0,arrP 104 b.h vd'])) (by simp only [go_sem,zA,zB,zC,zD,zE,zF,zG,zH,zI,zJ,zK,zL,zM,zN,zO,zP,↓reduceIte,reduceCtorEq,rawSt,lkSt,in1St,in2St,nilS,arrP,fnF,fnT,fnP,rcv0,Snd.zero,Rcv.cells,Snd.cells,Pdu.cells,St.sw,envSw,hpSw,PV.sw,swL,Blk.sw,swp,yBd,yBe,pduRows_nil,pduRows_one,pduRows_append,yBc,yBf,rowsB_nil,freshR] <;> (first | rfl | exact ⟨rfl,rfl⟩ | exact ⟨rfl,rfl,rfl⟩ | exact ⟨rfl,rfl,rfl,rfl⟩)) ?_
          refine .nil 11 1 102 70 7 76 _ rfl rfl rfl ?_
          refine .sw 105 101 (Nat.zero_le _) (Nat.zero_le _) ?_
          refine .sw 106 103 (Nat.zero_le _) (Nat.zero_le _) ?_
          exact .weak (by simp only [go_sem,zA,zB,zC,zD,zE,zF,zG,zH,zI,zJ,zK,zL,zM,zN,zO,zP,↓reduceIte,reduceCtorEq,rawSt,lkSt,in1St,in2St,nilS,arrP,fnF,fnT,fnP,rcv0,Snd.zero,Rcv.cells,Snd.cells,Pdu.cells,St.sw,envSw,hpSw,PV.sw,swL,Blk.sw,swp,yBd,yBe,pduRows_nil,pduRows_one,pduRows_append,yBc,yBf,rowsB_nil,freshR] <;> (first | rfl | exact ⟨rfl,rfl⟩ | exact ⟨rfl,rfl,rfl⟩ | exact ⟨rfl,rfl,rfl,rfl⟩))
        have f3 : decide (f = 3) = false := by simpa using h3
        simp only [go_sem,zA,zB,zC,zD,zE,zF,zG,zH,zI,zJ,zK,zL,zM,zN,zO,zP,↓reduceIte,reduceCtorEq,f2,f4,f3,Tryz.ntmps57,Tryz.results57]
        repeat (first | refine And.intro (by omega) ?_ | refine And.intro (by simp only [List.length_append,yBa,yBb,pduRows_length]; omega) ?_)
        (refine endD_intro (by decide +kernel) ?_; simp only [go_sem,zA,zB,zC,zD,zE,zF,zG,zH,zI,zJ,zK,zL,zM,zN,zO,zP,↓reduceIte,reduceCtorEq,Tryz.ntmps57,Tryz.results57])
        have hT' : tickL fates L = ⟨tickS (nextS s),tickV r,⟨[nextP s] ++ L.a.h,[]⟩,⟨[],b.h⟩,m + 1⟩ := by rw [hT,if_pos hg,if_pos hg,hf]; simp [putW,h2,h4,h3]
        (refine callD_pure (cTk) (by simp only [go_sem,zA,zB,zC,zD,zE,zF,zG,zH,zI,zJ,zK,zL,zM,zN,zO,zP,↓reduceIte,reduceCtorEq,Snd.pv] <;> first | rfl | decide) ?_; simp only [go_sem,zA,zB,zC,zD,zE,zF,zG,zH,zI,zJ,zK,zL,zM,zN,zO,zP,↓reduceIte,reduceCtorEq,Snd.pv])
        (refine callD_pure (cTr) (by simp only [go_sem,zA,zB,zC,zD,zE,zF,zG,zH,zI,zJ,zK,zL,zM,zN,zO,zP,↓reduceIte,reduceCtorEq,Rcv.pv] <;> first | rfl | decide) ?_; simp only [go_sem,zA,zB,zC,zD,zE,zF,zG,zH,zI,zJ,zK,zL,zM,zN,zO,zP,↓reduceIte,reduceCtorEq,Rcv.pv])
        (refine endD_intro (by decide +kernel) ?_; simp only [go_sem,zA,zB,zC,zD,zE,zF,zG,zH,zI,zJ,zK,zL,zM,zN,zO,zP,↓reduceIte,reduceCtorEq,hwn])
        refine ⟨100000 - (n + 1),_,by omega,?_,n + 1,tickL fates L,nextP s,2,0,0,vd',by omega,rfl,hI'.tick,hX',rfl⟩
        rw [hT']
        refine .seq (s := rawSt fates (tickS (nextS s)) (tickV r) (nextP s) (m + 1) (n + 1) [] [.own 105 2,nilS] [.own 106 0,.own 104 vd'] ([arrP 105 ([nextP s] ++ L.a.h) 2,arrP 106 [] 0,arrP 104 b.h vd'])) (by simp only [go_sem,zA,zB,zC,zD,zE,zF,zG,zH,zI,zJ,zK,zL,zM,zN,zO,zP,↓reduceIte,reduceCtorEq,rawSt,lkSt,in1St,in2St,nilS,arrP,fnF,fnT,fnP,rcv0,Snd.zero,Rcv.cells,Snd.cells,Pdu.cells,St.sw,envSw,hpSw,PV.sw,swL,Blk.sw,swp,yBd,yBe,pduRows_nil,pduRows_one,pduRows_append,yBc,yBf,rowsB_nil,freshR] <;> (first | rfl | exact ⟨rfl,rfl⟩ | exact ⟨rfl,rfl,rfl⟩ | exact ⟨rfl,rfl,rfl,rfl⟩)) ?_
        refine .nil 11 1 102 70 7 76 _ rfl rfl rfl ?_
        refine .sw 105 101 (Nat.zero_le _) (Nat.zero_le _) ?_
        refine .sw 106 103 (Nat.zero_le _) (Nat.zero_le _) ?_
        exact .weak (by simp only [go_sem,zA,zB,zC,zD,zE,zF,zG,zH,zI,zJ,zK,zL,zM,zN,zO,zP,↓reduceIte,reduceCtorEq,rawSt,lkSt,in1St,in2St,nilS,arrP,fnF,fnT,fnP,rcv0,Snd.zero,Rcv.cells,Snd.cells,Pdu.cells,St.sw,envSw,hpSw,PV.sw,swL,Blk.sw,swp,yBd,yBe,pduRows_nil,pduRows_one,pduRows_append,yBc,yBf,rowsB_nil,freshR] <;> (first | rfl | exact ⟨rfl,rfl⟩ | exact ⟨rfl,rfl,rfl⟩ | exact ⟨rfl,rfl,rfl,rfl⟩))
    have g2 : decide (L.r.st = 2) = false := by simp [h2]
    by_cases hz : L.a.u.length + L.b.u.length = 0
    · have gz : decide ((L.a.u.length : Int) + (L.b.u.length : Int) = 0) = true := by simp only [decide_eq_true_eq]; omega
      have hd : doneL L = true := by rw [doneL,g3,g4,g2,decide_eq_true hz]; rfl
      rw [hd,if_pos rfl] at hX
      subst hX
      simp only [go_sem,zA,zB,zC,zD,zE,zF,zG,zH,zI,zJ,zK,zL,zM,zN,zO,zP,↓reduceIte,reduceCtorEq,rawSt,lkSt,in1St,in2St,nilS,arrP,fnF,fnT,fnP,yBl,yBc,f1,hwz,g3,g4,g2,gz]
      (refine endD_intro (by decide +kernel) ?_; simp only [go_sem,zA,zB,zC,zD,zE,zF,zG,zH,zI,zJ,zK,zL,zM,zN,zO,zP,↓reduceIte,reduceCtorEq,Tryz.ntmps41,Tryz.results41])
    have gz : decide ((L.a.u.length : Int) + (L.b.u.length : Int) = 0) = false := by simp only [decide_eq_false_iff_not]; omega
    have hnd : doneL L = false := by rw [doneL,decide_eq_false hz]; simp
    rw [hnd] at hX
    have hX' : runL fates (100000 - (n + 1)) (n + 1) (tickL fates L) = X := by rw [show 100000 - (n + 1) = k by omega]; simpa using hX
    simp only [go_sem,zA,zB,zC,zD,zE,zF,zG,zH,zI,zJ,zK,zL,zM,zN,zO,zP,↓reduceIte,reduceCtorEq,rawSt,lkSt,in1St,in2St,nilS,arrP,fnF,fnT,fnP,yBl,yBc,f1,hwz,g3,g4,g2,gz]
    refine CallA.into tabOK mixed Tryz.func56 rfl rfl (by decide +kernel) (by simp [Tryz.ntmps56]) ?_
    simp only [go_sem,zA,zB,zC,zD,zE,zF,zG,zH,zI,zJ,zK,zL,zM,zN,zO,zP,↓reduceIte,reduceCtorEq,Tryz.ntmps56,Tryz.results56,Tryz.ntmps41,Tryz.results41]
    refine wpA_loopS (in1I fates L p n va vb (recvAll fates L.a.u L.r L.b L.m)) ⟨_,_,?_,0,L.r,L.b,L.m,vc,vd,by omega,rfl,hrf',by rw [List.drop_zero],by omega,by omega,rfl⟩ ?_
    · refine .seq (s := rawSt fates L.s L.r p L.m n [(83,.own 101 va),(84,PI L.a.u.length),(85,PI ((0 : Nat) : Int))] [nilS,.own 102 vb] [.own 103 vc,.own 104 vd] [arrP 101 L.a.u va,arrP 102 L.a.h vb,arrP 103 L.b.u vc,arrP 104 L.b.h vd]) (by simp only [go_sem,zA,zB,zC,zD,zE,zF,zG,zH,zI,zJ,zK,zL,zM,zN,zO,zP,↓reduceIte,reduceCtorEq,rawSt,lkSt,in1St,in2St,nilS,arrP,fnF,fnT,fnP,rcv0,Snd.zero,Rcv.cells,Snd.cells,Pdu.cells,St.sw,envSw,hpSw,PV.sw,swL,Blk.sw,swp,yBd,yBe,pduRows_nil,pduRows_one,pduRows_append,yBc,yBf,rowsB_nil,freshR] <;> (first | rfl | exact ⟨rfl,rfl⟩ | exact ⟨rfl,rfl,rfl⟩ | exact ⟨rfl,rfl,rfl,rfl⟩)) ?_
      refine .nil 11 0 105 70 7 76 _ rfl rfl rfl ?_
      exact .weak (by simp only [go_sem,zA,zB,zC,zD,zE,zF,zG,zH,zI,zJ,zK,zL,zM,zN,zO,zP,↓reduceIte,reduceCtorEq,rawSt,lkSt,in1St,in2St,nilS,arrP,fnF,fnT,fnP,rcv0,Snd.zero,Rcv.cells,Snd.cells,Pdu.cells,St.sw,envSw,hpSw,PV.sw,swL,Blk.sw,swp,yBd,yBe,pduRows_nil,pduRows_one,pduRows_append,yBc,yBf,rowsB_nil,freshR] <;> (first | rfl | exact ⟨rfl,rfl⟩ | exact ⟨rfl,rfl,rfl⟩ | exact ⟨rfl,rfl,rfl,rfl⟩))
    rintro mm st ⟨i,r,b,m,vc',vd',hi,rfl,hr,hrec,hb1,hm1,rfl⟩
    have hbl : b.len = b.u.length + b.h.length := rfl
    by_cases hci : i < L.a.u.length
    · have g1 : decide ((i : Int) < (L.a.u.length : Int)) = true := by simp; omega
      have f1' : (i : Int) < (L.a.u.length : Int) := by omega
      have f0 : (0 : Int) ≤ (i : Int) := by omega
      have hw := wrapIN (i := i) (by omega)
      have hrow := pduRows_at hci
      have hpr := hgd.1 _ (List.getElem_mem hci)
      rw [List.drop_eq_getElem_cons hci,recvAll] at hrec
      generalize L.a.u[i] = pi at hrow hpr hrec
      have c1 := takeT_calls r pi hr hpr
      have hf1 := fine_recv hr hpr
      generalize recvV r pi = x at c1 hf1 hrec
      obtain ⟨r',q,bb⟩ := x
      simp only at c1 hf1 hrec
      simp only [go_sem,zA,zB,zC,zD,zE,zF,zG,zH,zI,zJ,zK,zL,zM,zN,zO,zP,↓reduceIte,reduceCtorEq,rawSt,lkSt,in1St,in2St,nilS,arrP,fnF,fnT,fnP,yBl,yBc,g1,f1',f0,yCa,hrow]
      refine ⟨hci,?_⟩
      (refine CallA.pure (c1) (by simp only [go_sem,zA,zB,zC,zD,zE,zF,zG,zH,zI,zJ,zK,zL,zM,zN,zO,zP,↓reduceIte,reduceCtorEq,Rcv.pv,Pdu.pv] <;> first | rfl | decide) ?_; simp only [go_sem,zA,zB,zC,zD,zE,zF,zG,zH,zI,zJ,zK,zL,zM,zN,zO,zP,↓reduceIte,reduceCtorEq,Rcv.pv,Pdu.pv])
      cases bb with
      | false =>
        simp only [Bool.false_eq_true,if_false] at hrec
        simp only [go_sem,zA,zB,zC,zD,zE,zF,zG,zH,zI,zJ,zK,zL,zM,zN,zO,zP,↓reduceIte,reduceCtorEq,hw]
        refine ⟨L.a.u.length - (i + 1),_,by omega,?_,i + 1,r',b,m,vc',vd',by omega,rfl,hf1,hrec,by omega,by omega,rfl⟩
        exact .weak (by simp only [go_sem,zA,zB,zC,zD,zE,zF,zG,zH,zI,zJ,zK,zL,zM,zN,zO,zP,↓reduceIte,reduceCtorEq,rawSt,lkSt,in1St,in2St,nilS,arrP,fnF,fnT,fnP,rcv0,Snd.zero,Rcv.cells,Snd.cells,Pdu.cells,St.sw,envSw,hpSw,PV.sw,swL,Blk.sw,swp,yBd,yBe,pduRows_nil,pduRows_one,pduRows_append,yBc,yBf,rowsB_nil,freshR] <;> (first | rfl | exact ⟨rfl,rfl⟩ | exact ⟨rfl,rfl,rfl⟩ | exact ⟨rfl,rfl,rfl,rfl⟩))
      | true =>
        simp only [if_true] at hrec
        obtain ⟨f,hf⟩ : ∃ f,fateL fates m = f := ⟨_,rfl⟩
        rw [hf] at hrec
        have hpl := putW_len b q f
        simp only [go_sem,zA,zB,zC,zD,zE,zF,zG,zH,zI,zJ,zK,zL,zM,zN,zO,zP,↓reduceIte,reduceCtorEq]
        refine callD_eff (fate_at hf (by decide) (by omega) (by simp only [go_sem,zA,zB,zC,zD,zE,zF,zG,zH,zI,zJ,zK,zL,zM,zN,zO,zP,↓reduceIte,reduceCtorEq] <;> rfl) (by simp only [go_sem,zA,zB,zC,zD,zE,zF,zG,zH,zI,zJ,zK,zL,zM,zN,zO,zP,↓reduceIte,reduceCtorEq] <;> rfl)) ?_
        simp only [go_sem,zA,zB,zC,zD,zE,zF,zG,zH,zI,zJ,zK,zL,zM,zN,zO,zP,↓reduceIte,reduceCtorEq]
        refine callD_tail (by decide +kernel) (by decide +kernel) ?_
        simp only [go_sem,zA,zB,zC,zD,zE,zF,zG,zH,zI,zJ,zK,zL,zM,zN,zO,zP,↓reduceIte,reduceCtorEq]
        refine CallA.into tabOK mixed Tryz.func57 rfl rfl (by decide +kernel) (by simp [Tryz.ntmps57]) ?_
        simp only [go_sem,zA,zB,zC,zD,zE,zF,zG,zH,zI,zJ,zK,zL,zM,zN,zO,zP,↓reduceIte,reduceCtorEq,Tryz.ntmps57,Tryz.results57,hw]
        by_cases h2 : f = 2
        · have f2 : decide (f = 2) = true := by simpa using h2
          simp only [go_sem,zA,zB,zC,zD,zE,zF,zG,zH,zI,zJ,zK,zL,zM,zN,zO,zP,↓reduceIte,reduceCtorEq,f2,hw,Tryz.ntmps57,Tryz.results57]
          rw [show putW b q f = ⟨b.u,b.h⟩ by simp [putW,h2]] at hrec hpl
          refine ⟨L.a.u.length - (i + 1),_,by omega,?_,i + 1,r',⟨b.u,b.h⟩,m + 1,vc',vd',by omega,rfl,hf1,hrec,by omega,by omega,rfl⟩
          refine .seq (s := rawSt fates L.s r' p (m + 1) n [(83,.own 101 va),(84,PI L.a.u.length),(85,PI ((i + 1 : Nat) : Int))] [.own 105 0,.own 102 vb] [.own 103 vc',.own 104 vd'] ([arrP 101 L.a.u va,arrP 105 [] 0,arrP 102 L.a.h vb,arrP 103 (b.u) vc',arrP 104 (b.h) vd'])) (by simp only [go_sem,zA,zB,zC,zD,zE,zF,zG,zH,zI,zJ,zK,zL,zM,zN,zO,zP,↓reduceIte,reduceCtorEq,rawSt,lkSt,in1St,in2St,nilS,arrP,fnF,fnT,fnP,rcv0,Snd.zero,Rcv.cells,Snd.cells,Pdu.cells,St.sw,envSw,hpSw,PV.sw,swL,Blk.sw,swp,yBd,yBe,pduRows_nil,pduRows_one,pduRows_append,yBc,yBf,rowsB_nil,freshR] <;> (first | rfl | exact ⟨rfl,rfl⟩ | exact ⟨rfl,rfl,rfl⟩ | exact ⟨rfl,rfl,rfl,rfl⟩)) ?_
          exact .weak (by simp only [go_sem,zA,zB,zC,zD,zE,zF,zG,zH,zI,zJ,zK,zL,zM,zN,zO,zP,↓reduceIte,reduceCtorEq,rawSt,lkSt,in1St,in2St,nilS,arrP,fnF,fnT,fnP,rcv0,Snd.zero,Rcv.cells,Snd.cells,Pdu.cells,St.sw,envSw,hpSw,PV.sw,swL,Blk.sw,swp,yBd,yBe,pduRows_nil,pduRows_one,pduRows_append,yBc,yBf,rowsB_nil,freshR] <;> (first | rfl | exact ⟨rfl,rfl⟩ | exact ⟨rfl,rfl,rfl⟩ | exact ⟨rfl,rfl,rfl,rfl⟩))
        have f2 : decide (f = 2) = false := by simpa using h2
        by_cases h4 : f = 4
        · have f4 : decide (f = 4) = true := by simpa using h4
          simp only [go_sem,zA,zB,zC,zD,zE,zF,zG,zH,zI,zJ,zK,zL,zM,zN,zO,zP,↓reduceIte,reduceCtorEq,f2,f4,hw,Tryz.ntmps57,Tryz.results57]
          repeat (first | refine And.intro (by omega) ?_ | refine And.intro (by simp only [List.length_append,yBa,yBb,pduRows_length]; omega) ?_)
          (refine endD_intro (by decide +kernel) ?_; simp only [go_sem,zA,zB,zC,zD,zE,zF,zG,zH,zI,zJ,zK,zL,zM,zN,zO,zP,↓reduceIte,reduceCtorEq,hw,Tryz.ntmps57,Tryz.results57])
          rw [show putW b q f = ⟨b.u,b.h ++ [q]⟩ by simp [putW,h2,h4]] at hrec hpl
          refine ⟨L.a.u.length - (i + 1),_,by omega,?_,i + 1,r',⟨b.u,b.h ++ [q]⟩,m + 1,vc',(vd' + 1),by omega,rfl,hf1,hrec,by omega,by omega,rfl⟩
          refine .seq (s := rawSt fates L.s r' p (m + 1) n [(83,.own 101 va),(84,PI L.a.u.length),(85,PI ((i + 1 : Nat) : Int))] [.own 105 0,.own 102 vb] [.own 103 vc',.own 104 (vd' + 1)] ([arrP 101 L.a.u va,arrP 105 [] 0,arrP 102 L.a.h vb,arrP 103 (b.u) vc',arrP 104 (b.h ++ [q]) (vd' + 1)])) (by simp only [go_sem,zA,zB,zC,zD,zE,zF,zG,zH,zI,zJ,zK,zL,zM,zN,zO,zP,↓reduceIte,reduceCtorEq,rawSt,lkSt,in1St,in2St,nilS,arrP,fnF,fnT,fnP,rcv0,Snd.zero,Rcv.cells,Snd.cells,Pdu.cells,St.sw,envSw,hpSw,PV.sw,swL,Blk.sw,swp,yBd,yBe,pduRows_nil,pduRows_one,pduRows_append,yBc,yBf,rowsB_nil,freshR] <;> (first | rfl | exact ⟨rfl,rfl⟩ | exact ⟨rfl,rfl,rfl⟩ | exact ⟨rfl,rfl,rfl,rfl⟩)) ?_
          exact .weak (by simp only [go_sem,zA,zB,zC,zD,zE,zF,zG,zH,zI,zJ,zK,zL,zM,zN,zO,zP,↓reduceIte,reduceCtorEq,rawSt,lkSt,in1St,in2St,nilS,arrP,fnF,fnT,fnP,rcv0,Snd.zero,Rcv.cells,Snd.cells,Pdu.cells,St.sw,envSw,hpSw,PV.sw,swL,Blk.sw,swp,yBd,yBe,pduRows_nil,pduRows_one,pduRows_append,yBc,yBf,rowsB_nil,freshR] <;> (first | rfl | exact ⟨rfl,rfl⟩ | exact ⟨rfl,rfl,rfl⟩ | exact ⟨rfl,rfl,rfl,rfl⟩))
        have f4 : decide (f = 4) = false := by simpa using h4
        by_cases h3 : f = 3
        · have f3 : decide (f = 3) = true := by simpa using h3
          simp only [go_sem,zA,zB,zC,zD,zE,zF,zG,zH,zI,zJ,zK,zL,zM,zN,zO,zP,↓reduceIte,reduceCtorEq,f2,f4,f3,hw,Tryz.ntmps57,Tryz.results57]
          repeat (first | refine And.intro (by omega) ?_ | refine And.intro (by simp only [List.length_append,yBa,yBb,pduRows_length]; omega) ?_)
          (refine endD_intro (by decide +kernel) ?_; simp only [go_sem,zA,zB,zC,zD,zE,zF,zG,zH,zI,zJ,zK,zL,zM,zN,zO,zP,↓reduceIte,reduceCtorEq,hw,Tryz.ntmps57,Tryz.results57])
          repeat (first | refine And.intro (by omega) ?_ | refine And.intro (by simp only [List.length_append,yBa,yBb,pduRows_length]; omega) ?_)
          (refine endD_intro (by decide +kernel) ?_; simp only [go_sem,zA,zB,zC,zD,zE,zF,zG,zH,zI,zJ,zK,zL,zM,zN,zO,zP,↓reduceIte,reduceCtorEq,hw,Tryz.ntmps57,Tryz.results57])
          rw [show putW b q f = ⟨b.u ++ [q] ++ [q] ++ b.h,[]⟩ by simp [putW,h2,h4,h3]] at hrec hpl
          refine ⟨L.a.u.length - (i + 1),_,by omega,?_,i + 1,r',⟨b.u ++ [q] ++ [q] ++ b.h,[]⟩,m + 1,(vc' + 3),0,by omega,rfl,hf1,hrec,by omega,by omega,rfl⟩
          refine .seq (s := rawSt fates L.s r' p (m + 1) n [(83,.own 101 va),(84,PI L.a.u.length),(85,PI ((i + 1 : Nat) : Int))] [.own 105 0,.own 102 vb] [.own 103 (vc' + 3),nilS] ([arrP 101 L.a.u va,arrP 105 [] 0,arrP 102 L.a.h vb,arrP 103 (b.u ++ [q] ++ [q] ++ b.h) (vc' + 3)])) (by simp only [go_sem,zA,zB,zC,zD,zE,zF,zG,zH,zI,zJ,zK,zL,zM,zN,zO,zP,↓reduceIte,reduceCtorEq,rawSt,lkSt,in1St,in2St,nilS,arrP,fnF,fnT,fnP,rcv0,Snd.zero,Rcv.cells,Snd.cells,Pdu.cells,St.sw,envSw,hpSw,PV.sw,swL,Blk.sw,swp,yBd,yBe,pduRows_nil,pduRows_one,pduRows_append,yBc,yBf,rowsB_nil,freshR] <;> (first | rfl | exact ⟨rfl,rfl⟩ | exact ⟨rfl,rfl,rfl⟩ | exact ⟨rfl,rfl,rfl,rfl⟩)) ?_
          refine .nil 12 1 104 70 7 76 _ rfl rfl rfl ?_
          exact .weak (by simp only [go_sem,zA,zB,zC,zD,zE,zF,zG,zH,zI,zJ,zK,zL,zM,zN,zO,zP,↓reduceIte,reduceCtorEq,rawSt,lkSt,in1St,in2St,nilS,arrP,fnF,fnT,fnP,rcv0,Snd.zero,Rcv.cells,Snd.cells,Pdu.cells,St.sw,envSw,hpSw,PV.sw,swL,Blk.sw,swp,yBd,yBe,pduRows_nil,pduRows_one,pduRows_append,yBc,yBf,rowsB_nil,freshR] <;> (first | rfl | exact ⟨rfl,rfl⟩ | exact ⟨rfl,rfl,rfl⟩ | exact ⟨rfl,rfl,rfl,rfl⟩))
        have f3 : decide (f = 3) = false := by simpa using h3
        simp only [go_sem,zA,zB,zC,zD,zE,zF,zG,zH,zI,zJ,zK,zL,zM,zN,zO,zP,↓reduceIte,reduceCtorEq,f2,f4,f3,hw,Tryz.ntmps57,Tryz.results57]
        repeat (first | refine And.intro (by omega) ?_ | refine And.intro (by simp only [List.length_append,yBa,yBb,pduRows_length]; omega) ?_)
        (refine endD_intro (by decide +kernel) ?_; simp only [go_sem,zA,zB,zC,zD,zE,zF,zG,zH,zI,zJ,zK,zL,zM,zN,zO,zP,↓reduceIte,reduceCtorEq,hw,Tryz.ntmps57,Tryz.results57])
        rw [show putW b q f = ⟨b.u ++ [q] ++ b.h,[]⟩ by simp [putW,h2,h4,h3]] at hrec hpl
        refine ⟨L.a.u.length - (i + 1),_,by omega,?_,i + 1,r',⟨b.u ++ [q] ++ b.h,[]⟩,m + 1,(vc' + 2),0,by omega,rfl,hf1,hrec,by omega,by omega,rfl⟩
        refine .seq (s := rawSt fates L.s r' p (m + 1) n [(83,.own 101 va),(84,PI L.a.u.length),(85,PI ((i + 1 : Nat) : Int))] [.own 105 0,.own 102 vb] [.own 103 (vc' + 2),nilS] ([arrP 101 L.a.u va,arrP 105 [] 0,arrP 102 L.a.h vb,arrP 103 (b.u ++ [q] ++ b.h) (vc' + 2)])) (by simp only [go_sem,zA,zB,zC,zD,zE,zF,zG,zH,zI,zJ,zK,zL,zM,zN,zO,zP,↓reduceIte,reduceCtorEq,rawSt,lkSt,in1St,in2St,nilS,arrP,fnF,fnT,fnP,rcv0,Snd.zero,Rcv.cells,Snd.cells,Pdu.cells,St.sw,envSw,hpSw,PV.sw,swL,Blk.sw,swp,yBd,yBe,pduRows_nil,pduRows_one,pduRows_append,yBc,yBf,rowsB_nil,freshR] <;> (first | rfl | exact ⟨rfl,rfl⟩ | exact ⟨rfl,rfl,rfl⟩ | exact ⟨rfl,rfl,rfl,rfl⟩)) ?_
        refine .nil 12 1 104 70 7 76 _ rfl rfl rfl ?_
        exact .weak (by simp only [go_sem,zA,zB,zC,zD,zE,zF,zG,zH,zI,zJ,zK,zL,zM,zN,zO,zP,↓reduceIte,reduceCtorEq,rawSt,lkSt,in1St,in2St,nilS,arrP,fnF,fnT,fnP,rcv0,Snd.zero,Rcv.cells,Snd.cells,Pdu.cells,St.sw,envSw,hpSw,PV.sw,swL,Blk.sw,swp,yBd,yBe,pduRows_nil,pduRows_one,pduRows_append,yBc,yBf,rowsB_nil,freshR] <;> (first | rfl | exact ⟨rfl,rfl⟩ | exact ⟨rfl,rfl,rfl⟩ | exact ⟨rfl,rfl,rfl,rfl⟩))
    have hix : i = L.a.u.length := by omega
    rw [hix,List.drop_length,recvAll] at hrec
    have g1 : decide ((i : Int) < (L.a.u.length : Int)) = false := by simp; omega
    simp only [go_sem,zA,zB,zC,zD,zE,zF,zG,zH,zI,zJ,zK,zL,zM,zN,zO,zP,↓reduceIte,reduceCtorEq,rawSt,lkSt,in1St,in2St,nilS,arrP,fnF,fnT,fnP,yBl,yBc,g1]
    refine CallA.into tabOK mixed Tryz.func56 rfl rfl (by decide +kernel) (by simp [Tryz.ntmps56]) ?_
    simp only [go_sem,zA,zB,zC,zD,zE,zF,zG,zH,zI,zJ,zK,zL,zM,zN,zO,zP,↓reduceIte,reduceCtorEq,Tryz.ntmps56,Tryz.results56,Tryz.ntmps41,Tryz.results41]
    refine wpA_loopS (in2I fates L.a.h p n vb r b m vc' vd' (takeAll b.u L.s)) ⟨_,_,?_,0,L.s,by omega,rfl,hss,by rw [List.drop_zero],rfl⟩ ?_
    · refine .seq (s := rawSt fates L.s r p m n [(103,.own 103 vc'),(104,PI b.u.length),(105,PI ((0 : Nat) : Int))] [.own 105 0,.own 102 vb] [nilS,.own 104 vd'] [arrP 105 [] 0,arrP 102 L.a.h vb,arrP 103 b.u vc',arrP 104 b.h vd']) (by simp only [go_sem,zA,zB,zC,zD,zE,zF,zG,zH,zI,zJ,zK,zL,zM,zN,zO,zP,↓reduceIte,reduceCtorEq,rawSt,lkSt,in1St,in2St,nilS,arrP,fnF,fnT,fnP,rcv0,Snd.zero,Rcv.cells,Snd.cells,Pdu.cells,St.sw,envSw,hpSw,PV.sw,swL,Blk.sw,swp,yBd,yBe,pduRows_nil,pduRows_one,pduRows_append,yBc,yBf,rowsB_nil,freshR] <;> (first | rfl | exact ⟨rfl,rfl⟩ | exact ⟨rfl,rfl,rfl⟩ | exact ⟨rfl,rfl,rfl,rfl⟩)) ?_
      refine .nil 12 0 106 70 7 76 _ rfl rfl rfl ?_
      exact .weak (by simp only [go_sem,zA,zB,zC,zD,zE,zF,zG,zH,zI,zJ,zK,zL,zM,zN,zO,zP,↓reduceIte,reduceCtorEq,rawSt,lkSt,in1St,in2St,nilS,arrP,fnF,fnT,fnP,rcv0,Snd.zero,Rcv.cells,Snd.cells,Pdu.cells,St.sw,envSw,hpSw,PV.sw,swL,Blk.sw,swp,yBd,yBe,pduRows_nil,pduRows_one,pduRows_append,yBc,yBf,rowsB_nil,freshR] <;> (first | rfl | exact ⟨rfl,rfl⟩ | exact ⟨rfl,rfl,rfl⟩ | exact ⟨rfl,rfl,rfl,rfl⟩))
    rintro mm st ⟨j,s,hj,rfl,hs,htk,rfl⟩
    by_cases hcj : j < b.u.length
    · have g2 : decide ((j : Int) < (b.u.length : Int)) = true := by simp; omega
      have f1' : (j : Int) < (b.u.length : Int) := by omega
      have f0 : (0 : Int) ≤ (j : Int) := by omega
      have hw := wrapIN (i := j) (by omega)
      have hrow := pduRows_at hcj
      rw [List.drop_eq_getElem_cons hcj,takeAll] at htk
      generalize b.u[j] = pi at hrow htk
      have c1 := take_calls s pi
      have hs1 := take_sound hs pi
      generalize takeS s pi = s' at c1 hs1 htk
      simp only [go_sem,zA,zB,zC,zD,zE,zF,zG,zH,zI,zJ,zK,zL,zM,zN,zO,zP,↓reduceIte,reduceCtorEq,rawSt,lkSt,in1St,in2St,nilS,arrP,fnF,fnT,fnP,yBl,yBc,g2,f1',f0,yCa,hrow]
      refine ⟨hcj,?_⟩
      (refine CallA.pure (c1) (by simp only [go_sem,zA,zB,zC,zD,zE,zF,zG,zH,zI,zJ,zK,zL,zM,zN,zO,zP,↓reduceIte,reduceCtorEq,Snd.pv,Pdu.pv,hw] <;> first | rfl | decide) ?_; simp only [go_sem,zA,zB,zC,zD,zE,zF,zG,zH,zI,zJ,zK,zL,zM,zN,zO,zP,↓reduceIte,reduceCtorEq,Snd.pv,Pdu.pv,hw])
      refine ⟨b.u.length - (j + 1),_,by omega,?_,j + 1,s',by omega,rfl,hs1,htk,rfl⟩
      exact .weak (by simp only [go_sem,zA,zB,zC,zD,zE,zF,zG,zH,zI,zJ,zK,zL,zM,zN,zO,zP,↓reduceIte,reduceCtorEq,rawSt,lkSt,in1St,in2St,nilS,arrP,fnF,fnT,fnP,rcv0,Snd.zero,Rcv.cells,Snd.cells,Pdu.cells,St.sw,envSw,hpSw,PV.sw,swL,Blk.sw,swp,yBd,yBe,pduRows_nil,pduRows_one,pduRows_append,yBc,yBf,rowsB_nil,freshR] <;> (first | rfl | exact ⟨rfl,rfl⟩ | exact ⟨rfl,rfl,rfl⟩ | exact ⟨rfl,rfl,rfl,rfl⟩))
    have hjx : j = b.u.length := by omega
    rw [hjx,List.drop_length,takeAll] at htk
    have g2 : decide ((j : Int) < (b.u.length : Int)) = false := by simp; omega
    have cNx := next_calls s hs.1.1
    have cTk := tick_calls (nextS s)
    have cTr := tickT_at r
    have hwn := wrapIN (i := n) (by omega)
    have hT : tickL fates L = ⟨tickS (nextS s),tickV r,if s.goes then putW ⟨[],L.a.h⟩ (nextP s) (fateL fates m) else ⟨[],L.a.h⟩,⟨[],b.h⟩,if s.goes then m + 1 else m⟩ := by
      unfold tickL
      rw [← hrec]
      simp only [← htk]
    simp only [go_sem,zA,zB,zC,zD,zE,zF,zG,zH,zI,zJ,zK,zL,zM,zN,zO,zP,↓reduceIte,reduceCtorEq,rawSt,lkSt,in1St,in2St,nilS,arrP,fnF,fnT,fnP,yBl,yBc,g2]
    (refine CallA.pure (cNx) (by simp only [go_sem,zA,zB,zC,zD,zE,zF,zG,zH,zI,zJ,zK,zL,zM,zN,zO,zP,↓reduceIte,reduceCtorEq,Snd.pv,Pdu.pv] <;> first | rfl | decide) ?_; simp only [go_sem,zA,zB,zC,zD,zE,zF,zG,zH,zI,zJ,zK,zL,zM,zN,zO,zP,↓reduceIte,reduceCtorEq,Snd.pv,Pdu.pv])
    cases hg : s.goes with
    | false =>
      rw [hg] at hT
      have hT' : tickL fates L = ⟨tickS (nextS s),tickV r,⟨[],L.a.h⟩,⟨[],b.h⟩,m⟩ := by rw [hT]; rfl
      simp only [go_sem,zA,zB,zC,zD,zE,zF,zG,zH,zI,zJ,zK,zL,zM,zN,zO,zP,↓reduceIte,reduceCtorEq]
      (refine callD_pure (cTk) (by simp only [go_sem,zA,zB,zC,zD,zE,zF,zG,zH,zI,zJ,zK,zL,zM,zN,zO,zP,↓reduceIte,reduceCtorEq,Snd.pv] <;> first | rfl | decide) ?_; simp only [go_sem,zA,zB,zC,zD,zE,zF,zG,zH,zI,zJ,zK,zL,zM,zN,zO,zP,↓reduceIte,reduceCtorEq,Snd.pv])
      (refine callD_pure (cTr) (by simp only [go_sem,zA,zB,zC,zD,zE,zF,zG,zH,zI,zJ,zK,zL,zM,zN,zO,zP,↓reduceIte,reduceCtorEq,Rcv.pv] <;> first | rfl | decide) ?_; simp only [go_sem,zA,zB,zC,zD,zE,zF,zG,zH,zI,zJ,zK,zL,zM,zN,zO,zP,↓reduceIte,reduceCtorEq,Rcv.pv])
      (refine endD_intro (by decide +kernel) ?_; simp only [go_sem,zA,zB,zC,zD,zE,zF,zG,zH,zI,zJ,zK,zL,zM,zN,zO,zP,↓reduceIte,reduceCtorEq,hwn])
      refine ⟨100000 - (n + 1),_,by omega,?_,n + 1,tickL fates L,nextP s,0,vb,0,vd',by omega,rfl,hI'.tick,hX',rfl⟩
      rw [hT']
      refine .seq (s := rawSt fates (tickS (nextS s)) (tickV r) (nextP s) m (n + 1) [] [.own 105 0,.own 102 vb] [.own 106 0,.own 104 vd'] ([arrP 105 ([]) 0,arrP 106 [] 0,arrP 104 b.h vd',arrP 102 (L.a.h) vb])) (by simp only [go_sem,zA,zB,zC,zD,zE,zF,zG,zH,zI,zJ,zK,zL,zM,zN,zO,zP,↓reduceIte,reduceCtorEq,rawSt,lkSt,in1St,in2St,nilS,arrP,fnF,fnT,fnP,rcv0,Snd.zero,Rcv.cells,Snd.cells,Pdu.cells,St.sw,envSw,hpSw,PV.sw,swL,Blk.sw,swp,yBd,yBe,pduRows_nil,pduRows_one,pduRows_append,yBc,yBf,rowsB_nil,freshR] <;> (first | rfl | exact ⟨rfl,rfl⟩ | exact ⟨rfl,rfl,rfl⟩ | exact ⟨rfl,rfl,rfl,rfl⟩)) ?_
      refine .sw 105 101 (Nat.zero_le _) (Nat.zero_le _) ?_
      refine .sw 106 103 (Nat.zero_le _) (Nat.zero_le _) ?_
      exact .weak (by simp only [go_sem,zA,zB,zC,zD,zE,zF,zG,zH,zI,zJ,zK,zL,zM,zN,zO,zP,↓reduceIte,reduceCtorEq,rawSt,lkSt,in1St,in2St,nilS,arrP,fnF,fnT,fnP,rcv0,Snd.zero,Rcv.cells,Snd.cells,Pdu.cells,St.sw,envSw,hpSw,PV.sw,swL,Blk.sw,swp,yBd,yBe,pduRows_nil,pduRows_one,pduRows_append,yBc,yBf,rowsB_nil,freshR] <;> (first | rfl | exact ⟨rfl,rfl⟩ | exact ⟨rfl,rfl,rfl⟩ | exact ⟨rfl,rfl,rfl,rfl⟩))
    | true =>
      obtain ⟨f,hf⟩ : ∃ f,fateL fates m = f := ⟨_,rfl⟩
      simp only [go_sem,zA,zB,zC,zD,zE,zF,zG,zH,zI,zJ,zK,zL,zM,zN,zO,zP,↓reduceIte,reduceCtorEq]
      refine callD_eff (fate_at hf (by decide) (by omega) (by simp only [go_sem,zA,zB,zC,zD,zE,zF,zG,zH,zI,zJ,zK,zL,zM,zN,zO,zP,↓reduceIte,reduceCtorEq] <;> rfl) (by simp only [go_sem,zA,zB,zC,zD,zE,zF,zG,zH,zI,zJ,zK,zL,zM,zN,zO,zP,↓reduceIte,reduceCtorEq] <;> rfl)) ?_
      simp only [go_sem,zA,zB,zC,zD,zE,zF,zG,zH,zI,zJ,zK,zL,zM,zN,zO,zP,↓reduceIte,reduceCtorEq]
      refine callD_tail (by decide +kernel) (by decide +kernel) ?_
      simp only [go_sem,zA,zB,zC,zD,zE,zF,zG,zH,zI,zJ,zK,zL,zM,zN,zO,zP,↓reduceIte,reduceCtorEq]
      refine CallA.into tabOK mixed Tryz.func57 rfl rfl (by decide +kernel) (by simp [Tryz.ntmps57]) ?_
      simp only [go_sem,zA,zB,zC,zD,zE,zF,zG,zH,zI,zJ,zK,zL,zM,zN,zO,zP,↓reduceIte,reduceCtorEq,Tryz.ntmps57,Tryz.results57]
      by_cases h2 : f = 2
      · have f2 : decide (f = 2) = true := by simpa using h2
        simp only [go_sem,zA,zB,zC,zD,zE,zF,zG,zH,zI,zJ,zK,zL,zM,zN,zO,zP,↓reduceIte,reduceCtorEq,f2,Tryz.ntmps57,Tryz.results57]
        have hT' : tickL fates L = ⟨tickS (nextS s),tickV r,⟨[],L.a.h⟩,⟨[],b.h⟩,m + 1⟩ := by rw [hT,if_pos hg,if_pos hg,hf]; simp [putW,h2]
        (refine callD_pure (cTk) (by simp only [go_sem,zA,zB,zC,zD,zE,zF,zG,zH,zI,zJ,zK,zL,zM,zN,zO,zP,↓reduceIte,reduceCtorEq,Snd.pv] <;> first | rfl | decide) ?_; simp only [go_sem,zA,zB,zC,zD,zE,zF,zG,zH,zI,zJ,zK,zL,zM,zN,zO,zP,↓reduceIte,reduceCtorEq,Snd.pv])
        (refine callD_pure (cTr) (by simp only [go_sem,zA,zB,zC,zD,zE,zF,zG,zH,zI,zJ,zK,zL,zM,zN,zO,zP,↓reduceIte,reduceCtorEq,Rcv.pv] <;> first | rfl | decide) ?_; simp only [go_sem,zA,zB,zC,zD,zE,zF,zG,zH,zI,zJ,zK,zL,zM,zN,zO,zP,↓reduceIte,reduceCtorEq,Rcv.pv])
        (refine endD_intro (by decide +kernel) ?_; simp only [go_sem,zA,zB,zC,zD,zE,zF,zG,zH,zI,zJ,zK,zL,zM,zN,zO,zP,↓reduceIte,reduceCtorEq,hwn])
        refine ⟨100000 - (n + 1),_,by omega,?_,n + 1,tickL fates L,nextP s,0,vb,0,vd',by omega,rfl,hI'.tick,hX',rfl⟩
        rw [hT']
        refine .seq (s := rawSt fates (tickS (nextS s)) (tickV r) (nextP s) (m + 1) (n + 1) [] [.own 105 0,.own 102 vb] [.own 106 0,.own 104 vd'] ([arrP 105 ([]) 0,arrP 106 [] 0,arrP 104 b.h vd',arrP 102 (L.a.h) vb])) (by simp only [go_sem,zA,zB,zC,zD,zE,zF,zG,zH,zI,zJ,zK,zL,zM,zN,zO,zP,↓reduceIte,reduceCtorEq,rawSt,lkSt,in1St,in2St,nilS,arrP,fnF,fnT,fnP,rcv0,Snd.zero,Rcv.cells,Snd.cells,Pdu.cells,St.sw,envSw,hpSw,PV.sw,swL,Blk.sw,swp,yBd,yBe,pduRows_nil,pduRows_one,pduRows_append,yBc,yBf,rowsB_nil,freshR] <;> (first | rfl | exact ⟨rfl,rfl⟩ | exact ⟨rfl,rfl,rfl⟩ | exact ⟨rfl,rfl,rfl,rfl⟩)) ?_
        refine .sw 105 101 (Nat.zero_le _) (Nat.zero_le _) ?_
        refine .sw 106 103 (Nat.zero_le _) (Nat.zero_le _) ?_
        exact .weak (by simp only [go_sem,zA,zB,zC,zD,zE,zF,zG,zH,zI,zJ,zK,zL,zM,zN,zO,zP,↓reduceIte,reduceCtorEq,rawSt,lkSt,in1St,in2St,nilS,arrP,fnF,fnT,fnP,rcv0,Snd.zero,Rcv.cells,Snd.cells,Pdu.cells,St.sw,envSw,hpSw,PV.sw,swL,Blk.sw,swp,yBd,yBe,pduRows_nil,pduRows_one,pduRows_append,yBc,yBf,rowsB_nil,freshR] <;> (first | rfl | exact ⟨rfl,rfl⟩ | exact ⟨rfl,rfl,rfl⟩ | exact ⟨rfl,rfl,rfl,rfl⟩))
      have f2 : decide (f = 2) = false := by simpa using h2
      by_cases h4 : f = 4
      · have f4 : decide (f = 4) = true := by simpa using h4
        simp only [go_sem,zA,zB,zC,zD,zE,zF,zG,zH,zI,zJ,zK,zL,zM,zN,zO,zP,↓reduceIte,reduceCtorEq,f2,f4,Tryz.ntmps57,Tryz.results57]
        repeat (first | refine And.intro (by omega) ?_ | refine And.intro (by simp only [List.length_append,yBa,yBb,pduRows_length]; omega) ?_)
        (refine endD_intro (by decide +kernel) ?_; simp only [go_sem,zA,zB,zC,zD,zE,zF,zG,zH,zI,zJ,zK,zL,zM,zN,zO,zP,↓reduceIte,reduceCtorEq,Tryz.ntmps57,Tryz.results57])
        have hT' : tickL fates L = ⟨tickS (nextS s),tickV r,⟨[],L.a.h ++ [nextP s]⟩,⟨[],b.h⟩,m + 1⟩ := by rw [hT,if_pos hg,if_pos hg,hf]; simp [putW,h2,h4]
        (refine callD_pure (cTk) (by simp only [go_sem,zA,zB,zC,zD,zE,zF,zG,zH,zI,zJ,zK,zL,zM,zN,zO,zP,↓reduceIte,reduceCtorEq,Snd.pv] <;> first | rfl | decide) ?_; simp only [go_sem,zA,zB,zC,zD,zE,zF,zG,zH,zI,zJ,zK,zL,zM,zN,zO,zP,↓reduceIte,reduceCtorEq,Snd.pv])
        (refine callD_pure (cTr) (by simp only [go_sem,zA,zB,zC,zD,zE,zF,zG,zH,zI,zJ,zK,zL,zM,zN,zO,zP,↓reduceIte,reduceCtorEq,Rcv.pv] <;> first | rfl | decide) ?_; simp only [go_sem,zA,zB,zC,zD,zE,zF,zG,zH,zI,zJ,zK,zL,zM,zN,zO,zP,↓reduceIte,reduceCtorEq,Rcv.pv])
        (refine endD_intro (by decide +kernel) ?_; simp only [go_sem,zA,zB,zC,zD,zE,zF,zG,zH,zI,zJ,zK,zL,zM,zN,zO,zP,↓reduceIte,reduceCtorEq,hwn])
        refine ⟨100000 - (n + 1),_,by omega,?_,n + 1,tickL fates L,nextP s,0,(vb + 1),0,vd',by omega,rfl,hI'.tick,hX',rfl⟩
        rw [hT']
        refine .seq (s := rawSt fates (tickS (nextS s)) (tickV r) (nextP s) (m + 1) (n + 1) [] [.own 105 0,.own 102 (vb + 1)] [.own 106 0,.own 104 vd'] ([arrP 105 ([]) 0,arrP 106 [] 0,arrP 104 b.h vd',arrP 102 (L.a.h ++ [nextP s]) (vb + 1)])) (by simp only [go_sem,zA,zB,zC,zD,zE,zF,zG,zH,zI,zJ,zK,zL,zM,zN,zO,zP,↓reduceIte,reduceCtorEq,rawSt,lkSt,in1St,in2St,nilS,arrP,fnF,fnT,fnP,rcv0,Snd.zero,Rcv.cells,Snd.cells,Pdu.cells,St.sw,envSw,hpSw,PV.sw,swL,Blk.sw,swp,yBd,yBe,pduRows_nil,pduRows_one,pduRows_append,yBc,yBf,rowsB_nil,freshR] <;> (first | rfl | exact ⟨rfl,rfl⟩ | exact ⟨rfl,rfl,rfl⟩ | exact ⟨rfl,rfl,rfl,rfl⟩)) ?_
        refine .sw 105 101 (Nat.zero_le _) (Nat.zero_le _) ?_
        refine .sw 106 103 (Nat.zero_le _) (Nat.zero_le _) ?_
        exact .weak (by simp only [go_sem,zA,zB,zC,zD,zE,zF,zG,zH,zI,zJ,zK,zL,zM,zN,zO,zP,↓reduceIte,reduceCtorEq,rawSt,lkSt,in1St,in2St,nilS,arrP,fnF,fnT,fnP,rcv0,Snd.zero,Rcv.cells,Snd.cells,Pdu.cells,St.sw,envSw,hpSw,PV.sw,swL,Blk.sw,swp,yBd,yBe,pduRows_nil,pduRows_one,pduRows_append,yBc,yBf,rowsB_nil,freshR] <;> (first | rfl | exact ⟨rfl,rfl⟩ | exact ⟨rfl,rfl,rfl⟩ | exact ⟨rfl,rfl,rfl,rfl⟩))
      have f4 : decide (f = 4) = false := by simpa using h4
      by_cases h3 : f = 3
      · have f3 : decide (f = 3) = true := by simpa using h3
        simp only [go_sem,zA,zB,zC,zD,zE,zF,zG,zH,zI,zJ,zK,zL,zM,zN,zO,zP,↓reduceIte,reduceCtorEq,f2,f4,f3,Tryz.ntmps57,Tryz.results57]
        repeat (first | refine And.intro (by omega) ?_ | refine And.intro (by simp only [List.length_append,yBa,yBb,pduRows_length]; omega) ?_)
        (refine endD_intro (by decide +kernel) ?_; simp only [go_sem,zA,zB,zC,zD,zE,zF,zG,zH,zI,zJ,zK,zL,zM,zN,zO,zP,↓reduceIte,reduceCtorEq,Tryz.ntmps57,Tryz.results57])
        repeat (first | refine And.intro (by omega) ?_ | refine And.intro (by simp only [List.length_append,yBa,yBb,pduRows_length]; omega) ?_)
        (refine endD_intro (by decide +kernel) ?_; simp only [go_sem,zA,zB,zC,zD,zE,zF,zG,zH,zI,zJ,zK,zL,zM,zN,zO,zP,↓reduceIte,reduceCtorEq,Tryz.ntmps57,Tryz.results57])
        have hT' : tickL fates L = ⟨tickS (nextS s),tickV r,⟨[nextP s] ++ [nextP s] ++ L.a.h,[]⟩,⟨[],b.h⟩,m + 1⟩ := by rw [hT,if_pos hg,if_pos hg,hf]; simp [putW,h2,h4,h3]
        (refine callD_pure (cTk) (by simp only [go_sem,zA,zB,zC,zD,zE,zF,zG,zH,zI,zJ,zK,zL,zM,zN,zO,zP,↓reduceIte,reduceCtorEq,Snd.pv] <;> first | rfl | decide) ?_; simp only [go_sem,zA,zB,zC,zD,zE,zF,zG,zH,zI,zJ,zK,zL,zM,zN,zO,zP,↓reduceIte,reduceCtorEq,Snd.pv])
        (refine callD_pure (cTr) (by simp only [go_sem,zA,zB,zC,zD,zE,zF,zG,zH,zI,zJ,zK,zL,zM,zN,zO,zP,↓reduceIte,reduceCtorEq,Rcv.pv] <;> first | rfl | decide) ?_; simp only [go_sem,zA,zB,zC,zD,zE,zF,zG,zH,zI,zJ,zK,zL,zM,zN,zO,zP,↓reduceIte,reduceCtorEq,Rcv.pv])
        (refine endD_intro (by decide +kernel) ?_; simp only [go_sem,zA,zB,zC,zD,zE,zF,zG,zH,zI,zJ,zK,zL,zM,zN,zO,zP,↓reduceIte,reduceCtorEq,hwn])
        refine ⟨100000 - (n + 1),_,by omega,?_,n + 1,tickL fates L,nextP s,3,0,0,vd',by omega,rfl,hI'.tick,hX',rfl⟩
        rw [hT']
        refine .seq (s := rawSt fates (tickS (nextS s)) (tickV r) (nextP s) (m + 1) (n + 1) [] [.own 105 3,nilS] [.own 106 0,.own 104 vd'] ([arrP 105 ([nextP s] ++ [nextP s] ++ L.a.h) 3,arrP 106 [] 0,arrP 104 b.h vd'])) (by simp only [go_sem,zA,zB,zC,zD,zE,zF,zG,zH,zI,zJ,zK,zL,zM,zN,zO,zP,↓reduceIte,reduceCtorEq,rawSt,lkSt,in1St,in2St,nilS,arrP,fnF,fnT,fnP,rcv0,Snd.zero,Rcv.cells,Snd.cells,Pdu.cells,St.sw,envSw,hpSw,PV.sw,swL,Blk.sw,swp,yBd,yBe,pduRows_nil,pduRows_one,pduRows_append,yBc,yBf,rowsB_nil,freshR] <;> (first | rfl | exact ⟨rfl,rfl⟩ | exact ⟨rfl,rfl,rfl⟩ | exact ⟨rfl,rfl,rfl,rfl⟩)) ?_
        refine .nil 11 1 102 70 7 76 _ rfl rfl rfl ?_
        refine .sw 105 101 (Nat.zero_le _) (Nat.zero_le _) ?_
        refine .sw 106 103 (Nat.zero_le _) (Nat.zero_le _) ?_
        exact .weak (by simp only [go_sem,zA,zB,zC,zD,zE,zF,zG,zH,zI,zJ,zK,zL,zM,zN,zO,zP,↓reduceIte,reduceCtorEq,rawSt,lkSt,in1St,in2St,nilS,arrP,fnF,fnT,fnP,rcv0,Snd.zero,Rcv.cells,Snd.cells,Pdu.cells,St.sw,envSw,hpSw,PV.sw,swL,Blk.sw,swp,yBd,yBe,pduRows_nil,pduRows_one,pduRows_append,yBc,yBf,rowsB_nil,freshR] <;> (first | rfl | exact ⟨rfl,rfl⟩ | exact ⟨rfl,rfl,rfl⟩ | exact ⟨rfl,rfl,rfl,rfl⟩))
      have f3 : decide (f = 3) = false := by simpa using h3
      simp only [go_sem,zA,zB,zC,zD,zE,zF,zG,zH,zI,zJ,zK,zL,zM,zN,zO,zP,↓reduceIte,reduceCtorEq,f2,f4,f3,Tryz.ntmps57,Tryz.results57]
      repeat (first | refine And.intro (by omega) ?_ | refine And.intro (by simp only [List.length_append,yBa,yBb,pduRows_length]; omega) ?_)
      (refine endD_intro (by decide +kernel) ?_; simp only [go_sem,zA,zB,zC,zD,zE,zF,zG,zH,zI,zJ,zK,zL,zM,zN,zO,zP,↓reduceIte,reduceCtorEq,Tryz.ntmps57,Tryz.results57])
      have hT' : tickL fates L = ⟨tickS (nextS s),tickV r,⟨[nextP s] ++ L.a.h,[]⟩,⟨[],b.h⟩,m + 1⟩ := by rw [hT,if_pos hg,if_pos hg,hf]; simp [putW,h2,h4,h3]
      (refine callD_pure (cTk) (by simp only [go_sem,zA,zB,zC,zD,zE,zF,zG,zH,zI,zJ,zK,zL,zM,zN,zO,zP,↓reduceIte,reduceCtorEq,Snd.pv] <;> first | rfl | decide) ?_; simp only [go_sem,zA,zB,zC,zD,zE,zF,zG,zH,zI,zJ,zK,zL,zM,zN,zO,zP,↓reduceIte,reduceCtorEq,Snd.pv])
      (refine callD_pure (cTr) (by simp only [go_sem,zA,zB,zC,zD,zE,zF,zG,zH,zI,zJ,zK,zL,zM,zN,zO,zP,↓reduceIte,reduceCtorEq,Rcv.pv] <;> first | rfl | decide) ?_; simp only [go_sem,zA,zB,zC,zD,zE,zF,zG,zH,zI,zJ,zK,zL,zM,zN,zO,zP,↓reduceIte,reduceCtorEq,Rcv.pv])
      (refine endD_intro (by decide +kernel) ?_; simp only [go_sem,zA,zB,zC,zD,zE,zF,zG,zH,zI,zJ,zK,zL,zM,zN,zO,zP,↓reduceIte,reduceCtorEq,hwn])
      refine ⟨100000 - (n + 1),_,by omega,?_,n + 1,tickL fates L,nextP s,2,0,0,vd',by omega,rfl,hI'.tick,hX',rfl⟩
      rw [hT']
      refine .seq (s := rawSt fates (tickS (nextS s)) (tickV r) (nextP s) (m + 1) (n + 1) [] [.own 105 2,nilS] [.own 106 0,.own 104 vd'] ([arrP 105 ([nextP s] ++ L.a.h) 2,arrP 106 [] 0,arrP 104 b.h vd'])) (by simp only [go_sem,zA,zB,zC,zD,zE,zF,zG,zH,zI,zJ,zK,zL,zM,zN,zO,zP,↓reduceIte,reduceCtorEq,rawSt,lkSt,in1St,in2St,nilS,arrP,fnF,fnT,fnP,rcv0,Snd.zero,Rcv.cells,Snd.cells,Pdu.cells,St.sw,envSw,hpSw,PV.sw,swL,Blk.sw,swp,yBd,yBe,pduRows_nil,pduRows_one,pduRows_append,yBc,yBf,rowsB_nil,freshR] <;> (first | rfl | exact ⟨rfl,rfl⟩ | exact ⟨rfl,rfl,rfl⟩ | exact ⟨rfl,rfl,rfl,rfl⟩)) ?_
      refine .nil 11 1 102 70 7 76 _ rfl rfl rfl ?_
      refine .sw 105 101 (Nat.zero_le _) (Nat.zero_le _) ?_
      refine .sw 106 103 (Nat.zero_le _) (Nat.zero_le _) ?_
      exact .weak (by simp only [go_sem,zA,zB,zC,zD,zE,zF,zG,zH,zI,zJ,zK,zL,zM,zN,zO,zP,↓reduceIte,reduceCtorEq,rawSt,lkSt,in1St,in2St,nilS,arrP,fnF,fnT,fnP,rcv0,Snd.zero,Rcv.cells,Snd.cells,Pdu.cells,St.sw,envSw,hpSw,PV.sw,swL,Blk.sw,swp,yBd,yBe,pduRows_nil,pduRows_one,pduRows_append,yBc,yBf,rowsB_nil,freshR] <;> (first | rfl | exact ⟨rfl,rfl⟩ | exact ⟨rfl,rfl,rfl⟩ | exact ⟨rfl,rfl,rfl,rfl⟩))
  have g4 : decide (L.s.st = 4) = false := by simp [h4]
  have hnd : doneL L = false := by rw [doneL,g3,g4]; rfl
  rw [hnd] at hX
  have hX' : runL fates (100000 - (n + 1)) (n + 1) (tickL fates L) = X := by rw [show 100000 - (n + 1) = k by omega]; simpa using hX
  simp only [go_sem,zA,zB,zC,zD,zE,zF,zG,zH,zI,zJ,zK,zL,zM,zN,zO,zP,↓reduceIte,reduceCtorEq,rawSt,lkSt,in1St,in2St,nilS,arrP,fnF,fnT,fnP,yBl,yBc,f1,hwz,g3,g4]
  refine CallA.into tabOK mixed Tryz.func56 rfl rfl (by decide +kernel) (by simp [Tryz.ntmps56]) ?_
  simp only [go_sem,zA,zB,zC,zD,zE,zF,zG,zH,zI,zJ,zK,zL,zM,zN,zO,zP,↓reduceIte,reduceCtorEq,Tryz.ntmps56,Tryz.results56,Tryz.ntmps41,Tryz.results41]
  refine wpA_loopS (in1I fates L p n va vb (recvAll fates L.a.u L.r L.b L.m)) ⟨_,_,?_,0,L.r,L.b,L.m,vc,vd,by omega,rfl,hrf',by rw [List.drop_zero],by omega,by omega,rfl⟩ ?_
  · refine .seq (s := rawSt fates L.s L.r p L.m n [(83,.own 101 va),(84,PI L.a.u.length),(85,PI ((0 : Nat) : Int))] [nilS,.own 102 vb] [.own 103 vc,.own 104 vd] [arrP 101 L.a.u va,arrP 102 L.a.h vb,arrP 103 L.b.u vc,arrP 104 L.b.h vd]) (by simp only [go_sem,zA,zB,zC,zD,zE,zF,zG,zH,zI,zJ,zK,zL,zM,zN,zO,zP,↓reduceIte,reduceCtorEq,rawSt,lkSt,in1St,in2St,nilS,arrP,fnF,fnT,fnP,rcv0,Snd.zero,Rcv.cells,Snd.cells,Pdu.cells,St.sw,envSw,hpSw,PV.sw,swL,Blk.sw,swp,yBd,yBe,pduRows_nil,pduRows_one,pduRows_append,yBc,yBf,rowsB_nil,freshR] <;> (first | rfl | exact ⟨rfl,rfl⟩ | exact ⟨rfl,rfl,rfl⟩ | exact ⟨rfl,rfl,rfl,rfl⟩)) ?_
    refine .nil 11 0 105 70 7 76 _ rfl rfl rfl ?_
    exact .weak (by simp only [go_sem,zA,zB,zC,zD,zE,zF,zG,zH,zI,zJ,zK,zL,zM,zN,zO,zP,↓reduceIte,reduceCtorEq,rawSt,lkSt,in1St,in2St,nilS,arrP,fnF,fnT,fnP,rcv0,Snd.zero,Rcv.cells,Snd.cells,Pdu.cells,St.sw,envSw,hpSw,PV.sw,swL,Blk.sw,swp,yBd,yBe,pduRows_nil,pduRows_one,pduRows_append,yBc,yBf,rowsB_nil,freshR] <;> (first | rfl | exact ⟨rfl,rfl⟩ | exact ⟨rfl,rfl,rfl⟩ | exact ⟨rfl,rfl,rfl,rfl⟩))
  rintro mm st ⟨i,r,b,m,vc',vd',hi,rfl,hr,hrec,hb1,hm1,rfl⟩
  have hbl : b.len = b.u.length + b.h.length := rfl
  by_cases hci : i < L.a.u.length
  · have g1 : decide ((i : Int) < (L.a.u.length : Int)) = true := by simp; omega
    have f1' : (i : Int) < (L.a.u.length : Int) := by omega
    have f0 : (0 : Int) ≤ (i : Int) := by omega
    have hw := wrapIN (i := i) (by omega)
    have hrow := pduRows_at hci
    have hpr := hgd.1 _ (List.getElem_mem hci)
    rw [List.drop_eq_getElem_cons hci,recvAll] at hrec
    generalize L.a.u[i] = pi at hrow hpr hrec
    have c1 := takeT_calls r pi hr hpr
    have hf1 := fine_recv hr hpr
    generalize recvV r pi = x at c1 hf1 hrec
    obtain ⟨r',q,bb⟩ := x
    simp only at c1 hf1 hrec
    simp only [go_sem,zA,zB,zC,zD,zE,zF,zG,zH,zI,zJ,zK,zL,zM,zN,zO,zP,↓reduceIte,reduceCtorEq,rawSt,lkSt,in1St,in2St,nilS,arrP,fnF,fnT,fnP,yBl,yBc,g1,f1',f0,yCa,hrow]
    refine ⟨hci,?_⟩
    (refine CallA.pure (c1) (by simp only [go_sem,zA,zB,zC,zD,zE,zF,zG,zH,zI,zJ,zK,zL,zM,zN,zO,zP,↓reduceIte,reduceCtorEq,Rcv.pv,Pdu.pv] <;> first | rfl | decide) ?_; simp only [go_sem,zA,zB,zC,zD,zE,zF,zG,zH,zI,zJ,zK,zL,zM,zN,zO,zP,↓reduceIte,reduceCtorEq,Rcv.pv,Pdu.pv])
    cases bb with
    | false =>
      simp only [Bool.false_eq_true,if_false] at hrec
      simp only [go_sem,zA,zB,zC,zD,zE,zF,zG,zH,zI,zJ,zK,zL,zM,zN,zO,zP,↓reduceIte,reduceCtorEq,hw]
      refine ⟨L.a.u.length - (i + 1),_,by omega,?_,i + 1,r',b,m,vc',vd',by omega,rfl,hf1,hrec,by omega,by omega,rfl⟩
      exact .weak (by simp only [go_sem,zA,zB,zC,zD,zE,zF,zG,zH,zI,zJ,zK,zL,zM,zN,zO,zP,↓reduceIte,reduceCtorEq,rawSt,lkSt,in1St,in2St,nilS,arrP,fnF,fnT,fnP,rcv0,Snd.zero,Rcv.cells,Snd.cells,Pdu.cells,St.sw,envSw,hpSw,PV.sw,swL,Blk.sw,swp,yBd,yBe,pduRows_nil,pduRows_one,pduRows_append,yBc,yBf,rowsB_nil,freshR] <;> (first | rfl | exact ⟨rfl,rfl⟩ | exact ⟨rfl,rfl,rfl⟩ | exact ⟨rfl,rfl,rfl,rfl⟩))
    | true =>
      simp only [if_true] at hrec
      obtain ⟨f,hf⟩ : ∃ f,fateL fates m = f := ⟨_,rfl⟩
      rw [hf] at hrec
      have hpl := putW_len b q f
      simp only [go_sem,zA,zB,zC,zD,zE,zF,zG,zH,zI,zJ,zK,zL,zM,zN,zO,zP,↓reduceIte,reduceCtorEq]
      refine callD_eff (fate_at hf (by decide) (by omega) (by simp only [go_sem,zA,zB,zC,zD,zE,zF,zG,zH,zI,zJ,zK,zL,zM,zN,zO,zP,↓reduceIte,reduceCtorEq] <;> rfl) (by simp only [go_sem,zA,zB,zC,zD,zE,zF,zG,zH,zI,zJ,zK,zL,zM,zN,zO,zP,↓reduceIte,reduceCtorEq] <;> rfl)) ?_
      simp only [go_sem,zA,zB,zC,zD,zE,zF,zG,zH,zI,zJ,zK,zL,zM,zN,zO,zP,↓reduceIte,reduceCtorEq]
      refine callD_tail (by decide +kernel) (by decide +kernel) ?_
      simp only [go_sem,zA,zB,zC,zD,zE,zF,zG,zH,zI,zJ,zK,zL,zM,zN,zO,zP,↓reduceIte,reduceCtorEq]
      refine CallA.into tabOK mixed Tryz.func57 rfl rfl (by decide +kernel) (by simp [Tryz.ntmps57]) ?_
      simp only [go_sem,zA,zB,zC,zD,zE,zF,zG,zH,zI,zJ,zK,zL,zM,zN,zO,zP,↓reduceIte,reduceCtorEq,Tryz.ntmps57,Tryz.results57,hw]
      by_cases h2 : f = 2
      · have f2 : decide (f = 2) = true := by simpa using h2
        simp only [go_sem,zA,zB,zC,zD,zE,zF,zG,zH,zI,zJ,zK,zL,zM,zN,zO,zP,↓reduceIte,reduceCtorEq,f2,hw,Tryz.ntmps57,Tryz.results57]
        rw [show putW b q f = ⟨b.u,b.h⟩ by simp [putW,h2]] at hrec hpl
        refine ⟨L.a.u.length - (i + 1),_,by omega,?_,i + 1,r',⟨b.u,b.h⟩,m + 1,vc',vd',by omega,rfl,hf1,hrec,by omega,by omega,rfl⟩
        refine .seq (s := rawSt fates L.s r' p (m + 1) n [(83,.own 101 va),(84,PI L.a.u.length),(85,PI ((i + 1 : Nat) : Int))] [.own 105 0,.own 102 vb] [.own 103 vc',.own 104 vd'] ([arrP 101 L.a.u va,arrP 105 [] 0,arrP 102 L.a.h vb,arrP 103 (b.u) vc',arrP 104 (b.h) vd'])) (by simp only [go_sem,zA,zB,zC,zD,zE,zF,zG,zH,zI,zJ,zK,zL,zM,zN,zO,zP,↓reduceIte,reduceCtorEq,rawSt,lkSt,in1St,in2St,nilS,arrP,fnF,fnT,fnP,rcv0,Snd.zero,Rcv.cells,Snd.cells,Pdu.cells,St.sw,envSw,hpSw,PV.sw,swL,Blk.sw,swp,yBd,yBe,pduRows_nil,pduRows_one,pduRows_append,yBc,yBf,rowsB_nil,freshR] <;> (first | rfl | exact ⟨rfl,rfl⟩ | exact ⟨rfl,rfl,rfl⟩ | exact ⟨rfl,rfl,rfl,rfl⟩)) ?_
        exact .weak (by simp only [go_sem,zA,zB,zC,zD,zE,zF,zG,zH,zI,zJ,zK,zL,zM,zN,zO,zP,↓reduceIte,reduceCtorEq,rawSt,lkSt,in1St,in2St,nilS,arrP,fnF,fnT,fnP,rcv0,Snd.zero,Rcv.cells,Snd.cells,Pdu.cells,St.sw,envSw,hpSw,PV.sw,swL,Blk.sw,swp,yBd,yBe,pduRows_nil,pduRows_one,pduRows_append,yBc,yBf,rowsB_nil,freshR] <;> (first | rfl | exact ⟨rfl,rfl⟩ | exact ⟨rfl,rfl,rfl⟩ | exact ⟨rfl,rfl,rfl,rfl⟩))
      have f2 : decide (f = 2) = false := by simpa using h2
      by_cases h4 : f = 4
      · have f4 : decide (f = 4) = true := by simpa using h4
        simp only [go_sem,zA,zB,zC,zD,zE,zF,zG,zH,zI,zJ,zK,zL,zM,zN,zO,zP,↓reduceIte,reduceCtorEq,f2,f4,hw,Tryz.ntmps57,Tryz.results57]
        repeat (first | refine And.intro (by omega) ?_ | refine And.intro (by simp only [List.length_append,yBa,yBb,pduRows_length]; omega) ?_)
        (refine endD_intro (by decide +kernel) ?_; simp only [go_sem,zA,zB,zC,zD,zE,zF,zG,zH,zI,zJ,zK,zL,zM,zN,zO,zP,↓reduceIte,reduceCtorEq,hw,Tryz.ntmps57,Tryz.results57])
        rw [show putW b q f = ⟨b.u,b.h ++ [q]⟩ by simp [putW,h2,h4]] at hrec hpl
        refine ⟨L.a.u.length - (i + 1),_,by omega,?_,i + 1,r',⟨b.u,b.h ++ [q]⟩,m + 1,vc',(vd' + 1),by omega,rfl,hf1,hrec,by omega,by omega,rfl⟩
        refine .seq (s := rawSt fates L.s r' p (m + 1) n [(83,.own 101 va),(84,PI L.a.u.length),(85,PI ((i + 1 : Nat) : Int))] [.own 105 0,.own 102 vb] [.own 103 vc',.own 104 (vd' + 1)] ([arrP 101 L.a.u va,arrP 105 [] 0,arrP 102 L.a.h vb,arrP 103 (b.u) vc',arrP 104 (b.h ++ [q]) (vd' + 1)])) (by simp only [go_sem,zA,zB,zC,zD,zE,zF,zG,zH,zI,zJ,zK,zL,zM,zN,zO,zP,↓reduceIte,reduceCtorEq,rawSt,lkSt,in1St,in2St,nilS,arrP,fnF,fnT,fnP,rcv0,Snd.zero,Rcv.cells,Snd.cells,Pdu.cells,St.sw,envSw,hpSw,PV.sw,swL,Blk.sw,swp,yBd,yBe,pduRows_nil,pduRows_one,pduRows_append,yBc,yBf,rowsB_nil,freshR] <;> (first | rfl | exact ⟨rfl,rfl⟩ | exact ⟨rfl,rfl,rfl⟩ | exact ⟨rfl,rfl,rfl,rfl⟩)) ?_
        exact .weak (by simp only [go_sem,zA,zB,zC,zD,zE,zF,zG,zH,zI,zJ,zK,zL,zM,zN,zO,zP,↓reduceIte,reduceCtorEq,rawSt,lkSt,in1St,in2St,nilS,arrP,fnF,fnT,fnP,rcv0,Snd.zero,Rcv.cells,Snd.cells,Pdu.cells,St.sw,envSw,hpSw,PV.sw,swL,Blk.sw,swp,yBd,yBe,pduRows_nil,pduRows_one,pduRows_append,yBc,yBf,rowsB_nil,freshR] <;> (first | rfl | exact ⟨rfl,rfl⟩ | exact ⟨rfl,rfl,rfl⟩ | exact ⟨rfl,rfl,rfl,rfl⟩))
      have f4 : decide (f = 4) = false := by simpa using h4
      by_cases h3 : f = 3
      · have f3 : decide (f = 3) = true := by simpa using h3
        simp only [go_sem,zA,zB,zC,zD,zE,zF,zG,zH,zI,zJ,zK,zL,zM,zN,zO,zP,↓reduceIte,reduceCtorEq,f2,f4,f3,hw,Tryz.ntmps57,Tryz.results57]
        repeat (first | refine And.intro (by omega) ?_ | refine And.intro (by simp only [List.length_append,yBa,yBb,pduRows_length]; omega) ?_)
        (refine endD_intro (by decide +kernel) ?_; simp only [go_sem,zA,zB,zC,zD,zE,zF,zG,zH,zI,zJ,zK,zL,zM,zN,zO,zP,↓reduceIte,reduceCtorEq,hw,Tryz.ntmps57,Tryz.results57])
        repeat (first | refine And.intro (by omega) ?_ | refine And.intro (by simp only [List.length_append,yBa,yBb,pduRows_length]; omega) ?_)
        (refine endD_intro (by decide +kernel) ?_; simp only [go_sem,zA,zB,zC,zD,zE,zF,zG,zH,zI,zJ,zK,zL,zM,zN,zO,zP,↓reduceIte,reduceCtorEq,hw,Tryz.ntmps57,Tryz.results57])
        rw [show putW b q f = ⟨b.u ++ [q] ++ [q] ++ b.h,[]⟩ by simp [putW,h2,h4,h3]] at hrec hpl
        refine ⟨L.a.u.length - (i + 1),_,by omega,?_,i + 1,r',⟨b.u ++ [q] ++ [q] ++ b.h,[]⟩,m + 1,(vc' + 3),0,by omega,rfl,hf1,hrec,by omega,by omega,rfl⟩
        refine .seq (s := rawSt fates L.s r' p (m + 1) n [(83,.own 101 va),(84,PI L.a.u.length),(85,PI ((i + 1 : Nat) : Int))] [.own 105 0,.own 102 vb] [.own 103 (vc' + 3),nilS] ([arrP 101 L.a.u va,arrP 105 [] 0,arrP 102 L.a.h vb,arrP 103 (b.u ++ [q] ++ [q] ++ b.h) (vc' + 3)])) (by simp only [go_sem,zA,zB,zC,zD,zE,zF,zG,zH,zI,zJ,zK,zL,zM,zN,zO,zP,↓reduceIte,reduceCtorEq,rawSt,lkSt,in1St,in2St,nilS,arrP,fnF,fnT,fnP,rcv0,Snd.zero,Rcv.cells,Snd.cells,Pdu.cells,St.sw,envSw,hpSw,PV.sw,swL,Blk.sw,swp,yBd,yBe,pduRows_nil,pduRows_one,pduRows_append,yBc,yBf,rowsB_nil,freshR] <;> (first | rfl | exact ⟨rfl,rfl⟩ | exact ⟨rfl,rfl,rfl⟩ | exact ⟨rfl,rfl,rfl,rfl⟩)) ?_
        refine .nil 12 1 104 70 7 76 _ rfl rfl rfl ?_
        exact .weak (by simp only [go_sem,zA,zB,zC,zD,zE,zF,zG,zH,zI,zJ,zK,zL,zM,zN,zO,zP,↓reduceIte,reduceCtorEq,rawSt,lkSt,in1St,in2St,nilS,arrP,fnF,fnT,fnP,rcv0,Snd.zero,Rcv.cells,Snd.cells,Pdu.cells,St.sw,envSw,hpSw,PV.sw,swL,Blk.sw,swp,yBd,yBe,pduRows_nil,pduRows_one,pduRows_append,yBc,yBf,rowsB_nil,freshR] <;> (first | rfl | exact ⟨rfl,rfl⟩ | exact ⟨rfl,rfl,rfl⟩ | exact ⟨rfl,rfl,rfl,rfl⟩))
      have f3 : decide (f = 3) = false := by simpa using h3
      simp only [go_sem,zA,zB,zC,zD,zE,zF,zG,zH,zI,zJ,zK,zL,zM,zN,zO,zP,↓reduceIte,reduceCtorEq,f2,f4,f3,hw,Tryz.ntmps57,Tryz.results57]
      repeat (first | refine And.intro (by omega) ?_ | refine And.intro (by simp only [List.length_append,yBa,yBb,pduRows_length]; omega) ?_)
      (refine endD_intro (by decide +kernel) ?_; simp only [go_sem,zA,zB,zC,zD,zE,zF,zG,zH,zI,zJ,zK,zL,zM,zN,zO,zP,↓reduceIte,reduceCtorEq,hw,Tryz.ntmps57,Tryz.results57])
      rw [show putW b q f = ⟨b.u ++ [q] ++ b.h,[]⟩ by simp [putW,h2,h4,h3]] at hrec hpl
      refine ⟨L.a.u.length - (i + 1),_,by omega,?_,i + 1,r',⟨b.u ++ [q] ++ b.h,[]⟩,m + 1,(vc' + 2),0,by omega,rfl,hf1,hrec,by omega,by omega,rfl⟩
      refine .seq (s := rawSt fates L.s r' p (m + 1) n [(83,.own 101 va),(84,PI L.a.u.length),(85,PI ((i + 1 : Nat) : Int))] [.own 105 0,.own 102 vb] [.own 103 (vc' + 2),nilS] ([arrP 101 L.a.u va,arrP 105 [] 0,arrP 102 L.a.h vb,arrP 103 (b.u ++ [q] ++ b.h) (vc' + 2)])) (by simp only [go_sem,zA,zB,zC,zD,zE,zF,zG,zH,zI,zJ,zK,zL,zM,zN,zO,zP,↓reduceIte,reduceCtorEq,rawSt,lkSt,in1St,in2St,nilS,arrP,fnF,fnT,fnP,rcv0,Snd.zero,Rcv.cells,Snd.cells,Pdu.cells,St.sw,envSw,hpSw,PV.sw,swL,Blk.sw,swp,yBd,yBe,pduRows_nil,pduRows_one,pduRows_append,yBc,yBf,rowsB_nil,freshR] <;> (first | rfl | exact ⟨rfl,rfl⟩ | exact ⟨rfl,rfl,rfl⟩ | exact ⟨rfl,rfl,rfl,rfl⟩)) ?_
      refine .nil 12 1 104 70 7 76 _ rfl rfl rfl ?_
      exact .weak (by simp only [go_sem,zA,zB,zC,zD,zE,zF,zG,zH,zI,zJ,zK,zL,zM,zN,zO,zP,↓reduceIte,reduceCtorEq,rawSt,lkSt,in1St,in2St,nilS,arrP,fnF,fnT,fnP,rcv0,Snd.zero,Rcv.cells,Snd.cells,Pdu.cells,St.sw,envSw,hpSw,PV.sw,swL,Blk.sw,swp,yBd,yBe,pduRows_nil,pduRows_one,pduRows_append,yBc,yBf,rowsB_nil,freshR] <;> (first | rfl | exact ⟨rfl,rfl⟩ | exact ⟨rfl,rfl,rfl⟩ | exact ⟨rfl,rfl,rfl,rfl⟩))
  have hix : i = L.a.u.length := by omega
  rw [hix,List.drop_length,recvAll] at hrec
  have g1 : decide ((i : Int) < (L.a.u.length : Int)) = false := by simp; omega
  simp only [go_sem,zA,zB,zC,zD,zE,zF,zG,zH,zI,zJ,zK,zL,zM,zN,zO,zP,↓reduceIte,reduceCtorEq,rawSt,lkSt,in1St,in2St,nilS,arrP,fnF,fnT,fnP,yBl,yBc,g1]
  refine CallA.into tabOK mixed Tryz.func56 rfl rfl (by decide +kernel) (by simp [Tryz.ntmps56]) ?_
  simp only [go_sem,zA,zB,zC,zD,zE,zF,zG,zH,zI,zJ,zK,zL,zM,zN,zO,zP,↓reduceIte,reduceCtorEq,Tryz.ntmps56,Tryz.results56,Tryz.ntmps41,Tryz.results41]
  refine wpA_loopS (in2I fates L.a.h p n vb r b m vc' vd' (takeAll b.u L.s)) ⟨_,_,?_,0,L.s,by omega,rfl,hss,by rw [List.drop_zero],rfl⟩ ?_
  · refine .seq (s := rawSt fates L.s r p m n [(103,.own 103 vc'),(104,PI b.u.length),(105,PI ((0 : Nat) : Int))] [.own 105 0,.own 102 vb] [nilS,.own 104 vd'] [arrP 105 [] 0,arrP 102 L.a.h vb,arrP 103 b.u vc',arrP 104 b.h vd']) (by simp only [go_sem,zA,zB,zC,zD,zE,zF,zG,zH,zI,zJ,zK,zL,zM,zN,zO,zP,↓reduceIte,reduceCtorEq,rawSt,lkSt,in1St,in2St,nilS,arrP,fnF,fnT,fnP,rcv0,Snd.zero,Rcv.cells,Snd.cells,Pdu.cells,St.sw,envSw,hpSw,PV.sw,swL,Blk.sw,swp,yBd,yBe,pduRows_nil,pduRows_one,pduRows_append,yBc,yBf,rowsB_nil,freshR] <;> (first | rfl | exact ⟨rfl,rfl⟩ | exact ⟨rfl,rfl,rfl⟩ | exact ⟨rfl,rfl,rfl,rfl⟩)) ?_
    refine .nil 12 0 106 70 7 76 _ rfl rfl rfl ?_
    exact .weak (by simp only [go_sem,zA,zB,zC,zD,zE,zF,zG,zH,zI,zJ,zK,zL,zM,zN,zO,zP,↓reduceIte,reduceCtorEq,rawSt,lkSt,in1St,in2St,nilS,arrP,fnF,fnT,fnP,rcv0,Snd.zero,Rcv.cells,Snd.cells,Pdu.cells,St.sw,envSw,hpSw,PV.sw,swL,Blk.sw,swp,yBd,yBe,pduRows_nil,pduRows_one,pduRows_append,yBc,yBf,rowsB_nil,freshR] <;> (first | rfl | exact ⟨rfl,rfl⟩ | exact ⟨rfl,rfl,rfl⟩ | exact ⟨rfl,rfl,rfl,rfl⟩))
  rintro mm st ⟨j,s,hj,rfl,hs,htk,rfl⟩
  by_cases hcj : j < b.u.length
  · have g2 : decide ((j : Int) < (b.u.length : Int)) = true := by simp; omega
    have f1' : (j : Int) < (b.u.length : Int) := by omega
    have f0 : (0 : Int) ≤ (j : Int) := by omega
    have hw := wrapIN (i := j) (by omega)
    have hrow := pduRows_at hcj
    rw [List.drop_eq_getElem_cons hcj,takeAll] at htk
    generalize b.u[j] = pi at hrow htk
    have c1 := take_calls s pi
    have hs1 := take_sound hs pi
    generalize takeS s pi = s' at c1 hs1 htk
    simp only [go_sem,zA,zB,zC,zD,zE,zF,zG,zH,zI,zJ,zK,zL,zM,zN,zO,zP,↓reduceIte,reduceCtorEq,rawSt,lkSt,in1St,in2St,nilS,arrP,fnF,fnT,fnP,yBl,yBc,g2,f1',f0,yCa,hrow]
    refine ⟨hcj,?_⟩
    (refine CallA.pure (c1) (by simp only [go_sem,zA,zB,zC,zD,zE,zF,zG,zH,zI,zJ,zK,zL,zM,zN,zO,zP,↓reduceIte,reduceCtorEq,Snd.pv,Pdu.pv,hw] <;> first | rfl | decide) ?_; simp only [go_sem,zA,zB,zC,zD,zE,zF,zG,zH,zI,zJ,zK,zL,zM,zN,zO,zP,↓reduceIte,reduceCtorEq,Snd.pv,Pdu.pv,hw])
    refine ⟨b.u.length - (j + 1),_,by omega,?_,j + 1,s',by omega,rfl,hs1,htk,rfl⟩
    exact .weak (by simp only [go_sem,zA,zB,zC,zD,zE,zF,zG,zH,zI,zJ,zK,zL,zM,zN,zO,zP,↓reduceIte,reduceCtorEq,rawSt,lkSt,in1St,in2St,nilS,arrP,fnF,fnT,fnP,rcv0,Snd.zero,Rcv.cells,Snd.cells,Pdu.cells,St.sw,envSw,hpSw,PV.sw,swL,Blk.sw,swp,yBd,yBe,pduRows_nil,pduRows_one,pduRows_append,yBc,yBf,rowsB_nil,freshR] <;> (first | rfl | exact ⟨rfl,rfl⟩ | exact ⟨rfl,rfl,rfl⟩ | exact ⟨rfl,rfl,rfl,rfl⟩))
  have hjx : j = b.u.length := by omega
  rw [hjx,List.drop_length,takeAll] at htk
  have g2 : decide ((j : Int) < (b.u.length : Int)) = false := by simp; omega
  have cNx := next_calls s hs.1.1
  have cTk := tick_calls (nextS s)
  have cTr := tickT_at r
  have hwn := wrapIN (i := n) (by omega)
  have hT : tickL fates L = ⟨tickS (nextS s),tickV r,if s.goes then putW ⟨[],L.a.h⟩ (nextP s) (fateL fates m) else ⟨[],L.a.h⟩,⟨[],b.h⟩,if s.goes then m + 1 else m⟩ := by
    unfold tickL
    rw [← hrec]
    simp only [← htk]
  simp only [go_sem,zA,zB,zC,zD,zE,zF,zG,zH,zI,zJ,zK,zL,zM,zN,zO,zP,↓reduceIte,reduceCtorEq,rawSt,lkSt,in1St,in2St,nilS,arrP,fnF,fnT,fnP,yBl,yBc,g2]
  (refine CallA.pure (cNx) (by simp only [go_sem,zA,zB,zC,zD,zE,zF,zG,zH,zI,zJ,zK,zL,zM,zN,zO,zP,↓reduceIte,reduceCtorEq,Snd.pv,Pdu.pv] <;> first | rfl | decide) ?_; simp only [go_sem,zA,zB,zC,zD,zE,zF,zG,zH,zI,zJ,zK,zL,zM,zN,zO,zP,↓reduceIte,reduceCtorEq,Snd.pv,Pdu.pv])
  cases hg : s.goes with
  | false =>
    rw [hg] at hT
    have hT' : tickL fates L = ⟨tickS (nextS s),tickV r,⟨[],L.a.h⟩,⟨[],b.h⟩,m⟩ := by rw [hT]; rfl
    simp only [go_sem,zA,zB,zC,zD,zE,zF,zG,zH,zI,zJ,zK,zL,zM,zN,zO,zP,↓reduceIte,reduceCtorEq]
    (refine callD_pure (cTk) (by simp only [go_sem,zA,zB,zC,zD,zE,zF,zG,zH,zI,zJ,zK,zL,zM,zN,zO,zP,↓reduceIte,reduceCtorEq,Snd.pv] <;> first | rfl | decide) ?_; simp only [go_sem,zA,zB,zC,zD,zE,zF,zG,zH,zI,zJ,zK,zL,zM,zN,zO,zP,↓reduceIte,reduceCtorEq,Snd.pv])
    (refine callD_pure (cTr) (by simp only [go_sem,zA,zB,zC,zD,zE,zF,zG,zH,zI,zJ,zK,zL,zM,zN,zO,zP,↓reduceIte,reduceCtorEq,Rcv.pv] <;> first | rfl | decide) ?_; simp only [go_sem,zA,zB,zC,zD,zE,zF,zG,zH,zI,zJ,zK,zL,zM,zN,zO,zP,↓reduceIte,reduceCtorEq,Rcv.pv])
    (refine endD_intro (by decide +kernel) ?_; simp only [go_sem,zA,zB,zC,zD,zE,zF,zG,zH,zI,zJ,zK,zL,zM,zN,zO,zP,↓reduceIte,reduceCtorEq,hwn])
    refine ⟨100000 - (n + 1),_,by omega,?_,n + 1,tickL fates L,nextP s,0,vb,0,vd',by omega,rfl,hI'.tick,hX',rfl⟩
    rw [hT']
    refine .seq (s := rawSt fates (tickS (nextS s)) (tickV r) (nextP s) m (n + 1) [] [.own 105 0,.own 102 vb] [.own 106 0,.own 104 vd'] ([arrP 105 ([]) 0,arrP 106 [] 0,arrP 104 b.h vd',arrP 102 (L.a.h) vb])) (by simp only [go_sem,zA,zB,zC,zD,zE,zF,zG,zH,zI,zJ,zK,zL,zM,zN,zO,zP,↓reduceIte,reduceCtorEq,rawSt,lkSt,in1St,in2St,nilS,arrP,fnF,fnT,fnP,rcv0,Snd.zero,Rcv.cells,Snd.cells,Pdu.cells,St.sw,envSw,hpSw,PV.sw,swL,Blk.sw,swp,yBd,yBe,pduRows_nil,pduRows_one,pduRows_append,yBc,yBf,rowsB_nil,freshR] <;> (first | rfl | exact ⟨rfl,rfl⟩ | exact ⟨rfl,rfl,rfl⟩ | exact ⟨rfl,rfl,rfl,rfl⟩)) ?_
    refine .sw 105 101 (Nat.zero_le _) (Nat.zero_le _) ?_
    refine .sw 106 103 (Nat.zero_le _) (Nat.zero_le _) ?_
    exact .weak (by simp only [go_sem,zA,zB,zC,zD,zE,zF,zG,zH,zI,zJ,zK,zL,zM,zN,zO,zP,↓reduceIte,reduceCtorEq,rawSt,lkSt,in1St,in2St,nilS,arrP,fnF,fnT,fnP,rcv0,Snd.zero,Rcv.cells,Snd.cells,Pdu.cells,St.sw,envSw,hpSw,PV.sw,swL,Blk.sw,swp,yBd,yBe,pduRows_nil,pduRows_one,pduRows_append,yBc,yBf,rowsB_nil,freshR] <;> (first | rfl | exact ⟨rfl,rfl⟩ | exact ⟨rfl,rfl,rfl⟩ | exact ⟨rfl,rfl,rfl,rfl⟩))
  | true =>
    obtain ⟨f,hf⟩ : ∃ f,fateL fates m = f := ⟨_,rfl⟩
    simp only [go_sem,zA,zB,zC,zD,zE,zF,zG,zH,zI,zJ,zK,zL,zM,zN,zO,zP,↓reduceIte,reduceCtorEq]
    refine callD_eff (fate_at hf (by decide) (by omega) (by simp only [go_sem,zA,zB,zC,zD,zE,zF,zG,zH,zI,zJ,zK,zL,zM,zN,zO,zP,↓reduceIte,reduceCtorEq] <;> rfl) (by simp only [go_sem,zA,zB,zC,zD,zE,zF,zG,zH,zI,zJ,zK,zL,zM,zN,zO,zP,↓reduceIte,reduceCtorEq] <;> rfl)) ?_
    simp only [go_sem,zA,zB,zC,zD,zE,zF,zG,zH,zI,zJ,zK,zL,zM,zN,zO,zP,↓reduceIte,reduceCtorEq]
    refine callD_tail (by decide +kernel) (by decide +kernel) ?_
    simp only [go_sem,zA,zB,zC,zD,zE,zF,zG,zH,zI,zJ,zK,zL,zM,zN,zO,zP,↓reduceIte,reduceCtorEq]
    refine CallA.into tabOK mixed Tryz.func57 rfl rfl (by decide +kernel) (by simp [Tryz.ntmps57]) ?_
    simp only [go_sem,zA,zB,zC,zD,zE,zF,zG,zH,zI,zJ,zK,zL,zM,zN,zO,zP,↓reduceIte,reduceCtorEq,Tryz.ntmps57,Tryz.results57]
    by_cases h2 : f = 2
    · have f2 : decide (f = 2) = true := by simpa using h2
      simp only [go_sem,zA,zB,zC,zD,zE,zF,zG,zH,zI,zJ,zK,zL,zM,zN,zO,zP,↓reduceIte,reduceCtorEq,f2,Tryz.ntmps57,Tryz.results57]
      have hT' : tickL fates L = ⟨tickS (nextS s),tickV r,⟨[],L.a.h⟩,⟨[],b.h⟩,m + 1⟩ := by rw [hT,if_pos hg,if_pos hg,hf]; simp [putW,h2]
      (refine callD_pure (cTk) (by simp only [go_sem,zA,zB,zC,zD,zE,zF,zG,zH,zI,zJ,zK,zL,zM,zN,zO,zP,↓reduceIte,reduceCtorEq,Snd.pv] <;> first | rfl | decide) ?_; simp only [go_sem,zA,zB,zC,zD,zE,zF,zG,zH,zI,zJ,zK,zL,zM,zN,zO,zP,↓reduceIte,reduceCtorEq,Snd.pv])
      (refine callD_pure (cTr) (by simp only [go_sem,zA,zB,zC,zD,zE,zF,zG,zH,zI,zJ,zK,zL,zM,zN,zO,zP,↓reduceIte,reduceCtorEq,Rcv.pv] <;> first | rfl | decide) ?_; simp only [go_sem,zA,zB,zC,zD,zE,zF,zG,zH,zI,zJ,zK,zL,zM,zN,zO,zP,↓reduceIte,reduceCtorEq,Rcv.pv])
      (refine endD_intro (by decide +kernel) ?_; simp only [go_sem,zA,zB,zC,zD,zE,zF,zG,zH,zI,zJ,zK,zL,zM,zN,zO,zP,↓reduceIte,reduceCtorEq,hwn])
      refine ⟨100000 - (n + 1),_,by omega,?_,n + 1,tickL fates L,nextP s,0,vb,0,vd',by omega,rfl,hI'.tick,hX',rfl⟩
      rw [hT']
      refine .seq (s := rawSt fates (tickS (nextS s)) (tickV r) (nextP s) (m + 1) (n + 1) [] [.own 105 0,.own 102 vb] [.own 106 0,.own 104 vd'] ([arrP 105 ([]) 0,arrP 106 [] 0,arrP 104 b.h vd',arrP 102 (L.a.h) vb])) (by simp only [go_sem,zA,zB,zC,zD,zE,zF,zG,zH,zI,zJ,zK,zL,zM,zN,zO,zP,↓reduceIte,reduceCtorEq,rawSt,lkSt,in1St,in2St,nilS,arrP,fnF,fnT,fnP,rcv0,Snd.zero,Rcv.cells,Snd.cells,Pdu.cells,St.sw,envSw,hpSw,PV.sw,swL,Blk.sw,swp,yBd,yBe,pduRows_nil,pduRows_one,pduRows_append,yBc,yBf,rowsB_nil,freshR] <;> (first | rfl | exact ⟨rfl,rfl⟩ | exact ⟨rfl,rfl,rfl⟩ | exact ⟨rfl,rfl,rfl,rfl⟩)) ?_
      refine .sw 105 101 (Nat.zero_le _) (Nat.zero_le _) ?_
      refine .sw 106 103 (Nat.zero_le _) (Nat.zero_le _) ?_
      exact .weak (by simp only [go_sem,zA,zB,zC,zD,zE,zF,zG,zH,zI,zJ,zK,zL,zM,zN,zO,zP,↓reduceIte,reduceCtorEq,rawSt,lkSt,in1St,in2St,nilS,arrP,fnF,fnT,fnP,rcv0,Snd.zero,Rcv.cells,Snd.cells,Pdu.cells,St.sw,envSw,hpSw,PV.sw,swL,Blk.sw,swp,yBd,yBe,pduRows_nil,pduRows_one,pduRows_append,yBc,yBf,rowsB_nil,freshR] <;> (first | rfl | exact ⟨rfl,rfl⟩ | exact ⟨rfl,rfl,rfl⟩ | exact ⟨rfl,rfl,rfl,rfl⟩))
    have f2 : decide (f = 2) = false := by simpa using h2
    by_cases h4 : f = 4
    · have f4 : decide (f = 4) = true := by simpa using h4
      simp only [go_sem,zA,zB,zC,zD,zE,zF,zG,zH,zI,zJ,zK,zL,zM,zN,zO,zP,↓reduceIte,reduceCtorEq,f2,f4,Tryz.ntmps57,Tryz.results57]
      repeat (first | refine And.intro (by omega) ?_ | refine And.intro (by simp only [List.length_append,yBa,yBb,pduRows_length]; omega) ?_)
      (refine endD_intro (by decide +kernel) ?_; simp only [go_sem,zA,zB,zC,zD,zE,zF,zG,zH,zI,zJ,zK,zL,zM,zN,zO,zP,↓reduceIte,reduceCtorEq,Tryz.ntmps57,Tryz.results57])
      have hT' : tickL fates L = ⟨tickS (nextS s),tickV r,⟨[],L.a.h ++ [nextP s]⟩,⟨[],b.h⟩,m + 1⟩ := by rw [hT,if_pos hg,if_pos hg,hf]; simp [putW,h2,h4]
      (refine callD_pure (cTk) (by simp only [go_sem,zA,zB,zC,zD,zE,zF,zG,zH,zI,zJ,zK,zL,zM,zN,zO,zP,↓reduceIte,reduceCtorEq,Snd.pv] <;> first | rfl | decide) ?_; simp only [go_sem,zA,zB,zC,zD,zE,zF,zG,zH,zI,zJ,zK,zL,zM,zN,zO,zP,↓reduceIte,reduceCtorEq,Snd.pv])
      (refine callD_pure (cTr) (by simp only [go_sem,zA,zB,zC,zD,zE,zF,zG,zH,zI,zJ,zK,zL,zM,zN,zO,zP,↓reduceIte,reduceCtorEq,Rcv.pv] <;> first | rfl | decide) ?_; simp only [go_sem,zA,zB,zC,zD,zE,zF,zG,zH,zI,zJ,zK,zL,zM,zN,zO,zP,↓reduceIte,reduceCtorEq,Rcv.pv])
      (refine endD_intro (by decide +kernel) ?_; simp only [go_sem,zA,zB,zC,zD,zE,zF,zG,zH,zI,zJ,zK,zL,zM,zN,zO,zP,↓reduceIte,reduceCtorEq,hwn])
      refine ⟨100000 - (n + 1),_,by omega,?_,n + 1,tickL fates L,nextP s,0,(vb + 1),0,vd',by omega,rfl,hI'.tick,hX',rfl⟩
      rw [hT']
      refine .seq (s := rawSt fates (tickS (nextS s)) (tickV r) (nextP s) (m + 1) (n + 1) [] [.own 105 0,.own 102 (vb + 1)] [.own 106 0,.own 104 vd'] ([arrP 105 ([]) 0,arrP 106 [] 0,arrP 104 b.h vd',arrP 102 (L.a.h ++ [nextP s]) (vb + 1)])) (by simp only [go_sem,zA,zB,zC,zD,zE,zF,zG,zH,zI,zJ,zK,zL,zM,zN,zO,zP,↓reduceIte,reduceCtorEq,rawSt,lkSt,in1St,in2St,nilS,arrP,fnF,fnT,fnP,rcv0,Snd.zero,Rcv.cells,Snd.cells,Pdu.cells,St.sw,envSw,hpSw,PV.sw,swL,Blk.sw,swp,yBd,yBe,pduRows_nil,pduRows_one,pduRows_append,yBc,yBf,rowsB_nil,freshR] <;> (first | rfl | exact ⟨rfl,rfl⟩ | exact ⟨rfl,rfl,rfl⟩ | exact ⟨rfl,rfl,rfl,rfl⟩)) ?_
      refine .sw 105 101 (Nat.zero_le _) (Nat.zero_le _) ?_
      refine .sw 106 103 (Nat.zero_le _) (Nat.zero_le _) ?_
      exact .weak (by simp only [go_sem,zA,zB,zC,zD,zE,zF,zG,zH,zI,zJ,zK,zL,zM,zN,zO,zP,↓reduceIte,reduceCtorEq,rawSt,lkSt,in1St,in2St,nilS,arrP,fnF,fnT,fnP,rcv0,Snd.zero,Rcv.cells,Snd.cells,Pdu.cells,St.sw,envSw,hpSw,PV.sw,swL,Blk.sw,swp,yBd,yBe,pduRows_nil,pduRows_one,pduRows_append,yBc,yBf,rowsB_nil,freshR] <;> (first | rfl | exact ⟨rfl,rfl⟩ | exact ⟨rfl,rfl,rfl⟩ | exact ⟨rfl,rfl,rfl,rfl⟩))
    have f4 : decide (f = 4) = false := by simpa using h4
    by_cases h3 : f = 3
    · have f3 : decide (f = 3) = true := by simpa using h3
      simp only [go_sem,zA,zB,zC,zD,zE,zF,zG,zH,zI,zJ,zK,zL,zM,zN,zO,zP,↓reduceIte,reduceCtorEq,f2,f4,f3,Tryz.ntmps57,Tryz.results57]
      repeat (first | refine And.intro (by omega) ?_ | refine And.intro (by simp only [List.length_append,yBa,yBb,pduRows_length]; omega) ?_)
      (refine endD_intro (by decide +kernel) ?_; simp only [go_sem,zA,zB,zC,zD,zE,zF,zG,zH,zI,zJ,zK,zL,zM,zN,zO,zP,↓reduceIte,reduceCtorEq,Tryz.ntmps57,Tryz.results57])
      repeat (first | refine And.intro (by omega) ?_ | refine And.intro (by simp only [List.length_append,yBa,yBb,pduRows_length]; omega) ?_)
      (refine endD_intro (by decide +kernel) ?_; simp only [go_sem,zA,zB,zC,zD,zE,zF,zG,zH,zI,zJ,zK,zL,zM,zN,zO,zP,↓reduceIte,reduceCtorEq,Tryz.ntmps57,Tryz.results57])
      have hT' : tickL fates L = ⟨tickS (nextS s),tickV r,⟨[nextP s] ++ [nextP s] ++ L.a.h,[]⟩,⟨[],b.h⟩,m + 1⟩ := by rw [hT,if_pos hg,if_pos hg,hf]; simp [putW,h2,h4,h3]
      (refine callD_pure (cTk) (by simp only [go_sem,zA,zB,zC,zD,zE,zF,zG,zH,zI,zJ,zK,zL,zM,zN,zO,zP,↓reduceIte,reduceCtorEq,Snd.pv] <;> first | rfl | decide) ?_; simp only [go_sem,zA,zB,zC,zD,zE,zF,zG,zH,zI,zJ,zK,zL,zM,zN,zO,zP,↓reduceIte,reduceCtorEq,Snd.pv])
      (refine callD_pure (cTr) (by simp only [go_sem,zA,zB,zC,zD,zE,zF,zG,zH,zI,zJ,zK,zL,zM,zN,zO,zP,↓reduceIte,reduceCtorEq,Rcv.pv] <;> first | rfl | decide) ?_; simp only [go_sem,zA,zB,zC,zD,zE,zF,zG,zH,zI,zJ,zK,zL,zM,zN,zO,zP,↓reduceIte,reduceCtorEq,Rcv.pv])
      (refine endD_intro (by decide +kernel) ?_; simp only [go_sem,zA,zB,zC,zD,zE,zF,zG,zH,zI,zJ,zK,zL,zM,zN,zO,zP,↓reduceIte,reduceCtorEq,hwn])
      refine ⟨100000 - (n + 1),_,by omega,?_,n + 1,tickL fates L,nextP s,3,0,0,vd',by omega,rfl,hI'.tick,hX',rfl⟩
      rw [hT']
      refine .seq (s := rawSt fates (tickS (nextS s)) (tickV r) (nextP s) (m + 1) (n + 1) [] [.own 105 3,nilS] [.own 106 0,.own 104 vd'] ([arrP 105 ([nextP s] ++ [nextP s] ++ L.a.h) 3,arrP 106 [] 0,arrP 104 b.h vd'])) (by simp only [go_sem,zA,zB,zC,zD,zE,zF,zG,zH,zI,zJ,zK,zL,zM,zN,zO,zP,↓reduceIte,reduceCtorEq,rawSt,lkSt,in1St,in2St,nilS,arrP,fnF,fnT,fnP,rcv0,Snd.zero,Rcv.cells,Snd.cells,Pdu.cells,St.sw,envSw,hpSw,PV.sw,swL,Blk.sw,swp,yBd,yBe,pduRows_nil,pduRows_one,pduRows_append,yBc,yBf,rowsB_nil,freshR] <;> (first | rfl | exact ⟨rfl,rfl⟩ | exact ⟨rfl,rfl,rfl⟩ | exact ⟨rfl,rfl,rfl,rfl⟩)) ?_
      refine .nil 11 1 102 70 7 76 _ rfl rfl rfl ?_
      refine .sw 105 101 (Nat.zero_le _) (Nat.zero_le _) ?_
      refine .sw 106 103 (Nat.zero_le _) (Nat.zero_le _) ?_
      exact .weak (by simp only [go_sem,zA,zB,zC,zD,zE,zF,zG,zH,zI,zJ,zK,zL,zM,zN,zO,zP,↓reduceIte,reduceCtorEq,rawSt,lkSt,in1St,in2St,nilS,arrP,fnF,fnT,fnP,rcv0,Snd.zero,Rcv.cells,Snd.cells,Pdu.cells,St.sw,envSw,hpSw,PV.sw,swL,Blk.sw,swp,yBd,yBe,pduRows_nil,pduRows_one,pduRows_append,yBc,yBf,rowsB_nil,freshR] <;> (first | rfl | exact ⟨rfl,rfl⟩ | exact ⟨rfl,rfl,rfl⟩ | exact ⟨rfl,rfl,rfl,rfl⟩))
    have f3 : decide (f = 3) = false := by simpa using h3
    simp only [go_sem,zA,zB,zC,zD,zE,zF,zG,zH,zI,zJ,zK,zL,zM,zN,zO,zP,↓reduceIte,reduceCtorEq,f2,f4,f3,Tryz.ntmps57,Tryz.results57]
    repeat (first | refine And.intro (by omega) ?_ | refine And.intro (by simp only [List.length_append,yBa,yBb,pduRows_length]; omega) ?_)
    (refine endD_intro (by decide +kernel) ?_; simp only [go_sem,zA,zB,zC,zD,zE,zF,zG,zH,zI,zJ,zK,zL,zM,zN,zO,zP,↓reduceIte,reduceCtorEq,Tryz.ntmps57,Tryz.results57])
    have hT' : tickL fates L = ⟨tickS (nextS s),tickV r,⟨[nextP s] ++ L.a.h,[]⟩,⟨[],b.h⟩,m + 1⟩ := by rw [hT,if_pos hg,if_pos hg,hf]; simp [putW,h2,h4,h3]
    (refine callD_pure (cTk) (by simp only [go_sem,zA,zB,zC,zD,zE,zF,zG,zH,zI,zJ,zK,zL,zM,zN,zO,zP,↓reduceIte,reduceCtorEq,Snd.pv] <;> first | rfl | decide) ?_; simp only [go_sem,zA,zB,zC,zD,zE,zF,zG,zH,zI,zJ,zK,zL,zM,zN,zO,zP,↓reduceIte,reduceCtorEq,Snd.pv])
    (refine callD_pure (cTr) (by simp only [go_sem,zA,zB,zC,zD,zE,zF,zG,zH,zI,zJ,zK,zL,zM,zN,zO,zP,↓reduceIte,reduceCtorEq,Rcv.pv] <;> first | rfl | decide) ?_; simp only [go_sem,zA,zB,zC,zD,zE,zF,zG,zH,zI,zJ,zK,zL,zM,zN,zO,zP,↓reduceIte,reduceCtorEq,Rcv.pv])
    (refine endD_intro (by decide +kernel) ?_; simp only [go_sem,zA,zB,zC,zD,zE,zF,zG,zH,zI,zJ,zK,zL,zM,zN,zO,zP,↓reduceIte,reduceCtorEq,hwn])
    refine ⟨100000 - (n + 1),_,by omega,?_,n + 1,tickL fates L,nextP s,2,0,0,vd',by omega,rfl,hI'.tick,hX',rfl⟩
    rw [hT']
    refine .seq (s := rawSt fates (tickS (nextS s)) (tickV r) (nextP s) (m + 1) (n + 1) [] [.own 105 2,nilS] [.own 106 0,.own 104 vd'] ([arrP 105 ([nextP s] ++ L.a.h) 2,arrP 106 [] 0,arrP 104 b.h vd'])) (by simp only [go_sem,zA,zB,zC,zD,zE,zF,zG,zH,zI,zJ,zK,zL,zM,zN,zO,zP,↓reduceIte,reduceCtorEq,rawSt,lkSt,in1St,in2St,nilS,arrP,fnF,fnT,fnP,rcv0,Snd.zero,Rcv.cells,Snd.cells,Pdu.cells,St.sw,envSw,hpSw,PV.sw,swL,Blk.sw,swp,yBd,yBe,pduRows_nil,pduRows_one,pduRows_append,yBc,yBf,rowsB_nil,freshR] <;> (first | rfl | exact ⟨rfl,rfl⟩ | exact ⟨rfl,rfl,rfl⟩ | exact ⟨rfl,rfl,rfl,rfl⟩)) ?_
    refine .nil 11 1 102 70 7 76 _ rfl rfl rfl ?_
    refine .sw 105 101 (Nat.zero_le _) (Nat.zero_le _) ?_
    refine .sw 106 103 (Nat.zero_le _) (Nat.zero_le _) ?_
    exact .weak (by simp only [go_sem,zA,zB,zC,zD,zE,zF,zG,zH,zI,zJ,zK,zL,zM,zN,zO,zP,↓reduceIte,reduceCtorEq,rawSt,lkSt,in1St,in2St,nilS,arrP,fnF,fnT,fnP,rcv0,Snd.zero,Rcv.cells,Snd.cells,Pdu.cells,St.sw,envSw,hpSw,PV.sw,swL,Blk.sw,swp,yBd,yBe,pduRows_nil,pduRows_one,pduRows_append,yBc,yBf,rowsB_nil,freshR] <;> (first | rfl | exact ⟨rfl,rfl⟩ | exact ⟨rfl,rfl,rfl⟩ | exact ⟨rfl,rfl,rfl,rfl⟩))
end Go.Proofs.YtcdmhigmgpflbaaGreat.Pe.Lk
