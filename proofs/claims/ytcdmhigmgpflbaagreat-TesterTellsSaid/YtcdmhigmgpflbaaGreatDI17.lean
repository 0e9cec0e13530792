import Derived.Test.YtcdmhigmgpflbaaGreatDI14
set_option maxRecDepth 20000
set_option maxHeartbeats 4000000
set_option linter.unusedSimpArgs false
set_option linter.unusedVariables false
open Nat renaming reduceAdd → zA,reduceSub → zB,reduceMul → zC,reduceLT → zD,reduceLeDiff → zE,reduceEqDiff → zF,reduceBEq → zG
open Int renaming reduceToNat → zH,reduceLT → zI,reduceLE → zJ,reduceEq → zK,reduceNe → zL,reduceAdd → zM,reduceSub → zN,reduceMul → zO,reduceNeg → zP,toNat_natCast → yCa,natCast_zero → yCb
namespace Go.Proofs.YtcdmhigmgpflbaaGreat.Pe
open Go.Pe Go.RowKit
def sm22St (a b : Srv) (i : Nat) : St := ⟨119,[(2,.ptr 0 0),(3,.ptr 1 0),(5,PI i)],[(0,.box 26 a.cells),(1,.box 26 b.cells)],100,0⟩
def sm22I (a b : Srv) (m : Nat) (st : St) : Prop := ∃ i : Nat,i ≤ a.items.length ∧ m = a.items.length - i ∧ decide (a.items.drop i = b.items.drop i) = decide (a.items = b.items) ∧ st = sm22St a b i
theorem same22_calls (a b : Srv) (ha : a.items.length < 1000000) (hd : a.dtc.length < 1000000) : PureCalls Tryz.prog 31 [a.pv,b.pv] (PB (decide (a = b))) := by
  refine PureCalls.of tabOK mixed Tryz.func31 rfl rfl (by decide +kernel) (by simp [Tryz.ntmps31]) ?_
  have la := itmRows_len a.items
  have lb := itmRows_len b.items
  have c1 := same21_calls a.dtc b.dtc hd
  by_cases hl : a.items.length = b.items.length
  rotate_left 1
  · have f : decide ((a.items.length : Int) = (b.items.length : Int)) = false := decide_eq_false (by omega)
    have g : decide (a = b) = false := decide_eq_false (fun e => hl (by rw [e]))
    simp only [go_sem,zA,zB,zC,zD,zE,zF,zG,zH,zI,zJ,zK,zL,zM,zN,zO,zP,↓reduceIte,reduceCtorEq,Tryz.ntmps31,Tryz.results31,Srv.pv,Srv.cells,la,lb,f,g]
  have f : decide ((a.items.length : Int) = (b.items.length : Int)) = true := decide_eq_true (by omega)
  simp only [go_sem,zA,zB,zC,zD,zE,zF,zG,zH,zI,zJ,zK,zL,zM,zN,zO,zP,↓reduceIte,reduceCtorEq,Tryz.ntmps31,Tryz.results31,Srv.pv,Srv.cells,la,lb,f]
  refine wpA_loop (sm22I a b) ⟨_,_,?_,0,by omega,rfl,rfl,rfl⟩ ?_
  · simp only [go_sem,zA,zB,zC,zD,zE,zF,zG,zH,zI,zJ,zK,zL,zM,zN,zO,zP,↓reduceIte,reduceCtorEq,sm22St,yCb,Srv.cells,refsIn,refsInL,Blk.refsIn]
  rintro m st ⟨i,hi,rfl,hdr,rfl⟩
  by_cases hc : i < a.items.length
  rotate_left 1
  · have f1 : decide ((i : Int) < (a.items.length : Int)) = false := decide_eq_false (by omega)
    rw [List.drop_of_length_le (by omega),List.drop_of_length_le (by omega),decide_eq_true rfl] at hdr
    have hit : a.items = b.items := by simpa using hdr.symm
    have key : decide (a = b) = (decide (a.ses = b.ses) && (decide (a.op = b.op) && (decide (a.seed = b.seed) && (decide (a.wrong = b.wrong) && (decide (a.quiet = b.quiet) && (decide (a.draw = b.draw) && (decide (a.sec = b.sec) && decide (a.dtc = b.dtc)))))))) := by
      obtain ⟨a1,a2,a3,a4,a5,a6,a7,a8,a9⟩ := a
      obtain ⟨b1,b2,b3,b4,b5,b6,b7,b8,b9⟩ := b
      simp only at hit
      rw [Bool.eq_iff_iff]
      simp [hit]
    rw [key]
    simp only [go_sem,zA,zB,zC,zD,zE,zF,zG,zH,zI,zJ,zK,zL,zM,zN,zO,zP,↓reduceIte,reduceCtorEq,sm22St,la,lb,f1,Srv.cells]
    have hop : decide (a.op = b.op) = (a.op == b.op) := by cases a.op <;> cases b.op <;> rfl
    rw [hop]
    cases e1 : decide (a.ses = b.ses) with
    | false => simp only [go_sem,zA,zB,zC,zD,zE,zF,zG,zH,zI,zJ,zK,zL,zM,zN,zO,zP,↓reduceIte,reduceCtorEq,e1,Tryz.ntmps31,Tryz.results31]
    | true =>
    simp only [go_sem,zA,zB,zC,zD,zE,zF,zG,zH,zI,zJ,zK,zL,zM,zN,zO,zP,↓reduceIte,reduceCtorEq,e1]
    cases e2 : (a.op == b.op) with
    | false => simp only [go_sem,zA,zB,zC,zD,zE,zF,zG,zH,zI,zJ,zK,zL,zM,zN,zO,zP,↓reduceIte,reduceCtorEq,e2,Tryz.ntmps31,Tryz.results31]
    | true =>
    simp only [go_sem,zA,zB,zC,zD,zE,zF,zG,zH,zI,zJ,zK,zL,zM,zN,zO,zP,↓reduceIte,reduceCtorEq,e2]
    cases e3 : decide (a.seed = b.seed) with
    | false => simp only [go_sem,zA,zB,zC,zD,zE,zF,zG,zH,zI,zJ,zK,zL,zM,zN,zO,zP,↓reduceIte,reduceCtorEq,e3,Tryz.ntmps31,Tryz.results31]
    | true =>
    simp only [go_sem,zA,zB,zC,zD,zE,zF,zG,zH,zI,zJ,zK,zL,zM,zN,zO,zP,↓reduceIte,reduceCtorEq,e3]
    cases e4 : decide (a.wrong = b.wrong) with
    | false => simp only [go_sem,zA,zB,zC,zD,zE,zF,zG,zH,zI,zJ,zK,zL,zM,zN,zO,zP,↓reduceIte,reduceCtorEq,e4,Tryz.ntmps31,Tryz.results31]
    | true =>
    simp only [go_sem,zA,zB,zC,zD,zE,zF,zG,zH,zI,zJ,zK,zL,zM,zN,zO,zP,↓reduceIte,reduceCtorEq,e4]
    cases e5 : decide (a.quiet = b.quiet) with
    | false => simp only [go_sem,zA,zB,zC,zD,zE,zF,zG,zH,zI,zJ,zK,zL,zM,zN,zO,zP,↓reduceIte,reduceCtorEq,e5,Tryz.ntmps31,Tryz.results31]
    | true =>
    simp only [go_sem,zA,zB,zC,zD,zE,zF,zG,zH,zI,zJ,zK,zL,zM,zN,zO,zP,↓reduceIte,reduceCtorEq,e5]
    cases e6 : decide (a.draw = b.draw) with
    | false => simp only [go_sem,zA,zB,zC,zD,zE,zF,zG,zH,zI,zJ,zK,zL,zM,zN,zO,zP,↓reduceIte,reduceCtorEq,e6,Tryz.ntmps31,Tryz.results31]
    | true =>
    simp only [go_sem,zA,zB,zC,zD,zE,zF,zG,zH,zI,zJ,zK,zL,zM,zN,zO,zP,↓reduceIte,reduceCtorEq,e6]
    cases e7 : decide (a.sec = b.sec) with
    | false => simp only [go_sem,zA,zB,zC,zD,zE,zF,zG,zH,zI,zJ,zK,zL,zM,zN,zO,zP,↓reduceIte,reduceCtorEq,e7,Tryz.ntmps31,Tryz.results31]
    | true =>
    simp only [go_sem,zA,zB,zC,zD,zE,zF,zG,zH,zI,zJ,zK,zL,zM,zN,zO,zP,↓reduceIte,reduceCtorEq,e7]
    (refine CallA.pure (c1) (by simp only [go_sem,zA,zB,zC,zD,zE,zF,zG,zH,zI,zJ,zK,zL,zM,zN,zO,zP,↓reduceIte,reduceCtorEq,Tryz.ntmps31,Tryz.results31] <;> first | rfl | decide) ?_; simp only [go_sem,zA,zB,zC,zD,zE,zF,zG,zH,zI,zJ,zK,zL,zM,zN,zO,zP,↓reduceIte,reduceCtorEq,Tryz.ntmps31,Tryz.results31])
  have f1 : decide ((i : Int) < (a.items.length : Int)) = true := decide_eq_true (by omega)
  have f2 : (i : Int) < (a.items.length : Int) := by omega
  have f2b : (i : Int) < (b.items.length : Int) := by omega
  have f0 : (0 : Int) ≤ (i : Int) := by omega
  have hw := wrapIN (i := i) (by omega)
  have hcb : i < b.items.length := by omega
  have r1 := itmRows_get hc
  have r2 := itmRows_get hcb
  have hda : a.items.drop i = a.items[i] :: a.items.drop (i + 1) := by rw [List.drop_eq_getElem_cons hc]
  have hdb : b.items.drop i = b.items[i] :: b.items.drop (i + 1) := by rw [List.drop_eq_getElem_cons hcb]
  rw [hda,hdb] at hdr
  generalize a.items[i] = x at hdr r1
  generalize b.items[i] = y at hdr r2
  simp only [go_sem,zA,zB,zC,zD,zE,zF,zG,zH,zI,zJ,zK,zL,zM,zN,zO,zP,↓reduceIte,reduceCtorEq,sm22St,la,lb,f1,f2,f2b,f0,yCa,hc,hcb,r1,r2,Itm.cells,Srv.cells,hw]
  have bad : ¬ x = y → decide (a = b) = false := by
    intro hn
    refine decide_eq_false (fun e => hn ?_)
    have : decide (a.items = b.items) = true := decide_eq_true (by rw [e])
    rw [this] at hdr
    simp only [decide_eq_true_eq,List.cons.injEq] at hdr
    exact hdr.1
  have good : x = y → ∀ st',Weak st' (sm22St a b (i + 1 : Nat)) → ∃ m'' s'',m'' < a.items.length - i ∧ Weak st' s'' ∧ sm22I a b m'' s'' := by
    intro he st' hwk
    refine ⟨a.items.length - (i + 1),_,by omega,hwk,i + 1,by omega,rfl,?_,rfl⟩
    rw [← hdr,he]; simp
  cases e1 : decide (x.id = y.id) with
  | false =>
    have g := bad (fun e => by rw [e] at e1; simp at e1)
    simp only [go_sem,zA,zB,zC,zD,zE,zF,zG,zH,zI,zJ,zK,zL,zM,zN,zO,zP,↓reduceIte,reduceCtorEq,e1]
    refine endD_intro (by decide +kernel) ?_
    simp only [go_sem,zA,zB,zC,zD,zE,zF,zG,zH,zI,zJ,zK,zL,zM,zN,zO,zP,↓reduceIte,reduceCtorEq,g,Tryz.ntmps31,Tryz.results31]
  | true =>
  simp only [go_sem,zA,zB,zC,zD,zE,zF,zG,zH,zI,zJ,zK,zL,zM,zN,zO,zP,↓reduceIte,reduceCtorEq,e1,la,lb,f1,f2,f2b,f0,yCa,hc,hcb,r1,r2,Itm.cells,Srv.cells,hw]
  cases e2 : (x.wr != y.wr) with
  | true =>
    have g := bad (fun e => by rw [e] at e2; simp at e2)
    simp only [go_sem,zA,zB,zC,zD,zE,zF,zG,zH,zI,zJ,zK,zL,zM,zN,zO,zP,↓reduceIte,reduceCtorEq,e2]
    refine endD_intro (by decide +kernel) ?_
    simp only [go_sem,zA,zB,zC,zD,zE,zF,zG,zH,zI,zJ,zK,zL,zM,zN,zO,zP,↓reduceIte,reduceCtorEq,g,Tryz.ntmps31,Tryz.results31]
  | false =>
  simp only [go_sem,zA,zB,zC,zD,zE,zF,zG,zH,zI,zJ,zK,zL,zM,zN,zO,zP,↓reduceIte,reduceCtorEq,e2,la,lb,f1,f2,f2b,f0,yCa,hc,hcb,r1,r2,Itm.cells,Srv.cells,hw]
  cases e3 : decide (x.data = y.data) with
  | false =>
    have g := bad (fun e => by rw [e] at e3; simp at e3)
    simp only [go_sem,zA,zB,zC,zD,zE,zF,zG,zH,zI,zJ,zK,zL,zM,zN,zO,zP,↓reduceIte,reduceCtorEq,e3]
    refine endD_intro (by decide +kernel) ?_
    simp only [go_sem,zA,zB,zC,zD,zE,zF,zG,zH,zI,zJ,zK,zL,zM,zN,zO,zP,↓reduceIte,reduceCtorEq,g,Tryz.ntmps31,Tryz.results31]
  | true =>
    have he : x = y := by
      obtain ⟨x1,x2,x3⟩ := x
      obtain ⟨y1,y2,y3⟩ := y
      simp at e1 e2 e3
      simp [e1,e2,e3]
    simp only [go_sem,zA,zB,zC,zD,zE,zF,zG,zH,zI,zJ,zK,zL,zM,zN,zO,zP,↓reduceIte,reduceCtorEq,e3]
    refine endD_intro (by decide +kernel) ?_
    simp only [go_sem,zA,zB,zC,zD,zE,zF,zG,zH,zI,zJ,zK,zL,zM,zN,zO,zP,↓reduceIte,reduceCtorEq,hw]
    refine good he _ ?_
    simp only [go_sem,zA,zB,zC,zD,zE,zF,zG,zH,zI,zJ,zK,zL,zM,zN,zO,zP,↓reduceIte,reduceCtorEq,sm22St,Srv.cells,refsIn,refsInL,Blk.refsIn]
end Go.Proofs.YtcdmhigmgpflbaaGreat.Pe
namespace Go.Proofs.YtcdmhigmgpflbaaGreat.Pe
open Go.Pe Go.RowKit
def wit (n lo hi : Int) : Bool := decide (lo ≤ n) && decide (n ≤ hi)
def okIt (x : Itm) : Bool := wit x.id 0 65535 && wit x.data.length 1 64
def ordI (p : Option Int) (n : Int) : Bool := match p with
  | none => true
  | some q => !decide (q ≥ n)
def okIts : Option Int → List Itm → Bool
  | _,[] => true
  | p,x :: l => okIt x && (ordI p x.id && okIts (some x.id) l)
def rightH (s : Srv) : Bool := wit s.ses 1 3 && (wit s.seed (-1) 4294967295 && (wit s.wrong 0 12 && (wit s.quiet 0 51 && (wit s.draw 0 4294967295 && (wit s.sec 0 4294967295 && (decide ((s.items.length : Int) ≤ 16) && rightL s.dtc))))))
def rightS (s : Srv) : Bool := okIts none s.items && rightH s
def prevI (l : List Itm) (i : Nat) (p : Option Int) : Prop := (i = 0 ∧ p = none) ∨ (0 < i ∧ ∃ x,l[i - 1]? = some x ∧ p = some x.id)
theorem prevI_next {l : List Itm} {i : Nat} {x : Itm} (h : l[i]? = some x) : prevI l (i + 1) (some x.id) := .inr ⟨by omega,x,by simpa using h,rfl⟩
end Go.Proofs.YtcdmhigmgpflbaaGreat.Pe
namespace Go.Proofs.YtcdmhigmgpflbaaGreat.Pe
open Go.Pe Go.RowKit
def rrSt (s : Srv) (i : Nat) : St := ⟨116,[(1,.ptr 0 0),(3,PI i)],[(0,.box 26 s.cells)],100,0⟩
def rrI (s : Srv) (m : Nat) (st : St) : Prop := ∃ (i : Nat) (p : Option Int),i ≤ s.items.length ∧ m = s.items.length - i ∧ prevI s.items i p ∧ okIts p (s.items.drop i) = okIts none s.items ∧ st = rrSt s i
theorem rightS22_calls (s : Srv) (hi : s.items.length ≤ 9223372036854775807) : PureCalls Tryz.prog 39 [s.pv] (PB (rightS s)) := by
  refine PureCalls.of tabOK mixed Tryz.func39 rfl rfl (by decide +kernel) (by simp [Tryz.ntmps39]) ?_
  have la := itmRows_len s.items
  have cs : PureCalls Tryz.prog 51 [PI s.seed] (PB (wit s.seed 0 4294967295)) := wide_calls s.seed
  have cd : PureCalls Tryz.prog 51 [PI s.draw] (PB (wit s.draw 0 4294967295)) := wide_calls s.draw
  have ce : PureCalls Tryz.prog 51 [PI s.sec] (PB (wit s.sec 0 4294967295)) := wide_calls s.sec
  have c7 := rightR21_calls s.dtc
  have notH : rightH s = false → rightS s = false := fun h => by rw [rightS,h,Bool.and_false]
  simp only [go_sem,zA,zB,zC,zD,zE,zF,zG,zH,zI,zJ,zK,zL,zM,zN,zO,zP,↓reduceIte,reduceCtorEq,Tryz.ntmps39,Tryz.results39,Srv.pv,Srv.cells,la]
  cases e1 : decide (s.ses < 1) with
  | true =>
    have hh : wit s.ses 1 3 = false := by
      simp [wit] at e1 ⊢
      omega
    have g := notH (by simp [rightH,hh])
    simp only [go_sem,zA,zB,zC,zD,zE,zF,zG,zH,zI,zJ,zK,zL,zM,zN,zO,zP,↓reduceIte,reduceCtorEq,la,e1,g,Tryz.ntmps39,Tryz.results39]
  | false =>
  simp only [go_sem,zA,zB,zC,zD,zE,zF,zG,zH,zI,zJ,zK,zL,zM,zN,zO,zP,↓reduceIte,reduceCtorEq,la,e1]
  cases e2 : decide (s.ses > 3) with
  | true =>
    have hh : wit s.ses 1 3 = false := by
      simp [wit] at e2 ⊢
      omega
    have g := notH (by simp [rightH,hh])
    simp only [go_sem,zA,zB,zC,zD,zE,zF,zG,zH,zI,zJ,zK,zL,zM,zN,zO,zP,↓reduceIte,reduceCtorEq,la,e2,g,Tryz.ntmps39,Tryz.results39]
  | false =>
  simp only [go_sem,zA,zB,zC,zD,zE,zF,zG,zH,zI,zJ,zK,zL,zM,zN,zO,zP,↓reduceIte,reduceCtorEq,la,e2]
  have e14 : wit s.ses 1 3 = true := by simp [wit] at e1 e2 ⊢; omega
  have seedcase : wit s.seed (-1) 4294967295 = (decide (s.seed = -1) || wit s.seed 0 4294967295) := by
    rw [Bool.eq_iff_iff]; simp [wit]; omega
  cases e15 : wit s.seed (-1) 4294967295 with
  | false =>
    have g := notH (by simp [rightH,e15])
    rw [e15] at seedcase
    have u1 : decide (s.seed = -1) = false := by cases hh : decide (s.seed = -1) <;> simp [hh] at seedcase ⊢
    have u2 : wit s.seed 0 4294967295 = false := by cases hh : wit s.seed 0 4294967295 <;> simp [hh] at seedcase ⊢
    rw [u2] at cs
    simp only [go_sem,zA,zB,zC,zD,zE,zF,zG,zH,zI,zJ,zK,zL,zM,zN,zO,zP,↓reduceIte,reduceCtorEq,u1]
    (refine CallA.pure (cs) (by simp only [go_sem,zA,zB,zC,zD,zE,zF,zG,zH,zI,zJ,zK,zL,zM,zN,zO,zP,↓reduceIte,reduceCtorEq,la,g,Tryz.ntmps39,Tryz.results39] <;> first | rfl | decide) ?_; simp only [go_sem,zA,zB,zC,zD,zE,zF,zG,zH,zI,zJ,zK,zL,zM,zN,zO,zP,↓reduceIte,reduceCtorEq,la,g,Tryz.ntmps39,Tryz.results39])
  | true =>
  rw [e15] at seedcase
  cases e4 : decide (s.seed = -1)
  case' true => simp only [go_sem,zA,zB,zC,zD,zE,zF,zG,zH,zI,zJ,zK,zL,zM,zN,zO,zP,↓reduceIte,reduceCtorEq,e4]
  case' false =>
    have u2 : wit s.seed 0 4294967295 = true := by rw [e4] at seedcase; simpa using seedcase.symm
    rw [u2] at cs
    simp only [go_sem,zA,zB,zC,zD,zE,zF,zG,zH,zI,zJ,zK,zL,zM,zN,zO,zP,↓reduceIte,reduceCtorEq,e4]
    (refine CallA.pure (cs) (by simp only [go_sem,zA,zB,zC,zD,zE,zF,zG,zH,zI,zJ,zK,zL,zM,zN,zO,zP,↓reduceIte,reduceCtorEq] <;> first | rfl | decide) ?_; simp only [go_sem,zA,zB,zC,zD,zE,zF,zG,zH,zI,zJ,zK,zL,zM,zN,zO,zP,↓reduceIte,reduceCtorEq])
  all_goals
    cases e5 : decide (s.wrong < 0) with
    | true =>
      have hh : wit s.wrong 0 12 = false := by
        simp [wit] at e5 ⊢
        omega
      have g := notH (by simp [rightH,hh])
      simp only [go_sem,zA,zB,zC,zD,zE,zF,zG,zH,zI,zJ,zK,zL,zM,zN,zO,zP,↓reduceIte,reduceCtorEq,la,e5,g,Tryz.ntmps39,Tryz.results39]
    | false =>
    simp only [go_sem,zA,zB,zC,zD,zE,zF,zG,zH,zI,zJ,zK,zL,zM,zN,zO,zP,↓reduceIte,reduceCtorEq,la,e5]
    cases e6 : decide (s.wrong > 12) with
    | true =>
      have hh : wit s.wrong 0 12 = false := by
        simp [wit] at e6 ⊢
        omega
      have g := notH (by simp [rightH,hh])
      simp only [go_sem,zA,zB,zC,zD,zE,zF,zG,zH,zI,zJ,zK,zL,zM,zN,zO,zP,↓reduceIte,reduceCtorEq,la,e6,g,Tryz.ntmps39,Tryz.results39]
    | false =>
    simp only [go_sem,zA,zB,zC,zD,zE,zF,zG,zH,zI,zJ,zK,zL,zM,zN,zO,zP,↓reduceIte,reduceCtorEq,la,e6]
    have e16 : wit s.wrong 0 12 = true := by simp [wit] at e5 e6 ⊢; omega
    cases e7 : decide (s.quiet < 0) with
    | true =>
      have hh : wit s.quiet 0 51 = false := by
        simp [wit] at e7 ⊢
        omega
      have g := notH (by simp [rightH,hh])
      simp only [go_sem,zA,zB,zC,zD,zE,zF,zG,zH,zI,zJ,zK,zL,zM,zN,zO,zP,↓reduceIte,reduceCtorEq,la,e7,g,Tryz.ntmps39,Tryz.results39]
    | false =>
    simp only [go_sem,zA,zB,zC,zD,zE,zF,zG,zH,zI,zJ,zK,zL,zM,zN,zO,zP,↓reduceIte,reduceCtorEq,la,e7]
    cases e8 : decide (s.quiet > 51) with
    | true =>
      have hh : wit s.quiet 0 51 = false := by
        simp [wit] at e8 ⊢
        omega
      have g := notH (by simp [rightH,hh])
      simp only [go_sem,zA,zB,zC,zD,zE,zF,zG,zH,zI,zJ,zK,zL,zM,zN,zO,zP,↓reduceIte,reduceCtorEq,la,e8,g,Tryz.ntmps39,Tryz.results39]
    | false =>
    simp only [go_sem,zA,zB,zC,zD,zE,zF,zG,zH,zI,zJ,zK,zL,zM,zN,zO,zP,↓reduceIte,reduceCtorEq,la,e8]
    have e17 : wit s.quiet 0 51 = true := by simp [wit] at e7 e8 ⊢; omega
    (refine CallA.pure (cd) (by simp only [go_sem,zA,zB,zC,zD,zE,zF,zG,zH,zI,zJ,zK,zL,zM,zN,zO,zP,↓reduceIte,reduceCtorEq] <;> first | rfl | decide) ?_; simp only [go_sem,zA,zB,zC,zD,zE,zF,zG,zH,zI,zJ,zK,zL,zM,zN,zO,zP,↓reduceIte,reduceCtorEq])
    cases e18 : wit s.draw 0 4294967295 with
    | false =>
      have g := notH (by simp [rightH,e18])
      simp only [go_sem,zA,zB,zC,zD,zE,zF,zG,zH,zI,zJ,zK,zL,zM,zN,zO,zP,↓reduceIte,reduceCtorEq,e18,g,Tryz.ntmps39,Tryz.results39]
    | true =>
    simp only [go_sem,zA,zB,zC,zD,zE,zF,zG,zH,zI,zJ,zK,zL,zM,zN,zO,zP,↓reduceIte,reduceCtorEq,e18,la]
    (refine CallA.pure (ce) (by simp only [go_sem,zA,zB,zC,zD,zE,zF,zG,zH,zI,zJ,zK,zL,zM,zN,zO,zP,↓reduceIte,reduceCtorEq] <;> first | rfl | decide) ?_; simp only [go_sem,zA,zB,zC,zD,zE,zF,zG,zH,zI,zJ,zK,zL,zM,zN,zO,zP,↓reduceIte,reduceCtorEq])
    cases e19 : wit s.sec 0 4294967295 with
    | false =>
      have g := notH (by simp [rightH,e19])
      simp only [go_sem,zA,zB,zC,zD,zE,zF,zG,zH,zI,zJ,zK,zL,zM,zN,zO,zP,↓reduceIte,reduceCtorEq,e19,g,Tryz.ntmps39,Tryz.results39]
    | true =>
    simp only [go_sem,zA,zB,zC,zD,zE,zF,zG,zH,zI,zJ,zK,zL,zM,zN,zO,zP,↓reduceIte,reduceCtorEq,e19,la]
    cases e9 : decide ((s.items.length : Int) > 16) with
    | true =>
      have hh : decide ((s.items.length : Int) ≤ 16) = false := by
        simp at e9 ⊢
        omega
      have g := notH (by simp only [rightH,hh,Bool.false_and,Bool.and_false])
      simp only [go_sem,zA,zB,zC,zD,zE,zF,zG,zH,zI,zJ,zK,zL,zM,zN,zO,zP,↓reduceIte,reduceCtorEq,la,e9,g,Tryz.ntmps39,Tryz.results39]
    | false =>
    have e20 : decide ((s.items.length : Int) ≤ 16) = true := by
      simp at e9 ⊢
      omega
    simp only [go_sem,zA,zB,zC,zD,zE,zF,zG,zH,zI,zJ,zK,zL,zM,zN,zO,zP,↓reduceIte,reduceCtorEq,la,e9]
    (refine CallA.pure (c7) (by simp only [go_sem,zA,zB,zC,zD,zE,zF,zG,zH,zI,zJ,zK,zL,zM,zN,zO,zP,↓reduceIte,reduceCtorEq] <;> first | rfl | decide) ?_; simp only [go_sem,zA,zB,zC,zD,zE,zF,zG,zH,zI,zJ,zK,zL,zM,zN,zO,zP,↓reduceIte,reduceCtorEq])
    cases e21 : rightL s.dtc with
    | false =>
      have g := notH (by simp [rightH,e21])
      simp only [go_sem,zA,zB,zC,zD,zE,zF,zG,zH,zI,zJ,zK,zL,zM,zN,zO,zP,↓reduceIte,reduceCtorEq,e21,g,Tryz.ntmps39,Tryz.results39]
    | true =>
    simp only [go_sem,zA,zB,zC,zD,zE,zF,zG,zH,zI,zJ,zK,zL,zM,zN,zO,zP,↓reduceIte,reduceCtorEq,e21]
    have hH : rightH s = true := by
      simp only [rightH,e14,e15,e16,e17,e18,e19,e20,e21,Bool.and_self]
    have key : rightS s = okIts none s.items := by rw [rightS,hH,Bool.and_true]
    rw [key]
    refine wpA_loop (rrI s) ⟨_,_,?_,0,none,by omega,rfl,.inl ⟨rfl,rfl⟩,rfl,rfl⟩ ?_
    · simp only [go_sem,zA,zB,zC,zD,zE,zF,zG,zH,zI,zJ,zK,zL,zM,zN,zO,zP,↓reduceIte,reduceCtorEq,rrSt,yCb,Srv.cells,refsIn,refsInL,Blk.refsIn]
    clear key hH
    rintro m st ⟨i,p,hil,rfl,hp,hdr,rfl⟩
    by_cases hc : i < s.items.length
    rotate_left 1
    · have f1 : decide ((i : Int) < (s.items.length : Int)) = false := decide_eq_false (by omega)
      have g : okIts none s.items = true := by
        rw [← hdr,List.drop_of_length_le (by omega)]
        cases p <;> rfl
      simp only [go_sem,zA,zB,zC,zD,zE,zF,zG,zH,zI,zJ,zK,zL,zM,zN,zO,zP,↓reduceIte,reduceCtorEq,rrSt,la,f1,g,Srv.cells,Tryz.ntmps39,Tryz.results39]
    have f1 : decide ((i : Int) < (s.items.length : Int)) = true := decide_eq_true (by omega)
    have f2 : (i : Int) < (s.items.length : Int) := by omega
    have f0 : (0 : Int) ≤ (i : Int) := by omega
    have hw := wrapIN (i := i) (by omega)
    have r1 := itmRows_get hc
    have hda : s.items.drop i = s.items[i] :: s.items.drop (i + 1) := by rw [List.drop_eq_getElem_cons hc]
    have hge : s.items[i]? = some s.items[i] := List.getElem?_eq_getElem hc
    have hnx := prevI_next hge
    generalize s.items[i] = x at r1 hda hnx hge
    rw [hda] at hdr
    have bad : okIt x = false ∨ ordI p x.id = false → okIts none s.items = false := by
      intro h
      rw [← hdr,okIts]
      rcases h with h | h <;> simp [h]
    have fin : okIt x = true → ordI p x.id = true → ∀ st',Weak st' (rrSt s (i + 1 : Nat)) → ∃ m'' s'',m'' < s.items.length - i ∧ Weak st' s'' ∧ rrI s m'' s'' := by
      intro h1 h2 st' hwk
      refine ⟨s.items.length - (i + 1),_,by omega,hwk,i + 1,some x.id,by omega,rfl,hnx,?_,rfl⟩
      rw [← hdr,okIts,h1,h2]
      rfl
    have ord : (ordI p x.id = true ∧ decide ((i : Int) > 0) = false) ∨ ∃ q : Itm,ordI p x.id = !decide (x.id ≤ q.id) ∧ decide ((i : Int) > 0) = true ∧ IntKind.wrap .i64 ((i : Int) - 1) = ((i - 1 : Nat) : Int) ∧ (itmRows s.items).getD (i - 1) [] = q.cells ∧ ((i - 1 : Nat) : Int) < (s.items.length : Int) ∧ (0 : Int) ≤ ((i - 1 : Nat) : Int) ∧ (i - 1) < s.items.length := by
      rcases hp with ⟨rfl,rfl⟩ | ⟨h0,q,hq,rfl⟩
      · exact .inl ⟨rfl,rfl⟩
      · refine .inr ⟨q,rfl,decide_eq_true (by omega),?_,?_,by omega,by omega,by omega⟩
        · rw [wrapI64 (by omega)]; omega
        · simp [itmRows,List.getD_eq_getElem?_getD,hq]
    clear hp hda hge hnx
    simp only [go_sem,zA,zB,zC,zD,zE,zF,zG,zH,zI,zJ,zK,zL,zM,zN,zO,zP,↓reduceIte,reduceCtorEq,rrSt,la,f1,f2,f0,yCa,hc,r1,Itm.cells,Srv.cells,hw]
    cases ea : decide (x.id < 0) with
    | true =>
      have g := bad (.inl (by simp [okIt,wit]; simp at ea; omega))
      simp only [go_sem,zA,zB,zC,zD,zE,zF,zG,zH,zI,zJ,zK,zL,zM,zN,zO,zP,↓reduceIte,reduceCtorEq,ea]
      refine endD_intro (by decide +kernel) ?_
      simp only [go_sem,zA,zB,zC,zD,zE,zF,zG,zH,zI,zJ,zK,zL,zM,zN,zO,zP,↓reduceIte,reduceCtorEq,g,Tryz.ntmps39,Tryz.results39]
    | false =>
    simp only [go_sem,zA,zB,zC,zD,zE,zF,zG,zH,zI,zJ,zK,zL,zM,zN,zO,zP,↓reduceIte,reduceCtorEq,ea]
    cases eb : decide (x.id > 65535) with
    | true =>
      have g := bad (.inl (by simp [okIt,wit]; simp at eb; omega))
      simp only [go_sem,zA,zB,zC,zD,zE,zF,zG,zH,zI,zJ,zK,zL,zM,zN,zO,zP,↓reduceIte,reduceCtorEq,eb]
      refine endD_intro (by decide +kernel) ?_
      simp only [go_sem,zA,zB,zC,zD,zE,zF,zG,zH,zI,zJ,zK,zL,zM,zN,zO,zP,↓reduceIte,reduceCtorEq,g,Tryz.ntmps39,Tryz.results39]
    | false =>
    simp only [go_sem,zA,zB,zC,zD,zE,zF,zG,zH,zI,zJ,zK,zL,zM,zN,zO,zP,↓reduceIte,reduceCtorEq,eb]
    rcases ord with ⟨ho,g0⟩ | ⟨q,ho,g0,w1,r2,b1,b2,b3⟩
    case' inl => simp only [go_sem,zA,zB,zC,zD,zE,zF,zG,zH,zI,zJ,zK,zL,zM,zN,zO,zP,↓reduceIte,reduceCtorEq,g0]
    case' inr =>
      simp only [go_sem,zA,zB,zC,zD,zE,zF,zG,zH,zI,zJ,zK,zL,zM,zN,zO,zP,↓reduceIte,reduceCtorEq,g0,la,w1,b1,b2,b3,yCa,r2,Itm.cells]
      cases eq : decide (x.id ≤ q.id)
      case' true =>
        rw [eq] at ho
        have g := bad (.inr ho)
        simp only [go_sem,zA,zB,zC,zD,zE,zF,zG,zH,zI,zJ,zK,zL,zM,zN,zO,zP,↓reduceIte,reduceCtorEq,eq]
        refine endD_intro (by decide +kernel) ?_
        simp only [go_sem,zA,zB,zC,zD,zE,zF,zG,zH,zI,zJ,zK,zL,zM,zN,zO,zP,↓reduceIte,reduceCtorEq,g,Tryz.ntmps39,Tryz.results39]
      rw [eq] at ho
      simp only [go_sem,zA,zB,zC,zD,zE,zF,zG,zH,zI,zJ,zK,zL,zM,zN,zO,zP,↓reduceIte,reduceCtorEq,eq]
    all_goals
      cases ec : decide ((x.data.length : Int) < 1) with
      | true =>
        have g := bad (.inl (by simp [okIt,wit]; simp at ec; omega))
        simp only [go_sem,zA,zB,zC,zD,zE,zF,zG,zH,zI,zJ,zK,zL,zM,zN,zO,zP,↓reduceIte,reduceCtorEq,rowsB_length,ec]
        refine endD_intro (by decide +kernel) ?_
        simp only [go_sem,zA,zB,zC,zD,zE,zF,zG,zH,zI,zJ,zK,zL,zM,zN,zO,zP,↓reduceIte,reduceCtorEq,g,Tryz.ntmps39,Tryz.results39]
      | false =>
      simp only [go_sem,zA,zB,zC,zD,zE,zF,zG,zH,zI,zJ,zK,zL,zM,zN,zO,zP,↓reduceIte,reduceCtorEq,rowsB_length,ec]
      refine endD_intro (by decide +kernel) ?_
      cases ed : decide ((x.data.length : Int) > 64) with
      | true =>
        have g := bad (.inl (by simp [okIt,wit]; simp at ed; omega))
        simp only [go_sem,zA,zB,zC,zD,zE,zF,zG,zH,zI,zJ,zK,zL,zM,zN,zO,zP,↓reduceIte,reduceCtorEq,rowsB_length,ed,g,Tryz.ntmps39,Tryz.results39]
      | false =>
      simp only [go_sem,zA,zB,zC,zD,zE,zF,zG,zH,zI,zJ,zK,zL,zM,zN,zO,zP,↓reduceIte,reduceCtorEq,rowsB_length,ed,hw]
      refine fin (by simp at ea eb ec ed; simp [okIt,wit]; omega) ho _ ?_
      simp only [go_sem,zA,zB,zC,zD,zE,zF,zG,zH,zI,zJ,zK,zL,zM,zN,zO,zP,↓reduceIte,reduceCtorEq,rrSt,Srv.cells,refsIn,refsInL,Blk.refsIn]
end Go.Proofs.YtcdmhigmgpflbaaGreat.Pe
