import Derived.Test.YtcdmhigmgpflbaaDI12
namespace Go.Proofs.Ytcdmhigmgpflbaa.Pe
open Go.Pe Go.RowKit
open Nat renaming reduceAdd → zA,reduceSub → zB,reduceMul → zC,reduceLT → zD,reduceLeDiff → zE,reduceEqDiff → zF,reduceBEq → zG
open Int renaming reduceToNat → zH,reduceLT → zI,reduceLE → zJ,reduceEq → zK,reduceNe → zL,reduceAdd → zM,reduceSub → zN,reduceMul → zO,reduceNeg → zP
set_option maxRecDepth 20000
set_option maxHeartbeats 4000000
set_option linter.unusedSimpArgs false
set_option linter.unusedVariables false

def itA {α : Type} (f : α → α) : Nat → α → α
  | 0,x => x
  | n + 1,x => itA f n (f x)
theorem itA_succ {α : Type} (f : α → α) (n : Nat) (x : α) : itA f (n + 1) x = itA f n (f x) := rfl
theorem itA_zero {α : Type} (f : α → α) (x : α) : itA f 0 x = x := rfl
def tickQ (s : Srv) (q : Int) : Srv := if q > 50 then { s with ses := 1,op := false,seed := -1,quiet := q } else { s with quiet := q }
def tickW (s : Srv) : Srv := if s.wrong > 2 then { s with wrong := if s.wrong - 1 = 2 then 0 else s.wrong - 1 } else s
/-- A tick. -/
def tick1 (s : Srv) : Srv := tickW (tickQ s (min (s.quiet + 1) 51))
structure Srv.tk (s : Srv) : Prop where
  q : 0 ≤ s.quiet ∧ s.quiet ≤ 51
  w : 0 ≤ s.wrong ∧ s.wrong ≤ 12
theorem tick1_tk {s : Srv} (h : s.tk) : (tick1 s).tk := by
  obtain ⟨⟨q1,q2⟩,w1,w2⟩ := h
  have e : (tickQ s (min (s.quiet + 1) 51)).quiet = min (s.quiet + 1) 51 ∧ (tickQ s (min (s.quiet + 1) 51)).wrong = s.wrong := by unfold tickQ; split <;> exact ⟨rfl,rfl⟩
  have e2 : ∀ t : Srv,(tickW t).quiet = t.quiet := by intro t; unfold tickW; split <;> rfl
  refine ⟨?_,?_⟩
  · unfold tick1; rw [e2,e.1]; omega
  · unfold tick1 tickW
    rw [e.2]
    split
    · show 0 ≤ (if s.wrong - 1 = 2 then 0 else s.wrong - 1) ∧ (if s.wrong - 1 = 2 then 0 else s.wrong - 1) ≤ 12
      split <;> omega
    · rw [e.2]; omega
def tickDV (n : Int) (s : Srv) : Srv := itA tick1 (min n 60).toNat s
def tdSt (s : Srv) (z : List PV) (m : Int) (i : Nat) : St := ⟨33,[(2,.ptr 0 0),(4,.ptr 1 0),(6,PI m),(7,PI i)],[(0,.box 25 s.cells),(1,.box 25 z)],100,0⟩
def tdI (r : Srv) (z : List PV) (n : Int) (m : Nat) (st : St) : Prop := ∃ (i : Nat) (s : Srv),i ≤ n.toNat ∧ m = n.toNat - i ∧ s.tk ∧ itA tick1 (n.toNat - i) s = r ∧ st = tdSt s z n i
def srvZ : List PV := [PI 0,PB false,PI 0,PI 0,PI 0,PI 0,PI 0,.lit (.slice none 0 0),.im 4 []]
theorem tickD_calls (s : Srv) (n : Int) (h : s.tk) : PureCalls Try.prog 38 [s.pv,PI n] (tickDV n s).pv := by
  refine PureCalls.of tabOK mixed Try.func38 rfl rfl (by decide +kernel) (by simp [Try.ntmps38]) ?_
  obtain ⟨m,hm⟩ : ∃ m : Int,(if 60 < n then 60 else n) = m := ⟨_,rfl⟩
  have hmn : (min n 60).toNat = m.toNat := by rw [← hm]; split <;> omega
  have hm60 : m.toNat ≤ 60 := by rw [← hm]; split <;> omega
  rw [tickDV,hmn]
  obtain ⟨r,hr⟩ : ∃ r,itA tick1 m.toNat s = r := ⟨_,rfl⟩
  rw [hr]
  simp only [go_sem,zA,zB,zC,zD,zE,zF,zG,zH,zI,zJ,zK,zL,zM,zN,zO,zP,↓reduceIte,reduceCtorEq,Try.ntmps38,Try.results38,Srv.pv,Srv.cells,hm]
  refine wpA_loop (tdI r srvZ m) ⟨_,_,?_,0,s,by omega,rfl,h,hr,rfl⟩ ?_
  · simp only [go_sem,zA,zB,zC,zD,zE,zF,zG,zH,zI,zJ,zK,zL,zM,zN,zO,zP,↓reduceIte,reduceCtorEq,tdSt,Int.natCast_zero,Srv.cells,srvZ,refsIn,refsInL,Blk.refsIn]
  clear hr hmn hm h
  rintro m' st ⟨i,s,hi,rfl,h,hr,rfl⟩
  by_cases hc : i < m.toNat
  rotate_left 1
  · have f1 : decide ((i : Int) < m) = false := decide_eq_false (by omega)
    rw [show m.toNat - i = 0 by omega,itA_zero] at hr
    subst hr
    simp only [go_sem,zA,zB,zC,zD,zE,zF,zG,zH,zI,zJ,zK,zL,zM,zN,zO,zP,↓reduceIte,reduceCtorEq,tdSt,f1,Srv.cells,srvZ,Try.ntmps38,Try.results38,Srv.pv]
  have f1 : decide ((i : Int) < m) = true := decide_eq_true (by omega)
  have hw := wrapIN (i := i) (by omega)
  obtain ⟨⟨q1,q2⟩,w1,w2⟩ := h
  have k1 : IntKind.wrap .i64 (s.quiet + 1) = s.quiet + 1 := wrapI64 (by omega)
  have k2 : IntKind.wrap .i64 (s.wrong - 1) = s.wrong - 1 := wrapI64 (by omega)
  have k3 : (if 51 < s.quiet + 1 then 51 else s.quiet + 1) = min (s.quiet + 1) 51 := by split <;> omega
  have hs1 : itA tick1 (m.toNat - (i + 1)) (tick1 s) = r := by rw [← hr,show m.toNat - i = (m.toNat - (i + 1)) + 1 by omega,itA_succ]
  have ht1 := tick1_tk (s := s) ⟨⟨q1,q2⟩,w1,w2⟩
  have fin : ∀ st',Weak st' (tdSt (tick1 s) srvZ m (i + 1 : Nat)) → ∃ m'' s'',m'' < m.toNat - i ∧ Weak st' s'' ∧ tdI r srvZ m m'' s'' := fun st' hw => ⟨m.toNat - (i + 1),_,by omega,hw,i + 1,tick1 s,by omega,rfl,ht1,hs1,rfl⟩
  simp only [go_sem,zA,zB,zC,zD,zE,zF,zG,zH,zI,zJ,zK,zL,zM,zN,zO,zP,↓reduceIte,reduceCtorEq,tdSt,f1,Srv.cells,k1,k3]
  cases g1 : decide (min (s.quiet + 1) 51 > 50) with
  | true =>
    have p1 : (min (s.quiet + 1) 51 > 50) = True := eq_true (by simpa using g1)
    cases g2 : decide (s.wrong > 2) with
    | false =>
      have p2 : (s.wrong > 2) = False := eq_false (by simpa using g2)
      simp only [go_sem,zA,zB,zC,zD,zE,zF,zG,zH,zI,zJ,zK,zL,zM,zN,zO,zP,↓reduceIte,reduceCtorEq,g1,g2,hw,Srv.cells]
      have e : tick1 s = { tickQ s (min (s.quiet + 1) 51) with wrong := s.wrong } := by simp only [tick1,tickQ,tickW,p1,p2,if_true,if_false]
      rw [e] at fin
      refine fin _ ?_
      simp only [go_sem,zA,zB,zC,zD,zE,zF,zG,zH,zI,zJ,zK,zL,zM,zN,zO,zP,↓reduceIte,reduceCtorEq,tdSt,Srv.cells,tickQ,p1,p2,hw,srvZ,if_true,if_false,refsIn,refsInL,Blk.refsIn]
    | true =>
      have p2 : (s.wrong > 2) = True := eq_true (by simpa using g2)
      cases g3 : decide (s.wrong - 1 = 2) with
      | true =>
        have p3 : (s.wrong - 1 = 2) = True := eq_true (by simpa using g3)
        simp only [go_sem,zA,zB,zC,zD,zE,zF,zG,zH,zI,zJ,zK,zL,zM,zN,zO,zP,↓reduceIte,reduceCtorEq,g1,g2,g3,hw,k2,Srv.cells]
        have e : tick1 s = { tickQ s (min (s.quiet + 1) 51) with wrong := 0 } := by simp only [tick1,tickQ,tickW,p1,p2,p3,if_true,if_false]
        rw [e] at fin
        refine fin _ ?_
        simp only [go_sem,zA,zB,zC,zD,zE,zF,zG,zH,zI,zJ,zK,zL,zM,zN,zO,zP,↓reduceIte,reduceCtorEq,tdSt,Srv.cells,tickQ,p1,p2,hw,srvZ,if_true,if_false,refsIn,refsInL,Blk.refsIn]
      | false =>
        have p3 : (s.wrong - 1 = 2) = False := eq_false (by simpa using g3)
        simp only [go_sem,zA,zB,zC,zD,zE,zF,zG,zH,zI,zJ,zK,zL,zM,zN,zO,zP,↓reduceIte,reduceCtorEq,g1,g2,g3,hw,k2,Srv.cells]
        have e : tick1 s = { tickQ s (min (s.quiet + 1) 51) with wrong := s.wrong - 1 } := by simp only [tick1,tickQ,tickW,p1,p2,p3,if_true,if_false]
        rw [e] at fin
        refine fin _ ?_
        simp only [go_sem,zA,zB,zC,zD,zE,zF,zG,zH,zI,zJ,zK,zL,zM,zN,zO,zP,↓reduceIte,reduceCtorEq,tdSt,Srv.cells,tickQ,p1,p2,hw,srvZ,if_true,if_false,refsIn,refsInL,Blk.refsIn]
  | false =>
    have p1 : (min (s.quiet + 1) 51 > 50) = False := eq_false (by simpa using g1)
    cases g2 : decide (s.wrong > 2) with
    | false =>
      have p2 : (s.wrong > 2) = False := eq_false (by simpa using g2)
      simp only [go_sem,zA,zB,zC,zD,zE,zF,zG,zH,zI,zJ,zK,zL,zM,zN,zO,zP,↓reduceIte,reduceCtorEq,g1,g2,hw,Srv.cells]
      have e : tick1 s = { tickQ s (min (s.quiet + 1) 51) with wrong := s.wrong } := by simp only [tick1,tickQ,tickW,p1,p2,if_true,if_false]
      rw [e] at fin
      refine fin _ ?_
      simp only [go_sem,zA,zB,zC,zD,zE,zF,zG,zH,zI,zJ,zK,zL,zM,zN,zO,zP,↓reduceIte,reduceCtorEq,tdSt,Srv.cells,tickQ,p1,p2,hw,srvZ,if_true,if_false,refsIn,refsInL,Blk.refsIn]
    | true =>
      have p2 : (s.wrong > 2) = True := eq_true (by simpa using g2)
      cases g3 : decide (s.wrong - 1 = 2) with
      | true =>
        have p3 : (s.wrong - 1 = 2) = True := eq_true (by simpa using g3)
        simp only [go_sem,zA,zB,zC,zD,zE,zF,zG,zH,zI,zJ,zK,zL,zM,zN,zO,zP,↓reduceIte,reduceCtorEq,g1,g2,g3,hw,k2,Srv.cells]
        have e : tick1 s = { tickQ s (min (s.quiet + 1) 51) with wrong := 0 } := by simp only [tick1,tickQ,tickW,p1,p2,p3,if_true,if_false]
        rw [e] at fin
        refine fin _ ?_
        simp only [go_sem,zA,zB,zC,zD,zE,zF,zG,zH,zI,zJ,zK,zL,zM,zN,zO,zP,↓reduceIte,reduceCtorEq,tdSt,Srv.cells,tickQ,p1,p2,hw,srvZ,if_true,if_false,refsIn,refsInL,Blk.refsIn]
      | false =>
        have p3 : (s.wrong - 1 = 2) = False := eq_false (by simpa using g3)
        simp only [go_sem,zA,zB,zC,zD,zE,zF,zG,zH,zI,zJ,zK,zL,zM,zN,zO,zP,↓reduceIte,reduceCtorEq,g1,g2,g3,hw,k2,Srv.cells]
        have e : tick1 s = { tickQ s (min (s.quiet + 1) 51) with wrong := s.wrong - 1 } := by simp only [tick1,tickQ,tickW,p1,p2,p3,if_true,if_false]
        rw [e] at fin
        refine fin _ ?_
        simp only [go_sem,zA,zB,zC,zD,zE,zF,zG,zH,zI,zJ,zK,zL,zM,zN,zO,zP,↓reduceIte,reduceCtorEq,tdSt,Srv.cells,tickQ,p1,p2,hw,srvZ,if_true,if_false,refsIn,refsInL,Blk.refsIn]
end Go.Proofs.Ytcdmhigmgpflbaa.Pe


namespace Go.Proofs.Ytcdmhigmgpflbaa.Pe
open Go.Pe Go.RowKit
set_option maxRecDepth 20000
set_option maxHeartbeats 4000000
set_option linter.unusedSimpArgs false
set_option linter.unusedVariables false

end Go.Proofs.Ytcdmhigmgpflbaa.Pe

