import Derived.Test.YtcdmhigmgpflbaaGreatTS6
import Derived.Test.YtcdmhigmgpflbaaGreatDL8
set_option maxRecDepth 20000
set_option maxHeartbeats 4000000
set_option linter.unusedSimpArgs false
set_option linter.unusedVariables false
open Nat renaming reduceAdd → zA,reduceSub → zB,reduceMul → zC,reduceLT → zD,reduceLeDiff → zE,reduceEqDiff → zF,reduceBEq → zG
open Int renaming reduceToNat → zH,reduceLT → zI,reduceLE → zJ,reduceEq → zK,reduceNe → zL,reduceAdd → zM,reduceSub → zN,reduceMul → zO,reduceNeg → zP
open List renaming length_map → yBm
namespace Go.Proofs.YtcdmhigmgpflbaaGreat.Pe
open Go.Pe Go.RowKit
theorem ask_on_nil {s : Srv} {q : List UInt8} (hon : (askV s q).2.2 = true) : (askV s q).2.1 = [] := by
  cases q with
  | nil => rfl
  | cons c r =>
    rcases ask_shape s c r with e | ⟨u,o,e,_⟩ | ⟨why,e,_⟩ | ⟨e,_,_⟩
    · rw [e]
    · rw [e] at hon; cases hon
    · rw [e] at hon; cases hon
    · rw [e] at hon; cases hon
theorem talk_any (s : Srv) (q : List UInt8) (f g : List Int) : (talkV s q f g = (s,[],false,false)) ∨
    (talkV s q f g = ((askV s q).1,(askV s q).2.1,(askV s q).2.2,true)) ∨ (talkV s q f g = ((askV s q).1,[],false,false)) := by
  unfold talkV
  cases hc : camV q f with
  | false => exact .inl rfl
  | true =>
    rw [if_pos rfl]
    cases hon : (askV s q).2.2 with
    | true => rw [if_pos rfl,ask_on_nil hon]; exact .inr (.inl rfl)
    | false =>
      rw [if_neg (by decide)]
      cases hg : camV (askV s q).2.1 g with
      | true => rw [if_pos rfl]; exact .inr (.inl rfl)
      | false => exact .inr (.inr rfl)
def greatV (s : Srv) (q : List UInt8) (f g : List Int) : Bool :=
  decide (600 < q.length) || (decide (300 < f.length) || (decide (300 < g.length) || (decide (20 < s.items.length) || (decide (20 < s.dtc.length) || !rightS s))))
theorem great_calls (s : Srv) (q : List UInt8) (f g : List Int) : PureCalls Tryz.prog 28 [s.pv,bytesPV q,intsPV f,intsPV g] (PB (greatV s q f g)) := by
  refine PureCalls.of tabOK mixed Tryz.func28 rfl rfl (by decide +kernel) (by simp [Tryz.ntmps28]) ?_
  simp only [go_sem,zA,zB,zC,zD,zE,zF,zG,zH,zI,zJ,zK,zL,zM,zN,zO,zP,↓reduceIte,reduceCtorEq,Tryz.ntmps28,Tryz.results28,Srv.pv,Srv.cells,yBm,rowsB_length]
  by_cases h1 : 600 < q.length
  · have g1 : decide ((q.length : Int) > 600) = true := decide_eq_true (by omega)
    have e : greatV s q f g = true := by simp [greatV,h1]
    simp only [go_sem,zA,zB,zC,zD,zE,zF,zG,zH,zI,zJ,zK,zL,zM,zN,zO,zP,↓reduceIte,reduceCtorEq,g1,e,Tryz.ntmps28,Tryz.results28]
  have g1 : decide ((q.length : Int) > 600) = false := decide_eq_false (by omega)
  by_cases h2 : 300 < f.length
  · have g2 : decide ((f.length : Int) > 300) = true := decide_eq_true (by omega)
    have e : greatV s q f g = true := by simp [greatV,h2]
    simp only [go_sem,zA,zB,zC,zD,zE,zF,zG,zH,zI,zJ,zK,zL,zM,zN,zO,zP,↓reduceIte,reduceCtorEq,g1,g2,e,yBm,Tryz.ntmps28,Tryz.results28]
  have g2 : decide ((f.length : Int) > 300) = false := decide_eq_false (by omega)
  by_cases h3 : 300 < g.length
  · have g3 : decide ((g.length : Int) > 300) = true := decide_eq_true (by omega)
    have e : greatV s q f g = true := by simp [greatV,h3]
    simp only [go_sem,zA,zB,zC,zD,zE,zF,zG,zH,zI,zJ,zK,zL,zM,zN,zO,zP,↓reduceIte,reduceCtorEq,g1,g2,g3,e,yBm,Tryz.ntmps28,Tryz.results28]
  have g3 : decide ((g.length : Int) > 300) = false := decide_eq_false (by omega)
  by_cases h4 : 20 < s.items.length
  · have g4 : decide ((s.items.length : Int) > 20) = true := decide_eq_true (by omega)
    have e : greatV s q f g = true := by simp [greatV,h4]
    simp only [go_sem,zA,zB,zC,zD,zE,zF,zG,zH,zI,zJ,zK,zL,zM,zN,zO,zP,↓reduceIte,reduceCtorEq,g1,g2,g3,g4,e,yBm,Tryz.ntmps28,Tryz.results28]
  have g4 : decide ((s.items.length : Int) > 20) = false := decide_eq_false (by omega)
  by_cases h5 : 20 < s.dtc.length
  · have g5 : decide ((s.dtc.length : Int) > 20) = true := decide_eq_true (by omega)
    have e : greatV s q f g = true := by simp [greatV,h5]
    simp only [go_sem,zA,zB,zC,zD,zE,zF,zG,zH,zI,zJ,zK,zL,zM,zN,zO,zP,↓reduceIte,reduceCtorEq,g1,g2,g3,g4,g5,e,yBm,Tryz.ntmps28,Tryz.results28]
  have g5 : decide ((s.dtc.length : Int) > 20) = false := decide_eq_false (by omega)
  have c1 := rightS22_calls s (by omega)
  have e : greatV s q f g = !rightS s := by simp [greatV,h1,h2,h3,h4,h5]
  simp only [go_sem,zA,zB,zC,zD,zE,zF,zG,zH,zI,zJ,zK,zL,zM,zN,zO,zP,↓reduceIte,reduceCtorEq,g1,g2,g3,g4,g5,yBm]
  (refine CallA.pure (c1) (by simp only [go_sem,zA,zB,zC,zD,zE,zF,zG,zH,zI,zJ,zK,zL,zM,zN,zO,zP,↓reduceIte,reduceCtorEq,Srv.pv,Srv.cells,e,Tryz.ntmps28,Tryz.results28] <;> first | rfl | decide) ?_; simp only [go_sem,zA,zB,zC,zD,zE,zF,zG,zH,zI,zJ,zK,zL,zM,zN,zO,zP,↓reduceIte,reduceCtorEq,Srv.pv,Srv.cells,e,Tryz.ntmps28,Tryz.results28])
theorem great_right {s : Srv} {q : List UInt8} {f g : List Int} (h : greatV s q f g = false) : RightS s ∧ q.length ≤ 600 := by
  simp only [greatV,Bool.or_eq_false_iff,decide_eq_false_iff_not,Bool.not_eq_false'] at h
  exact ⟨rightS_iff.1 h.2.2.2.2.2,by omega⟩
end Go.Proofs.YtcdmhigmgpflbaaGreat.Pe
