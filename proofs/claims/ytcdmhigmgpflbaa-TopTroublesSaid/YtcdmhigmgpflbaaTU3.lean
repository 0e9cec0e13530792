import Derived.Test.YtcdmhigmgpflbaaTU1
import Derived.Test.YtcdmhigmgpflbaaKDTi
namespace Go.Proofs.Ytcdmhigmgpflbaa.Pe
open Go.Pe Go.RowKit
open Nat renaming reduceAdd → zA,reduceSub → zB,reduceMul → zC,reduceLT → zD,reduceLeDiff → zE,reduceEqDiff → zF,reduceBEq → zG
open Int renaming reduceToNat → zH,reduceLT → zI,reduceLE → zJ,reduceEq → zK,reduceNe → zL,reduceAdd → zM,reduceSub → zN,reduceMul → zO,reduceNeg → zP
set_option maxRecDepth 20000
set_option maxHeartbeats 4000000
set_option linter.unusedSimpArgs false
set_option linter.unusedVariables false
theorem top22_calls : PureCalls Try.prog 66 [] (PB true) := by
  refine PureCalls.of tabOK mixed Try.func66 rfl rfl (by decide +kernel) (by simp [Try.ntmps66]) ?_
  have c0 := newD_at (secret := 9) (draw := 1) (l := [⟨3,true,[97,98]⟩]) (s := freshS 9 1 [⟨3,true,[97,98]⟩]) (by decide +kernel)
  have r0 : RightS (freshS 9 1 [⟨3,true,[97,98]⟩]) := fresh_right (by decide) (by decide) (by decide +kernel) (by decide)
  have q1 := session_calls 2
  rw [show sesQ 2 = [0x10,2] from ses_one 2] at q1
  have e1 := talk_ses r0 (n := 2) (by decide)
  have t1 := talk_at e1 r0
  have r1 := right_to e1 r0
  have q2 := seed_calls
  have e2 := talk_seed r1 (by decide : (0 : Int) ≤ 2) (by decide : (2 : Int) ≠ 1) rfl
  have t2 := talk_at e2 r1
  have r2 := right_to e2 r1
  have k1 := keyFor_at (keyFor_four (n := 1) (by decide) 9)
  have e3 := talk_good r2 (by decide : (0 : Int) ≤ 2) (by decide : (2 : Int) ≠ 1) (by decide : (1 : Int) ≥ 0)
  have t3 := talk_at e3 r2
  have c1 := repD_at (l := []) (id := 7) (f := true) (l' := [⟨7,0,2,0⟩]) (by decide +kernel) (by decide +kernel)
  have c2 := repD_at (l := [⟨7,0,2,0⟩]) (id := 7) (f := true) (l' := [⟨7,3,4,0⟩]) (by decide +kernel) (by decide +kernel)
  have c8 := packD_calls [⟨7,3,4,0⟩] 1 (by decide)
  rw [show packV 1 [⟨7,3,4,0⟩] = [0,7,3] by decide +kernel] at c8
  simp only [go_sem,zA,zB,zC,zD,zE,zF,zG,zH,zI,zJ,zK,zL,zM,zN,zO,zP,↓reduceIte,reduceCtorEq,Try.ntmps66,Try.results66]
  (refine CallA.pure (c0) (by simp only [go_sem,zA,zB,zC,zD,zE,zF,zG,zH,zI,zJ,zK,zL,zM,zN,zO,zP,↓reduceIte,reduceCtorEq,List.map_cons,List.map_nil,Itm.cells,rowsB,rowB] <;> first | rfl | decide) ?_; simp only [go_sem,zA,zB,zC,zD,zE,zF,zG,zH,zI,zJ,zK,zL,zM,zN,zO,zP,↓reduceIte,reduceCtorEq,Srv.pv,Srv.cells,freshS])
  (refine callD_pure (q1) (by simp only [go_sem,zA,zB,zC,zD,zE,zF,zG,zH,zI,zJ,zK,zL,zM,zN,zO,zP,↓reduceIte,reduceCtorEq] <;> first | rfl | decide) ?_; simp only [go_sem,zA,zB,zC,zD,zE,zF,zG,zH,zI,zJ,zK,zL,zM,zN,zO,zP,↓reduceIte,reduceCtorEq])
  (refine callD_pure (t1) (by simp only [go_sem,zA,zB,zC,zD,zE,zF,zG,zH,zI,zJ,zK,zL,zM,zN,zO,zP,↓reduceIte,reduceCtorEq,Srv.pv,Srv.cells,freshS,List.map_nil] <;> first | rfl | decide) ?_; simp only [go_sem,zA,zB,zC,zD,zE,zF,zG,zH,zI,zJ,zK,zL,zM,zN,zO,zP,↓reduceIte,reduceCtorEq,Srv.pv,Srv.cells,freshS,List.map_nil])
  refine endD_intro (by decide +kernel) ?_
  simp only [go_sem,zA,zB,zC,zD,zE,zF,zG,zH,zI,zJ,zK,zL,zM,zN,zO,zP,↓reduceIte,reduceCtorEq]
  (refine callD_pure (q2) (by simp only [go_sem,zA,zB,zC,zD,zE,zF,zG,zH,zI,zJ,zK,zL,zM,zN,zO,zP,↓reduceIte,reduceCtorEq] <;> first | rfl | decide) ?_; simp only [go_sem,zA,zB,zC,zD,zE,zF,zG,zH,zI,zJ,zK,zL,zM,zN,zO,zP,↓reduceIte,reduceCtorEq])
  (refine callD_pure (t2) (by simp only [go_sem,zA,zB,zC,zD,zE,zF,zG,zH,zI,zJ,zK,zL,zM,zN,zO,zP,↓reduceIte,reduceCtorEq,Srv.pv,Srv.cells,freshS,List.map_nil] <;> first | rfl | decide) ?_; simp only [go_sem,zA,zB,zC,zD,zE,zF,zG,zH,zI,zJ,zK,zL,zM,zN,zO,zP,↓reduceIte,reduceCtorEq,Srv.pv,Srv.cells,freshS,List.map_nil])
  refine endD_intro (by decide +kernel) ?_
  simp only [go_sem,zA,zB,zC,zD,zE,zF,zG,zH,zI,zJ,zK,zL,zM,zN,zO,zP,↓reduceIte,reduceCtorEq]
  (refine CallA.pure (k1) (by simp only [go_sem,zA,zB,zC,zD,zE,zF,zG,zH,zI,zJ,zK,zL,zM,zN,zO,zP,↓reduceIte,reduceCtorEq] <;> first | rfl | decide) ?_; simp only [go_sem,zA,zB,zC,zD,zE,zF,zG,zH,zI,zJ,zK,zL,zM,zN,zO,zP,↓reduceIte,reduceCtorEq])
  (refine CallA.pure (t3) (by simp only [go_sem,zA,zB,zC,zD,zE,zF,zG,zH,zI,zJ,zK,zL,zM,zN,zO,zP,↓reduceIte,reduceCtorEq,Srv.pv,Srv.cells,freshS,List.map_nil] <;> first | rfl | decide) ?_; simp only [go_sem,zA,zB,zC,zD,zE,zF,zG,zH,zI,zJ,zK,zL,zM,zN,zO,zP,↓reduceIte,reduceCtorEq,Srv.pv,Srv.cells,freshS,List.map_nil])
  (refine CallA.pure (c1) (by simp only [go_sem,zA,zB,zC,zD,zE,zF,zG,zH,zI,zJ,zK,zL,zM,zN,zO,zP,↓reduceIte,reduceCtorEq] <;> first | rfl | decide) ?_; simp only [go_sem,zA,zB,zC,zD,zE,zF,zG,zH,zI,zJ,zK,zL,zM,zN,zO,zP,↓reduceIte,reduceCtorEq])
  (refine CallA.pure (c2) (by simp only [go_sem,zA,zB,zC,zD,zE,zF,zG,zH,zI,zJ,zK,zL,zM,zN,zO,zP,↓reduceIte,reduceCtorEq,trbRows,List.map_cons,List.map_nil,Trb.cells] <;> first | rfl | decide) ?_; simp only [go_sem,zA,zB,zC,zD,zE,zF,zG,zH,zI,zJ,zK,zL,zM,zN,zO,zP,↓reduceIte,reduceCtorEq,trbRows,List.map_cons,List.map_nil,Trb.cells])
  (refine CallA.pure (c8) (by simp only [go_sem,zA,zB,zC,zD,zE,zF,zG,zH,zI,zJ,zK,zL,zM,zN,zO,zP,↓reduceIte,reduceCtorEq,trbRows,List.map_cons,List.map_nil,Trb.cells] <;> first | rfl | decide) ?_; simp only [go_sem,zA,zB,zC,zD,zE,zF,zG,zH,zI,zJ,zK,zL,zM,zN,zO,zP,↓reduceIte,reduceCtorEq,Try.ntmps66,Try.results66])
end Go.Proofs.Ytcdmhigmgpflbaa.Pe


namespace Go.Proofs.Ytcdmhigmgpflbaa.Pe
open Go.Pe Go.RowKit
set_option maxRecDepth 20000
set_option maxHeartbeats 4000000
set_option linter.unusedSimpArgs false
set_option linter.unusedVariables false
/-- Shut,and asked nothing wrong. -/
structure InsA (S : Int) (s : Srv) : Prop where
  r : RightS s
  op : s.op = false
  w : s.wrong = 0
  sec : s.sec = S
/-- A seed was given; or it is open. -/
structure InsC (S n d : Int) (s : Srv) : Prop where
  r : RightS s
  ses : s.ses = n
  w : s.wrong = 0
  sec : s.sec = S
  seed : s.seed = d ∨ (s.op = true ∧ s.seed = -1)
end Go.Proofs.Ytcdmhigmgpflbaa.Pe

