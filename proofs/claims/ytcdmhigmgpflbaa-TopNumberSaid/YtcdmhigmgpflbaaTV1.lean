import Derived.Test.YtcdmhigmgpflbaaTSe
import Derived.Test.YtcdmhigmgpflbaaSG4
import Derived.Test.YtcdmhigmgpflbaaSG7
import Derived.Test.YtcdmhigmgpflbaaDL9
namespace Go.Proofs.Ytcdmhigmgpflbaa.Pe
open Go.Pe Go.RowKit
open Nat renaming reduceAdd → zA,reduceSub → zB,reduceMul → zC,reduceLT → zD,reduceLeDiff → zE,reduceEqDiff → zF,reduceBEq → zG
open Int renaming reduceToNat → zH,reduceLT → zI,reduceLE → zJ,reduceEq → zK,reduceNe → zL,reduceAdd → zM,reduceSub → zN,reduceMul → zO,reduceNeg → zP
set_option maxRecDepth 20000
set_option maxHeartbeats 4000000
set_option linter.unusedSimpArgs false
set_option linter.unusedVariables false
def w3S : Srv := freshS 9 1 [⟨258,false,[5,6,7,8,9,10,11,12]⟩]
def w3A : List UInt8 := [0x62,1,2,5,6,7,8,9,10,11,12]
def w3G : Sgl := ⟨3,7,false,false,1,0⟩
theorem w3_talk : talkV w3S [0x22,1,2] [] [] = (w3S,w3A,false,true) := by decide +kernel
theorem w3_right : RightS w3S := rightS_iff.1 (by decide +kernel)
theorem w3_read : readQ 258 = [0x22,1,2] := by decide +kernel
theorem put_at {b o : List UInt8} {s : Sgl} {n : Int} {is : Bool} (h : putV b s n = (o,is)) (hb : s.big = false) (hl : b.length ≤ 100) : PureCalls Try.prog 61 [bytesPV b,s.pv,PI n] (.tup [bytesPV o,PB is]) := by
  have := put_of b s n (placesF_calls s hb) hl
  rwa [h] at this
theorem wrap_at {id count : Int} {b o : List UInt8} {is : Bool} (h : wrapV id count b = (o,is)) (hl : b.length ≤ 900000) : PureCalls Try.prog 62 [PI id,PI count,bytesPV b] (.tup [bytesPV o,PB is]) := by
  have := wrap_calls id count b hl
  rwa [h] at this
theorem w3_put : putV [0,0,0,0] w3G 77 = ([104,2,0,0],true) := by decide +kernel
theorem w3_wrap : (wrapV 5 1 [104,2,0,0]).2 = true ∧ (wrapV 5 1 [104,2,0,0]).1.length = 6 := by decide +kernel
theorem top23_calls : PureCalls Try.prog 44 [] (PB true) := by
  refine PureCalls.of tabOK mixed Try.func44 rfl rfl (by decide +kernel) (by simp [Try.ntmps44]) ?_
  have c0 := newD_at (secret := 9) (draw := 1) (l := [⟨258,false,[5,6,7,8,9,10,11,12]⟩]) (s := w3S) (by decide +kernel)
  have q1 := read_calls 258
  rw [w3_read] at q1
  have t1 := talk_at w3_talk w3_right
  obtain ⟨s,r,n,p1,p2,p3,p4,p5⟩ := Lk.play_passes (t := [1,2,3]) (by decide) (by decide) (bn := 0) (g := 0) (R := 100) (by decide) (by decide) (by decide) (by decide)
  have c1 := Lk.play_calls [1,2,3] 100 0 0 [] (by decide)
  rw [show Lk.playV [1,2,3] 100 0 0 [] = (s,r,n) from p1] at c1
  have c2 := put_at w3_put rfl (by decide)
  have c3 := wrap_calls 5 1 [104,2,0,0] (by decide)
  obtain ⟨w1,w2⟩ := w3_wrap
  generalize wrapV 5 1 [104,2,0,0] = w at c3 w1 w2
  obtain ⟨w,is⟩ := w
  simp only at w1 w2
  subst w1
  simp only [go_sem,zA,zB,zC,zD,zE,zF,zG,zH,zI,zJ,zK,zL,zM,zN,zO,zP,↓reduceIte,reduceCtorEq,Try.ntmps44,Try.results44]
  (refine CallA.pure (c0) (by simp only [go_sem,zA,zB,zC,zD,zE,zF,zG,zH,zI,zJ,zK,zL,zM,zN,zO,zP,↓reduceIte,reduceCtorEq,List.map_cons,List.map_nil,Itm.cells,rowsB,rowB] <;> first | rfl | decide) ?_; simp only [go_sem,zA,zB,zC,zD,zE,zF,zG,zH,zI,zJ,zK,zL,zM,zN,zO,zP,↓reduceIte,reduceCtorEq,Srv.pv,Srv.cells,w3S,freshS])
  (refine callD_pure (q1) (by simp only [go_sem,zA,zB,zC,zD,zE,zF,zG,zH,zI,zJ,zK,zL,zM,zN,zO,zP,↓reduceIte,reduceCtorEq] <;> first | rfl | decide) ?_; simp only [go_sem,zA,zB,zC,zD,zE,zF,zG,zH,zI,zJ,zK,zL,zM,zN,zO,zP,↓reduceIte,reduceCtorEq])
  (refine callD_pure (t1) (by simp only [go_sem,zA,zB,zC,zD,zE,zF,zG,zH,zI,zJ,zK,zL,zM,zN,zO,zP,↓reduceIte,reduceCtorEq,Srv.pv,Srv.cells,w3S,freshS,List.map_nil] <;> first | rfl | decide) ?_; simp only [go_sem,zA,zB,zC,zD,zE,zF,zG,zH,zI,zJ,zK,zL,zM,zN,zO,zP,↓reduceIte,reduceCtorEq,Srv.pv,Srv.cells,w3S,freshS,List.map_nil])
  refine endD_intro (by decide +kernel) ?_
  simp only [go_sem,zA,zB,zC,zD,zE,zF,zG,zH,zI,zJ,zK,zL,zM,zN,zO,zP,↓reduceIte,reduceCtorEq]
  (refine CallA.pure (c1) (by simp only [go_sem,zA,zB,zC,zD,zE,zF,zG,zH,zI,zJ,zK,zL,zM,zN,zO,zP,↓reduceIte,reduceCtorEq,List.map_cons,List.map_nil,rowsB,rowB] <;> first | rfl | decide) ?_; simp only [go_sem,zA,zB,zC,zD,zE,zF,zG,zH,zI,zJ,zK,zL,zM,zN,zO,zP,↓reduceIte,reduceCtorEq,Lk.Snd.pv,Lk.Snd.cells,Lk.Rcv.pv,Lk.Rcv.cells])
  have rep4 : List.replicate 4 [PV.lit (.int .u8 0)] = rowsB [0,0,0,0] := rfl
  (refine CallA.pure (c2) (by simp only [go_sem,zA,zB,zC,zD,zE,zF,zG,zH,zI,zJ,zK,zL,zM,zN,zO,zP,↓reduceIte,reduceCtorEq,Sgl.pv,Sgl.cells,w3G,rep4] <;> first | rfl | decide) ?_; simp only [go_sem,zA,zB,zC,zD,zE,zF,zG,zH,zI,zJ,zK,zL,zM,zN,zO,zP,↓reduceIte,reduceCtorEq,Sgl.pv,Sgl.cells])
  have la : w3A.length = 11 := rfl
  have g0 : (rowsB w3A).getD 0 [] = [.lit (.int .u8 98)] := rfl
  have g10 : (rowsB w3A).getD 10 [] = [.lit (.int .u8 12)] := rfl
  have z11 : decide (((11 : Nat) : Int) = 11) = true := rfl
  have z6 : decide (((6 : Nat) : Int) = 6) = true := rfl
  have i0 : (0 : Int) < ((11 : Nat) : Int) := by decide
  have i10 : (10 : Int) < ((11 : Nat) : Int) := by decide
  have y2 : decide (s.st = 3) = true := decide_eq_true p2
  have y3 : decide (r.st = 3) = true := decide_eq_true p3
  (refine CallA.pure (c3) (by simp only [go_sem,zA,zB,zC,zD,zE,zF,zG,zH,zI,zJ,zK,zL,zM,zN,zO,zP,↓reduceIte,reduceCtorEq,la,g0,g10,z11,z6,i0,i10,y2,y3,w2,rowsB_length,Try.ntmps44,Try.results44] <;> first | rfl | decide) ?_; simp only [go_sem,zA,zB,zC,zD,zE,zF,zG,zH,zI,zJ,zK,zL,zM,zN,zO,zP,↓reduceIte,reduceCtorEq,la,g0,g10,z11,z6,i0,i10,y2,y3,w2,rowsB_length,Try.ntmps44,Try.results44])
end Go.Proofs.Ytcdmhigmgpflbaa.Pe

