import Derived.Test.YtcdmhigmgpflbaaGreatTS4
import Derived.Test.YtcdmhigmgpflbaaGreatDL5
set_option maxRecDepth 20000
set_option maxHeartbeats 4000000
set_option linter.unusedSimpArgs false
set_option linter.unusedVariables false
open Nat renaming reduceAdd → zA,reduceSub → zB,reduceMul → zC,reduceLT → zD,reduceLeDiff → zE,reduceEqDiff → zF,reduceBEq → zG
open Int renaming reduceToNat → zH,reduceLT → zI,reduceLE → zJ,reduceEq → zK,reduceNe → zL,reduceAdd → zM,reduceSub → zN,reduceMul → zO,reduceNeg → zP
open List renaming map_cons → yBi,map_nil → yBj
namespace Go.Proofs.YtcdmhigmgpflbaaGreat.Pe
open Go.Pe Go.RowKit
theorem talk_at {s : Srv} {q : List UInt8} {f g : List Int} {r : TalkR} (h : talkV s q f g = r) (hs : RightS s) : PureCalls Tryz.prog 29 [s.pv,bytesPV q,intsPV f,intsPV g] r.pv := h ▸ talk_calls s q f g hs.fits
theorem keyFor_at {a : List UInt8} {secret : Int} {k : List UInt8} {b : Bool} (h : keyForV secret a = (k,b)) : PureCalls Tryz.prog 5 [bytesPV a,PI secret] (.tup [bytesPV k,PB b]) := by
  have := keyFor_calls a secret
  rwa [h] at this
theorem pos_at {q a : List UInt8} {b : Bool} (h : posV q a = b) : PureCalls Tryz.prog 26 [bytesPV q,bytesPV a] (PB b) := h ▸ pos_calls q a
theorem same23_calls (a b : List UInt8) : PureCalls Tryz.prog 7 [bytesPV a,bytesPV b] (PB (decide (a = b))) := by
  refine PureCalls.of tabOK mixed Tryz.func7 rfl rfl (by decide +kernel) (by simp [Tryz.ntmps7]) ?_
  simp only [go_sem,zA,zB,zC,zD,zE,zF,zG,zH,zI,zJ,zK,zL,zM,zN,zO,zP,↓reduceIte,reduceCtorEq,Tryz.ntmps7,Tryz.results7]
def tS : Srv := ⟨1,false,-1,0,0,5,77,[⟨3,true,[97,98,99]⟩,⟨9,false,[102,105,120,101,100]⟩],[]⟩
theorem server_calls : PureCalls Tryz.prog 32 [] tS.pv := by
  refine PureCalls.of tabOK mixed Tryz.func32 rfl rfl (by decide +kernel) (by simp [Tryz.ntmps32]) ?_
  have c1 := newD_at (secret := 77) (draw := 5) (l := [⟨3,true,[97,98,99]⟩,⟨9,false,[102,105,120,101,100]⟩]) (s := tS) (by decide +kernel)
  simp only [go_sem,zA,zB,zC,zD,zE,zF,zG,zH,zI,zJ,zK,zL,zM,zN,zO,zP,↓reduceIte,reduceCtorEq,Tryz.ntmps32,Tryz.results32]
  (refine CallA.pure (c1) (by simp only [go_sem,zA,zB,zC,zD,zE,zF,zG,zH,zI,zJ,zK,zL,zM,zN,zO,zP,↓reduceIte,reduceCtorEq,yBi,yBj,Itm.cells,rowsB,rowB] <;> first | rfl | decide) ?_; simp only [go_sem,zA,zB,zC,zD,zE,zF,zG,zH,zI,zJ,zK,zL,zM,zN,zO,zP,↓reduceIte,reduceCtorEq,tS,Srv.pv,Srv.cells,Tryz.ntmps32,Tryz.results32])
  done
theorem tS_right : RightS tS := rightS_iff.1 (by decide +kernel)
def h9Q : List UInt8 := [0x22,0,9]
def h9A : List UInt8 := [98,0,9,102,105,120,101,100]
def h9K : List UInt8 := keyQ (keyV 5 77)
theorem h9_read : readQ 9 = h9Q := by decide +kernel
theorem h9_talk : talkV tS h9Q [] [] = (tS,h9A,false,true) := by decide +kernel
theorem h9_lost : talkV tS h9Q [2] [] = (tS,[],false,false) := by decide +kernel
theorem h9_key : keyForV 77 [0x67,1,0,0,0,5] = (h9K,true) := by decide +kernel
theorem h9_write : writeQ 0x1234 [120] = [0x2e,0x12,0x34,120] := by decide +kernel
theorem h9_pos : posV h9Q h9A = true := by decide +kernel
end Go.Proofs.YtcdmhigmgpflbaaGreat.Pe
namespace Go.Proofs.YtcdmhigmgpflbaaGreat.Pe
open Go.Pe Go.RowKit
theorem h23_calls : PureCalls Tryz.prog 4 [] (PB true) := by
  refine PureCalls.of tabOK mixed Tryz.func4 rfl rfl (by decide +kernel) (by simp [Tryz.ntmps4]) ?_
  have c0 := server_calls
  have c1 := read_calls 9
  rw [h9_read] at c1
  have c2 := talk_at h9_talk tS_right
  have c3 := talk_at h9_lost tS_right
  have c4 := keyFor_at h9_key
  have c5 := write_calls 0x1234 [120] (by decide)
  rw [h9_write] at c5
  have c6 := pos_at h9_pos
  have k6 : h9K.length = 6 := rfl
  have k0 : (rowsB h9K).getD 0 [] = [.lit (.int .u8 39)] := rfl
  have k1 : (rowsB h9K).getD 1 [] = [.lit (.int .u8 2)] := rfl
  have ls : tS.ses = 1 := rfl
  have iN : intsPV [] = .im 1 [] := rfl
  have iL : [[PI 2]] = [2].map rowI := rfl
  generalize tS = s at c0 c2 c3 ls
  generalize h9K = k at c4 k6 k0 k1
  generalize h9Q = q at c1 c2 c3 c6
  have hA : decide (h9A = [98,0,9,102,105,120,101,100]) = true := rfl
  have z0 : decide ((0 : Int) = 0) = true := rfl
  generalize h9A = a at c2 c6 hA
  simp only [go_sem,zA,zB,zC,zD,zE,zF,zG,zH,zI,zJ,zK,zL,zM,zN,zO,zP,↓reduceIte,reduceCtorEq,Tryz.ntmps4,Tryz.results4]
  (refine CallA.pure (c0) (by simp only [go_sem,zA,zB,zC,zD,zE,zF,zG,zH,zI,zJ,zK,zL,zM,zN,zO,zP,↓reduceIte,reduceCtorEq,Srv.pv,Srv.cells] <;> first | rfl | decide) ?_; simp only [go_sem,zA,zB,zC,zD,zE,zF,zG,zH,zI,zJ,zK,zL,zM,zN,zO,zP,↓reduceIte,reduceCtorEq,Srv.pv,Srv.cells])
  (refine CallA.pure (c1) (by simp only [go_sem,zA,zB,zC,zD,zE,zF,zG,zH,zI,zJ,zK,zL,zM,zN,zO,zP,↓reduceIte,reduceCtorEq,Srv.pv,Srv.cells] <;> first | rfl | decide) ?_; simp only [go_sem,zA,zB,zC,zD,zE,zF,zG,zH,zI,zJ,zK,zL,zM,zN,zO,zP,↓reduceIte,reduceCtorEq,Srv.pv,Srv.cells])
  (refine CallA.pure (c2) (by simp only [go_sem,zA,zB,zC,zD,zE,zF,zG,zH,zI,zJ,zK,zL,zM,zN,zO,zP,↓reduceIte,reduceCtorEq,Srv.pv,Srv.cells,yBj] <;> first | rfl | decide) ?_; simp only [go_sem,zA,zB,zC,zD,zE,zF,zG,zH,zI,zJ,zK,zL,zM,zN,zO,zP,↓reduceIte,reduceCtorEq,Srv.pv,Srv.cells,yBj])
  (refine callD_pure (c1) (by simp only [go_sem,zA,zB,zC,zD,zE,zF,zG,zH,zI,zJ,zK,zL,zM,zN,zO,zP,↓reduceIte,reduceCtorEq,Srv.pv,Srv.cells] <;> first | rfl | decide) ?_; simp only [go_sem,zA,zB,zC,zD,zE,zF,zG,zH,zI,zJ,zK,zL,zM,zN,zO,zP,↓reduceIte,reduceCtorEq,Srv.pv,Srv.cells])
  (refine callD_pure (c3) (by simp only [go_sem,zA,zB,zC,zD,zE,zF,zG,zH,zI,zJ,zK,zL,zM,zN,zO,zP,↓reduceIte,reduceCtorEq,Srv.pv,Srv.cells,yBj,yBi,rowI] <;> first | rfl | decide) ?_; simp only [go_sem,zA,zB,zC,zD,zE,zF,zG,zH,zI,zJ,zK,zL,zM,zN,zO,zP,↓reduceIte,reduceCtorEq,Srv.pv,Srv.cells])
  refine endD_intro (by decide +kernel) ?_
  simp only [go_sem,zA,zB,zC,zD,zE,zF,zG,zH,zI,zJ,zK,zL,zM,zN,zO,zP,↓reduceIte,reduceCtorEq]
  (refine CallA.pure (c4) (by simp only [go_sem,zA,zB,zC,zD,zE,zF,zG,zH,zI,zJ,zK,zL,zM,zN,zO,zP,↓reduceIte,reduceCtorEq,yBj,yBi,rowsB,rowB] <;> first | rfl | decide) ?_; simp only [go_sem,zA,zB,zC,zD,zE,zF,zG,zH,zI,zJ,zK,zL,zM,zN,zO,zP,↓reduceIte,reduceCtorEq,k6,k0,k1,hA,ls,z0])
  (refine CallA.pure (c5) (by simp only [go_sem,zA,zB,zC,zD,zE,zF,zG,zH,zI,zJ,zK,zL,zM,zN,zO,zP,↓reduceIte,reduceCtorEq,yBj,yBi,rowsB,rowB] <;> first | rfl | decide) ?_; simp only [go_sem,zA,zB,zC,zD,zE,zF,zG,zH,zI,zJ,zK,zL,zM,zN,zO,zP,↓reduceIte,reduceCtorEq,k6])
  (refine CallA.pure (c1) (by simp only [go_sem,zA,zB,zC,zD,zE,zF,zG,zH,zI,zJ,zK,zL,zM,zN,zO,zP,↓reduceIte,reduceCtorEq] <;> first | rfl | decide) ?_; simp only [go_sem,zA,zB,zC,zD,zE,zF,zG,zH,zI,zJ,zK,zL,zM,zN,zO,zP,↓reduceIte,reduceCtorEq])
  (refine CallA.pure (c6) (by simp only [go_sem,zA,zB,zC,zD,zE,zF,zG,zH,zI,zJ,zK,zL,zM,zN,zO,zP,↓reduceIte,reduceCtorEq,Tryz.ntmps4,Tryz.results4] <;> first | rfl | decide) ?_; simp only [go_sem,zA,zB,zC,zD,zE,zF,zG,zH,zI,zJ,zK,zL,zM,zN,zO,zP,↓reduceIte,reduceCtorEq,Tryz.ntmps4,Tryz.results4])
end Go.Proofs.YtcdmhigmgpflbaaGreat.Pe
