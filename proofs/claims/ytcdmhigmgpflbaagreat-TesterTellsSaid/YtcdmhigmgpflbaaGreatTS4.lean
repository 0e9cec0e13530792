import Derived.Test.YtcdmhigmgpflbaaGreatTS3
import Derived.Test.YtcdmhigmgpflbaaGreatDLa
import Derived.Test.YtcdmhigmgpflbaaGreatLE2
import Derived.Test.YtcdmhigmgpflbaaGreatLE17
import Derived.Test.YtcdmhigmgpflbaaGreatLE21p
set_option maxRecDepth 20000
set_option maxHeartbeats 4000000
set_option linter.unusedSimpArgs false
set_option linter.unusedVariables false
open Nat renaming reduceAdd → zA,reduceSub → zB,reduceMul → zC,reduceLT → zD,reduceLeDiff → zE,reduceEqDiff → zF,reduceBEq → zG
open Int renaming reduceToNat → zH,reduceLT → zI,reduceLE → zJ,reduceEq → zK,reduceNe → zL,reduceAdd → zM,reduceSub → zN,reduceMul → zO,reduceNeg → zP
namespace Go.Proofs.YtcdmhigmgpflbaaGreat.Pe
open Go.Pe Go.RowKit
def camV (b : List UInt8) (f : List Int) : Bool := decide ((Lk.playV b 4095 0 0 f).2.1.st = 3)
theorem play_got (b : List UInt8) (f : List Int) : (if (Lk.playV b 4095 0 0 f).2.1.st = 3 then (Lk.playV b 4095 0 0 f).2.1.got else []) = if camV b f = true then b else [] := by
  unfold camV
  by_cases h : (Lk.playV b 4095 0 0 f).2.1.st = 3
  · rw [if_pos h,if_pos (by simp [h])]
    exact Lk.play_whole (s := (Lk.playV b 4095 0 0 f).1) (r := (Lk.playV b 4095 0 0 f).2.1) (n := (Lk.playV b 4095 0 0 f).2.2) rfl h
  · rw [if_neg h,if_neg (by simp [h])]
theorem send_calls (b : List UInt8) (f : List Int) : PureCalls Tryz.prog 40 [bytesPV b,intsPV f] (.tup [bytesPV (if camV b f = true then b else []),PB (camV b f)]) := by
  refine PureCalls.of tabOK mixed Tryz.func40 rfl rfl (by decide +kernel) (by simp [Tryz.ntmps40]) ?_
  have c1 := Lk.play_calls b 4095 0 0 f (by decide)
  have hg := play_got b f
  have hc : camV b f = decide ((Lk.playV b 4095 0 0 f).2.1.st = 3) := rfl
  rw [← hg,hc]
  generalize Lk.playV b 4095 0 0 f = x at c1
  obtain ⟨s,r,n⟩ := x
  have c2 := Lk.textT_calls r
  simp only [go_sem,zA,zB,zC,zD,zE,zF,zG,zH,zI,zJ,zK,zL,zM,zN,zO,zP,↓reduceIte,reduceCtorEq,Tryz.ntmps40,Tryz.results40]
  (refine CallA.pure (c1) (by simp only [go_sem,zA,zB,zC,zD,zE,zF,zG,zH,zI,zJ,zK,zL,zM,zN,zO,zP,↓reduceIte,reduceCtorEq,Lk.Snd.pv,Lk.Rcv.pv,Lk.Rcv.cells] <;> first | rfl | decide) ?_; simp only [go_sem,zA,zB,zC,zD,zE,zF,zG,zH,zI,zJ,zK,zL,zM,zN,zO,zP,↓reduceIte,reduceCtorEq,Lk.Snd.pv,Lk.Rcv.pv,Lk.Rcv.cells])
  (refine CallA.pure (c2) (by simp only [go_sem,zA,zB,zC,zD,zE,zF,zG,zH,zI,zJ,zK,zL,zM,zN,zO,zP,↓reduceIte,reduceCtorEq,Lk.Snd.pv,Lk.Rcv.pv,Lk.Rcv.cells,Tryz.ntmps40,Tryz.results40] <;> first | rfl | decide) ?_; simp only [go_sem,zA,zB,zC,zD,zE,zF,zG,zH,zI,zJ,zK,zL,zM,zN,zO,zP,↓reduceIte,reduceCtorEq,Lk.Snd.pv,Lk.Rcv.pv,Lk.Rcv.cells,Tryz.ntmps40,Tryz.results40])
abbrev TalkR : Type := Srv × List UInt8 × Bool × Bool
def talkV (s : Srv) (q : List UInt8) (f g : List Int) : TalkR :=
  if camV q f = true then (if (askV s q).2.2 = true then ((askV s q).1,[],true,true)
    else ((askV s q).1,if camV (askV s q).2.1 g = true then (askV s q).2.1 else [],false,camV (askV s q).2.1 g)) else (s,[],false,false)
abbrev TalkR.pv (r : TalkR) : PV := .tup [r.1.pv,bytesPV r.2.1,PB r.2.2.1,PB r.2.2.2]
theorem talk_calls (s : Srv) (q : List UInt8) (f g : List Int) (h : s.fits) : PureCalls Tryz.prog 29 [s.pv,bytesPV q,intsPV f,intsPV g] (talkV s q f g).pv := by
  refine PureCalls.of tabOK mixed Tryz.func29 rfl rfl (by decide +kernel) (by simp [Tryz.ntmps29]) ?_
  have c1 := send_calls q f
  have c2 := ask_calls s q h
  unfold talkV
  cases hc : camV q f with
  | false =>
    rw [hc] at c1
    rw [if_neg (by decide)]
    simp only [go_sem,zA,zB,zC,zD,zE,zF,zG,zH,zI,zJ,zK,zL,zM,zN,zO,zP,↓reduceIte,reduceCtorEq,Tryz.ntmps29,Tryz.results29,Srv.pv,Srv.cells]
    (refine CallA.pure (c1) (by simp only [go_sem,zA,zB,zC,zD,zE,zF,zG,zH,zI,zJ,zK,zL,zM,zN,zO,zP,↓reduceIte,reduceCtorEq,Srv.pv,Srv.cells,rowsB_nil,Tryz.ntmps29,Tryz.results29] <;> first | rfl | decide) ?_; simp only [go_sem,zA,zB,zC,zD,zE,zF,zG,zH,zI,zJ,zK,zL,zM,zN,zO,zP,↓reduceIte,reduceCtorEq,Srv.pv,Srv.cells,rowsB_nil,Tryz.ntmps29,Tryz.results29])
    done
  | true =>
    rw [hc,if_pos rfl] at c1
    rw [if_pos rfl]
    generalize askV s q = x at c2
    obtain ⟨t,a,on⟩ := x
    cases on with
    | true =>
      rw [if_pos rfl]
      simp only [go_sem,zA,zB,zC,zD,zE,zF,zG,zH,zI,zJ,zK,zL,zM,zN,zO,zP,↓reduceIte,reduceCtorEq,Tryz.ntmps29,Tryz.results29,Srv.pv,Srv.cells]
      (refine CallA.pure (c1) (by simp only [go_sem,zA,zB,zC,zD,zE,zF,zG,zH,zI,zJ,zK,zL,zM,zN,zO,zP,↓reduceIte,reduceCtorEq] <;> first | rfl | decide) ?_; simp only [go_sem,zA,zB,zC,zD,zE,zF,zG,zH,zI,zJ,zK,zL,zM,zN,zO,zP,↓reduceIte,reduceCtorEq])
      (refine CallA.pure (c2) (by simp only [go_sem,zA,zB,zC,zD,zE,zF,zG,zH,zI,zJ,zK,zL,zM,zN,zO,zP,↓reduceIte,reduceCtorEq,Srv.pv,Srv.cells,Tryz.ntmps29,Tryz.results29] <;> first | rfl | decide) ?_; simp only [go_sem,zA,zB,zC,zD,zE,zF,zG,zH,zI,zJ,zK,zL,zM,zN,zO,zP,↓reduceIte,reduceCtorEq,Srv.pv,Srv.cells,Tryz.ntmps29,Tryz.results29])
      done
    | false =>
      rw [if_neg (by exact Bool.false_ne_true)]
      have c3 := send_calls a g
      simp only [go_sem,zA,zB,zC,zD,zE,zF,zG,zH,zI,zJ,zK,zL,zM,zN,zO,zP,↓reduceIte,reduceCtorEq,Tryz.ntmps29,Tryz.results29,Srv.pv,Srv.cells]
      (refine CallA.pure (c1) (by simp only [go_sem,zA,zB,zC,zD,zE,zF,zG,zH,zI,zJ,zK,zL,zM,zN,zO,zP,↓reduceIte,reduceCtorEq] <;> first | rfl | decide) ?_; simp only [go_sem,zA,zB,zC,zD,zE,zF,zG,zH,zI,zJ,zK,zL,zM,zN,zO,zP,↓reduceIte,reduceCtorEq])
      (refine CallA.pure (c2) (by simp only [go_sem,zA,zB,zC,zD,zE,zF,zG,zH,zI,zJ,zK,zL,zM,zN,zO,zP,↓reduceIte,reduceCtorEq,Srv.pv,Srv.cells,Tryz.ntmps29,Tryz.results29] <;> first | rfl | decide) ?_; simp only [go_sem,zA,zB,zC,zD,zE,zF,zG,zH,zI,zJ,zK,zL,zM,zN,zO,zP,↓reduceIte,reduceCtorEq,Srv.pv,Srv.cells,Tryz.ntmps29,Tryz.results29])
      (refine CallA.pure (c3) (by simp only [go_sem,zA,zB,zC,zD,zE,zF,zG,zH,zI,zJ,zK,zL,zM,zN,zO,zP,↓reduceIte,reduceCtorEq,Srv.pv,Srv.cells,Tryz.ntmps29,Tryz.results29] <;> first | rfl | decide) ?_; simp only [go_sem,zA,zB,zC,zD,zE,zF,zG,zH,zI,zJ,zK,zL,zM,zN,zO,zP,↓reduceIte,reduceCtorEq,Srv.pv,Srv.cells,Tryz.ntmps29,Tryz.results29])
      done
end Go.Proofs.YtcdmhigmgpflbaaGreat.Pe
