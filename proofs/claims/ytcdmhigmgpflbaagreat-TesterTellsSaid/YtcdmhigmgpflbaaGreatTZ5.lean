import Derived.Test.YtcdmhigmgpflbaaGreatTS6
import Derived.Test.YtcdmhigmgpflbaaGreatTS8
import Derived.Test.YtcdmhigmgpflbaaGreatDLj
import Derived.Test.YtcdmhigmgpflbaaGreatLE9
import Derived.Test.YtcdmhigmgpflbaaGreatTZ3
set_option maxRecDepth 20000
set_option maxHeartbeats 4000000
set_option linter.unusedSimpArgs false
set_option linter.unusedVariables false
open Nat renaming reduceAdd → zA,reduceSub → zB,reduceMul → zC,reduceLT → zD,reduceLeDiff → zE,reduceEqDiff → zF,reduceBEq → zG
open Int renaming reduceToNat → zH,reduceLT → zI,reduceLE → zJ,reduceEq → zK,reduceNe → zL,reduceAdd → zM,reduceSub → zN,reduceMul → zO,reduceNeg → zP
namespace Go.Proofs.YtcdmhigmgpflbaaGreat.Pe
open Go.Pe Go.RowKit
theorem refWay (b : List UInt8) (f : List Int) : ∃ (s : Lk.Snd) (r : Lk.Rcv) (n : Int),PureCalls Tryz.prog 44 [bytesPV b,PI 4095,PI 0,PI 0,intsPV f] (.tup [s.pv,r.pv,PI n]) ∧ PureCalls Tryz.prog 45 [r.pv] (.tup [bytesPV (if camV b f = true then b else []),PB (camV b f)]) := by
  have c1 := Lk.playRef_calls b 4095 0 0 f (by decide)
  have hg := play_got b f
  have hc : camV b f = decide ((Lk.playV b 4095 0 0 f).2.1.st = 3) := rfl
  have c2 := Lk.textV_calls (Lk.playV b 4095 0 0 f).2.1
  rw [hg,← hc] at c2
  exact ⟨_,_,_,c1,c2⟩
theorem ztalkR_calls (s : Srv) (q : List UInt8) (f g : List Int) (h : RightS s) (hq : q.length < 1000000) : PureCalls Tryz.prog 30 [s.pv,bytesPV q,intsPV f,intsPV g] (talkV s q f g).pv := by
  refine PureCalls.of tabOK mixed Tryz.func30 rfl rfl (by decide +kernel) (by simp [Tryz.ntmps30]) ?_
  obtain ⟨s1,r1,n1,c1,c2⟩ := refWay q f
  have c3 := askR_calls s q h hq
  unfold talkV
  cases hc : camV q f with
  | false =>
    rw [hc,if_neg (by decide)] at c2
    rw [if_neg (by decide)]
    simp only [go_sem,zA,zB,zC,zD,zE,zF,zG,zH,zI,zJ,zK,zL,zM,zN,zO,zP,↓reduceIte,reduceCtorEq,Tryz.ntmps30,Tryz.results30,Srv.pv,Srv.cells]
    (refine CallA.pure (c1) (by simp only [go_sem,zA,zB,zC,zD,zE,zF,zG,zH,zI,zJ,zK,zL,zM,zN,zO,zP,↓reduceIte,reduceCtorEq,Srv.pv,Srv.cells,Lk.Snd.pv,Lk.Snd.cells,Lk.Rcv.pv,Lk.Rcv.cells] <;> first | rfl | decide) ?_; simp only [go_sem,zA,zB,zC,zD,zE,zF,zG,zH,zI,zJ,zK,zL,zM,zN,zO,zP,↓reduceIte,reduceCtorEq,Srv.pv,Srv.cells,Lk.Snd.pv,Lk.Snd.cells,Lk.Rcv.pv,Lk.Rcv.cells])
    (refine CallA.pure (c2) (by simp only [go_sem,zA,zB,zC,zD,zE,zF,zG,zH,zI,zJ,zK,zL,zM,zN,zO,zP,↓reduceIte,reduceCtorEq,Srv.pv,Srv.cells,Lk.Rcv.pv,Lk.Rcv.cells,rowsB_nil,Tryz.ntmps30,Tryz.results30] <;> first | rfl | decide) ?_; simp only [go_sem,zA,zB,zC,zD,zE,zF,zG,zH,zI,zJ,zK,zL,zM,zN,zO,zP,↓reduceIte,reduceCtorEq,Srv.pv,Srv.cells,Lk.Rcv.pv,Lk.Rcv.cells,rowsB_nil,Tryz.ntmps30,Tryz.results30])
    done
  | true =>
    rw [hc,if_pos rfl] at c2
    rw [if_pos rfl]
    generalize askV s q = x at c3
    obtain ⟨t,a,on⟩ := x
    cases on with
    | true =>
      rw [if_pos rfl]
      simp only [go_sem,zA,zB,zC,zD,zE,zF,zG,zH,zI,zJ,zK,zL,zM,zN,zO,zP,↓reduceIte,reduceCtorEq,Tryz.ntmps30,Tryz.results30,Srv.pv,Srv.cells]
      (refine CallA.pure (c1) (by simp only [go_sem,zA,zB,zC,zD,zE,zF,zG,zH,zI,zJ,zK,zL,zM,zN,zO,zP,↓reduceIte,reduceCtorEq,Srv.pv,Srv.cells,Lk.Snd.pv,Lk.Snd.cells,Lk.Rcv.pv,Lk.Rcv.cells] <;> first | rfl | decide) ?_; simp only [go_sem,zA,zB,zC,zD,zE,zF,zG,zH,zI,zJ,zK,zL,zM,zN,zO,zP,↓reduceIte,reduceCtorEq,Srv.pv,Srv.cells,Lk.Snd.pv,Lk.Snd.cells,Lk.Rcv.pv,Lk.Rcv.cells])
      (refine CallA.pure (c2) (by simp only [go_sem,zA,zB,zC,zD,zE,zF,zG,zH,zI,zJ,zK,zL,zM,zN,zO,zP,↓reduceIte,reduceCtorEq,Srv.pv,Srv.cells,Lk.Rcv.pv,Lk.Rcv.cells] <;> first | rfl | decide) ?_; simp only [go_sem,zA,zB,zC,zD,zE,zF,zG,zH,zI,zJ,zK,zL,zM,zN,zO,zP,↓reduceIte,reduceCtorEq,Srv.pv,Srv.cells,Lk.Rcv.pv,Lk.Rcv.cells])
      (refine CallA.pure (c3) (by simp only [go_sem,zA,zB,zC,zD,zE,zF,zG,zH,zI,zJ,zK,zL,zM,zN,zO,zP,↓reduceIte,reduceCtorEq,Srv.pv,Srv.cells,rowsB_nil,Tryz.ntmps30,Tryz.results30] <;> first | rfl | decide) ?_; simp only [go_sem,zA,zB,zC,zD,zE,zF,zG,zH,zI,zJ,zK,zL,zM,zN,zO,zP,↓reduceIte,reduceCtorEq,Srv.pv,Srv.cells,rowsB_nil,Tryz.ntmps30,Tryz.results30])
      done
    | false =>
      rw [if_neg (by exact Bool.false_ne_true)]
      obtain ⟨s2,r2,n2,c4,c5⟩ := refWay a g
      simp only [go_sem,zA,zB,zC,zD,zE,zF,zG,zH,zI,zJ,zK,zL,zM,zN,zO,zP,↓reduceIte,reduceCtorEq,Tryz.ntmps30,Tryz.results30,Srv.pv,Srv.cells]
      (refine CallA.pure (c1) (by simp only [go_sem,zA,zB,zC,zD,zE,zF,zG,zH,zI,zJ,zK,zL,zM,zN,zO,zP,↓reduceIte,reduceCtorEq,Srv.pv,Srv.cells,Lk.Snd.pv,Lk.Snd.cells,Lk.Rcv.pv,Lk.Rcv.cells] <;> first | rfl | decide) ?_; simp only [go_sem,zA,zB,zC,zD,zE,zF,zG,zH,zI,zJ,zK,zL,zM,zN,zO,zP,↓reduceIte,reduceCtorEq,Srv.pv,Srv.cells,Lk.Snd.pv,Lk.Snd.cells,Lk.Rcv.pv,Lk.Rcv.cells])
      (refine CallA.pure (c2) (by simp only [go_sem,zA,zB,zC,zD,zE,zF,zG,zH,zI,zJ,zK,zL,zM,zN,zO,zP,↓reduceIte,reduceCtorEq,Srv.pv,Srv.cells,Lk.Rcv.pv,Lk.Rcv.cells] <;> first | rfl | decide) ?_; simp only [go_sem,zA,zB,zC,zD,zE,zF,zG,zH,zI,zJ,zK,zL,zM,zN,zO,zP,↓reduceIte,reduceCtorEq,Srv.pv,Srv.cells,Lk.Rcv.pv,Lk.Rcv.cells])
      (refine CallA.pure (c3) (by simp only [go_sem,zA,zB,zC,zD,zE,zF,zG,zH,zI,zJ,zK,zL,zM,zN,zO,zP,↓reduceIte,reduceCtorEq,Srv.pv,Srv.cells] <;> first | rfl | decide) ?_; simp only [go_sem,zA,zB,zC,zD,zE,zF,zG,zH,zI,zJ,zK,zL,zM,zN,zO,zP,↓reduceIte,reduceCtorEq,Srv.pv,Srv.cells])
      (refine CallA.pure (c4) (by simp only [go_sem,zA,zB,zC,zD,zE,zF,zG,zH,zI,zJ,zK,zL,zM,zN,zO,zP,↓reduceIte,reduceCtorEq,Srv.pv,Srv.cells,Lk.Snd.pv,Lk.Snd.cells,Lk.Rcv.pv,Lk.Rcv.cells] <;> first | rfl | decide) ?_; simp only [go_sem,zA,zB,zC,zD,zE,zF,zG,zH,zI,zJ,zK,zL,zM,zN,zO,zP,↓reduceIte,reduceCtorEq,Srv.pv,Srv.cells,Lk.Snd.pv,Lk.Snd.cells,Lk.Rcv.pv,Lk.Rcv.cells])
      cases hg : camV a g with
      | false =>
        rw [hg,if_neg (by decide)] at c5
        rw [if_neg (by decide)]
        (refine CallA.pure (c5) (by simp only [go_sem,zA,zB,zC,zD,zE,zF,zG,zH,zI,zJ,zK,zL,zM,zN,zO,zP,↓reduceIte,reduceCtorEq,Srv.pv,Srv.cells,Lk.Rcv.pv,Lk.Rcv.cells,rowsB_nil,Tryz.ntmps30,Tryz.results30] <;> first | rfl | decide) ?_; simp only [go_sem,zA,zB,zC,zD,zE,zF,zG,zH,zI,zJ,zK,zL,zM,zN,zO,zP,↓reduceIte,reduceCtorEq,Srv.pv,Srv.cells,Lk.Rcv.pv,Lk.Rcv.cells,rowsB_nil,Tryz.ntmps30,Tryz.results30])
        done
      | true =>
        rw [hg,if_pos rfl] at c5
        rw [if_pos rfl]
        (refine CallA.pure (c5) (by simp only [go_sem,zA,zB,zC,zD,zE,zF,zG,zH,zI,zJ,zK,zL,zM,zN,zO,zP,↓reduceIte,reduceCtorEq,Srv.pv,Srv.cells,Lk.Rcv.pv,Lk.Rcv.cells,Tryz.ntmps30,Tryz.results30] <;> first | rfl | decide) ?_; simp only [go_sem,zA,zB,zC,zD,zE,zF,zG,zH,zI,zJ,zK,zL,zM,zN,zO,zP,↓reduceIte,reduceCtorEq,Srv.pv,Srv.cells,Lk.Rcv.pv,Lk.Rcv.cells,Tryz.ntmps30,Tryz.results30])
        done
end Go.Proofs.YtcdmhigmgpflbaaGreat.Pe
namespace Go.Proofs.YtcdmhigmgpflbaaGreat.Pe
open Go.Pe Go.RowKit
theorem talk_right {s : Srv} (q : List UInt8) (f g : List Int) (h : RightS s) : RightS (talkV s q f g).1 := by
  rcases talk_any s q f g with e | e | e
  · rw [e]; exact h
  · rw [e]; exact ask_right h q
  · rw [e]; exact ask_right h q
theorem zsame_self (a : List UInt8) : PureCalls Tryz.prog 7 [bytesPV a,bytesPV a] (PB true) := by
  have := same23_calls a a
  rwa [decide_eq_true rfl] at this
theorem zkeyForR_at {a : List UInt8} {secret : Int} {k : List UInt8} {b : Bool} (h : keyForV secret a = (k,b)) : PureCalls Tryz.prog 6 [bytesPV a,PI secret] (.tup [bytesPV k,PB b]) := by
  have := zkeyForR_calls a secret
  rwa [h] at this
theorem zposR_at {q a : List UInt8} {b : Bool} (h : posV q a = b) : PureCalls Tryz.prog 27 [bytesPV q,bytesPV a] (PB b) := h ▸ zposR_calls q a
theorem ztalkR_at {s : Srv} {q : List UInt8} {f g : List Int} {r : TalkR} (h : talkV s q f g = r) (hs : RightS s) (hq : q.length < 1000000) : PureCalls Tryz.prog 30 [s.pv,bytesPV q,intsPV f,intsPV g] r.pv := h ▸ ztalkR_calls s q f g hs hq
theorem great_at {s : Srv} {q : List UInt8} {f g : List Int} {b : Bool} (h : greatV s q f g = b) : PureCalls Tryz.prog 28 [s.pv,bytesPV q,intsPV f,intsPV g] (PB b) := h ▸ great_calls s q f g
theorem tells23_calls (n m : Int) (b c : List UInt8) (s : Srv) (there back : List Int) (hn : Fits n) (hm : Fits m) : PureCalls Tryz.prog 3 [PI n,PI m,bytesPV b,bytesPV c,s.pv,intsPV there,intsPV back] (PB true) := by
  refine PureCalls.of tabOK mixed Tryz.func3 rfl rfl (by decide +kernel) (by simp [Tryz.ntmps3]) ?_
  simp only [go_sem,zA,zB,zC,zD,zE,zF,zG,zH,zI,zJ,zK,zL,zM,zN,zO,zP,↓reduceIte,reduceCtorEq,Tryz.ntmps3,Tryz.results3,Srv.pv,Srv.cells]
  (refine CallA.pure (h23_calls) (by simp only [go_sem,zA,zB,zC,zD,zE,zF,zG,zH,zI,zJ,zK,zL,zM,zN,zO,zP,↓reduceIte,reduceCtorEq] <;> first | rfl | decide) ?_; simp only [go_sem,zA,zB,zC,zD,zE,zF,zG,zH,zI,zJ,zK,zL,zM,zN,zO,zP,↓reduceIte,reduceCtorEq])
  by_cases hb : b.length > 5000
  · have g1 : decide ((b.length : Int) > 5000) = true := decide_eq_true (by omega)
    simp only [go_sem,zA,zB,zC,zD,zE,zF,zG,zH,zI,zJ,zK,zL,zM,zN,zO,zP,↓reduceIte,reduceCtorEq,rowsB_length,g1,Tryz.ntmps3,Tryz.results3]
    done
  have g1 : decide ((b.length : Int) > 5000) = false := decide_eq_false (by omega)
  by_cases hc : c.length > 5000
  · have g2 : decide ((c.length : Int) > 5000) = true := decide_eq_true (by omega)
    simp only [go_sem,zA,zB,zC,zD,zE,zF,zG,zH,zI,zJ,zK,zL,zM,zN,zO,zP,↓reduceIte,reduceCtorEq,rowsB_length,g1,g2,Tryz.ntmps3,Tryz.results3]
    done
  have g2 : decide ((c.length : Int) > 5000) = false := decide_eq_false (by omega)
  obtain ⟨k,is,hk⟩ : ∃ k is,keyForV n c = (k,is) := ⟨_,_,rfl⟩
  have k1 := keyFor_at hk
  have k2 := zkeyForR_at hk
  simp only [go_sem,zA,zB,zC,zD,zE,zF,zG,zH,zI,zJ,zK,zL,zM,zN,zO,zP,↓reduceIte,reduceCtorEq,rowsB_length,g1,g2]
  (refine CallA.pure (k1) (by simp only [go_sem,zA,zB,zC,zD,zE,zF,zG,zH,zI,zJ,zK,zL,zM,zN,zO,zP,↓reduceIte,reduceCtorEq] <;> first | rfl | decide) ?_; simp only [go_sem,zA,zB,zC,zD,zE,zF,zG,zH,zI,zJ,zK,zL,zM,zN,zO,zP,↓reduceIte,reduceCtorEq])
  (refine CallA.pure (k2) (by simp only [go_sem,zA,zB,zC,zD,zE,zF,zG,zH,zI,zJ,zK,zL,zM,zN,zO,zP,↓reduceIte,reduceCtorEq] <;> first | rfl | decide) ?_; simp only [go_sem,zA,zB,zC,zD,zE,zF,zG,zH,zI,zJ,zK,zL,zM,zN,zO,zP,↓reduceIte,reduceCtorEq])
  (refine CallA.pure (session_calls n) (by simp only [go_sem,zA,zB,zC,zD,zE,zF,zG,zH,zI,zJ,zK,zL,zM,zN,zO,zP,↓reduceIte,reduceCtorEq] <;> first | rfl | decide) ?_; simp only [go_sem,zA,zB,zC,zD,zE,zF,zG,zH,zI,zJ,zK,zL,zM,zN,zO,zP,↓reduceIte,reduceCtorEq])
  (refine CallA.pure (zsesR_calls n hn) (by simp only [go_sem,zA,zB,zC,zD,zE,zF,zG,zH,zI,zJ,zK,zL,zM,zN,zO,zP,↓reduceIte,reduceCtorEq] <;> first | rfl | decide) ?_; simp only [go_sem,zA,zB,zC,zD,zE,zF,zG,zH,zI,zJ,zK,zL,zM,zN,zO,zP,↓reduceIte,reduceCtorEq])
  (refine CallA.pure (zsame_self (sesQ n)) (by simp only [go_sem,zA,zB,zC,zD,zE,zF,zG,zH,zI,zJ,zK,zL,zM,zN,zO,zP,↓reduceIte,reduceCtorEq,Bool.not_true] <;> first | rfl | decide) ?_; simp only [go_sem,zA,zB,zC,zD,zE,zF,zG,zH,zI,zJ,zK,zL,zM,zN,zO,zP,↓reduceIte,reduceCtorEq,Bool.not_true])
  (refine CallA.pure (seed_calls) (by simp only [go_sem,zA,zB,zC,zD,zE,zF,zG,zH,zI,zJ,zK,zL,zM,zN,zO,zP,↓reduceIte,reduceCtorEq] <;> first | rfl | decide) ?_; simp only [go_sem,zA,zB,zC,zD,zE,zF,zG,zH,zI,zJ,zK,zL,zM,zN,zO,zP,↓reduceIte,reduceCtorEq])
  (refine CallA.pure (zseedR_calls) (by simp only [go_sem,zA,zB,zC,zD,zE,zF,zG,zH,zI,zJ,zK,zL,zM,zN,zO,zP,↓reduceIte,reduceCtorEq] <;> first | rfl | decide) ?_; simp only [go_sem,zA,zB,zC,zD,zE,zF,zG,zH,zI,zJ,zK,zL,zM,zN,zO,zP,↓reduceIte,reduceCtorEq])
  (refine CallA.pure (zsame_self seedQ) (by simp only [go_sem,zA,zB,zC,zD,zE,zF,zG,zH,zI,zJ,zK,zL,zM,zN,zO,zP,↓reduceIte,reduceCtorEq,Bool.not_true] <;> first | rfl | decide) ?_; simp only [go_sem,zA,zB,zC,zD,zE,zF,zG,zH,zI,zJ,zK,zL,zM,zN,zO,zP,↓reduceIte,reduceCtorEq,Bool.not_true])
  (refine CallA.pure (read_calls n) (by simp only [go_sem,zA,zB,zC,zD,zE,zF,zG,zH,zI,zJ,zK,zL,zM,zN,zO,zP,↓reduceIte,reduceCtorEq] <;> first | rfl | decide) ?_; simp only [go_sem,zA,zB,zC,zD,zE,zF,zG,zH,zI,zJ,zK,zL,zM,zN,zO,zP,↓reduceIte,reduceCtorEq])
  (refine CallA.pure (zreadR_calls n hn) (by simp only [go_sem,zA,zB,zC,zD,zE,zF,zG,zH,zI,zJ,zK,zL,zM,zN,zO,zP,↓reduceIte,reduceCtorEq] <;> first | rfl | decide) ?_; simp only [go_sem,zA,zB,zC,zD,zE,zF,zG,zH,zI,zJ,zK,zL,zM,zN,zO,zP,↓reduceIte,reduceCtorEq])
  (refine CallA.pure (zsame_self (readQ n)) (by simp only [go_sem,zA,zB,zC,zD,zE,zF,zG,zH,zI,zJ,zK,zL,zM,zN,zO,zP,↓reduceIte,reduceCtorEq,Bool.not_true] <;> first | rfl | decide) ?_; simp only [go_sem,zA,zB,zC,zD,zE,zF,zG,zH,zI,zJ,zK,zL,zM,zN,zO,zP,↓reduceIte,reduceCtorEq,Bool.not_true])
  (refine CallA.pure (write_calls n b (by omega)) (by simp only [go_sem,zA,zB,zC,zD,zE,zF,zG,zH,zI,zJ,zK,zL,zM,zN,zO,zP,↓reduceIte,reduceCtorEq] <;> first | rfl | decide) ?_; simp only [go_sem,zA,zB,zC,zD,zE,zF,zG,zH,zI,zJ,zK,zL,zM,zN,zO,zP,↓reduceIte,reduceCtorEq])
  (refine CallA.pure (zwriteR_calls n b (by omega) hn) (by simp only [go_sem,zA,zB,zC,zD,zE,zF,zG,zH,zI,zJ,zK,zL,zM,zN,zO,zP,↓reduceIte,reduceCtorEq] <;> first | rfl | decide) ?_; simp only [go_sem,zA,zB,zC,zD,zE,zF,zG,zH,zI,zJ,zK,zL,zM,zN,zO,zP,↓reduceIte,reduceCtorEq])
  (refine CallA.pure (zsame_self (writeQ n b)) (by simp only [go_sem,zA,zB,zC,zD,zE,zF,zG,zH,zI,zJ,zK,zL,zM,zN,zO,zP,↓reduceIte,reduceCtorEq,Bool.not_true] <;> first | rfl | decide) ?_; simp only [go_sem,zA,zB,zC,zD,zE,zF,zG,zH,zI,zJ,zK,zL,zM,zN,zO,zP,↓reduceIte,reduceCtorEq,Bool.not_true])
  (refine CallA.pure (clearQ_calls) (by simp only [go_sem,zA,zB,zC,zD,zE,zF,zG,zH,zI,zJ,zK,zL,zM,zN,zO,zP,↓reduceIte,reduceCtorEq] <;> first | rfl | decide) ?_; simp only [go_sem,zA,zB,zC,zD,zE,zF,zG,zH,zI,zJ,zK,zL,zM,zN,zO,zP,↓reduceIte,reduceCtorEq])
  (refine CallA.pure (zclearR_calls) (by simp only [go_sem,zA,zB,zC,zD,zE,zF,zG,zH,zI,zJ,zK,zL,zM,zN,zO,zP,↓reduceIte,reduceCtorEq] <;> first | rfl | decide) ?_; simp only [go_sem,zA,zB,zC,zD,zE,zF,zG,zH,zI,zJ,zK,zL,zM,zN,zO,zP,↓reduceIte,reduceCtorEq])
  (refine CallA.pure (zsame_self clearQ) (by simp only [go_sem,zA,zB,zC,zD,zE,zF,zG,zH,zI,zJ,zK,zL,zM,zN,zO,zP,↓reduceIte,reduceCtorEq,Bool.not_true] <;> first | rfl | decide) ?_; simp only [go_sem,zA,zB,zC,zD,zE,zF,zG,zH,zI,zJ,zK,zL,zM,zN,zO,zP,↓reduceIte,reduceCtorEq,Bool.not_true])
  (refine CallA.pure (troubles_calls n) (by simp only [go_sem,zA,zB,zC,zD,zE,zF,zG,zH,zI,zJ,zK,zL,zM,zN,zO,zP,↓reduceIte,reduceCtorEq] <;> first | rfl | decide) ?_; simp only [go_sem,zA,zB,zC,zD,zE,zF,zG,zH,zI,zJ,zK,zL,zM,zN,zO,zP,↓reduceIte,reduceCtorEq])
  (refine CallA.pure (ztrblR_calls n hn) (by simp only [go_sem,zA,zB,zC,zD,zE,zF,zG,zH,zI,zJ,zK,zL,zM,zN,zO,zP,↓reduceIte,reduceCtorEq] <;> first | rfl | decide) ?_; simp only [go_sem,zA,zB,zC,zD,zE,zF,zG,zH,zI,zJ,zK,zL,zM,zN,zO,zP,↓reduceIte,reduceCtorEq])
  (refine CallA.pure (zsame_self (trblQ n)) (by simp only [go_sem,zA,zB,zC,zD,zE,zF,zG,zH,zI,zJ,zK,zL,zM,zN,zO,zP,↓reduceIte,reduceCtorEq,Bool.not_true] <;> first | rfl | decide) ?_; simp only [go_sem,zA,zB,zC,zD,zE,zF,zG,zH,zI,zJ,zK,zL,zM,zN,zO,zP,↓reduceIte,reduceCtorEq,Bool.not_true])
  (refine CallA.pure (begin_calls n m) (by simp only [go_sem,zA,zB,zC,zD,zE,zF,zG,zH,zI,zJ,zK,zL,zM,zN,zO,zP,↓reduceIte,reduceCtorEq] <;> first | rfl | decide) ?_; simp only [go_sem,zA,zB,zC,zD,zE,zF,zG,zH,zI,zJ,zK,zL,zM,zN,zO,zP,↓reduceIte,reduceCtorEq])
  (refine CallA.pure (zbeginR_calls n m hn hm) (by simp only [go_sem,zA,zB,zC,zD,zE,zF,zG,zH,zI,zJ,zK,zL,zM,zN,zO,zP,↓reduceIte,reduceCtorEq] <;> first | rfl | decide) ?_; simp only [go_sem,zA,zB,zC,zD,zE,zF,zG,zH,zI,zJ,zK,zL,zM,zN,zO,zP,↓reduceIte,reduceCtorEq])
  (refine CallA.pure (zsame_self (beginQ n m)) (by simp only [go_sem,zA,zB,zC,zD,zE,zF,zG,zH,zI,zJ,zK,zL,zM,zN,zO,zP,↓reduceIte,reduceCtorEq,Bool.not_true] <;> first | rfl | decide) ?_; simp only [go_sem,zA,zB,zC,zD,zE,zF,zG,zH,zI,zJ,zK,zL,zM,zN,zO,zP,↓reduceIte,reduceCtorEq,Bool.not_true])
  (refine CallA.pure (block_calls n b (by omega)) (by simp only [go_sem,zA,zB,zC,zD,zE,zF,zG,zH,zI,zJ,zK,zL,zM,zN,zO,zP,↓reduceIte,reduceCtorEq] <;> first | rfl | decide) ?_; simp only [go_sem,zA,zB,zC,zD,zE,zF,zG,zH,zI,zJ,zK,zL,zM,zN,zO,zP,↓reduceIte,reduceCtorEq])
  (refine CallA.pure (zblockR_calls n b (by omega) hn) (by simp only [go_sem,zA,zB,zC,zD,zE,zF,zG,zH,zI,zJ,zK,zL,zM,zN,zO,zP,↓reduceIte,reduceCtorEq] <;> first | rfl | decide) ?_; simp only [go_sem,zA,zB,zC,zD,zE,zF,zG,zH,zI,zJ,zK,zL,zM,zN,zO,zP,↓reduceIte,reduceCtorEq])
  (refine CallA.pure (zsame_self (blockQ n b)) (by simp only [go_sem,zA,zB,zC,zD,zE,zF,zG,zH,zI,zJ,zK,zL,zM,zN,zO,zP,↓reduceIte,reduceCtorEq,Bool.not_true] <;> first | rfl | decide) ?_; simp only [go_sem,zA,zB,zC,zD,zE,zF,zG,zH,zI,zJ,zK,zL,zM,zN,zO,zP,↓reduceIte,reduceCtorEq,Bool.not_true])
  (refine CallA.pure (end_calls) (by simp only [go_sem,zA,zB,zC,zD,zE,zF,zG,zH,zI,zJ,zK,zL,zM,zN,zO,zP,↓reduceIte,reduceCtorEq] <;> first | rfl | decide) ?_; simp only [go_sem,zA,zB,zC,zD,zE,zF,zG,zH,zI,zJ,zK,zL,zM,zN,zO,zP,↓reduceIte,reduceCtorEq])
  (refine CallA.pure (zendR_calls) (by simp only [go_sem,zA,zB,zC,zD,zE,zF,zG,zH,zI,zJ,zK,zL,zM,zN,zO,zP,↓reduceIte,reduceCtorEq] <;> first | rfl | decide) ?_; simp only [go_sem,zA,zB,zC,zD,zE,zF,zG,zH,zI,zJ,zK,zL,zM,zN,zO,zP,↓reduceIte,reduceCtorEq])
  (refine CallA.pure (zsame_self endQ) (by simp only [go_sem,zA,zB,zC,zD,zE,zF,zG,zH,zI,zJ,zK,zL,zM,zN,zO,zP,↓reduceIte,reduceCtorEq,Bool.not_true] <;> first | rfl | decide) ?_; simp only [go_sem,zA,zB,zC,zD,zE,zF,zG,zH,zI,zJ,zK,zL,zM,zN,zO,zP,↓reduceIte,reduceCtorEq,Bool.not_true])
  have nb : ∀ b : Bool,(b != b) = false := fun b => by cases b <;> rfl
  have eb : ∀ b : Bool,(b == b) = true := fun b => by cases b <;> rfl
  (refine CallA.pure (zsame_self k) (by simp only [go_sem,zA,zB,zC,zD,zE,zF,zG,zH,zI,zJ,zK,zL,zM,zN,zO,zP,↓reduceIte,reduceCtorEq,Bool.not_true,nb] <;> first | rfl | decide) ?_; simp only [go_sem,zA,zB,zC,zD,zE,zF,zG,zH,zI,zJ,zK,zL,zM,zN,zO,zP,↓reduceIte,reduceCtorEq,Bool.not_true,nb])
  obtain ⟨ps,hps⟩ : ∃ ps,posV b c = ps := ⟨_,rfl⟩
  (refine CallA.pure (pos_at hps) (by simp only [go_sem,zA,zB,zC,zD,zE,zF,zG,zH,zI,zJ,zK,zL,zM,zN,zO,zP,↓reduceIte,reduceCtorEq] <;> first | rfl | decide) ?_; simp only [go_sem,zA,zB,zC,zD,zE,zF,zG,zH,zI,zJ,zK,zL,zM,zN,zO,zP,↓reduceIte,reduceCtorEq])
  (refine CallA.pure (zposR_at hps) (by simp only [go_sem,zA,zB,zC,zD,zE,zF,zG,zH,zI,zJ,zK,zL,zM,zN,zO,zP,↓reduceIte,reduceCtorEq,nb] <;> first | rfl | decide) ?_; simp only [go_sem,zA,zB,zC,zD,zE,zF,zG,zH,zI,zJ,zK,zL,zM,zN,zO,zP,↓reduceIte,reduceCtorEq,nb])
  cases hg : greatV s b there back with
  | true =>
    have c1 := great_at hg
    (refine CallA.pure (c1) (by simp only [go_sem,zA,zB,zC,zD,zE,zF,zG,zH,zI,zJ,zK,zL,zM,zN,zO,zP,↓reduceIte,reduceCtorEq,Srv.pv,Srv.cells,Tryz.ntmps3,Tryz.results3] <;> first | rfl | decide) ?_; simp only [go_sem,zA,zB,zC,zD,zE,zF,zG,zH,zI,zJ,zK,zL,zM,zN,zO,zP,↓reduceIte,reduceCtorEq,Srv.pv,Srv.cells,Tryz.ntmps3,Tryz.results3])
    done
  | false =>
  have c1 := great_at hg
  obtain ⟨hs,hbl⟩ := great_right hg
  (refine CallA.pure (c1) (by simp only [go_sem,zA,zB,zC,zD,zE,zF,zG,zH,zI,zJ,zK,zL,zM,zN,zO,zP,↓reduceIte,reduceCtorEq,Srv.pv,Srv.cells] <;> first | rfl | decide) ?_; simp only [go_sem,zA,zB,zC,zD,zE,zF,zG,zH,zI,zJ,zK,zL,zM,zN,zO,zP,↓reduceIte,reduceCtorEq,Srv.pv,Srv.cells])
  obtain ⟨r,hr⟩ : ∃ r,talkV s b there back = r := ⟨_,rfl⟩
  have c2 := talk_at hr hs
  have c3 := ztalkR_at hr hs (by omega)
  have hR := talk_right b there back hs
  rw [hr] at hR
  obtain ⟨x,a,on,did⟩ := r
  have c4 := same_at (a := x) (b := x) (r := true) (decide_eq_true rfl) hR.fits.items hR.fits.dtc
  (refine CallA.pure (c2) (by simp only [go_sem,zA,zB,zC,zD,zE,zF,zG,zH,zI,zJ,zK,zL,zM,zN,zO,zP,↓reduceIte,reduceCtorEq,Srv.pv,Srv.cells] <;> first | rfl | decide) ?_; simp only [go_sem,zA,zB,zC,zD,zE,zF,zG,zH,zI,zJ,zK,zL,zM,zN,zO,zP,↓reduceIte,reduceCtorEq,Srv.pv,Srv.cells])
  (refine CallA.pure (c3) (by simp only [go_sem,zA,zB,zC,zD,zE,zF,zG,zH,zI,zJ,zK,zL,zM,zN,zO,zP,↓reduceIte,reduceCtorEq,Srv.pv,Srv.cells] <;> first | rfl | decide) ?_; simp only [go_sem,zA,zB,zC,zD,zE,zF,zG,zH,zI,zJ,zK,zL,zM,zN,zO,zP,↓reduceIte,reduceCtorEq,Srv.pv,Srv.cells])
  (refine CallA.pure (c4) (by simp only [go_sem,zA,zB,zC,zD,zE,zF,zG,zH,zI,zJ,zK,zL,zM,zN,zO,zP,↓reduceIte,reduceCtorEq,Srv.pv,Srv.cells] <;> first | rfl | decide) ?_; simp only [go_sem,zA,zB,zC,zD,zE,zF,zG,zH,zI,zJ,zK,zL,zM,zN,zO,zP,↓reduceIte,reduceCtorEq,Srv.pv,Srv.cells])
  (refine CallA.pure (zsame_self a) (by simp only [go_sem,zA,zB,zC,zD,zE,zF,zG,zH,zI,zJ,zK,zL,zM,zN,zO,zP,↓reduceIte,reduceCtorEq,eb,Tryz.ntmps3,Tryz.results3] <;> first | rfl | decide) ?_; simp only [go_sem,zA,zB,zC,zD,zE,zF,zG,zH,zI,zJ,zK,zL,zM,zN,zO,zP,↓reduceIte,reduceCtorEq,eb,Tryz.ntmps3,Tryz.results3])
  done
end Go.Proofs.YtcdmhigmgpflbaaGreat.Pe
