import Derived.Test.YtcdmhigmgpflbaaTU2
namespace Go.Proofs.Ytcdmhigmgpflbaa.Pe
open Go.Pe Go.RowKit
open Nat renaming reduceAdd → zA,reduceSub → zB,reduceMul → zC,reduceLT → zD,reduceLeDiff → zE,reduceEqDiff → zF,reduceBEq → zG
open Int renaming reduceToNat → zH,reduceLT → zI,reduceLE → zJ,reduceEq → zK,reduceNe → zL,reduceAdd → zM,reduceSub → zN,reduceMul → zO,reduceNeg → zP
set_option maxRecDepth 20000
set_option maxHeartbeats 4000000
set_option linter.unusedSimpArgs false
set_option linter.unusedVariables false
theorem great22_at {l : List Way22} {b : Bool} (hl : l.length ≤ 9223372036854775807) (h : great22V l = b) : PureCalls Try.prog 67 [waysPV l] (PB b) := h ▸ great22_calls l hl
theorem great22_len {l : List Way22} (h : great22V l = false) : l.length ≤ 6 := by
  unfold great22V at h
  simp only [Bool.or_eq_false_iff,decide_eq_false_iff_not] at h
  omega
theorem insFrom_inv {q : List UInt8} {P : Srv → Prop} (h : ∀ s,P s → P (askV s q).1) : ∀ (l : List Way22) (s : Srv),P s → P (insFrom q l s) := by
  intro l
  induction l with
  | nil => exact fun s hs => hs
  | cons w l ih =>
    intro s hs
    show P (insFrom q l (talkV s q w.there w.back).1)
    refine ih _ ?_
    rcases talk_any s q w.there w.back with e | e | e <;> rw [e]
    · exact hs
    · exact h s hs
    · exact h s hs
/-- Shut,and asked nothing wrong. -/
structure InsA (S : Int) (s : Srv) : Prop where
  r : RightS s
  op : s.op = false
  w : s.wrong = 0
  sec : s.sec = S
theorem ins_ses {S : Int} {n : UInt8} (hn : 1 ≤ n.toNat ∧ n.toNat ≤ 3) {s : Srv} (h : InsA S s) (l : List Way22) : ∃ t,insV s [0x10,n] l = (t,[0x50,n]) ∧ InsA S t ∧ t.ses = (n.toNat : Int) := by
  have hi : InsA S (insFrom [0x10,n] l s) := by
    refine insFrom_inv (P := InsA S) (fun s hs => ?_) l s h
    have hr := ask_right hs.r [0x10,n]
    rw [ask_sesN hn] at hr ⊢
    exact ⟨hr,rfl,hs.w,hs.sec⟩
  unfold insV
  generalize insFrom [0x10,n] l s = u at hi
  have e := talk_ses hi.r hn
  have hr := right_to e hi.r
  rw [e]
  exact ⟨_,rfl,⟨hr,rfl,hi.w,hi.sec⟩,rfl⟩
/-- A seed was given; or it is open. -/
structure InsC (S n d : Int) (s : Srv) : Prop where
  r : RightS s
  ses : s.ses = n
  w : s.wrong = 0
  sec : s.sec = S
  seed : s.seed = d ∨ (s.op = true ∧ s.seed = -1)
theorem ins_seed {S n : Int} (hn : n ≠ 1) {s : Srv} (h : InsA S s) (hs : s.ses = n) (l : List Way22) : ∃ t d,insV s seedQ l = (t,0x67 :: 1 :: fourV d) ∧ (0 ≤ d ∧ d ≤ 4294967295) ∧ InsC S n d t := by
  have hi : InsA S (insFrom seedQ l s) ∧ (insFrom seedQ l s).ses = n := by
    refine insFrom_inv (P := fun s => InsA S s ∧ s.ses = n) (fun s hs => ?_) l s ⟨h,hs⟩
    obtain ⟨hs,hses⟩ := hs
    have hr := ask_right hs.r seedQ
    have e : askV s seedQ = _ := ask_seed (by rw [hs.w]; decide) (by rw [hses]; exact hn) hs.op
    rw [e] at hr ⊢
    exact ⟨⟨hr,hs.op,hs.w,hs.sec⟩,hses⟩
  unfold insV
  generalize insFrom seedQ l s = u at hi
  obtain ⟨hi,hses⟩ := hi
  have e := talk_seed hi.r (by rw [hi.w]; decide) (by rw [hses]; exact hn) hi.op
  have hr := right_to e hi.r
  rw [e]
  exact ⟨_,_,rfl,hi.r.draw,⟨hr,hses,hi.w,hi.sec,.inl rfl⟩⟩
theorem ask_key_none {s : Srv} (k : Int) (hw : s.wrong ≤ 2) (hs : s.ses ≠ 1) (hsd : s.seed = -1) : askV s (keyQ k) = ({ s with quiet := 0 },[0x7f,0x27,0x22],false) := by
  have e : askV s (keyQ k) = askV s (0x27 :: 2 :: fourV k) := rfl
  rw [e,ask_key _ (fourV_len _),keyA,if_neg (fun h => h hw),if_neg hs,if_pos (by show ¬ s.seed ≥ 0; omega)]
  rfl
theorem ins_key_step {S n d : Int} (hn : n ≠ 1) (hd : 0 ≤ d) {s : Srv} (h : InsC S n d s) : InsC S n d (askV s (keyQ (keyV d S))).1 ∧ (askV s (keyQ (keyV d S))).1.op = true := by
  have hr := ask_right h.r (keyQ (keyV d S))
  have hw : s.wrong ≤ 2 := by rw [h.w]; decide
  have hs : s.ses ≠ 1 := by rw [h.ses]; exact hn
  rcases h.seed with e | ⟨ho,e⟩
  · have ek : keyV d S = keyV s.seed s.sec := by rw [e,h.sec]
    have e2 : askV s (keyQ (keyV d S)) = ({ s with quiet := 0,op := true,seed := -1,wrong := 0 },[0x67,2],false) := by rw [ek]; exact ask_key_good hw hs (by omega)
    rw [e2] at hr ⊢
    exact ⟨⟨hr,h.ses,rfl,h.sec,.inr ⟨rfl,rfl⟩⟩,rfl⟩
  · have e2 := ask_key_none (keyV d S) hw hs e
    rw [e2] at hr ⊢
    exact ⟨⟨hr,h.ses,h.w,h.sec,.inr ⟨ho,e⟩⟩,ho⟩
theorem ins_key {S n d : Int} (hn : n ≠ 1) (hd : 0 ≤ d) {s : Srv} (h : InsC S n d s) (l : List Way22) : ∃ t a,insV s (keyQ (keyV d S)) l = (t,a) ∧ t.op = true ∧ t.ses = n := by
  have hi : InsC S n d (insFrom (keyQ (keyV d S)) l s) := insFrom_inv (P := InsC S n d) (fun s hs => (ins_key_step hn hd hs).1) l s h
  unfold insV
  generalize insFrom (keyQ (keyV d S)) l s = u at hi
  have e := talk_thru hi.r (q := keyQ (keyV d S)) (by rw [keyQ_len]; decide) (by rw [keyQ_len]; decide)
  obtain ⟨h1,h2⟩ := ins_key_step hn hd hi
  rw [e]
  exact ⟨_,_,rfl,h2,h1.ses⟩
theorem insist_at {s t : Srv} {q a : List UInt8} {l : List Way22} (h : insV s q l = (t,a)) (hr : RightS s) (hl : l.length ≤ 6) : PureCalls Try.prog 68 [s.pv,bytesPV q,waysPV l] (.tup [t.pv,bytesPV a]) := by
  have := insist_calls s q l hr (by omega)
  rwa [h] at this
theorem topInsists_calls (S D : UInt32) (big : Bool) (a b c : List Way22) (ha : a.length ≤ 9223372036854775807) (hb : b.length ≤ 9223372036854775807) (hc : c.length ≤ 9223372036854775807) :
    PureCalls Try.prog 22 [.lit (.int .u32 S.toNat),.lit (.int .u32 D.toNat),PB big,waysPV a,waysPV b,waysPV c] (PB true) := by
  refine PureCalls.of tabOK mixed Try.func22 rfl rfl (by decide +kernel) (by simp [Try.ntmps22]) ?_
  have wS := wr32 S
  have wD := wr32 D
  have hS := u32_wide S
  have hD := u32_wide D
  have c0 := newD_at (newSrv_u32 S D [])
  generalize (S.toNat : Int) = s at wS hS c0
  generalize (D.toNat : Int) = d at wD hD c0
  have r0 : RightS (freshS s d []) := fresh_right hS hD rfl (by simp)
  have q2 := seed_calls
  simp only [go_sem,zA,zB,zC,zD,zE,zF,zG,zH,zI,zJ,zK,zL,zM,zN,zO,zP,↓reduceIte,reduceCtorEq,Try.ntmps22,Try.results22]
  (refine CallA.pure (top22_calls) (by simp only [go_sem,zA,zB,zC,zD,zE,zF,zG,zH,zI,zJ,zK,zL,zM,zN,zO,zP,↓reduceIte,reduceCtorEq,Try.ntmps22,Try.results22] <;> first | rfl | decide) ?_; simp only [go_sem,zA,zB,zC,zD,zE,zF,zG,zH,zI,zJ,zK,zL,zM,zN,zO,zP,↓reduceIte,reduceCtorEq,Try.ntmps22,Try.results22])
  cases ga : great22V a with
  | true => (refine CallA.pure (great22_at ha ga) (by simp only [go_sem,zA,zB,zC,zD,zE,zF,zG,zH,zI,zJ,zK,zL,zM,zN,zO,zP,↓reduceIte,reduceCtorEq,Try.ntmps22,Try.results22] <;> first | rfl | decide) ?_; simp only [go_sem,zA,zB,zC,zD,zE,zF,zG,zH,zI,zJ,zK,zL,zM,zN,zO,zP,↓reduceIte,reduceCtorEq,Try.ntmps22,Try.results22])
  | false =>
  (refine CallA.pure (great22_at ha ga) (by simp only [go_sem,zA,zB,zC,zD,zE,zF,zG,zH,zI,zJ,zK,zL,zM,zN,zO,zP,↓reduceIte,reduceCtorEq,Try.ntmps22,Try.results22] <;> first | rfl | decide) ?_; simp only [go_sem,zA,zB,zC,zD,zE,zF,zG,zH,zI,zJ,zK,zL,zM,zN,zO,zP,↓reduceIte,reduceCtorEq,Try.ntmps22,Try.results22])
  cases gb : great22V b with
  | true => (refine CallA.pure (great22_at hb gb) (by simp only [go_sem,zA,zB,zC,zD,zE,zF,zG,zH,zI,zJ,zK,zL,zM,zN,zO,zP,↓reduceIte,reduceCtorEq,Try.ntmps22,Try.results22] <;> first | rfl | decide) ?_; simp only [go_sem,zA,zB,zC,zD,zE,zF,zG,zH,zI,zJ,zK,zL,zM,zN,zO,zP,↓reduceIte,reduceCtorEq,Try.ntmps22,Try.results22])
  | false =>
  (refine CallA.pure (great22_at hb gb) (by simp only [go_sem,zA,zB,zC,zD,zE,zF,zG,zH,zI,zJ,zK,zL,zM,zN,zO,zP,↓reduceIte,reduceCtorEq,Try.ntmps22,Try.results22] <;> first | rfl | decide) ?_; simp only [go_sem,zA,zB,zC,zD,zE,zF,zG,zH,zI,zJ,zK,zL,zM,zN,zO,zP,↓reduceIte,reduceCtorEq,Try.ntmps22,Try.results22])
  cases gc : great22V c with
  | true => (refine CallA.pure (great22_at hc gc) (by simp only [go_sem,zA,zB,zC,zD,zE,zF,zG,zH,zI,zJ,zK,zL,zM,zN,zO,zP,↓reduceIte,reduceCtorEq,Try.ntmps22,Try.results22] <;> first | rfl | decide) ?_; simp only [go_sem,zA,zB,zC,zD,zE,zF,zG,zH,zI,zJ,zK,zL,zM,zN,zO,zP,↓reduceIte,reduceCtorEq,Try.ntmps22,Try.results22])
  | false =>
  (refine CallA.pure (great22_at hc gc) (by simp only [go_sem,zA,zB,zC,zD,zE,zF,zG,zH,zI,zJ,zK,zL,zM,zN,zO,zP,↓reduceIte,reduceCtorEq,Try.ntmps22,Try.results22] <;> first | rfl | decide) ?_; simp only [go_sem,zA,zB,zC,zD,zE,zF,zG,zH,zI,zJ,zK,zL,zM,zN,zO,zP,↓reduceIte,reduceCtorEq,Try.ntmps22,Try.results22])
  cases big with
  | true =>
    have q1 := session_calls 3
    rw [show sesQ 3 = [0x10,3] from ses_one 3] at q1
    obtain ⟨s1,e1,i1,h1⟩ := ins_ses (n := 3) (by decide) (s := freshS s d []) ⟨r0,rfl,rfl,rfl⟩ a
    have h1 : s1.ses = 3 := h1
    obtain ⟨s2,x,e2,hx,i2⟩ := ins_seed (n := 3) (by decide) i1 h1 b
    obtain ⟨s3,z,e3,o3,n3⟩ := ins_key (by decide) hx.1 i2 c
    have t1 := insist_at e1 r0 (great22_len ga)
    have t2 := insist_at e2 i1.r (great22_len gb)
    have k1 := keyFor_at (keyFor_four hx s)
    have t3 := insist_at e3 i2.r (great22_len gc)
    simp only [go_sem,zA,zB,zC,zD,zE,zF,zG,zH,zI,zJ,zK,zL,zM,zN,zO,zP,↓reduceIte,reduceCtorEq]
    (refine CallA.pure (c0) (by simp only [go_sem,zA,zB,zC,zD,zE,zF,zG,zH,zI,zJ,zK,zL,zM,zN,zO,zP,↓reduceIte,reduceCtorEq,wS,wD,Srv.pv,Srv.cells,freshS,List.map_nil] <;> first | rfl | decide) ?_; simp only [go_sem,zA,zB,zC,zD,zE,zF,zG,zH,zI,zJ,zK,zL,zM,zN,zO,zP,↓reduceIte,reduceCtorEq,wS,wD,Srv.pv,Srv.cells,freshS,List.map_nil])
    (refine callD_pure (q1) (by simp only [go_sem,zA,zB,zC,zD,zE,zF,zG,zH,zI,zJ,zK,zL,zM,zN,zO,zP,↓reduceIte,reduceCtorEq] <;> first | rfl | decide) ?_; simp only [go_sem,zA,zB,zC,zD,zE,zF,zG,zH,zI,zJ,zK,zL,zM,zN,zO,zP,↓reduceIte,reduceCtorEq])
    (refine callD_pure (t1) (by simp only [go_sem,zA,zB,zC,zD,zE,zF,zG,zH,zI,zJ,zK,zL,zM,zN,zO,zP,↓reduceIte,reduceCtorEq,Srv.pv,Srv.cells,freshS,List.map_nil] <;> first | rfl | decide) ?_; simp only [go_sem,zA,zB,zC,zD,zE,zF,zG,zH,zI,zJ,zK,zL,zM,zN,zO,zP,↓reduceIte,reduceCtorEq,Srv.pv,Srv.cells,freshS,List.map_nil])
    refine endD_intro (by decide +kernel) ?_
    simp only [go_sem,zA,zB,zC,zD,zE,zF,zG,zH,zI,zJ,zK,zL,zM,zN,zO,zP,↓reduceIte,reduceCtorEq]
    (refine callD_pure (q2) (by simp only [go_sem,zA,zB,zC,zD,zE,zF,zG,zH,zI,zJ,zK,zL,zM,zN,zO,zP,↓reduceIte,reduceCtorEq] <;> first | rfl | decide) ?_; simp only [go_sem,zA,zB,zC,zD,zE,zF,zG,zH,zI,zJ,zK,zL,zM,zN,zO,zP,↓reduceIte,reduceCtorEq])
    (refine callD_pure (t2) (by simp only [go_sem,zA,zB,zC,zD,zE,zF,zG,zH,zI,zJ,zK,zL,zM,zN,zO,zP,↓reduceIte,reduceCtorEq,Srv.pv,Srv.cells,freshS,List.map_nil] <;> first | rfl | decide) ?_; simp only [go_sem,zA,zB,zC,zD,zE,zF,zG,zH,zI,zJ,zK,zL,zM,zN,zO,zP,↓reduceIte,reduceCtorEq,Srv.pv,Srv.cells,freshS,List.map_nil])
    refine endD_intro (by decide +kernel) ?_
    simp only [go_sem,zA,zB,zC,zD,zE,zF,zG,zH,zI,zJ,zK,zL,zM,zN,zO,zP,↓reduceIte,reduceCtorEq,wS]
    (refine CallA.pure (k1) (by simp only [go_sem,zA,zB,zC,zD,zE,zF,zG,zH,zI,zJ,zK,zL,zM,zN,zO,zP,↓reduceIte,reduceCtorEq,wS] <;> first | rfl | decide) ?_; simp only [go_sem,zA,zB,zC,zD,zE,zF,zG,zH,zI,zJ,zK,zL,zM,zN,zO,zP,↓reduceIte,reduceCtorEq,wS])
    (refine CallA.pure (t3) (by simp only [go_sem,zA,zB,zC,zD,zE,zF,zG,zH,zI,zJ,zK,zL,zM,zN,zO,zP,↓reduceIte,reduceCtorEq,Srv.pv,Srv.cells,o3,n3,Try.ntmps22,Try.results22] <;> first | rfl | decide) ?_; simp only [go_sem,zA,zB,zC,zD,zE,zF,zG,zH,zI,zJ,zK,zL,zM,zN,zO,zP,↓reduceIte,reduceCtorEq,Srv.pv,Srv.cells,o3,n3,Try.ntmps22,Try.results22])
  | false =>
    have q1 := session_calls 2
    rw [show sesQ 2 = [0x10,2] from ses_one 2] at q1
    obtain ⟨s1,e1,i1,h1⟩ := ins_ses (n := 2) (by decide) (s := freshS s d []) ⟨r0,rfl,rfl,rfl⟩ a
    have h1 : s1.ses = 2 := h1
    obtain ⟨s2,x,e2,hx,i2⟩ := ins_seed (n := 2) (by decide) i1 h1 b
    obtain ⟨s3,z,e3,o3,n3⟩ := ins_key (by decide) hx.1 i2 c
    have t1 := insist_at e1 r0 (great22_len ga)
    have t2 := insist_at e2 i1.r (great22_len gb)
    have k1 := keyFor_at (keyFor_four hx s)
    have t3 := insist_at e3 i2.r (great22_len gc)
    simp only [go_sem,zA,zB,zC,zD,zE,zF,zG,zH,zI,zJ,zK,zL,zM,zN,zO,zP,↓reduceIte,reduceCtorEq]
    (refine CallA.pure (c0) (by simp only [go_sem,zA,zB,zC,zD,zE,zF,zG,zH,zI,zJ,zK,zL,zM,zN,zO,zP,↓reduceIte,reduceCtorEq,wS,wD,Srv.pv,Srv.cells,freshS,List.map_nil] <;> first | rfl | decide) ?_; simp only [go_sem,zA,zB,zC,zD,zE,zF,zG,zH,zI,zJ,zK,zL,zM,zN,zO,zP,↓reduceIte,reduceCtorEq,wS,wD,Srv.pv,Srv.cells,freshS,List.map_nil])
    (refine callD_pure (q1) (by simp only [go_sem,zA,zB,zC,zD,zE,zF,zG,zH,zI,zJ,zK,zL,zM,zN,zO,zP,↓reduceIte,reduceCtorEq] <;> first | rfl | decide) ?_; simp only [go_sem,zA,zB,zC,zD,zE,zF,zG,zH,zI,zJ,zK,zL,zM,zN,zO,zP,↓reduceIte,reduceCtorEq])
    (refine callD_pure (t1) (by simp only [go_sem,zA,zB,zC,zD,zE,zF,zG,zH,zI,zJ,zK,zL,zM,zN,zO,zP,↓reduceIte,reduceCtorEq,Srv.pv,Srv.cells,freshS,List.map_nil] <;> first | rfl | decide) ?_; simp only [go_sem,zA,zB,zC,zD,zE,zF,zG,zH,zI,zJ,zK,zL,zM,zN,zO,zP,↓reduceIte,reduceCtorEq,Srv.pv,Srv.cells,freshS,List.map_nil])
    refine endD_intro (by decide +kernel) ?_
    simp only [go_sem,zA,zB,zC,zD,zE,zF,zG,zH,zI,zJ,zK,zL,zM,zN,zO,zP,↓reduceIte,reduceCtorEq]
    (refine callD_pure (q2) (by simp only [go_sem,zA,zB,zC,zD,zE,zF,zG,zH,zI,zJ,zK,zL,zM,zN,zO,zP,↓reduceIte,reduceCtorEq] <;> first | rfl | decide) ?_; simp only [go_sem,zA,zB,zC,zD,zE,zF,zG,zH,zI,zJ,zK,zL,zM,zN,zO,zP,↓reduceIte,reduceCtorEq])
    (refine callD_pure (t2) (by simp only [go_sem,zA,zB,zC,zD,zE,zF,zG,zH,zI,zJ,zK,zL,zM,zN,zO,zP,↓reduceIte,reduceCtorEq,Srv.pv,Srv.cells,freshS,List.map_nil] <;> first | rfl | decide) ?_; simp only [go_sem,zA,zB,zC,zD,zE,zF,zG,zH,zI,zJ,zK,zL,zM,zN,zO,zP,↓reduceIte,reduceCtorEq,Srv.pv,Srv.cells,freshS,List.map_nil])
    refine endD_intro (by decide +kernel) ?_
    simp only [go_sem,zA,zB,zC,zD,zE,zF,zG,zH,zI,zJ,zK,zL,zM,zN,zO,zP,↓reduceIte,reduceCtorEq,wS]
    (refine CallA.pure (k1) (by simp only [go_sem,zA,zB,zC,zD,zE,zF,zG,zH,zI,zJ,zK,zL,zM,zN,zO,zP,↓reduceIte,reduceCtorEq,wS] <;> first | rfl | decide) ?_; simp only [go_sem,zA,zB,zC,zD,zE,zF,zG,zH,zI,zJ,zK,zL,zM,zN,zO,zP,↓reduceIte,reduceCtorEq,wS])
    (refine CallA.pure (t3) (by simp only [go_sem,zA,zB,zC,zD,zE,zF,zG,zH,zI,zJ,zK,zL,zM,zN,zO,zP,↓reduceIte,reduceCtorEq,Srv.pv,Srv.cells,o3,n3,Try.ntmps22,Try.results22] <;> first | rfl | decide) ?_; simp only [go_sem,zA,zB,zC,zD,zE,zF,zG,zH,zI,zJ,zK,zL,zM,zN,zO,zP,↓reduceIte,reduceCtorEq,Srv.pv,Srv.cells,o3,n3,Try.ntmps22,Try.results22])
end Go.Proofs.Ytcdmhigmgpflbaa.Pe

