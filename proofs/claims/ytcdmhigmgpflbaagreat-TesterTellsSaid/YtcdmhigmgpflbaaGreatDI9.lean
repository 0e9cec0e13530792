import Derived.Test.YtcdmhigmgpflbaaGreatDI6
set_option maxRecDepth 20000
set_option maxHeartbeats 4000000
set_option linter.unusedSimpArgs false
set_option linter.unusedVariables false
open Nat renaming reduceAdd → zA,reduceSub → zB,reduceMul → zC,reduceLT → zD,reduceLeDiff → zE,reduceEqDiff → zF,reduceBEq → zG,add_lt_add_iff_left → yAa,add_left_cancel_iff → yAb,left_eq_add → yAc,add_eq_left → yAd,le_add_right → yAe,add_assoc → yAf,lt_irrefl → yAg
open Int renaming reduceToNat → zH,reduceLT → zI,reduceLE → zJ,reduceEq → zK,reduceNe → zL,reduceAdd → zM,reduceSub → zN,reduceMul → zO,reduceNeg → zP,toNat_natCast → yCa
open List renaming length_cons → yBa,map_cons → yBi,map_nil → yBj
namespace Go.Proofs.YtcdmhigmgpflbaaGreat.Pe
open Go.Pe Go.RowKit
theorem key_pan36 {H : Heap} {b : Nat} {s : Srv} {q : List UInt8} (h : H b = some (askedB s q)) (hw : decide (s.wrong ≤ 2) = false) :
    PanCalls Tryz.prog 111 [.ptr b 0] H (refPV 0x36) [] := by
  refine PanCalls.ofT ⟨_,by rfl,by decide +kernel,by decide +kernel⟩ effOK_nil rfl fun hp nx hH hx => ?_
  have e1 := (foot_one hH).trans h
  have hlt := lk_lt hx e1
  have y1 := lk_fresh0 hx; have y2 := lk_freshK hx; have y3 := ltNe0 hlt; have y4 := ltNe hlt; have y5 := gtNe0 hlt; have y6 := gtNe hlt; have y7 := eq_true hx; have y8 := allK hx; have y9 := eq_true hlt; have y10 := ltK hlt
  refine CallA.into tabOK mixed Tryz.func111 rfl rfl (by decide +kernel) (by simp [Tryz.ntmps111]) ?_
  simp only [go_sem,zA,zB,zC,zD,zE,zF,zG,zH,zI,zJ,zK,zL,zM,zN,zO,zP,↓reduceIte,reduceCtorEq,Tryz.ntmps111,Tryz.results111,e1,y1,y2,y3,y4,y5,y6,y7,y8,y9,y10,yAf,yAd,yAc,yAb,yAa,ltSelfK,yAe,zF,yAg,hpF_addL,askedCells,hw]
  refine CallA.into tabOK mixed Tryz.func86 rfl rfl (by decide +kernel) (by simp [Tryz.ntmps86]) ?_
  simp only [go_sem,zA,zB,zC,zD,zE,zF,zG,zH,zI,zJ,zK,zL,zM,zN,zO,zP,↓reduceIte,reduceCtorEq,Tryz.ntmps86,Tryz.results86,e1,y1,y2,y3,y4,y5,y6,y7,y8,y9,y10,yAf,yAd,yAc,yAb,yAa,ltSelfK,yAe,zF,yAg,hpF_addL,askedCells,Tryz.ntmps111,Tryz.results111]
  exact ⟨rfl,by (intro c hc; have z1 := ltNe0 hc; have z2 := ltNe hc; simp only [lk,applyEff,List.foldl_cons,List.foldl_nil,upd,hpF_eq,z1,z2,if_false,yAf,zA] <;> (repeat' split) <;> first | rfl | (simp_all [askedCells]; done) | (exfalso; omega))⟩
theorem key_pan22 {H : Heap} {b : Nat} {s : Srv} {q : List UInt8} (h : H b = some (askedB s q)) (hw : decide (s.wrong ≤ 2) = true) (hs : decide (s.ses = 1) = true ∨ decide (s.seed ≥ 0) = false) :
    PanCalls Tryz.prog 111 [.ptr b 0] H (refPV 0x22) [] := by
  refine PanCalls.ofT ⟨_,by rfl,by decide +kernel,by decide +kernel⟩ effOK_nil rfl fun hp nx hH hx => ?_
  have e1 := (foot_one hH).trans h
  have hlt := lk_lt hx e1
  have y1 := lk_fresh0 hx; have y2 := lk_freshK hx; have y3 := ltNe0 hlt; have y4 := ltNe hlt; have y5 := gtNe0 hlt; have y6 := gtNe hlt; have y7 := eq_true hx; have y8 := allK hx; have y9 := eq_true hlt; have y10 := ltK hlt
  refine CallA.into tabOK mixed Tryz.func111 rfl rfl (by decide +kernel) (by simp [Tryz.ntmps111]) ?_
  simp only [go_sem,zA,zB,zC,zD,zE,zF,zG,zH,zI,zJ,zK,zL,zM,zN,zO,zP,↓reduceIte,reduceCtorEq,Tryz.ntmps111,Tryz.results111,e1,y1,y2,y3,y4,y5,y6,y7,y8,y9,y10,yAf,yAd,yAc,yAb,yAa,ltSelfK,yAe,zF,yAg,hpF_addL,askedCells,hw]
  refine CallA.into tabOK mixed Tryz.func86 rfl rfl (by decide +kernel) (by simp [Tryz.ntmps86]) ?_
  cases h1 : decide (s.ses = 1) with
  | true =>
    simp only [go_sem,zA,zB,zC,zD,zE,zF,zG,zH,zI,zJ,zK,zL,zM,zN,zO,zP,↓reduceIte,reduceCtorEq,Tryz.ntmps86,Tryz.results86,e1,y1,y2,y3,y4,y5,y6,y7,y8,y9,y10,yAf,yAd,yAc,yAb,yAa,ltSelfK,yAe,zF,yAg,hpF_addL,askedCells,h1,Tryz.ntmps111,Tryz.results111]
    refine CallA.into tabOK mixed Tryz.func86 rfl rfl (by decide +kernel) (by simp [Tryz.ntmps86]) ?_
    simp only [go_sem,zA,zB,zC,zD,zE,zF,zG,zH,zI,zJ,zK,zL,zM,zN,zO,zP,↓reduceIte,reduceCtorEq,Tryz.ntmps86,Tryz.results86,e1,y1,y2,y3,y4,y5,y6,y7,y8,y9,y10,yAf,yAd,yAc,yAb,yAa,ltSelfK,yAe,zF,yAg,hpF_addL,askedCells,Tryz.ntmps111,Tryz.results111]
    exact ⟨rfl,by (intro c hc; have z1 := ltNe0 hc; have z2 := ltNe hc; simp only [lk,applyEff,List.foldl_cons,List.foldl_nil,upd,hpF_eq,z1,z2,if_false,yAf,zA] <;> (repeat' split) <;> first | rfl | (simp_all [askedCells]; done) | (exfalso; omega))⟩
  | false =>
    have h2 : decide (s.seed ≥ 0) = false := hs.resolve_left (by rw [h1]; decide)
    simp only [go_sem,zA,zB,zC,zD,zE,zF,zG,zH,zI,zJ,zK,zL,zM,zN,zO,zP,↓reduceIte,reduceCtorEq,Tryz.ntmps86,Tryz.results86,e1,y1,y2,y3,y4,y5,y6,y7,y8,y9,y10,yAf,yAd,yAc,yAb,yAa,ltSelfK,yAe,zF,yAg,hpF_addL,askedCells,h1,h2,Tryz.ntmps111,Tryz.results111]
    refine CallA.into tabOK mixed Tryz.func86 rfl rfl (by decide +kernel) (by simp [Tryz.ntmps86]) ?_
    simp only [go_sem,zA,zB,zC,zD,zE,zF,zG,zH,zI,zJ,zK,zL,zM,zN,zO,zP,↓reduceIte,reduceCtorEq,Tryz.ntmps86,Tryz.results86,e1,y1,y2,y3,y4,y5,y6,y7,y8,y9,y10,yAf,yAd,yAc,yAb,yAa,ltSelfK,yAe,zF,yAg,hpF_addL,askedCells,Tryz.ntmps111,Tryz.results111]
    exact ⟨rfl,by (intro c hc; have z1 := ltNe0 hc; have z2 := ltNe hc; simp only [lk,applyEff,List.foldl_cons,List.foldl_nil,upd,hpF_eq,z1,z2,if_false,yAf,zA] <;> (repeat' split) <;> first | rfl | (simp_all [askedCells]; done) | (exfalso; omega))⟩
def wrongA (s : Srv) : Srv := { s with seed := -1,wrong := if s.wrong = 2 then 12 else s.wrong + 1 }
theorem key_eff {H : Heap} {b : Nat} {s : Srv} {k : List UInt8} (h : H b = some (askedB s (2 :: k))) (hk : k.length = 4) (hw : decide (s.wrong ≤ 2) = true) (hs : decide (s.ses = 1) = false) (hsd : decide (s.seed ≥ 0) = true) (he : decide (k = fourV (keyV s.seed s.sec)) = true) :
    EffCalls Tryz.prog 111 [.ptr b 0] H (bytesPV [2]) [(b,askedB { s with op := true,seed := -1,wrong := 0 } (2 :: k))] := by
  refine EffCalls.ofT ⟨_,by rfl,by decide +kernel,by decide +kernel⟩ (effOK_one h) fun hp nx hH hx => ?_
  have e1 := (foot_one hH).trans h
  have hlt := lk_lt hx e1
  have y1 := lk_fresh0 hx; have y2 := lk_freshK hx; have y3 := ltNe0 hlt; have y4 := ltNe hlt; have y5 := gtNe0 hlt; have y6 := gtNe hlt; have y7 := eq_true hx; have y8 := allK hx; have y9 := eq_true hlt; have y10 := ltK hlt
  have c1 := keyD_calls s.seed s.sec
  have c2 := four_calls (keyV s.seed s.sec)
  have c3 := equal_calls k (fourV (keyV s.seed s.sec)) (by omega)
  rw [he] at c3
  have la : (rowsB k).length = 4 := by rw [rowsB_length,hk]
  have lb : (rowsB (2 :: k)).length = 5 := by rw [rowsB_length,yBa,hk]
  have ld : (rowsB (2 :: k)).drop 1 = rowsB k := rfl
  have ltk : k.take 4 = k := List.take_of_length_le (by omega)
  generalize keyV s.seed s.sec = kv at c1 c2 c3
  generalize fourV kv = fv at c2 c3
  refine CallA.into tabOK mixed Tryz.func111 rfl rfl (by decide +kernel) (by simp [Tryz.ntmps111]) ?_
  simp only [go_sem,zA,zB,zC,zD,zE,zF,zG,zH,zI,zJ,zK,zL,zM,zN,zO,zP,↓reduceIte,reduceCtorEq,Tryz.ntmps111,Tryz.results111,e1,y1,y2,y3,y4,y5,y6,y7,y8,y9,y10,yAf,yAd,yAc,yAb,yAa,ltSelfK,yAe,zF,yAg,hpF_addL,askedCells,hw]
  refine CallA.into tabOK mixed Tryz.func86 rfl rfl (by decide +kernel) (by simp [Tryz.ntmps86]) ?_
  simp only [go_sem,zA,zB,zC,zD,zE,zF,zG,zH,zI,zJ,zK,zL,zM,zN,zO,zP,↓reduceIte,reduceCtorEq,Tryz.ntmps86,Tryz.results86,e1,y1,y2,y3,y4,y5,y6,y7,y8,y9,y10,yAf,yAd,yAc,yAb,yAa,ltSelfK,yAe,zF,yAg,hpF_addL,askedCells,hs,hsd,Tryz.ntmps111,Tryz.results111]
  refine CallA.into tabOK mixed Tryz.func86 rfl rfl (by decide +kernel) (by simp [Tryz.ntmps86]) ?_
  simp only [go_sem,zA,zB,zC,zD,zE,zF,zG,zH,zI,zJ,zK,zL,zM,zN,zO,zP,↓reduceIte,reduceCtorEq,Tryz.ntmps86,Tryz.results86,e1,y1,y2,y3,y4,y5,y6,y7,y8,y9,y10,yAf,yAd,yAc,yAb,yAa,ltSelfK,yAe,zF,yAg,hpF_addL,askedCells,lb,ld,Tryz.ntmps111,Tryz.results111]
  (refine callD_pure (c1) (by simp only [go_sem,zA,zB,zC,zD,zE,zF,zG,zH,zI,zJ,zK,zL,zM,zN,zO,zP,↓reduceIte,reduceCtorEq,e1,y1,y2,y3,y4,y5,y6,y7,y8,y9,y10,yAf,yAd,yAc,yAb,yAa,ltSelfK,yAe,zF,yAg,hpF_addL,askedCells,lb,ld] <;> first | rfl | decide) ?_; simp only [go_sem,zA,zB,zC,zD,zE,zF,zG,zH,zI,zJ,zK,zL,zM,zN,zO,zP,↓reduceIte,reduceCtorEq,e1,y1,y2,y3,y4,y5,y6,y7,y8,y9,y10,yAf,yAd,yAc,yAb,yAa,ltSelfK,yAe,zF,yAg,hpF_addL,askedCells,lb,ld])
  (refine callD_pure (c2) (by simp only [go_sem,zA,zB,zC,zD,zE,zF,zG,zH,zI,zJ,zK,zL,zM,zN,zO,zP,↓reduceIte,reduceCtorEq,e1,y1,y2,y3,y4,y5,y6,y7,y8,y9,y10,yAf,yAd,yAc,yAb,yAa,ltSelfK,yAe,zF,yAg,hpF_addL,askedCells,lb,ld] <;> first | rfl | decide) ?_; simp only [go_sem,zA,zB,zC,zD,zE,zF,zG,zH,zI,zJ,zK,zL,zM,zN,zO,zP,↓reduceIte,reduceCtorEq,e1,y1,y2,y3,y4,y5,y6,y7,y8,y9,y10,yAf,yAd,yAc,yAb,yAa,ltSelfK,yAe,zF,yAg,hpF_addL,askedCells,lb,ld])
  (refine callD_pure (c3) (by simp only [go_sem,zA,zB,zC,zD,zE,zF,zG,zH,zI,zJ,zK,zL,zM,zN,zO,zP,↓reduceIte,reduceCtorEq,e1,y1,y2,y3,y4,y5,y6,y7,y8,y9,y10,yAf,yAd,yAc,yAb,yAa,ltSelfK,yAe,zF,yAg,hpF_addL,askedCells,lb,ld,ltk] <;> first | rfl | decide) ?_; simp only [go_sem,zA,zB,zC,zD,zE,zF,zG,zH,zI,zJ,zK,zL,zM,zN,zO,zP,↓reduceIte,reduceCtorEq,e1,y1,y2,y3,y4,y5,y6,y7,y8,y9,y10,yAf,yAd,yAc,yAb,yAa,ltSelfK,yAe,zF,yAg,hpF_addL,askedCells,lb,ld,ltk])
  refine endD_intro (by kernel_rfl) ?_
  simp only [go_sem,zA,zB,zC,zD,zE,zF,zG,zH,zI,zJ,zK,zL,zM,zN,zO,zP,↓reduceIte,reduceCtorEq,e1,y1,y2,y3,y4,y5,y6,y7,y8,y9,y10,yAf,yAd,yAc,yAb,yAa,ltSelfK,yAe,zF,yAg,hpF_addL,askedCells,Tryz.ntmps111,Tryz.results111]
  apply tidyK_own
  · first | (rw [lk,if_pos rfl]; done) | (simp only [lk,y1,y2,y3,y4,y5,y6,y7,y8,y9,y10,yAf,yAd,yAc,yAb,yAa,ltSelfK,yAe,zF,yAg,hpF_addL,if_false,if_true,↓reduceIte]; rfl)
  · simp [rowsB,rowB]
  · omega
  · (intro c hc; have z1 := ltNe0 hc; have z2 := ltNe hc; simp only [lk,applyEff,List.foldl_cons,List.foldl_nil,upd,hpF_eq,z1,z2,if_false,yAf,zA] <;> (repeat' split) <;> first | rfl | (simp_all [askedCells]; done) | (exfalso; omega))
theorem key_pan35 {H : Heap} {b : Nat} {s : Srv} {k : List UInt8} (h : H b = some (askedB s (2 :: k))) (hk : k.length = 4) (hw0 : 0 ≤ s.wrong) (hw : decide (s.wrong ≤ 2) = true) (hs : decide (s.ses = 1) = false) (hsd : decide (s.seed ≥ 0) = true) (he : decide (k = fourV (keyV s.seed s.sec)) = false) :
    PanCalls Tryz.prog 111 [.ptr b 0] H (refPV 0x35) [(b,askedB (wrongA s) (2 :: k))] := by
  refine PanCalls.ofT ⟨_,by rfl,by decide +kernel,by decide +kernel⟩ (effOK_one h) rfl fun hp nx hH hx => ?_
  have e1 := (foot_one hH).trans h
  have hlt := lk_lt hx e1
  have y1 := lk_fresh0 hx; have y2 := lk_freshK hx; have y3 := ltNe0 hlt; have y4 := ltNe hlt; have y5 := gtNe0 hlt; have y6 := gtNe hlt; have y7 := eq_true hx; have y8 := allK hx; have y9 := eq_true hlt; have y10 := ltK hlt
  have c1 := keyD_calls s.seed s.sec
  have c2 := four_calls (keyV s.seed s.sec)
  have c3 := equal_calls k (fourV (keyV s.seed s.sec)) (by omega)
  rw [he] at c3
  have la : (rowsB k).length = 4 := by rw [rowsB_length,hk]
  have lb : (rowsB (2 :: k)).length = 5 := by rw [rowsB_length,yBa,hk]
  have ld : (rowsB (2 :: k)).drop 1 = rowsB k := rfl
  have ltk : k.take 4 = k := List.take_of_length_le (by omega)
  generalize keyV s.seed s.sec = kv at c1 c2 c3
  generalize fourV kv = fv at c2 c3
  have hww : s.wrong ≤ 2 := by simpa using hw
  have w1 : IntKind.wrap .i64 (s.wrong + 1) = s.wrong + 1 := wrapI64 (by omega)
  refine CallA.into tabOK mixed Tryz.func111 rfl rfl (by decide +kernel) (by simp [Tryz.ntmps111]) ?_
  simp only [go_sem,zA,zB,zC,zD,zE,zF,zG,zH,zI,zJ,zK,zL,zM,zN,zO,zP,↓reduceIte,reduceCtorEq,Tryz.ntmps111,Tryz.results111,e1,y1,y2,y3,y4,y5,y6,y7,y8,y9,y10,yAf,yAd,yAc,yAb,yAa,ltSelfK,yAe,zF,yAg,hpF_addL,askedCells,hw]
  refine CallA.into tabOK mixed Tryz.func86 rfl rfl (by decide +kernel) (by simp [Tryz.ntmps86]) ?_
  simp only [go_sem,zA,zB,zC,zD,zE,zF,zG,zH,zI,zJ,zK,zL,zM,zN,zO,zP,↓reduceIte,reduceCtorEq,Tryz.ntmps86,Tryz.results86,e1,y1,y2,y3,y4,y5,y6,y7,y8,y9,y10,yAf,yAd,yAc,yAb,yAa,ltSelfK,yAe,zF,yAg,hpF_addL,askedCells,hs,hsd,Tryz.ntmps111,Tryz.results111]
  refine CallA.into tabOK mixed Tryz.func86 rfl rfl (by decide +kernel) (by simp [Tryz.ntmps86]) ?_
  simp only [go_sem,zA,zB,zC,zD,zE,zF,zG,zH,zI,zJ,zK,zL,zM,zN,zO,zP,↓reduceIte,reduceCtorEq,Tryz.ntmps86,Tryz.results86,e1,y1,y2,y3,y4,y5,y6,y7,y8,y9,y10,yAf,yAd,yAc,yAb,yAa,ltSelfK,yAe,zF,yAg,hpF_addL,askedCells,lb,ld,Tryz.ntmps111,Tryz.results111]
  (refine callD_pure (c1) (by simp only [go_sem,zA,zB,zC,zD,zE,zF,zG,zH,zI,zJ,zK,zL,zM,zN,zO,zP,↓reduceIte,reduceCtorEq,e1,y1,y2,y3,y4,y5,y6,y7,y8,y9,y10,yAf,yAd,yAc,yAb,yAa,ltSelfK,yAe,zF,yAg,hpF_addL,askedCells,lb,ld] <;> first | rfl | decide) ?_; simp only [go_sem,zA,zB,zC,zD,zE,zF,zG,zH,zI,zJ,zK,zL,zM,zN,zO,zP,↓reduceIte,reduceCtorEq,e1,y1,y2,y3,y4,y5,y6,y7,y8,y9,y10,yAf,yAd,yAc,yAb,yAa,ltSelfK,yAe,zF,yAg,hpF_addL,askedCells,lb,ld])
  (refine callD_pure (c2) (by simp only [go_sem,zA,zB,zC,zD,zE,zF,zG,zH,zI,zJ,zK,zL,zM,zN,zO,zP,↓reduceIte,reduceCtorEq,e1,y1,y2,y3,y4,y5,y6,y7,y8,y9,y10,yAf,yAd,yAc,yAb,yAa,ltSelfK,yAe,zF,yAg,hpF_addL,askedCells,lb,ld] <;> first | rfl | decide) ?_; simp only [go_sem,zA,zB,zC,zD,zE,zF,zG,zH,zI,zJ,zK,zL,zM,zN,zO,zP,↓reduceIte,reduceCtorEq,e1,y1,y2,y3,y4,y5,y6,y7,y8,y9,y10,yAf,yAd,yAc,yAb,yAa,ltSelfK,yAe,zF,yAg,hpF_addL,askedCells,lb,ld])
  (refine callD_pure (c3) (by simp only [go_sem,zA,zB,zC,zD,zE,zF,zG,zH,zI,zJ,zK,zL,zM,zN,zO,zP,↓reduceIte,reduceCtorEq,e1,y1,y2,y3,y4,y5,y6,y7,y8,y9,y10,yAf,yAd,yAc,yAb,yAa,ltSelfK,yAe,zF,yAg,hpF_addL,askedCells,lb,ld,ltk] <;> first | rfl | decide) ?_; simp only [go_sem,zA,zB,zC,zD,zE,zF,zG,zH,zI,zJ,zK,zL,zM,zN,zO,zP,↓reduceIte,reduceCtorEq,e1,y1,y2,y3,y4,y5,y6,y7,y8,y9,y10,yAf,yAd,yAc,yAb,yAa,ltSelfK,yAe,zF,yAg,hpF_addL,askedCells,lb,ld,ltk])
  refine endD_intro (by kernel_rfl) ?_
  simp only [go_sem,zA,zB,zC,zD,zE,zF,zG,zH,zI,zJ,zK,zL,zM,zN,zO,zP,↓reduceIte,reduceCtorEq,e1,y1,y2,y3,y4,y5,y6,y7,y8,y9,y10,yAf,yAd,yAc,yAb,yAa,ltSelfK,yAe,zF,yAg,hpF_addL,askedCells,w1,Tryz.ntmps111,Tryz.results111]
  by_cases h2 : s.wrong = 2
  · have g : decide (s.wrong + 1 > 2) = true := decide_eq_true (by omega)
    have hA : wrongA s = { s with seed := -1,wrong := 12 } := by simp [wrongA,h2]
    simp only [go_sem,zA,zB,zC,zD,zE,zF,zG,zH,zI,zJ,zK,zL,zM,zN,zO,zP,↓reduceIte,reduceCtorEq,e1,y1,y2,y3,y4,y5,y6,y7,y8,y9,y10,yAf,yAd,yAc,yAb,yAa,ltSelfK,yAe,zF,yAg,hpF_addL,askedCells,g,w1,Tryz.ntmps111,Tryz.results111]
    refine ⟨rfl,?_⟩
    rw [hA]
    (intro c hc; have z1 := ltNe0 hc; have z2 := ltNe hc; simp only [lk,applyEff,List.foldl_cons,List.foldl_nil,upd,hpF_eq,z1,z2,if_false,yAf,zA] <;> (repeat' split) <;> first | rfl | (simp_all [askedCells]; done) | (exfalso; omega))
  · have g : decide (s.wrong + 1 > 2) = false := decide_eq_false (by omega)
    have hA : wrongA s = { s with seed := -1,wrong := s.wrong + 1 } := by simp [wrongA,h2]
    simp only [go_sem,zA,zB,zC,zD,zE,zF,zG,zH,zI,zJ,zK,zL,zM,zN,zO,zP,↓reduceIte,reduceCtorEq,e1,y1,y2,y3,y4,y5,y6,y7,y8,y9,y10,yAf,yAd,yAc,yAb,yAa,ltSelfK,yAe,zF,yAg,hpF_addL,askedCells,g,w1,Tryz.ntmps111,Tryz.results111]
    refine ⟨rfl,?_⟩
    rw [hA]
    (intro c hc; have z1 := ltNe0 hc; have z2 := ltNe hc; simp only [lk,applyEff,List.foldl_cons,List.foldl_nil,upd,hpF_eq,z1,z2,if_false,yAf,zA] <;> (repeat' split) <;> first | rfl | (simp_all [askedCells]; done) | (exfalso; omega))
theorem mask_eff {H : Heap} {b : Nat} {s : Srv} {m : UInt8} (h : H b = some (askedB s [m])) (hd : s.dtc.length < 1000000) :
    EffCalls Tryz.prog 124 [.ptr b 0] H (bytesPV (m :: packV m.toNat s.dtc)) [] := by
  refine EffCalls.ofT ⟨_,by rfl,by decide +kernel,by decide +kernel⟩ effOK_nil fun hp nx hH hx => ?_
  have e1 := (foot_one hH).trans h
  have hlt := lk_lt hx e1
  have y1 := lk_fresh0 hx; have y2 := lk_freshK hx; have y3 := ltNe0 hlt; have y4 := ltNe hlt; have y5 := gtNe0 hlt; have y6 := gtNe hlt; have y7 := eq_true hx; have y8 := allK hx; have y9 := eq_true hlt; have y10 := ltK hlt
  have c1 := packD_calls s.dtc m.toNat hd
  have w1 : IntKind.wrap .i64 (m.toNat : Int) = (m.toNat : Int) := wrapI64 (by have := m.toNat_lt; omega)
  have lp : (packV m.toNat s.dtc).length < 4000000 := by rw [packV,packL_len]; have := listV_len m.toNat s.dtc; omega
  generalize packV m.toNat s.dtc = pv at c1 lp
  refine CallA.into tabOK mixed Tryz.func124 rfl rfl (by decide +kernel) (by simp [Tryz.ntmps124]) ?_
  simp only [go_sem,zA,zB,zC,zD,zE,zF,zG,zH,zI,zJ,zK,zL,zM,zN,zO,zP,↓reduceIte,reduceCtorEq,Tryz.ntmps124,Tryz.results124,e1,y1,y2,y3,y4,y5,y6,y7,y8,y9,y10,yAf,yAd,yAc,yAb,yAa,ltSelfK,yAe,zF,yAg,hpF_addL,askedCells,rowsB,rowB,yBi,yBj,w1]
  (refine callD_pure (c1) (by simp only [go_sem,zA,zB,zC,zD,zE,zF,zG,zH,zI,zJ,zK,zL,zM,zN,zO,zP,↓reduceIte,reduceCtorEq,e1,y1,y2,y3,y4,y5,y6,y7,y8,y9,y10,yAf,yAd,yAc,yAb,yAa,ltSelfK,yAe,zF,yAg,hpF_addL,askedCells] <;> first | rfl | decide) ?_; simp only [go_sem,zA,zB,zC,zD,zE,zF,zG,zH,zI,zJ,zK,zL,zM,zN,zO,zP,↓reduceIte,reduceCtorEq,e1,y1,y2,y3,y4,y5,y6,y7,y8,y9,y10,yAf,yAd,yAc,yAb,yAa,ltSelfK,yAe,zF,yAg,hpF_addL,askedCells])
  refine ⟨by omega,?_⟩
  refine endD_intro (logsOK_ren hlt (by simp [okN]) (by simp only [yBi,yBj,renE,renN,y1,y2,y3,y4,y5,y6,y7,y8,y9,y10,yAf,yAd,yAc,yAb,yAa,ltSelfK,yAe,zF,yAg,hpF_addL,Nat.add_sub_cancel_left,Nat.sub_self,zA,if_false,if_true]; decide +kernel)) ?_
  simp only [go_sem,zA,zB,zC,zD,zE,zF,zG,zH,zI,zJ,zK,zL,zM,zN,zO,zP,↓reduceIte,reduceCtorEq,e1,y1,y2,y3,y4,y5,y6,y7,y8,y9,y10,yAf,yAd,yAc,yAb,yAa,ltSelfK,yAe,zF,yAg,hpF_addL,askedCells,Tryz.ntmps124,Tryz.results124]
  apply tidyK_own
  · first | (rw [lk,if_pos rfl]; done) | (simp only [lk,y1,y2,y3,y4,y5,y6,y7,y8,y9,y10,yAf,yAd,yAc,yAb,yAa,ltSelfK,yAe,zF,yAg,hpF_addL,if_false,if_true,↓reduceIte]; rfl)
  · simp [rowsB,rowB]
  · omega
  · (intro c hc; have z1 := ltNe0 hc; have z2 := ltNe hc; simp only [lk,applyEff,List.foldl_cons,List.foldl_nil,upd,hpF_eq,z1,z2,if_false,yAf,zA] <;> (repeat' split) <;> first | rfl | (simp_all [askedCells]; done) | (exfalso; omega))
end Go.Proofs.YtcdmhigmgpflbaaGreat.Pe
namespace Go.Proofs.YtcdmhigmgpflbaaGreat.Pe
open Go.Pe Go.RowKit
def idV (a b : UInt8) : Int := (a.toNat : Int) * 256 + b.toNat
theorem idV_eq (a b : UInt8) : bitsA .or .i64 (IntKind.wrap .i64 ((a.toNat : Int) * 2 ^ min 8 64)) (b.toNat : Int) = idV a b := by
  have ha := a.toNat_lt
  have hb := b.toNat_lt
  have h1 : IntKind.wrap .i64 ((a.toNat : Int) * 2 ^ min 8 64) = ((a.toNat * 256 : Nat) : Int) := by
    show IntKind.wrap .i64 ((a.toNat : Int) * 256) = _
    rw [wrapI64 (by omega)]; omega
  rw [h1]
  have h2 : (BitVec.ofInt 64 ((a.toNat * 256 : Nat) : Int) ||| BitVec.ofInt 64 (b.toNat : Int)).toNat = a.toNat * 256 + b.toNat := by
    rw [BitVec.toNat_or,BitVec.toNat_ofInt,BitVec.toNat_ofInt]
    have e1 : (((a.toNat * 256 : Nat) : Int) % ((2 ^ 64 : Nat) : Int)).toNat = a.toNat * 2 ^ 8 := by omega
    have e2 : (((b.toNat : Nat) : Int) % ((2 ^ 64 : Nat) : Int)).toNat = b.toNat := by omega
    rw [e1,e2,Nat.mul_comm,← Nat.two_pow_add_eq_or_of_lt (by omega)]
  show IntKind.wrap .i64 ((BitVec.ofInt 64 ((a.toNat * 256 : Nat) : Int) ||| BitVec.ofInt 64 (b.toNat : Int)).toNat : Int) = _
  rw [h2,idV,wrapI64 (by omega)]
  omega
theorem item_call {s : Srv} {a c : UInt8} {r : List UInt8} {w : Bool} {hp : List (Nat × Blk)} {nx b i : Nat} {K KP : CK} (e1 : lk b hp = some (askedB s (a :: c :: r))) (hx : ∀ x ∈ hp,x.1 < nx) (hbig : s.items.length < 1000000) (hf : findV s.items (idV a c) w = some i)
    (hK : K (PI i) hp nx) : CallA Tryz.prog 130 [.ptr b 0,.lit (.func (.func (isFn w)) #[] #[])] hp nx K KP := by
  refine CallA.tidy (fun hcl => ?_) ⟨_,by rfl,by decide +kernel,by decide +kernel⟩ hx hK
  have hlt := lk_lt hx e1
  have y1 := lk_fresh0 hx; have y2 := lk_freshK hx; have y3 := ltNe0 hlt; have y4 := ltNe hlt; have y5 := gtNe0 hlt; have y6 := gtNe hlt; have y7 := eq_true hx; have y8 := allK hx; have y9 := eq_true hlt; have y10 := ltK hlt
  have w1 : IntKind.wrap .i64 (a.toNat : Int) = (a.toNat : Int) := wrapI64 (by have := a.toNat_lt; omega)
  have w2 : IntKind.wrap .i64 (c.toNat : Int) = (c.toNat : Int) := wrapI64 (by have := c.toNat_lt; omega)
  have w3 := idV_eq a c
  have hfI : findI s.items (idV a c) w = (i : Int) := by simp only [findI,hf]
  have g : decide ((i : Int) ≥ 0) = true := decide_eq_true (by omega)
  refine CallA.into tabOK mixed Tryz.func130 rfl rfl (by decide +kernel) (by simp [Tryz.ntmps130]) ?_
  simp only [go_sem,zA,zB,zC,zD,zE,zF,zG,zH,zI,zJ,zK,zL,zM,zN,zO,zP,↓reduceIte,reduceCtorEq,Tryz.ntmps130,Tryz.results130,e1,y1,y2,y3,y4,y5,y6,y7,y8,y9,y10,yAf,yAd,yAc,yAb,yAa,ltSelfK,yAe,zF,yAg,hpF_addL,askedCells,rowsB,rowB,yBi,yBj,w1,w2,w3]
  refine ⟨by omega,by omega,?_⟩
  refine endD_intro (logsOK_ren hlt (by simp [okN]) (by simp only [yBi,yBj,renE,renN,y1,y2,y3,y4,y5,y6,y7,y8,y9,y10,yAf,yAd,yAc,yAb,yAa,ltSelfK,yAe,zF,yAg,hpF_addL,Nat.add_sub_cancel_left,Nat.sub_self,zA,if_false,if_true]; decide +kernel)) ?_
  simp only [go_sem,zA,zB,zC,zD,zE,zF,zG,zH,zI,zJ,zK,zL,zM,zN,zO,zP,↓reduceIte,reduceCtorEq,e1,y1,y2,y3,y4,y5,y6,y7,y8,y9,y10,yAf,yAd,yAc,yAb,yAa,ltSelfK,yAe,zF,yAg,hpF_addL,askedCells,rowsB,rowB]
  refine idx_call (w := w) (id := idV a c) ?_ ?_ ?_ hbig ?_
  · simp only [lk,y1,y2,y3,y4,y5,y6,y7,y8,y9,y10,yAf,yAd,yAc,yAb,yAa,ltSelfK,yAe,zF,yAg,hpF_addL,if_false,if_true]
  · simp only [lk,y1,y2,y3,y4,y5,y6,y7,y8,y9,y10,yAf,yAd,yAc,yAb,yAa,ltSelfK,yAe,zF,yAg,hpF_addL,if_false,if_true]
  · simp only [go_sem,zA,zB,zC,zD,zE,zF,zG,zH,zI,zJ,zK,zL,zM,zN,zO,zP,↓reduceIte,reduceCtorEq,e1,y1,y2,y3,y4,y5,y6,y7,y8,y9,y10,yAf,yAd,yAc,yAb,yAa,ltSelfK,yAe,zF,yAg,hpF_addL]
  simp only [go_sem,zA,zB,zC,zD,zE,zF,zG,zH,zI,zJ,zK,zL,zM,zN,zO,zP,↓reduceIte,reduceCtorEq,e1,y1,y2,y3,y4,y5,y6,y7,y8,y9,y10,yAf,yAd,yAc,yAb,yAa,ltSelfK,yAe,zF,yAg,hpF_addL,hfI,g]
  refine CallA.into tabOK mixed Tryz.func86 rfl rfl (by decide +kernel) (by simp [Tryz.ntmps86]) ?_
  simp only [go_sem,zA,zB,zC,zD,zE,zF,zG,zH,zI,zJ,zK,zL,zM,zN,zO,zP,↓reduceIte,reduceCtorEq,Tryz.ntmps86,Tryz.results86,e1,y1,y2,y3,y4,y5,y6,y7,y8,y9,y10,yAf,yAd,yAc,yAb,yAa,ltSelfK,yAe,zF,yAg,hpF_addL,Tryz.ntmps130,Tryz.results130]
  exact ⟨by simp [FrzR],by (intro c hc; have z1 := ltNe0 hc; have z2 := ltNe hc; simp only [lk,applyEff,List.foldl_cons,List.foldl_nil,upd,hpF_eq,z1,z2,if_false,yAf,zA] <;> (repeat' split) <;> first | rfl | (simp_all [askedCells]; done) | (exfalso; omega)),by simp [frzD]⟩
theorem item_pan {s : Srv} {a c : UInt8} {r : List UInt8} {w : Bool} {hp : List (Nat × Blk)} {nx b : Nat} {K KP : CK} (e1 : lk b hp = some (askedB s (a :: c :: r))) (hx : ∀ x ∈ hp,x.1 < nx) (hbig : s.items.length < 1000000) (hf : findV s.items (idV a c) w = none)
    (hK : KP (refPV 0x31) hp nx) : CallA Tryz.prog 130 [.ptr b 0,.lit (.func (.func (isFn w)) #[] #[])] hp nx K KP := by
  refine CallA.tidyP (fun hcl => ?_) ⟨_,by rfl,by decide +kernel,by decide +kernel⟩ rfl hx hK
  have hlt := lk_lt hx e1
  have y1 := lk_fresh0 hx; have y2 := lk_freshK hx; have y3 := ltNe0 hlt; have y4 := ltNe hlt; have y5 := gtNe0 hlt; have y6 := gtNe hlt; have y7 := eq_true hx; have y8 := allK hx; have y9 := eq_true hlt; have y10 := ltK hlt
  have w1 : IntKind.wrap .i64 (a.toNat : Int) = (a.toNat : Int) := wrapI64 (by have := a.toNat_lt; omega)
  have w2 : IntKind.wrap .i64 (c.toNat : Int) = (c.toNat : Int) := wrapI64 (by have := c.toNat_lt; omega)
  have w3 := idV_eq a c
  have hfI : findI s.items (idV a c) w = -1 := by simp only [findI,hf]
  have g : decide ((-1 : Int) ≥ 0) = false := by decide
  refine CallA.into tabOK mixed Tryz.func130 rfl rfl (by decide +kernel) (by simp [Tryz.ntmps130]) ?_
  simp only [go_sem,zA,zB,zC,zD,zE,zF,zG,zH,zI,zJ,zK,zL,zM,zN,zO,zP,↓reduceIte,reduceCtorEq,Tryz.ntmps130,Tryz.results130,e1,y1,y2,y3,y4,y5,y6,y7,y8,y9,y10,yAf,yAd,yAc,yAb,yAa,ltSelfK,yAe,zF,yAg,hpF_addL,askedCells,rowsB,rowB,yBi,yBj,w1,w2,w3]
  refine ⟨by omega,by omega,?_⟩
  refine endD_intro (logsOK_ren hlt (by simp [okN]) (by simp only [yBi,yBj,renE,renN,y1,y2,y3,y4,y5,y6,y7,y8,y9,y10,yAf,yAd,yAc,yAb,yAa,ltSelfK,yAe,zF,yAg,hpF_addL,Nat.add_sub_cancel_left,Nat.sub_self,zA,if_false,if_true]; decide +kernel)) ?_
  simp only [go_sem,zA,zB,zC,zD,zE,zF,zG,zH,zI,zJ,zK,zL,zM,zN,zO,zP,↓reduceIte,reduceCtorEq,e1,y1,y2,y3,y4,y5,y6,y7,y8,y9,y10,yAf,yAd,yAc,yAb,yAa,ltSelfK,yAe,zF,yAg,hpF_addL,askedCells,rowsB,rowB]
  refine idx_call (w := w) (id := idV a c) ?_ ?_ ?_ hbig ?_
  · simp only [lk,y1,y2,y3,y4,y5,y6,y7,y8,y9,y10,yAf,yAd,yAc,yAb,yAa,ltSelfK,yAe,zF,yAg,hpF_addL,if_false,if_true]
  · simp only [lk,y1,y2,y3,y4,y5,y6,y7,y8,y9,y10,yAf,yAd,yAc,yAb,yAa,ltSelfK,yAe,zF,yAg,hpF_addL,if_false,if_true]
  · simp only [go_sem,zA,zB,zC,zD,zE,zF,zG,zH,zI,zJ,zK,zL,zM,zN,zO,zP,↓reduceIte,reduceCtorEq,e1,y1,y2,y3,y4,y5,y6,y7,y8,y9,y10,yAf,yAd,yAc,yAb,yAa,ltSelfK,yAe,zF,yAg,hpF_addL]
  simp only [go_sem,zA,zB,zC,zD,zE,zF,zG,zH,zI,zJ,zK,zL,zM,zN,zO,zP,↓reduceIte,reduceCtorEq,e1,y1,y2,y3,y4,y5,y6,y7,y8,y9,y10,yAf,yAd,yAc,yAb,yAa,ltSelfK,yAe,zF,yAg,hpF_addL,hfI,g]
  refine CallA.into tabOK mixed Tryz.func86 rfl rfl (by decide +kernel) (by simp [Tryz.ntmps86]) ?_
  simp only [go_sem,zA,zB,zC,zD,zE,zF,zG,zH,zI,zJ,zK,zL,zM,zN,zO,zP,↓reduceIte,reduceCtorEq,Tryz.ntmps86,Tryz.results86,e1,y1,y2,y3,y4,y5,y6,y7,y8,y9,y10,yAf,yAd,yAc,yAb,yAa,ltSelfK,yAe,zF,yAg,hpF_addL,Tryz.ntmps130,Tryz.results130]
  exact ⟨rfl,by (intro c hc; have z1 := ltNe0 hc; have z2 := ltNe hc; simp only [lk,applyEff,List.foldl_cons,List.foldl_nil,upd,hpF_eq,z1,z2,if_false,yAf,zA] <;> (repeat' split) <;> first | rfl | (simp_all [askedCells]; done) | (exfalso; omega))⟩
theorem read_pan {H : Heap} {b : Nat} {s : Srv} {a c : UInt8} (h : H b = some (askedB s [a,c])) (hbig : s.items.length < 1000000) (hf : findV s.items (idV a c) false = none) :
    PanCalls Tryz.prog 120 [.ptr b 0] H (refPV 0x31) [] := by
  refine PanCalls.ofT ⟨_,by rfl,by decide +kernel,by decide +kernel⟩ effOK_nil rfl fun hp nx hH hx => ?_
  have e1 := (foot_one hH).trans h
  have hlt := lk_lt hx e1
  have y1 := lk_fresh0 hx; have y2 := lk_freshK hx; have y3 := ltNe0 hlt; have y4 := ltNe hlt; have y5 := gtNe0 hlt; have y6 := gtNe hlt; have y7 := eq_true hx; have y8 := allK hx; have y9 := eq_true hlt; have y10 := ltK hlt
  refine CallA.into tabOK mixed Tryz.func120 rfl rfl (by decide +kernel) (by simp [Tryz.ntmps120]) ?_
  simp only [go_sem,zA,zB,zC,zD,zE,zF,zG,zH,zI,zJ,zK,zL,zM,zN,zO,zP,↓reduceIte,reduceCtorEq,Tryz.ntmps120,Tryz.results120,e1,y1,y2,y3,y4,y5,y6,y7,y8,y9,y10,yAf,yAd,yAc,yAb,yAa,ltSelfK,yAe,zF,yAg,hpF_addL]
  refine item_pan (w := false) e1 hx hbig hf ?_
  simp only [go_sem,zA,zB,zC,zD,zE,zF,zG,zH,zI,zJ,zK,zL,zM,zN,zO,zP,↓reduceIte,reduceCtorEq,e1,y1,y2,y3,y4,y5,y6,y7,y8,y9,y10,yAf,yAd,yAc,yAb,yAa,ltSelfK,yAe,zF,yAg,hpF_addL,Tryz.ntmps120,Tryz.results120]
  exact ⟨rfl,by (intro c hc; have z1 := ltNe0 hc; have z2 := ltNe hc; simp only [lk,applyEff,List.foldl_cons,List.foldl_nil,upd,hpF_eq,z1,z2,if_false,yAf,zA] <;> (repeat' split) <;> first | rfl | (simp_all [askedCells]; done) | (exfalso; omega))⟩
def itmZ : Itm := ⟨0,false,[]⟩
theorem itm_getD {l : List Itm} {i : Nat} (h : i < l.length) : l.getD i itmZ = l[i] := by simp [List.getD_eq_getElem?_getD,h]
theorem find_lt {l : List Itm} {id : Int} {w : Bool} {i : Nat} (h : findV l id w = some i) : i < l.length := by
  unfold findV at h
  exact (List.findIdx?_eq_some_iff_findIdx_eq.1 h).1
theorem read_eff {H : Heap} {b : Nat} {s : Srv} {a c : UInt8} {i : Nat} (h : H b = some (askedB s [a,c])) (hbig : s.items.length < 1000000) (hf : findV s.items (idV a c) false = some i) (hd : (s.items.getD i itmZ).data.length < 1000000) :
    EffCalls Tryz.prog 120 [.ptr b 0] H (bytesPV (a :: c :: (s.items.getD i itmZ).data)) [] := by
  refine EffCalls.ofT ⟨_,by rfl,by decide +kernel,by decide +kernel⟩ effOK_nil fun hp nx hH hx => ?_
  have e1 := (foot_one hH).trans h
  have hlt := lk_lt hx e1
  have y1 := lk_fresh0 hx; have y2 := lk_freshK hx; have y3 := ltNe0 hlt; have y4 := ltNe hlt; have y5 := gtNe0 hlt; have y6 := gtNe hlt; have y7 := eq_true hx; have y8 := allK hx; have y9 := eq_true hlt; have y10 := ltK hlt
  have hi := find_lt hf
  have f2 : (i : Int) < (s.items.length : Int) := by omega
  have f0 : (0 : Int) ≤ (i : Int) := by omega
  have r1 := itmRows_get hi
  rw [itm_getD hi] at hd ⊢
  have la := itmRows_len s.items
  refine CallA.into tabOK mixed Tryz.func120 rfl rfl (by decide +kernel) (by simp [Tryz.ntmps120]) ?_
  simp only [go_sem,zA,zB,zC,zD,zE,zF,zG,zH,zI,zJ,zK,zL,zM,zN,zO,zP,↓reduceIte,reduceCtorEq,Tryz.ntmps120,Tryz.results120,e1,y1,y2,y3,y4,y5,y6,y7,y8,y9,y10,yAf,yAd,yAc,yAb,yAa,ltSelfK,yAe,zF,yAg,hpF_addL]
  refine item_call (w := false) e1 hx hbig hf ?_
  generalize s.items[i] = x at r1 hd
  simp only [go_sem,zA,zB,zC,zD,zE,zF,zG,zH,zI,zJ,zK,zL,zM,zN,zO,zP,↓reduceIte,reduceCtorEq,e1,y1,y2,y3,y4,y5,y6,y7,y8,y9,y10,yAf,yAd,yAc,yAb,yAa,ltSelfK,yAe,zF,yAg,hpF_addL,askedCells,f2,f0,yCa,la,r1,hi,Itm.cells,Tryz.ntmps120,Tryz.results120]
  refine ⟨by omega,?_⟩
  refine endD_intro (logsOK_ren hlt (by simp [okN]) (by simp only [yBi,yBj,renE,renN,y1,y2,y3,y4,y5,y6,y7,y8,y9,y10,yAf,yAd,yAc,yAb,yAa,ltSelfK,yAe,zF,yAg,hpF_addL,Nat.add_sub_cancel_left,Nat.sub_self,zA,if_false,if_true]; decide +kernel)) ?_
  simp only [go_sem,zA,zB,zC,zD,zE,zF,zG,zH,zI,zJ,zK,zL,zM,zN,zO,zP,↓reduceIte,reduceCtorEq,e1,y1,y2,y3,y4,y5,y6,y7,y8,y9,y10,yAf,yAd,yAc,yAb,yAa,ltSelfK,yAe,zF,yAg,hpF_addL,Tryz.ntmps120,Tryz.results120]
  apply tidyK_own
  · first | (rw [lk,if_pos rfl]; done) | (simp only [lk,y1,y2,y3,y4,y5,y6,y7,y8,y9,y10,yAf,yAd,yAc,yAb,yAa,ltSelfK,yAe,zF,yAg,hpF_addL,if_false,if_true,↓reduceIte]; rfl)
  · simp [rowsB,rowB]
  · omega
  · (intro c hc; have z1 := ltNe0 hc; have z2 := ltNe hc; simp only [lk,applyEff,List.foldl_cons,List.foldl_nil,upd,hpF_eq,z1,z2,if_false,yAf,zA] <;> (repeat' split) <;> first | rfl | (simp_all [askedCells]; done) | (exfalso; omega))
end Go.Proofs.YtcdmhigmgpflbaaGreat.Pe
namespace Go.Proofs.YtcdmhigmgpflbaaGreat.Pe
open Go.Pe Go.RowKit
theorem cloneB_calls (l : List UInt8) (h : l.length ≤ 1000000) : PureCalls Tryz.prog 117 [bytesPV l] (bytesPV l) := by
  refine PureCalls.of tabOK mixed Tryz.func117 rfl rfl (by decide +kernel) (by simp [Tryz.ntmps117]) ?_
  simp only [go_sem,zA,zB,zC,zD,zE,zF,zG,zH,zI,zJ,zK,zL,zM,zN,zO,zP,↓reduceIte,reduceCtorEq,Tryz.ntmps117,Tryz.results117]
  intro b hb
  cases b with
  | true =>
    have : l = [] := by simpa [rowsB] using hb rfl
    subst this
    simp only [go_sem,zA,zB,zC,zD,zE,zF,zG,zH,zI,zJ,zK,zL,zM,zN,zO,zP,↓reduceIte,reduceCtorEq,Tryz.ntmps117,Tryz.results117]
  | false =>
    simp only [go_sem,zA,zB,zC,zD,zE,zF,zG,zH,zI,zJ,zK,zL,zM,zN,zO,zP,↓reduceIte,reduceCtorEq,Tryz.ntmps117,Tryz.results117]
    exact ⟨by omega,by omega⟩
theorem write_pan22 {H : Heap} {b : Nat} {s : Srv} {q : List UInt8} (h : H b = some (askedB s q)) (hs : decide (s.ses = 1) = true) :
    PanCalls Tryz.prog 121 [.ptr b 0] H (refPV 0x22) [] := by
  refine PanCalls.ofT ⟨_,by rfl,by decide +kernel,by decide +kernel⟩ effOK_nil rfl fun hp nx hH hx => ?_
  have e1 := (foot_one hH).trans h
  have hlt := lk_lt hx e1
  have y1 := lk_fresh0 hx; have y2 := lk_freshK hx; have y3 := ltNe0 hlt; have y4 := ltNe hlt; have y5 := gtNe0 hlt; have y6 := gtNe hlt; have y7 := eq_true hx; have y8 := allK hx; have y9 := eq_true hlt; have y10 := ltK hlt
  refine CallA.into tabOK mixed Tryz.func121 rfl rfl (by decide +kernel) (by simp [Tryz.ntmps121]) ?_
  simp only [go_sem,zA,zB,zC,zD,zE,zF,zG,zH,zI,zJ,zK,zL,zM,zN,zO,zP,↓reduceIte,reduceCtorEq,Tryz.ntmps121,Tryz.results121,e1,y1,y2,y3,y4,y5,y6,y7,y8,y9,y10,yAf,yAd,yAc,yAb,yAa,ltSelfK,yAe,zF,yAg,hpF_addL,askedCells,hs]
  refine CallA.into tabOK mixed Tryz.func86 rfl rfl (by decide +kernel) (by simp [Tryz.ntmps86]) ?_
  simp only [go_sem,zA,zB,zC,zD,zE,zF,zG,zH,zI,zJ,zK,zL,zM,zN,zO,zP,↓reduceIte,reduceCtorEq,Tryz.ntmps86,Tryz.results86,e1,y1,y2,y3,y4,y5,y6,y7,y8,y9,y10,yAf,yAd,yAc,yAb,yAa,ltSelfK,yAe,zF,yAg,hpF_addL,askedCells,Tryz.ntmps121,Tryz.results121]
  exact ⟨rfl,by (intro c hc; have z1 := ltNe0 hc; have z2 := ltNe hc; simp only [lk,applyEff,List.foldl_cons,List.foldl_nil,upd,hpF_eq,z1,z2,if_false,yAf,zA] <;> (repeat' split) <;> first | rfl | (simp_all [askedCells]; done) | (exfalso; omega))⟩
theorem write_pan33 {H : Heap} {b : Nat} {s : Srv} {q : List UInt8} (h : H b = some (askedB s q)) (hs : decide (s.ses = 1) = false) (ho : s.op = false) :
    PanCalls Tryz.prog 121 [.ptr b 0] H (refPV 0x33) [] := by
  refine PanCalls.ofT ⟨_,by rfl,by decide +kernel,by decide +kernel⟩ effOK_nil rfl fun hp nx hH hx => ?_
  have e1 := (foot_one hH).trans h
  have hlt := lk_lt hx e1
  have y1 := lk_fresh0 hx; have y2 := lk_freshK hx; have y3 := ltNe0 hlt; have y4 := ltNe hlt; have y5 := gtNe0 hlt; have y6 := gtNe hlt; have y7 := eq_true hx; have y8 := allK hx; have y9 := eq_true hlt; have y10 := ltK hlt
  refine CallA.into tabOK mixed Tryz.func121 rfl rfl (by decide +kernel) (by simp [Tryz.ntmps121]) ?_
  simp only [go_sem,zA,zB,zC,zD,zE,zF,zG,zH,zI,zJ,zK,zL,zM,zN,zO,zP,↓reduceIte,reduceCtorEq,Tryz.ntmps121,Tryz.results121,e1,y1,y2,y3,y4,y5,y6,y7,y8,y9,y10,yAf,yAd,yAc,yAb,yAa,ltSelfK,yAe,zF,yAg,hpF_addL,askedCells,hs]
  refine CallA.into tabOK mixed Tryz.func86 rfl rfl (by decide +kernel) (by simp [Tryz.ntmps86]) ?_
  simp only [go_sem,zA,zB,zC,zD,zE,zF,zG,zH,zI,zJ,zK,zL,zM,zN,zO,zP,↓reduceIte,reduceCtorEq,Tryz.ntmps86,Tryz.results86,e1,y1,y2,y3,y4,y5,y6,y7,y8,y9,y10,yAf,yAd,yAc,yAb,yAa,ltSelfK,yAe,zF,yAg,hpF_addL,askedCells,ho,Tryz.ntmps121,Tryz.results121]
  refine CallA.into tabOK mixed Tryz.func86 rfl rfl (by decide +kernel) (by simp [Tryz.ntmps86]) ?_
  simp only [go_sem,zA,zB,zC,zD,zE,zF,zG,zH,zI,zJ,zK,zL,zM,zN,zO,zP,↓reduceIte,reduceCtorEq,Tryz.ntmps86,Tryz.results86,e1,y1,y2,y3,y4,y5,y6,y7,y8,y9,y10,yAf,yAd,yAc,yAb,yAa,ltSelfK,yAe,zF,yAg,hpF_addL,askedCells,Tryz.ntmps121,Tryz.results121]
  exact ⟨rfl,by (intro c hc; have z1 := ltNe0 hc; have z2 := ltNe hc; simp only [lk,applyEff,List.foldl_cons,List.foldl_nil,upd,hpF_eq,z1,z2,if_false,yAf,zA] <;> (repeat' split) <;> first | rfl | (simp_all [askedCells]; done) | (exfalso; omega))⟩
theorem write_pan31 {H : Heap} {b : Nat} {s : Srv} {a c : UInt8} {d : List UInt8} (h : H b = some (askedB s (a :: c :: d))) (hs : decide (s.ses = 1) = false) (ho : s.op = true) (hbig : s.items.length < 1000000) (hf : findV s.items (idV a c) true = none) :
    PanCalls Tryz.prog 121 [.ptr b 0] H (refPV 0x31) [] := by
  refine PanCalls.ofT ⟨_,by rfl,by decide +kernel,by decide +kernel⟩ effOK_nil rfl fun hp nx hH hx => ?_
  have e1 := (foot_one hH).trans h
  have hlt := lk_lt hx e1
  have y1 := lk_fresh0 hx; have y2 := lk_freshK hx; have y3 := ltNe0 hlt; have y4 := ltNe hlt; have y5 := gtNe0 hlt; have y6 := gtNe hlt; have y7 := eq_true hx; have y8 := allK hx; have y9 := eq_true hlt; have y10 := ltK hlt
  refine CallA.into tabOK mixed Tryz.func121 rfl rfl (by decide +kernel) (by simp [Tryz.ntmps121]) ?_
  simp only [go_sem,zA,zB,zC,zD,zE,zF,zG,zH,zI,zJ,zK,zL,zM,zN,zO,zP,↓reduceIte,reduceCtorEq,Tryz.ntmps121,Tryz.results121,e1,y1,y2,y3,y4,y5,y6,y7,y8,y9,y10,yAf,yAd,yAc,yAb,yAa,ltSelfK,yAe,zF,yAg,hpF_addL,askedCells,hs]
  refine CallA.into tabOK mixed Tryz.func86 rfl rfl (by decide +kernel) (by simp [Tryz.ntmps86]) ?_
  simp only [go_sem,zA,zB,zC,zD,zE,zF,zG,zH,zI,zJ,zK,zL,zM,zN,zO,zP,↓reduceIte,reduceCtorEq,Tryz.ntmps86,Tryz.results86,e1,y1,y2,y3,y4,y5,y6,y7,y8,y9,y10,yAf,yAd,yAc,yAb,yAa,ltSelfK,yAe,zF,yAg,hpF_addL,askedCells,ho,Tryz.ntmps121,Tryz.results121]
  refine CallA.into tabOK mixed Tryz.func86 rfl rfl (by decide +kernel) (by simp [Tryz.ntmps86]) ?_
  simp only [go_sem,zA,zB,zC,zD,zE,zF,zG,zH,zI,zJ,zK,zL,zM,zN,zO,zP,↓reduceIte,reduceCtorEq,Tryz.ntmps86,Tryz.results86,e1,y1,y2,y3,y4,y5,y6,y7,y8,y9,y10,yAf,yAd,yAc,yAb,yAa,ltSelfK,yAe,zF,yAg,hpF_addL,askedCells,Tryz.ntmps121,Tryz.results121]
  refine item_pan (w := true) e1 hx hbig hf ?_
  simp only [go_sem,zA,zB,zC,zD,zE,zF,zG,zH,zI,zJ,zK,zL,zM,zN,zO,zP,↓reduceIte,reduceCtorEq,e1,y1,y2,y3,y4,y5,y6,y7,y8,y9,y10,yAf,yAd,yAc,yAb,yAa,ltSelfK,yAe,zF,yAg,hpF_addL,Tryz.ntmps121,Tryz.results121]
  exact ⟨rfl,by (intro c hc; have z1 := ltNe0 hc; have z2 := ltNe hc; simp only [lk,applyEff,List.foldl_cons,List.foldl_nil,upd,hpF_eq,z1,z2,if_false,yAf,zA] <;> (repeat' split) <;> first | rfl | (simp_all [askedCells]; done) | (exfalso; omega))⟩
theorem write_pan13 {H : Heap} {b : Nat} {s : Srv} {a c : UInt8} {d : List UInt8} {i : Nat} (h : H b = some (askedB s (a :: c :: d))) (hs : decide (s.ses = 1) = false) (ho : s.op = true) (hbig : s.items.length < 1000000) (hf : findV s.items (idV a c) true = some i) (hl : decide (d.length = (s.items.getD i itmZ).data.length) = false) :
    PanCalls Tryz.prog 121 [.ptr b 0] H (refPV 0x13) [] := by
  refine PanCalls.ofT ⟨_,by rfl,by decide +kernel,by decide +kernel⟩ effOK_nil rfl fun hp nx hH hx => ?_
  have e1 := (foot_one hH).trans h
  have hlt := lk_lt hx e1
  have y1 := lk_fresh0 hx; have y2 := lk_freshK hx; have y3 := ltNe0 hlt; have y4 := ltNe hlt; have y5 := gtNe0 hlt; have y6 := gtNe hlt; have y7 := eq_true hx; have y8 := allK hx; have y9 := eq_true hlt; have y10 := ltK hlt
  have hi := find_lt hf
  have f2 : (i : Int) < (s.items.length : Int) := by omega
  have f0 : (0 : Int) ≤ (i : Int) := by omega
  have r1 := itmRows_get hi
  rw [itm_getD hi] at hl
  have la := itmRows_len s.items
  have lq : (rowsB (a :: c :: d)).length = d.length + 2 := by rw [rowsB_length]; rfl
  have ldr : (rowsB (a :: c :: d)).drop 2 = rowsB d := rfl
  have gl : decide ((d.length : Int) = (s.items[i].data.length : Int)) = false := decide_eq_false (fun e => by simp at hl; omega)
  refine CallA.into tabOK mixed Tryz.func121 rfl rfl (by decide +kernel) (by simp [Tryz.ntmps121]) ?_
  simp only [go_sem,zA,zB,zC,zD,zE,zF,zG,zH,zI,zJ,zK,zL,zM,zN,zO,zP,↓reduceIte,reduceCtorEq,Tryz.ntmps121,Tryz.results121,e1,y1,y2,y3,y4,y5,y6,y7,y8,y9,y10,yAf,yAd,yAc,yAb,yAa,ltSelfK,yAe,zF,yAg,hpF_addL,askedCells,hs]
  refine CallA.into tabOK mixed Tryz.func86 rfl rfl (by decide +kernel) (by simp [Tryz.ntmps86]) ?_
  simp only [go_sem,zA,zB,zC,zD,zE,zF,zG,zH,zI,zJ,zK,zL,zM,zN,zO,zP,↓reduceIte,reduceCtorEq,Tryz.ntmps86,Tryz.results86,e1,y1,y2,y3,y4,y5,y6,y7,y8,y9,y10,yAf,yAd,yAc,yAb,yAa,ltSelfK,yAe,zF,yAg,hpF_addL,askedCells,ho,Tryz.ntmps121,Tryz.results121]
  refine CallA.into tabOK mixed Tryz.func86 rfl rfl (by decide +kernel) (by simp [Tryz.ntmps86]) ?_
  simp only [go_sem,zA,zB,zC,zD,zE,zF,zG,zH,zI,zJ,zK,zL,zM,zN,zO,zP,↓reduceIte,reduceCtorEq,Tryz.ntmps86,Tryz.results86,e1,y1,y2,y3,y4,y5,y6,y7,y8,y9,y10,yAf,yAd,yAc,yAb,yAa,ltSelfK,yAe,zF,yAg,hpF_addL,askedCells,Tryz.ntmps121,Tryz.results121]
  refine item_call (w := true) e1 hx hbig hf ?_
  generalize s.items[i] = x at r1 gl
  simp only [go_sem,zA,zB,zC,zD,zE,zF,zG,zH,zI,zJ,zK,zL,zM,zN,zO,zP,↓reduceIte,reduceCtorEq,e1,y1,y2,y3,y4,y5,y6,y7,y8,y9,y10,yAf,yAd,yAc,yAb,yAa,ltSelfK,yAe,zF,yAg,hpF_addL,askedCells,f2,f0,yCa,la,r1,hi,Itm.cells,lq,ldr,rowsB_length,List.take_length,gl,Tryz.ntmps121,Tryz.results121]
  refine ⟨by omega,?_⟩
  refine CallA.into tabOK mixed Tryz.func86 rfl rfl (by decide +kernel) (by simp [Tryz.ntmps86]) ?_
  simp only [go_sem,zA,zB,zC,zD,zE,zF,zG,zH,zI,zJ,zK,zL,zM,zN,zO,zP,↓reduceIte,reduceCtorEq,Tryz.ntmps86,Tryz.results86,e1,y1,y2,y3,y4,y5,y6,y7,y8,y9,y10,yAf,yAd,yAc,yAb,yAa,ltSelfK,yAe,zF,yAg,hpF_addL,askedCells,Tryz.ntmps121,Tryz.results121]
  exact ⟨rfl,by (intro c hc; have z1 := ltNe0 hc; have z2 := ltNe hc; simp only [lk,applyEff,List.foldl_cons,List.foldl_nil,upd,hpF_eq,z1,z2,if_false,yAf,zA] <;> (repeat' split) <;> first | rfl | (simp_all [askedCells]; done) | (exfalso; omega))⟩
theorem write_eff {H : Heap} {b : Nat} {s : Srv} {a c : UInt8} {d : List UInt8} {i : Nat} (h : H b = some (askedB s (a :: c :: d))) (hs : decide (s.ses = 1) = false) (ho : s.op = true) (hbig : s.items.length < 1000000) (hf : findV s.items (idV a c) true = some i) (hl : decide (d.length = (s.items.getD i itmZ).data.length) = true) (hd : d.length ≤ 1000000) :
    EffCalls Tryz.prog 121 [.ptr b 0] H (bytesPV [a,c]) [(b,askedB { s with items := s.items.set i { s.items.getD i itmZ with data := d } } (a :: c :: d))] := by
  refine EffCalls.ofB ⟨_,by rfl,by decide +kernel,by decide +kernel⟩ (effOK_one h) fun hp nx hH hx => ?_
  have e1 := (foot_one hH).trans h
  have hlt := lk_lt hx e1
  have y1 := lk_fresh0 hx; have y2 := lk_freshK hx; have y3 := ltNe0 hlt; have y4 := ltNe hlt; have y5 := gtNe0 hlt; have y6 := gtNe hlt; have y7 := eq_true hx; have y8 := allK hx; have y9 := eq_true hlt; have y10 := ltK hlt
  have hi := find_lt hf
  have f2 : (i : Int) < (s.items.length : Int) := by omega
  have f0 : (0 : Int) ≤ (i : Int) := by omega
  have r1 := itmRows_get hi
  rw [itm_getD hi] at hl ⊢
  have la := itmRows_len s.items
  have lq : (rowsB (a :: c :: d)).length = d.length + 2 := by rw [rowsB_length]; rfl
  have ldr : (rowsB (a :: c :: d)).drop 2 = rowsB d := rfl
  have ltr : (rowsB (a :: c :: d)).take 2 = rowsB [a,c] := rfl
  have gl : decide ((d.length : Int) = (s.items[i].data.length : Int)) = true := decide_eq_true (by simp at hl; omega)
  have c1 := cloneB_calls d hd
  refine CallA.into tabOK mixed Tryz.func121 rfl rfl (by decide +kernel) (by simp [Tryz.ntmps121]) ?_
  simp only [go_sem,zA,zB,zC,zD,zE,zF,zG,zH,zI,zJ,zK,zL,zM,zN,zO,zP,↓reduceIte,reduceCtorEq,Tryz.ntmps121,Tryz.results121,e1,y1,y2,y3,y4,y5,y6,y7,y8,y9,y10,yAf,yAd,yAc,yAb,yAa,ltSelfK,yAe,zF,yAg,hpF_addL,askedCells,hs]
  refine CallA.into tabOK mixed Tryz.func86 rfl rfl (by decide +kernel) (by simp [Tryz.ntmps86]) ?_
  simp only [go_sem,zA,zB,zC,zD,zE,zF,zG,zH,zI,zJ,zK,zL,zM,zN,zO,zP,↓reduceIte,reduceCtorEq,Tryz.ntmps86,Tryz.results86,e1,y1,y2,y3,y4,y5,y6,y7,y8,y9,y10,yAf,yAd,yAc,yAb,yAa,ltSelfK,yAe,zF,yAg,hpF_addL,askedCells,ho,Tryz.ntmps121,Tryz.results121]
  refine CallA.into tabOK mixed Tryz.func86 rfl rfl (by decide +kernel) (by simp [Tryz.ntmps86]) ?_
  simp only [go_sem,zA,zB,zC,zD,zE,zF,zG,zH,zI,zJ,zK,zL,zM,zN,zO,zP,↓reduceIte,reduceCtorEq,Tryz.ntmps86,Tryz.results86,e1,y1,y2,y3,y4,y5,y6,y7,y8,y9,y10,yAf,yAd,yAc,yAb,yAa,ltSelfK,yAe,zF,yAg,hpF_addL,askedCells,Tryz.ntmps121,Tryz.results121]
  refine item_call (w := true) e1 hx hbig hf ?_
  have hset : ∀ x : Itm,itmRows (s.items.set i ⟨x.id,x.wr,d⟩) = (itmRows s.items).set i [PI x.id,PB x.wr,bytesPV d] := fun x => by simp [itmRows,Itm.cells]
  generalize s.items[i] = x at r1 gl ⊢
  simp only [go_sem,zA,zB,zC,zD,zE,zF,zG,zH,zI,zJ,zK,zL,zM,zN,zO,zP,↓reduceIte,reduceCtorEq,e1,y1,y2,y3,y4,y5,y6,y7,y8,y9,y10,yAf,yAd,yAc,yAb,yAa,ltSelfK,yAe,zF,yAg,hpF_addL,askedCells,f2,f0,yCa,la,r1,hi,Itm.cells,lq,ldr,rowsB_length,List.take_length,gl,Tryz.ntmps121,Tryz.results121]
  refine ⟨by omega,?_⟩
  refine CallA.into tabOK mixed Tryz.func86 rfl rfl (by decide +kernel) (by simp [Tryz.ntmps86]) ?_
  simp only [go_sem,zA,zB,zC,zD,zE,zF,zG,zH,zI,zJ,zK,zL,zM,zN,zO,zP,↓reduceIte,reduceCtorEq,Tryz.ntmps86,Tryz.results86,e1,y1,y2,y3,y4,y5,y6,y7,y8,y9,y10,yAf,yAd,yAc,yAb,yAa,ltSelfK,yAe,zF,yAg,hpF_addL,askedCells,Tryz.ntmps121,Tryz.results121]
  refine CallA.into tabOK mixed Tryz.func133 rfl rfl (by decide +kernel) (by simp [Tryz.ntmps133]) ?_
  simp only [go_sem,zA,zB,zC,zD,zE,zF,zG,zH,zI,zJ,zK,zL,zM,zN,zO,zP,↓reduceIte,reduceCtorEq,Tryz.ntmps133,Tryz.results133,e1,y1,y2,y3,y4,y5,y6,y7,y8,y9,y10,yAf,yAd,yAc,yAb,yAa,ltSelfK,yAe,zF,yAg,hpF_addL,askedCells,la]
  intro bb hbb
  cases bb with
  | true =>
    exfalso
    have := hbb rfl
    have : (itmRows s.items).length = 0 := by rw [this]; rfl
    omega
  | false =>
  simp only [go_sem,zA,zB,zC,zD,zE,zF,zG,zH,zI,zJ,zK,zL,zM,zN,zO,zP,↓reduceIte,reduceCtorEq,Tryz.ntmps133,Tryz.results133,e1,y1,y2,y3,y4,y5,y6,y7,y8,y9,y10,yAf,yAd,yAc,yAb,yAa,ltSelfK,yAe,zF,yAg,hpF_addL,askedCells,la]
  refine ⟨by omega,?_⟩
  (refine callD_pure (c1) (by simp only [go_sem,zA,zB,zC,zD,zE,zF,zG,zH,zI,zJ,zK,zL,zM,zN,zO,zP,↓reduceIte,reduceCtorEq,e1,y1,y2,y3,y4,y5,y6,y7,y8,y9,y10,yAf,yAd,yAc,yAb,yAa,ltSelfK,yAe,zF,yAg,hpF_addL,askedCells,la,f2,f0,yCa,r1,hi,Itm.cells] <;> first | rfl | decide) ?_; simp only [go_sem,zA,zB,zC,zD,zE,zF,zG,zH,zI,zJ,zK,zL,zM,zN,zO,zP,↓reduceIte,reduceCtorEq,e1,y1,y2,y3,y4,y5,y6,y7,y8,y9,y10,yAf,yAd,yAc,yAb,yAa,ltSelfK,yAe,zF,yAg,hpF_addL,askedCells,la,f2,f0,yCa,r1,hi,Itm.cells])
  refine endD_intro (logsOK_ren hlt (by simp [okN]) (by simp only [yBi,yBj,renE,renN,y1,y2,y3,y4,y5,y6,y7,y8,y9,y10,yAf,yAd,yAc,yAb,yAa,ltSelfK,yAe,zF,yAg,hpF_addL,Nat.add_sub_cancel_left,Nat.sub_self,zA,if_false,if_true]; decide +kernel)) ?_
  simp only [go_sem,zA,zB,zC,zD,zE,zF,zG,zH,zI,zJ,zK,zL,zM,zN,zO,zP,↓reduceIte,reduceCtorEq,e1,y1,y2,y3,y4,y5,y6,y7,y8,y9,y10,yAf,yAd,yAc,yAb,yAa,ltSelfK,yAe,zF,yAg,hpF_addL,askedCells,la,lq,ltr,Tryz.ntmps121,Tryz.results121]
  refine ⟨by omega,⟨by simp [FrzR],by simp [frzD]⟩,fun c' hc' hne => ?_,_,by simp only [lk,y1,y2,y3,y4,y5,y6,y7,y8,y9,y10,yAf,yAd,yAc,yAb,yAa,ltSelfK,yAe,zF,yAg,hpF_addL,if_false,if_true]; rfl,rfl,?_,?_⟩
  · have z1 := ltNe0 hc'
    simp only [lk,z1,hne,if_false]
  · simp only [go_sem,zA,zB,zC,zD,zE,zF,zG,zH,zI,zJ,zK,zL,zM,zN,zO,zP,↓reduceIte,reduceCtorEq,y1,y2,y3,y4,y5,y6,y7,y8,y9,y10,yAf,yAd,yAc,yAb,yAa,ltSelfK,yAe,zF,yAg,hpF_addL,ho,hset]
  · intro e he
    simp only [frzDL,frzD,frzOne,hpF_eq,lk,y1,y2,y3,y4,y5,y6,y7,y8,y9,y10,yAf,yAd,yAc,yAb,yAa,ltSelfK,yAe,zF,yAg,hpF_addL,if_true,if_false,List.nil_append,List.append_nil,List.mem_singleton] at he
    subst he
    exact Nat.le_refl _
end Go.Proofs.YtcdmhigmgpflbaaGreat.Pe
