import Derived.Test.YtcdmhigmgpflbaaGreatDI9
set_option maxRecDepth 20000
set_option maxHeartbeats 4000000
set_option linter.unusedSimpArgs false
set_option linter.unusedVariables false
open Nat renaming reduceAdd → zA,reduceSub → zB,reduceMul → zC,reduceLT → zD,reduceLeDiff → zE,reduceEqDiff → zF,reduceBEq → zG,add_lt_add_iff_left → yAa,add_left_cancel_iff → yAb,left_eq_add → yAc,add_eq_left → yAd,le_add_right → yAe,add_assoc → yAf,lt_irrefl → yAg
open Int renaming reduceToNat → zH,reduceLT → zI,reduceLE → zJ,reduceEq → zK,reduceNe → zL,reduceAdd → zM,reduceSub → zN,reduceMul → zO,reduceNeg → zP,toNat_natCast → yCa,natCast_zero → yCb
open List renaming length_cons → yBa
namespace Go.Proofs.YtcdmhigmgpflbaaGreat.Pe
open Go.Pe Go.RowKit
abbrev U8 (c : UInt8) : PV := .lit (.int .u8 c.toNat)
abbrev fnPV (g : Nat) : PV := .lit (.func (.func g) #[] #[])
abbrev svcPV (p : Int × Nat) : PV := .agg [PI p.1,fnPV p.2]
def svcOf (c : UInt8) : Option (Int × Nat) :=
  if c = 0x10 then some (1,119) else if c = 0x22 then some (2,120) else if c = 0x2E then some (-1,121) else if c = 0x14 then some (0,122)
  else if c = 0x19 then some (1,124) else if c = 0x3E then some (0,126) else if c = 0x34 ∨ c = 0x36 ∨ c = 0x37 then some (-1,118) else none
theorem find_at {c : UInt8} {p : Int × Nat} (h : svcOf c = some p) {hp : List (Nat × Blk)} {nx b : Nat} {K KP : CK} {x : Blk} (e1 : lk b hp = some x) (hx : ∀ x ∈ hp,x.1 < nx) (hK : K (svcPV p) hp nx) : CallA Tryz.prog 85 [.ptr b 0,U8 c] hp nx K KP := by
  refine CallA.tidy (fun hcl => ?_) ⟨_,by rfl,by decide +kernel,by decide +kernel⟩ hx hK
  have hlt := lk_lt hx e1
  have y1 := lk_fresh0 hx; have y2 := lk_freshK hx; have y3 := ltNe0 hlt; have y4 := ltNe hlt; have y5 := gtNe0 hlt; have y6 := gtNe hlt; have y7 := eq_true hx; have y8 := allK hx; have y9 := eq_true hlt; have y10 := ltK hlt
  have hc : c = 0x10 ∨ c = 0x22 ∨ c = 0x2E ∨ c = 0x14 ∨ c = 0x19 ∨ c = 0x3E ∨ c = 0x34 ∨ c = 0x36 ∨ c = 0x37 := by
    apply Classical.byContradiction
    intro hn
    simp only [not_or] at hn
    simp [svcOf,hn] at h
  rcases hc with rfl | rfl | rfl | rfl | rfl | rfl | rfl | rfl | rfl
  · obtain rfl : p = _ := (Option.some.inj h).symm
    have u : ((UInt8.toNat 16 : Nat) : Int) = 16 := rfl
    refine CallA.into tabOK mixed Tryz.func85 rfl rfl (by decide +kernel) (by simp [Tryz.ntmps85]) ?_
    simp only [go_sem,zA,zB,zC,zD,zE,zF,zG,zH,zI,zJ,zK,zL,zM,zN,zO,zP,↓reduceIte,reduceCtorEq,Tryz.ntmps85,Tryz.results85,e1,y1,y2,y3,y4,y5,y6,y7,y8,y9,y10,yAf,yAd,yAc,yAb,yAa,ltSelfK,yAe,zF,yAg,hpF_addL,u]
    refine CallA.into tabOK mixed Tryz.func109 rfl rfl (by decide +kernel) (by simp [Tryz.ntmps109]) ?_
    simp only [go_sem,zA,zB,zC,zD,zE,zF,zG,zH,zI,zJ,zK,zL,zM,zN,zO,zP,↓reduceIte,reduceCtorEq,Tryz.ntmps109,Tryz.results109,e1,y1,y2,y3,y4,y5,y6,y7,y8,y9,y10,yAf,yAd,yAc,yAb,yAa,ltSelfK,yAe,zF,yAg,hpF_addL,u,Tryz.ntmps85,Tryz.results85]
    refine CallA.into tabOK mixed Tryz.func86 rfl rfl (by decide +kernel) (by simp [Tryz.ntmps86]) ?_
    simp only [go_sem,zA,zB,zC,zD,zE,zF,zG,zH,zI,zJ,zK,zL,zM,zN,zO,zP,↓reduceIte,reduceCtorEq,Tryz.ntmps86,Tryz.results86,e1,y1,y2,y3,y4,y5,y6,y7,y8,y9,y10,yAf,yAd,yAc,yAb,yAa,ltSelfK,yAe,zF,yAg,hpF_addL,Tryz.ntmps85,Tryz.results85]
    exact ⟨by simp only [go_sem,zA,zB,zC,zD,zE,zF,zG,zH,zI,zJ,zK,zL,zM,zN,zO,zP,↓reduceIte,reduceCtorEq],by (intro c hc; have z1 := ltNe0 hc; have z2 := ltNe hc; simp only [lk,applyEff,List.foldl_cons,List.foldl_nil,upd,hpF_eq,z1,z2,if_false,yAf,zA] <;> (repeat' split) <;> first | rfl | (simp_all [askedCells]; done) | (exfalso; omega)),by simp [frzD,frzDL]⟩
  · obtain rfl : p = _ := (Option.some.inj h).symm
    have u : ((UInt8.toNat 34 : Nat) : Int) = 34 := rfl
    refine CallA.into tabOK mixed Tryz.func85 rfl rfl (by decide +kernel) (by simp [Tryz.ntmps85]) ?_
    simp only [go_sem,zA,zB,zC,zD,zE,zF,zG,zH,zI,zJ,zK,zL,zM,zN,zO,zP,↓reduceIte,reduceCtorEq,Tryz.ntmps85,Tryz.results85,e1,y1,y2,y3,y4,y5,y6,y7,y8,y9,y10,yAf,yAd,yAc,yAb,yAa,ltSelfK,yAe,zF,yAg,hpF_addL,u]
    refine CallA.into tabOK mixed Tryz.func109 rfl rfl (by decide +kernel) (by simp [Tryz.ntmps109]) ?_
    simp only [go_sem,zA,zB,zC,zD,zE,zF,zG,zH,zI,zJ,zK,zL,zM,zN,zO,zP,↓reduceIte,reduceCtorEq,Tryz.ntmps109,Tryz.results109,e1,y1,y2,y3,y4,y5,y6,y7,y8,y9,y10,yAf,yAd,yAc,yAb,yAa,ltSelfK,yAe,zF,yAg,hpF_addL,u,Tryz.ntmps85,Tryz.results85]
    refine CallA.into tabOK mixed Tryz.func86 rfl rfl (by decide +kernel) (by simp [Tryz.ntmps86]) ?_
    simp only [go_sem,zA,zB,zC,zD,zE,zF,zG,zH,zI,zJ,zK,zL,zM,zN,zO,zP,↓reduceIte,reduceCtorEq,Tryz.ntmps86,Tryz.results86,e1,y1,y2,y3,y4,y5,y6,y7,y8,y9,y10,yAf,yAd,yAc,yAb,yAa,ltSelfK,yAe,zF,yAg,hpF_addL,Tryz.ntmps85,Tryz.results85]
    exact ⟨by simp only [go_sem,zA,zB,zC,zD,zE,zF,zG,zH,zI,zJ,zK,zL,zM,zN,zO,zP,↓reduceIte,reduceCtorEq],by (intro c hc; have z1 := ltNe0 hc; have z2 := ltNe hc; simp only [lk,applyEff,List.foldl_cons,List.foldl_nil,upd,hpF_eq,z1,z2,if_false,yAf,zA] <;> (repeat' split) <;> first | rfl | (simp_all [askedCells]; done) | (exfalso; omega)),by simp [frzD,frzDL]⟩
  · obtain rfl : p = _ := (Option.some.inj h).symm
    have u : ((UInt8.toNat 46 : Nat) : Int) = 46 := rfl
    refine CallA.into tabOK mixed Tryz.func85 rfl rfl (by decide +kernel) (by simp [Tryz.ntmps85]) ?_
    simp only [go_sem,zA,zB,zC,zD,zE,zF,zG,zH,zI,zJ,zK,zL,zM,zN,zO,zP,↓reduceIte,reduceCtorEq,Tryz.ntmps85,Tryz.results85,e1,y1,y2,y3,y4,y5,y6,y7,y8,y9,y10,yAf,yAd,yAc,yAb,yAa,ltSelfK,yAe,zF,yAg,hpF_addL,u]
    refine CallA.into tabOK mixed Tryz.func109 rfl rfl (by decide +kernel) (by simp [Tryz.ntmps109]) ?_
    simp only [go_sem,zA,zB,zC,zD,zE,zF,zG,zH,zI,zJ,zK,zL,zM,zN,zO,zP,↓reduceIte,reduceCtorEq,Tryz.ntmps109,Tryz.results109,e1,y1,y2,y3,y4,y5,y6,y7,y8,y9,y10,yAf,yAd,yAc,yAb,yAa,ltSelfK,yAe,zF,yAg,hpF_addL,u,Tryz.ntmps85,Tryz.results85]
    refine CallA.into tabOK mixed Tryz.func86 rfl rfl (by decide +kernel) (by simp [Tryz.ntmps86]) ?_
    simp only [go_sem,zA,zB,zC,zD,zE,zF,zG,zH,zI,zJ,zK,zL,zM,zN,zO,zP,↓reduceIte,reduceCtorEq,Tryz.ntmps86,Tryz.results86,e1,y1,y2,y3,y4,y5,y6,y7,y8,y9,y10,yAf,yAd,yAc,yAb,yAa,ltSelfK,yAe,zF,yAg,hpF_addL,Tryz.ntmps85,Tryz.results85]
    exact ⟨by simp only [go_sem,zA,zB,zC,zD,zE,zF,zG,zH,zI,zJ,zK,zL,zM,zN,zO,zP,↓reduceIte,reduceCtorEq],by (intro c hc; have z1 := ltNe0 hc; have z2 := ltNe hc; simp only [lk,applyEff,List.foldl_cons,List.foldl_nil,upd,hpF_eq,z1,z2,if_false,yAf,zA] <;> (repeat' split) <;> first | rfl | (simp_all [askedCells]; done) | (exfalso; omega)),by simp [frzD,frzDL]⟩
  · obtain rfl : p = _ := (Option.some.inj h).symm
    have u : ((UInt8.toNat 20 : Nat) : Int) = 20 := rfl
    refine CallA.into tabOK mixed Tryz.func85 rfl rfl (by decide +kernel) (by simp [Tryz.ntmps85]) ?_
    simp only [go_sem,zA,zB,zC,zD,zE,zF,zG,zH,zI,zJ,zK,zL,zM,zN,zO,zP,↓reduceIte,reduceCtorEq,Tryz.ntmps85,Tryz.results85,e1,y1,y2,y3,y4,y5,y6,y7,y8,y9,y10,yAf,yAd,yAc,yAb,yAa,ltSelfK,yAe,zF,yAg,hpF_addL,u]
    refine CallA.into tabOK mixed Tryz.func109 rfl rfl (by decide +kernel) (by simp [Tryz.ntmps109]) ?_
    simp only [go_sem,zA,zB,zC,zD,zE,zF,zG,zH,zI,zJ,zK,zL,zM,zN,zO,zP,↓reduceIte,reduceCtorEq,Tryz.ntmps109,Tryz.results109,e1,y1,y2,y3,y4,y5,y6,y7,y8,y9,y10,yAf,yAd,yAc,yAb,yAa,ltSelfK,yAe,zF,yAg,hpF_addL,u,Tryz.ntmps85,Tryz.results85]
    refine CallA.into tabOK mixed Tryz.func86 rfl rfl (by decide +kernel) (by simp [Tryz.ntmps86]) ?_
    simp only [go_sem,zA,zB,zC,zD,zE,zF,zG,zH,zI,zJ,zK,zL,zM,zN,zO,zP,↓reduceIte,reduceCtorEq,Tryz.ntmps86,Tryz.results86,e1,y1,y2,y3,y4,y5,y6,y7,y8,y9,y10,yAf,yAd,yAc,yAb,yAa,ltSelfK,yAe,zF,yAg,hpF_addL,Tryz.ntmps85,Tryz.results85]
    exact ⟨by simp only [go_sem,zA,zB,zC,zD,zE,zF,zG,zH,zI,zJ,zK,zL,zM,zN,zO,zP,↓reduceIte,reduceCtorEq],by (intro c hc; have z1 := ltNe0 hc; have z2 := ltNe hc; simp only [lk,applyEff,List.foldl_cons,List.foldl_nil,upd,hpF_eq,z1,z2,if_false,yAf,zA] <;> (repeat' split) <;> first | rfl | (simp_all [askedCells]; done) | (exfalso; omega)),by simp [frzD,frzDL]⟩
  · obtain rfl : p = _ := (Option.some.inj h).symm
    have u : ((UInt8.toNat 25 : Nat) : Int) = 25 := rfl
    refine CallA.into tabOK mixed Tryz.func85 rfl rfl (by decide +kernel) (by simp [Tryz.ntmps85]) ?_
    simp only [go_sem,zA,zB,zC,zD,zE,zF,zG,zH,zI,zJ,zK,zL,zM,zN,zO,zP,↓reduceIte,reduceCtorEq,Tryz.ntmps85,Tryz.results85,e1,y1,y2,y3,y4,y5,y6,y7,y8,y9,y10,yAf,yAd,yAc,yAb,yAa,ltSelfK,yAe,zF,yAg,hpF_addL,u]
    refine CallA.into tabOK mixed Tryz.func109 rfl rfl (by decide +kernel) (by simp [Tryz.ntmps109]) ?_
    simp only [go_sem,zA,zB,zC,zD,zE,zF,zG,zH,zI,zJ,zK,zL,zM,zN,zO,zP,↓reduceIte,reduceCtorEq,Tryz.ntmps109,Tryz.results109,e1,y1,y2,y3,y4,y5,y6,y7,y8,y9,y10,yAf,yAd,yAc,yAb,yAa,ltSelfK,yAe,zF,yAg,hpF_addL,u,Tryz.ntmps85,Tryz.results85]
    refine CallA.into tabOK mixed Tryz.func86 rfl rfl (by decide +kernel) (by simp [Tryz.ntmps86]) ?_
    simp only [go_sem,zA,zB,zC,zD,zE,zF,zG,zH,zI,zJ,zK,zL,zM,zN,zO,zP,↓reduceIte,reduceCtorEq,Tryz.ntmps86,Tryz.results86,e1,y1,y2,y3,y4,y5,y6,y7,y8,y9,y10,yAf,yAd,yAc,yAb,yAa,ltSelfK,yAe,zF,yAg,hpF_addL,Tryz.ntmps85,Tryz.results85]
    exact ⟨by simp only [go_sem,zA,zB,zC,zD,zE,zF,zG,zH,zI,zJ,zK,zL,zM,zN,zO,zP,↓reduceIte,reduceCtorEq],by (intro c hc; have z1 := ltNe0 hc; have z2 := ltNe hc; simp only [lk,applyEff,List.foldl_cons,List.foldl_nil,upd,hpF_eq,z1,z2,if_false,yAf,zA] <;> (repeat' split) <;> first | rfl | (simp_all [askedCells]; done) | (exfalso; omega)),by simp [frzD,frzDL]⟩
  · obtain rfl : p = _ := (Option.some.inj h).symm
    have u : ((UInt8.toNat 62 : Nat) : Int) = 62 := rfl
    refine CallA.into tabOK mixed Tryz.func85 rfl rfl (by decide +kernel) (by simp [Tryz.ntmps85]) ?_
    simp only [go_sem,zA,zB,zC,zD,zE,zF,zG,zH,zI,zJ,zK,zL,zM,zN,zO,zP,↓reduceIte,reduceCtorEq,Tryz.ntmps85,Tryz.results85,e1,y1,y2,y3,y4,y5,y6,y7,y8,y9,y10,yAf,yAd,yAc,yAb,yAa,ltSelfK,yAe,zF,yAg,hpF_addL,u]
    refine CallA.into tabOK mixed Tryz.func109 rfl rfl (by decide +kernel) (by simp [Tryz.ntmps109]) ?_
    simp only [go_sem,zA,zB,zC,zD,zE,zF,zG,zH,zI,zJ,zK,zL,zM,zN,zO,zP,↓reduceIte,reduceCtorEq,Tryz.ntmps109,Tryz.results109,e1,y1,y2,y3,y4,y5,y6,y7,y8,y9,y10,yAf,yAd,yAc,yAb,yAa,ltSelfK,yAe,zF,yAg,hpF_addL,u,Tryz.ntmps85,Tryz.results85]
    refine CallA.into tabOK mixed Tryz.func86 rfl rfl (by decide +kernel) (by simp [Tryz.ntmps86]) ?_
    simp only [go_sem,zA,zB,zC,zD,zE,zF,zG,zH,zI,zJ,zK,zL,zM,zN,zO,zP,↓reduceIte,reduceCtorEq,Tryz.ntmps86,Tryz.results86,e1,y1,y2,y3,y4,y5,y6,y7,y8,y9,y10,yAf,yAd,yAc,yAb,yAa,ltSelfK,yAe,zF,yAg,hpF_addL,Tryz.ntmps85,Tryz.results85]
    exact ⟨by simp only [go_sem,zA,zB,zC,zD,zE,zF,zG,zH,zI,zJ,zK,zL,zM,zN,zO,zP,↓reduceIte,reduceCtorEq],by (intro c hc; have z1 := ltNe0 hc; have z2 := ltNe hc; simp only [lk,applyEff,List.foldl_cons,List.foldl_nil,upd,hpF_eq,z1,z2,if_false,yAf,zA] <;> (repeat' split) <;> first | rfl | (simp_all [askedCells]; done) | (exfalso; omega)),by simp [frzD,frzDL]⟩
  · obtain rfl : p = _ := (Option.some.inj h).symm
    have u : ((UInt8.toNat 52 : Nat) : Int) = 52 := rfl
    refine CallA.into tabOK mixed Tryz.func85 rfl rfl (by decide +kernel) (by simp [Tryz.ntmps85]) ?_
    simp only [go_sem,zA,zB,zC,zD,zE,zF,zG,zH,zI,zJ,zK,zL,zM,zN,zO,zP,↓reduceIte,reduceCtorEq,Tryz.ntmps85,Tryz.results85,e1,y1,y2,y3,y4,y5,y6,y7,y8,y9,y10,yAf,yAd,yAc,yAb,yAa,ltSelfK,yAe,zF,yAg,hpF_addL,u]
    refine CallA.into tabOK mixed Tryz.func109 rfl rfl (by decide +kernel) (by simp [Tryz.ntmps109]) ?_
    simp only [go_sem,zA,zB,zC,zD,zE,zF,zG,zH,zI,zJ,zK,zL,zM,zN,zO,zP,↓reduceIte,reduceCtorEq,Tryz.ntmps109,Tryz.results109,e1,y1,y2,y3,y4,y5,y6,y7,y8,y9,y10,yAf,yAd,yAc,yAb,yAa,ltSelfK,yAe,zF,yAg,hpF_addL,u,Tryz.ntmps85,Tryz.results85]
    refine CallA.into tabOK mixed Tryz.func86 rfl rfl (by decide +kernel) (by simp [Tryz.ntmps86]) ?_
    simp only [go_sem,zA,zB,zC,zD,zE,zF,zG,zH,zI,zJ,zK,zL,zM,zN,zO,zP,↓reduceIte,reduceCtorEq,Tryz.ntmps86,Tryz.results86,e1,y1,y2,y3,y4,y5,y6,y7,y8,y9,y10,yAf,yAd,yAc,yAb,yAa,ltSelfK,yAe,zF,yAg,hpF_addL,Tryz.ntmps85,Tryz.results85]
    exact ⟨by simp only [go_sem,zA,zB,zC,zD,zE,zF,zG,zH,zI,zJ,zK,zL,zM,zN,zO,zP,↓reduceIte,reduceCtorEq],by (intro c hc; have z1 := ltNe0 hc; have z2 := ltNe hc; simp only [lk,applyEff,List.foldl_cons,List.foldl_nil,upd,hpF_eq,z1,z2,if_false,yAf,zA] <;> (repeat' split) <;> first | rfl | (simp_all [askedCells]; done) | (exfalso; omega)),by simp [frzD,frzDL]⟩
  · obtain rfl : p = _ := (Option.some.inj h).symm
    have u : ((UInt8.toNat 54 : Nat) : Int) = 54 := rfl
    refine CallA.into tabOK mixed Tryz.func85 rfl rfl (by decide +kernel) (by simp [Tryz.ntmps85]) ?_
    simp only [go_sem,zA,zB,zC,zD,zE,zF,zG,zH,zI,zJ,zK,zL,zM,zN,zO,zP,↓reduceIte,reduceCtorEq,Tryz.ntmps85,Tryz.results85,e1,y1,y2,y3,y4,y5,y6,y7,y8,y9,y10,yAf,yAd,yAc,yAb,yAa,ltSelfK,yAe,zF,yAg,hpF_addL,u]
    refine CallA.into tabOK mixed Tryz.func109 rfl rfl (by decide +kernel) (by simp [Tryz.ntmps109]) ?_
    simp only [go_sem,zA,zB,zC,zD,zE,zF,zG,zH,zI,zJ,zK,zL,zM,zN,zO,zP,↓reduceIte,reduceCtorEq,Tryz.ntmps109,Tryz.results109,e1,y1,y2,y3,y4,y5,y6,y7,y8,y9,y10,yAf,yAd,yAc,yAb,yAa,ltSelfK,yAe,zF,yAg,hpF_addL,u,Tryz.ntmps85,Tryz.results85]
    refine CallA.into tabOK mixed Tryz.func86 rfl rfl (by decide +kernel) (by simp [Tryz.ntmps86]) ?_
    simp only [go_sem,zA,zB,zC,zD,zE,zF,zG,zH,zI,zJ,zK,zL,zM,zN,zO,zP,↓reduceIte,reduceCtorEq,Tryz.ntmps86,Tryz.results86,e1,y1,y2,y3,y4,y5,y6,y7,y8,y9,y10,yAf,yAd,yAc,yAb,yAa,ltSelfK,yAe,zF,yAg,hpF_addL,Tryz.ntmps85,Tryz.results85]
    exact ⟨by simp only [go_sem,zA,zB,zC,zD,zE,zF,zG,zH,zI,zJ,zK,zL,zM,zN,zO,zP,↓reduceIte,reduceCtorEq],by (intro c hc; have z1 := ltNe0 hc; have z2 := ltNe hc; simp only [lk,applyEff,List.foldl_cons,List.foldl_nil,upd,hpF_eq,z1,z2,if_false,yAf,zA] <;> (repeat' split) <;> first | rfl | (simp_all [askedCells]; done) | (exfalso; omega)),by simp [frzD,frzDL]⟩
  · obtain rfl : p = _ := (Option.some.inj h).symm
    have u : ((UInt8.toNat 55 : Nat) : Int) = 55 := rfl
    refine CallA.into tabOK mixed Tryz.func85 rfl rfl (by decide +kernel) (by simp [Tryz.ntmps85]) ?_
    simp only [go_sem,zA,zB,zC,zD,zE,zF,zG,zH,zI,zJ,zK,zL,zM,zN,zO,zP,↓reduceIte,reduceCtorEq,Tryz.ntmps85,Tryz.results85,e1,y1,y2,y3,y4,y5,y6,y7,y8,y9,y10,yAf,yAd,yAc,yAb,yAa,ltSelfK,yAe,zF,yAg,hpF_addL,u]
    refine CallA.into tabOK mixed Tryz.func109 rfl rfl (by decide +kernel) (by simp [Tryz.ntmps109]) ?_
    simp only [go_sem,zA,zB,zC,zD,zE,zF,zG,zH,zI,zJ,zK,zL,zM,zN,zO,zP,↓reduceIte,reduceCtorEq,Tryz.ntmps109,Tryz.results109,e1,y1,y2,y3,y4,y5,y6,y7,y8,y9,y10,yAf,yAd,yAc,yAb,yAa,ltSelfK,yAe,zF,yAg,hpF_addL,u,Tryz.ntmps85,Tryz.results85]
    refine CallA.into tabOK mixed Tryz.func86 rfl rfl (by decide +kernel) (by simp [Tryz.ntmps86]) ?_
    simp only [go_sem,zA,zB,zC,zD,zE,zF,zG,zH,zI,zJ,zK,zL,zM,zN,zO,zP,↓reduceIte,reduceCtorEq,Tryz.ntmps86,Tryz.results86,e1,y1,y2,y3,y4,y5,y6,y7,y8,y9,y10,yAf,yAd,yAc,yAb,yAa,ltSelfK,yAe,zF,yAg,hpF_addL,Tryz.ntmps85,Tryz.results85]
    exact ⟨by simp only [go_sem,zA,zB,zC,zD,zE,zF,zG,zH,zI,zJ,zK,zL,zM,zN,zO,zP,↓reduceIte,reduceCtorEq],by (intro c hc; have z1 := ltNe0 hc; have z2 := ltNe hc; simp only [lk,applyEff,List.foldl_cons,List.foldl_nil,upd,hpF_eq,z1,z2,if_false,yAf,zA] <;> (repeat' split) <;> first | rfl | (simp_all [askedCells]; done) | (exfalso; omega)),by simp [frzD,frzDL]⟩
theorem find_none {c : UInt8} (h : svcOf c = none) (h27 : c ≠ 0x27) {hp : List (Nat × Blk)} {nx b : Nat} {K KP : CK} {x : Blk} (e1 : lk b hp = some x) (hx : ∀ x ∈ hp,x.1 < nx) (hK : KP (refPV 0x11) hp nx) : CallA Tryz.prog 85 [.ptr b 0,U8 c] hp nx K KP := by
  refine CallA.tidyP (fun hcl => ?_) ⟨_,by rfl,by decide +kernel,by decide +kernel⟩ rfl hx hK
  have hlt := lk_lt hx e1
  have y1 := lk_fresh0 hx; have y2 := lk_freshK hx; have y3 := ltNe0 hlt; have y4 := ltNe hlt; have y5 := gtNe0 hlt; have y6 := gtNe hlt; have y7 := eq_true hx; have y8 := allK hx; have y9 := eq_true hlt; have y10 := ltK hlt
  have hc : ¬ c = 0x10 ∧ ¬ c = 0x22 ∧ ¬ c = 0x2E ∧ ¬ c = 0x14 ∧ ¬ c = 0x19 ∧ ¬ c = 0x3E ∧ ¬ c = 0x34 ∧ ¬ c = 0x36 ∧ ¬ c = 0x37 := by
    unfold svcOf at h
    repeat' (split at h; · cases h)
    rename_i g
    simp only [not_or] at g
    simp_all
  have un : ∀ {k : UInt8} {n : Int},(k.toNat : Int) = n → ¬ c = k → ((c.toNat : Int) = n) = False := fun e h => eq_false (fun e' => h (UInt8.toNat_inj.1 (by omega)))
  obtain ⟨g1,g2,g3,g4,g5,g6,g7,g8,g9⟩ := hc
  have u0 : ((c.toNat : Int) = 39) = False := un (k := 0x27) rfl h27
  have u1 : ((c.toNat : Int) = 16) = False := un rfl g1
  have u2 : ((c.toNat : Int) = 34) = False := un rfl g2
  have u3 : ((c.toNat : Int) = 46) = False := un rfl g3
  have u4 : ((c.toNat : Int) = 20) = False := un rfl g4
  have u5 : ((c.toNat : Int) = 25) = False := un rfl g5
  have u6 : ((c.toNat : Int) = 62) = False := un rfl g6
  have u7 : ((c.toNat : Int) = 52) = False := un rfl g7
  have u8 : ((c.toNat : Int) = 54) = False := un rfl g8
  have u9 : ((c.toNat : Int) = 55) = False := un rfl g9
  refine CallA.into tabOK mixed Tryz.func85 rfl rfl (by decide +kernel) (by simp [Tryz.ntmps85]) ?_
  simp only [go_sem,zA,zB,zC,zD,zE,zF,zG,zH,zI,zJ,zK,zL,zM,zN,zO,zP,↓reduceIte,reduceCtorEq,Tryz.ntmps85,Tryz.results85,e1,y1,y2,y3,y4,y5,y6,y7,y8,y9,y10,yAf,yAd,yAc,yAb,yAa,ltSelfK,yAe,zF,yAg,hpF_addL,u0]
  refine CallA.into tabOK mixed Tryz.func109 rfl rfl (by decide +kernel) (by simp [Tryz.ntmps109]) ?_
  simp only [go_sem,zA,zB,zC,zD,zE,zF,zG,zH,zI,zJ,zK,zL,zM,zN,zO,zP,↓reduceIte,reduceCtorEq,Tryz.ntmps109,Tryz.results109,e1,y1,y2,y3,y4,y5,y6,y7,y8,y9,y10,yAf,yAd,yAc,yAb,yAa,ltSelfK,yAe,zF,yAg,hpF_addL,u1,u2,u3,u4,u5,u6,u7,u8,u9,Tryz.ntmps85,Tryz.results85]
  refine CallA.into tabOK mixed Tryz.func86 rfl rfl (by decide +kernel) (by simp [Tryz.ntmps86]) ?_
  simp only [go_sem,zA,zB,zC,zD,zE,zF,zG,zH,zI,zJ,zK,zL,zM,zN,zO,zP,↓reduceIte,reduceCtorEq,Tryz.ntmps86,Tryz.results86,e1,y1,y2,y3,y4,y5,y6,y7,y8,y9,y10,yAf,yAd,yAc,yAb,yAa,ltSelfK,yAe,zF,yAg,hpF_addL,Tryz.ntmps85,Tryz.results85]
  exact ⟨rfl,by (intro c hc; have z1 := ltNe0 hc; have z2 := ltNe hc; simp only [lk,applyEff,List.foldl_cons,List.foldl_nil,upd,hpF_eq,z1,z2,if_false,yAf,zA] <;> (repeat' split) <;> first | rfl | (simp_all [askedCells]; done) | (exfalso; omega))⟩
theorem find_unl {g : Nat} {l : Int} {k : UInt8} (h : (k = 1 ∧ (l,g) = (1,110)) ∨ (k = 2 ∧ (l,g) = (5,111))) {hp : List (Nat × Blk)} {nx b : Nat} {s : Srv} {r : List UInt8} {K KP : CK} (e1 : lk b hp = some (askedB s (k :: r))) (hx : ∀ x ∈ hp,x.1 < nx) (hK : K (svcPV (l,g)) hp nx) : CallA Tryz.prog 85 [.ptr b 0,U8 0x27] hp nx K KP := by
  refine CallA.tidy (fun hcl => ?_) ⟨_,by rfl,by decide +kernel,by decide +kernel⟩ hx hK
  have hlt := lk_lt hx e1
  have y1 := lk_fresh0 hx; have y2 := lk_freshK hx; have y3 := ltNe0 hlt; have y4 := ltNe hlt; have y5 := gtNe0 hlt; have y6 := gtNe hlt; have y7 := eq_true hx; have y8 := allK hx; have y9 := eq_true hlt; have y10 := ltK hlt
  have u : ((UInt8.toNat 39 : Nat) : Int) = 39 := rfl
  have lr : (rowsB (k :: r)).length = r.length + 1 := by rw [rowsB_length]; rfl
  have g1 : decide (((r.length + 1 : Nat) : Int) > 0) = true := decide_eq_true (by omega)
  have g2 : (0 : Int) < ((r.length + 1 : Nat) : Int) := by omega
  have r0 : (rowsB (k :: r)).getD 0 [] = rowB k := rfl
  refine CallA.into tabOK mixed Tryz.func85 rfl rfl (by decide +kernel) (by simp [Tryz.ntmps85]) ?_
  simp only [go_sem,zA,zB,zC,zD,zE,zF,zG,zH,zI,zJ,zK,zL,zM,zN,zO,zP,↓reduceIte,reduceCtorEq,Tryz.ntmps85,Tryz.results85,e1,y1,y2,y3,y4,y5,y6,y7,y8,y9,y10,yAf,yAd,yAc,yAb,yAa,ltSelfK,yAe,zF,yAg,hpF_addL,u,askedCells,lr,g1]
  refine CallA.into tabOK mixed Tryz.func86 rfl rfl (by decide +kernel) (by simp [Tryz.ntmps86]) ?_
  simp only [go_sem,zA,zB,zC,zD,zE,zF,zG,zH,zI,zJ,zK,zL,zM,zN,zO,zP,↓reduceIte,reduceCtorEq,Tryz.ntmps86,Tryz.results86,e1,y1,y2,y3,y4,y5,y6,y7,y8,y9,y10,yAf,yAd,yAc,yAb,yAa,ltSelfK,yAe,zF,yAg,hpF_addL,askedCells,lr,g2,r0,rowB,Tryz.ntmps85,Tryz.results85]
  rcases h with ⟨rfl,h⟩ | ⟨rfl,h⟩
  · cases h
    have v1 : ((UInt8.toNat 1 : Nat) : Int) = 1 := rfl
    simp only [go_sem,zA,zB,zC,zD,zE,zF,zG,zH,zI,zJ,zK,zL,zM,zN,zO,zP,↓reduceIte,reduceCtorEq,e1,y1,y2,y3,y4,y5,y6,y7,y8,y9,y10,yAf,yAd,yAc,yAb,yAa,ltSelfK,yAe,zF,yAg,hpF_addL,askedCells,lr,g2,r0,rowB,v1,Tryz.ntmps85,Tryz.results85]
    exact ⟨by simp only [go_sem,zA,zB,zC,zD,zE,zF,zG,zH,zI,zJ,zK,zL,zM,zN,zO,zP,↓reduceIte,reduceCtorEq],by (intro c hc; have z1 := ltNe0 hc; have z2 := ltNe hc; simp only [lk,applyEff,List.foldl_cons,List.foldl_nil,upd,hpF_eq,z1,z2,if_false,yAf,zA] <;> (repeat' split) <;> first | rfl | (simp_all [askedCells]; done) | (exfalso; omega)),by simp [frzD,frzDL]⟩
  · cases h
    have v1 : ((UInt8.toNat 2 : Nat) : Int) = 2 := rfl
    simp only [go_sem,zA,zB,zC,zD,zE,zF,zG,zH,zI,zJ,zK,zL,zM,zN,zO,zP,↓reduceIte,reduceCtorEq,e1,y1,y2,y3,y4,y5,y6,y7,y8,y9,y10,yAf,yAd,yAc,yAb,yAa,ltSelfK,yAe,zF,yAg,hpF_addL,askedCells,lr,g2,r0,rowB,v1,Tryz.ntmps85,Tryz.results85]
    exact ⟨by simp only [go_sem,zA,zB,zC,zD,zE,zF,zG,zH,zI,zJ,zK,zL,zM,zN,zO,zP,↓reduceIte,reduceCtorEq],by (intro c hc; have z1 := ltNe0 hc; have z2 := ltNe hc; simp only [lk,applyEff,List.foldl_cons,List.foldl_nil,upd,hpF_eq,z1,z2,if_false,yAf,zA] <;> (repeat' split) <;> first | rfl | (simp_all [askedCells]; done) | (exfalso; omega)),by simp [frzD,frzDL]⟩
theorem find_unl13 {hp : List (Nat × Blk)} {nx b : Nat} {s : Srv} {K KP : CK} (e1 : lk b hp = some (askedB s [])) (hx : ∀ x ∈ hp,x.1 < nx) (hK : KP (refPV 0x13) hp nx) : CallA Tryz.prog 85 [.ptr b 0,U8 0x27] hp nx K KP := by
  refine CallA.tidyP (fun hcl => ?_) ⟨_,by rfl,by decide +kernel,by decide +kernel⟩ rfl hx hK
  have hlt := lk_lt hx e1
  have y1 := lk_fresh0 hx; have y2 := lk_freshK hx; have y3 := ltNe0 hlt; have y4 := ltNe hlt; have y5 := gtNe0 hlt; have y6 := gtNe hlt; have y7 := eq_true hx; have y8 := allK hx; have y9 := eq_true hlt; have y10 := ltK hlt
  have u : ((UInt8.toNat 39 : Nat) : Int) = 39 := rfl
  have g1 : decide (((0 : Nat) : Int) > 0) = false := by decide
  have g3 : decide ((0 : Int) > 0) = false := by decide
  refine CallA.into tabOK mixed Tryz.func85 rfl rfl (by decide +kernel) (by simp [Tryz.ntmps85]) ?_
  simp only [go_sem,zA,zB,zC,zD,zE,zF,zG,zH,zI,zJ,zK,zL,zM,zN,zO,zP,↓reduceIte,reduceCtorEq,Tryz.ntmps85,Tryz.results85,e1,y1,y2,y3,y4,y5,y6,y7,y8,y9,y10,yAf,yAd,yAc,yAb,yAa,ltSelfK,yAe,zF,yAg,hpF_addL,u,askedCells,rowsB,List.map_nil,g1,g3,yCb]
  refine CallA.into tabOK mixed Tryz.func86 rfl rfl (by decide +kernel) (by simp [Tryz.ntmps86]) ?_
  simp only [go_sem,zA,zB,zC,zD,zE,zF,zG,zH,zI,zJ,zK,zL,zM,zN,zO,zP,↓reduceIte,reduceCtorEq,Tryz.ntmps86,Tryz.results86,e1,y1,y2,y3,y4,y5,y6,y7,y8,y9,y10,yAf,yAd,yAc,yAb,yAa,ltSelfK,yAe,zF,yAg,hpF_addL,askedCells,g1,g3,yCb,Tryz.ntmps85,Tryz.results85]
  exact ⟨rfl,by (intro c hc; have z1 := ltNe0 hc; have z2 := ltNe hc; simp only [lk,applyEff,List.foldl_cons,List.foldl_nil,upd,hpF_eq,z1,z2,if_false,yAf,zA] <;> (repeat' split) <;> first | rfl | (simp_all [askedCells]; done) | (exfalso; omega))⟩
theorem find_unl31 {k : UInt8} (h1 : k ≠ 1) (h2 : k ≠ 2) {hp : List (Nat × Blk)} {nx b : Nat} {s : Srv} {r : List UInt8} {K KP : CK} (e1 : lk b hp = some (askedB s (k :: r))) (hx : ∀ x ∈ hp,x.1 < nx) (hK : KP (refPV 0x31) hp nx) : CallA Tryz.prog 85 [.ptr b 0,U8 0x27] hp nx K KP := by
  refine CallA.tidyP (fun hcl => ?_) ⟨_,by rfl,by decide +kernel,by decide +kernel⟩ rfl hx hK
  have hlt := lk_lt hx e1
  have y1 := lk_fresh0 hx; have y2 := lk_freshK hx; have y3 := ltNe0 hlt; have y4 := ltNe hlt; have y5 := gtNe0 hlt; have y6 := gtNe hlt; have y7 := eq_true hx; have y8 := allK hx; have y9 := eq_true hlt; have y10 := ltK hlt
  have u : ((UInt8.toNat 39 : Nat) : Int) = 39 := rfl
  have lr : (rowsB (k :: r)).length = r.length + 1 := by rw [rowsB_length]; rfl
  have g1 : decide (((r.length + 1 : Nat) : Int) > 0) = true := decide_eq_true (by omega)
  have g2 : (0 : Int) < ((r.length + 1 : Nat) : Int) := by omega
  have r0 : (rowsB (k :: r)).getD 0 [] = rowB k := rfl
  have v1 : ((k.toNat : Int) = 1) = False := eq_false (fun e' => h1 (UInt8.toNat_inj.1 (by simp; omega)))
  have v2 : ((k.toNat : Int) = 2) = False := eq_false (fun e' => h2 (UInt8.toNat_inj.1 (by simp; omega)))
  refine CallA.into tabOK mixed Tryz.func85 rfl rfl (by decide +kernel) (by simp [Tryz.ntmps85]) ?_
  simp only [go_sem,zA,zB,zC,zD,zE,zF,zG,zH,zI,zJ,zK,zL,zM,zN,zO,zP,↓reduceIte,reduceCtorEq,Tryz.ntmps85,Tryz.results85,e1,y1,y2,y3,y4,y5,y6,y7,y8,y9,y10,yAf,yAd,yAc,yAb,yAa,ltSelfK,yAe,zF,yAg,hpF_addL,u,askedCells,lr,g1]
  refine CallA.into tabOK mixed Tryz.func86 rfl rfl (by decide +kernel) (by simp [Tryz.ntmps86]) ?_
  simp only [go_sem,zA,zB,zC,zD,zE,zF,zG,zH,zI,zJ,zK,zL,zM,zN,zO,zP,↓reduceIte,reduceCtorEq,Tryz.ntmps86,Tryz.results86,e1,y1,y2,y3,y4,y5,y6,y7,y8,y9,y10,yAf,yAd,yAc,yAb,yAa,ltSelfK,yAe,zF,yAg,hpF_addL,askedCells,lr,g2,r0,rowB,v1,v2,Tryz.ntmps85,Tryz.results85]
  exact ⟨rfl,by (intro c hc; have z1 := ltNe0 hc; have z2 := ltNe hc; simp only [lk,applyEff,List.foldl_cons,List.foldl_nil,upd,hpF_eq,z1,z2,if_false,yAf,zA] <;> (repeat' split) <;> first | rfl | (simp_all [askedCells]; done) | (exfalso; omega))⟩
end Go.Proofs.YtcdmhigmgpflbaaGreat.Pe
namespace Go.Proofs.YtcdmhigmgpflbaaGreat.Pe
open Go.Pe Go.RowKit
theorem EffCalls.keep {g : FuncId} {args : List PV} {H0 : Heap} {pv : PV} {b : Nat} {x : Blk} (h : EffCalls Tryz.prog g args H0 pv []) (hb : b ∈ footL args) (hx : H0 b = some x) : EffCalls Tryz.prog g args H0 pv [(b,x)] := by
  refine ⟨h.1,fun C β w vs H hfin hH hs hl hv => ?_⟩
  have e : applyEff H [(b,x)] = applyEff H [] := by
    funext c
    show upd H b x c = H c
    by_cases hc : c = b
    · subst hc; rw [upd_same,hH c hb,hx]
    · rw [upd_other _ _ hc]
  rw [e]
  exact h.2 C β w vs H hfin hH hs hl hv
theorem PanCalls.keep {g : FuncId} {args : List PV} {H0 : Heap} {pv : PV} {b : Nat} {x : Blk} (h : PanCalls Tryz.prog g args H0 pv []) (hb : b ∈ footL args) (hx : H0 b = some x) : PanCalls Tryz.prog g args H0 pv [(b,x)] := by
  refine ⟨h.1,fun C β w vs H hfin hH hs hl hv => ?_⟩
  have e : applyEff H [(b,x)] = applyEff H [] := by
    funext c
    show upd H b x c = H c
    by_cases hc : c = b
    · subst hc; rw [upd_same,hH c hb,hx]
    · rw [upd_other _ _ hc]
  rw [e]
  exact h.2 C β w vs H hfin hH hs hl hv
def FindsP (c : UInt8) (s : Srv) (q : List UInt8) (p : Int × Nat) : Prop := ∀ ⦃hp : List (Nat × Blk)⦄ ⦃nx b : Nat⦄ ⦃K KP : CK⦄,lk b hp = some (askedB s q) → (∀ x ∈ hp,x.1 < nx) → K (svcPV p) hp nx → CallA Tryz.prog 85 [.ptr b 0,U8 c] hp nx K KP
def FindsN (c : UInt8) (s : Srv) (q : List UInt8) (why : Int) : Prop := ∀ ⦃hp : List (Nat × Blk)⦄ ⦃nx b : Nat⦄ ⦃K KP : CK⦄,lk b hp = some (askedB s q) → (∀ x ∈ hp,x.1 < nx) → KP (refPV why) hp nx → CallA Tryz.prog 85 [.ptr b 0,U8 c] hp nx K KP
def DoesP (g : Nat) (s : Srv) (q : List UInt8) (out : List UInt8) (s' : Srv) : Prop := ∀ ⦃H : Heap⦄ ⦃b : Nat⦄,H b = some (askedB s q) → EffCalls Tryz.prog g [.ptr b 0] H (bytesPV out) [(b,askedB s' q)]
def DoesN (g : Nat) (s : Srv) (q : List UInt8) (why : Int) (s' : Srv) : Prop := ∀ ⦃H : Heap⦄ ⦃b : Nat⦄,H b = some (askedB s q) → PanCalls Tryz.prog g [.ptr b 0] H (refPV why) [(b,askedB s' q)]
def lenB (long : Int) (c : UInt8) (n : Nat) : Bool := decide (long = n) || (decide (long = -1) && (!decide (c = 0x2E) || decide (2 < n)))
theorem ask_no {c : UInt8} {q : List UInt8} {s : Srv} {why : Int} (hf : FindsN c { s with quiet := 0 } q why) : PureCalls Tryz.prog 43 [s.pv,bytesPV (c :: q)] (.tup [Srv.pv { s with quiet := 0 },bytesPV (denyV c.toNat why),PB false]) := by
  refine PureCalls.of tabOK mixed Tryz.func43 rfl rfl (by decide +kernel) (by simp [Tryz.ntmps43]) ?_
  have lq : (rowsB (c :: q)).length = q.length + 1 := by rw [rowsB_length]; rfl
  have ldr : (rowsB (c :: q)).drop 1 = rowsB q := rfl
  have r0 : (rowsB (c :: q)).getD 0 [] = rowB c := rfl
  have lt : List.take q.length q = q := List.take_length
  have g1 : decide (((q.length + 1 : Nat) : Int) = 0) = false := decide_eq_false (by omega)
  have g2 : (0 : Int) < ((q.length + 1 : Nat) : Int) := by omega
  have w1 : IntKind.wrap .i64 (c.toNat : Int) = (c.toNat : Int) := wrapI64 (by have := c.toNat_lt; omega)
  have d0 : (rowsB (denyV c.toNat why)).getD 0 [] = [PV.lit (.int .u8 127)] := rfl
  have dl : (denyV c.toNat why).length = 3 := rfl
  have dz : (0 : Int) < ((3 : Nat) : Int) := by decide
  have c1 := deny_calls c.toNat why
  simp only [go_sem,zA,zB,zC,zD,zE,zF,zG,zH,zI,zJ,zK,zL,zM,zN,zO,zP,↓reduceIte,reduceCtorEq,Tryz.ntmps43,Tryz.results43,Srv.pv,Srv.cells,lq,ldr,r0,rowB,g1,g2,lt]
  refine ⟨by omega,endD_intro (by decide +kernel) ?_⟩
  simp only [go_sem,zA,zB,zC,zD,zE,zF,zG,zH,zI,zJ,zK,zL,zM,zN,zO,zP,↓reduceIte,reduceCtorEq,lq,r0,rowB,g2]
  refine CallA.intoD (g := 83) tabOK mixed Tryz.func63 rfl rfl (by decide +kernel) (by decide +kernel) ⟨_,by rfl,by decide +kernel,by decide +kernel⟩ rfl rfl rfl rfl rfl rfl (by simp [Tryz.ntmps63]) ?_
  simp only [go_sem,zA,zB,zC,zD,zE,zF,zG,zH,zI,zJ,zK,zL,zM,zN,zO,zP,↓reduceIte,reduceCtorEq,Tryz.ntmps63,Tryz.results63,yCa,lt]
  refine hf (b := 7) rfl ?_ ?_
  · simp only [go_sem,zA,zB,zC,zD,zE,zF,zG,zH,zI,zJ,zK,zL,zM,zN,zO,zP,↓reduceIte,reduceCtorEq]
  simp only [go_sem,zA,zB,zC,zD,zE,zF,zG,zH,zI,zJ,zK,zL,zM,zN,zO,zP,↓reduceIte,reduceCtorEq]
  refine DefA.of tabOK mixed Tryz.func83 rfl rfl rfl rfl rfl rfl rfl rfl (by decide +kernel) rfl rfl rfl (by simp [Tryz.ntmps83]) (by simp [Tryz.ntmps83]) (by simp [Tryz.ntmps83]) rfl ?_
  simp only [go_sem,zA,zB,zC,zD,zE,zF,zG,zH,zI,zJ,zK,zL,zM,zN,zO,zP,↓reduceIte,reduceCtorEq,Tryz.ntmps83,Tryz.results83,w1]
  (refine CallA.pure (c1) (by simp only [go_sem,zA,zB,zC,zD,zE,zF,zG,zH,zI,zJ,zK,zL,zM,zN,zO,zP,↓reduceIte,reduceCtorEq,Tryz.ntmps83,Tryz.results83,Tryz.ntmps63,Tryz.results63,Tryz.ntmps43,Tryz.results43,Srv.pv,Srv.cells,lq,ldr,r0,rowB,g2,lt,d0,dl,dz] <;> first | rfl | decide) ?_; simp only [go_sem,zA,zB,zC,zD,zE,zF,zG,zH,zI,zJ,zK,zL,zM,zN,zO,zP,↓reduceIte,reduceCtorEq,Tryz.ntmps83,Tryz.results83,Tryz.ntmps63,Tryz.results63,Tryz.ntmps43,Tryz.results43,Srv.pv,Srv.cells,lq,ldr,r0,rowB,g2,lt,d0,dl,dz])
theorem ask_len {c : UInt8} {q : List UInt8} {s : Srv} {l : Int} {g : Nat} (hf : FindsP c { s with quiet := 0 } q (l,g)) (hl : lenB l c q.length = false) : PureCalls Tryz.prog 43 [s.pv,bytesPV (c :: q)] (.tup [Srv.pv { s with quiet := 0 },bytesPV (denyV c.toNat 0x13),PB false]) := by
  refine PureCalls.of tabOK mixed Tryz.func43 rfl rfl (by decide +kernel) (by simp [Tryz.ntmps43]) ?_
  have lq : (rowsB (c :: q)).length = q.length + 1 := by rw [rowsB_length]; rfl
  have ldr : (rowsB (c :: q)).drop 1 = rowsB q := rfl
  have r0 : (rowsB (c :: q)).getD 0 [] = rowB c := rfl
  have lt : List.take q.length q = q := List.take_length
  have g1 : decide (((q.length + 1 : Nat) : Int) = 0) = false := decide_eq_false (by omega)
  have g2 : (0 : Int) < ((q.length + 1 : Nat) : Int) := by omega
  have w1 : IntKind.wrap .i64 (c.toNat : Int) = (c.toNat : Int) := wrapI64 (by have := c.toNat_lt; omega)
  have d0 : (rowsB (denyV c.toNat 0x13)).getD 0 [] = [PV.lit (.int .u8 127)] := rfl
  have dl : (denyV c.toNat 0x13).length = 3 := rfl
  have dz : (0 : Int) < ((3 : Nat) : Int) := by decide
  have c1 := deny_calls c.toNat 0x13
  have g3 : decide (l = (q.length : Int)) = false := by
    cases h : decide (l = (q.length : Int)) with
    | false => rfl
    | true => simp [lenB,h] at hl
  have u3 : ((UInt8.toNat 46 : Nat) : Int) = 46 := rfl
  simp only [go_sem,zA,zB,zC,zD,zE,zF,zG,zH,zI,zJ,zK,zL,zM,zN,zO,zP,↓reduceIte,reduceCtorEq,Tryz.ntmps43,Tryz.results43,Srv.pv,Srv.cells,lq,ldr,r0,rowB,g1,g2,lt]
  refine ⟨by omega,endD_intro (by decide +kernel) ?_⟩
  simp only [go_sem,zA,zB,zC,zD,zE,zF,zG,zH,zI,zJ,zK,zL,zM,zN,zO,zP,↓reduceIte,reduceCtorEq,lq,r0,rowB,g2]
  refine CallA.intoD (g := 83) tabOK mixed Tryz.func63 rfl rfl (by decide +kernel) (by decide +kernel) ⟨_,by rfl,by decide +kernel,by decide +kernel⟩ rfl rfl rfl rfl rfl rfl (by simp [Tryz.ntmps63]) ?_
  simp only [go_sem,zA,zB,zC,zD,zE,zF,zG,zH,zI,zJ,zK,zL,zM,zN,zO,zP,↓reduceIte,reduceCtorEq,Tryz.ntmps63,Tryz.results63,yCa,lt]
  refine hf (b := 7) rfl ?_ ?_
  · simp only [go_sem,zA,zB,zC,zD,zE,zF,zG,zH,zI,zJ,zK,zL,zM,zN,zO,zP,↓reduceIte,reduceCtorEq]
  cases g4 : decide (l = -1) with
  | false =>
    simp only [go_sem,zA,zB,zC,zD,zE,zF,zG,zH,zI,zJ,zK,zL,zM,zN,zO,zP,↓reduceIte,reduceCtorEq,lq,ldr,r0,rowB,rowsB_length,g3,g4,Tryz.ntmps63,Tryz.results63]
    refine callD_tail (by decide +kernel) (by decide +kernel) ?_
    simp only [go_sem,zA,zB,zC,zD,zE,zF,zG,zH,zI,zJ,zK,zL,zM,zN,zO,zP,↓reduceIte,reduceCtorEq]
    refine CallA.into tabOK mixed Tryz.func86 rfl rfl (by decide +kernel) (by simp [Tryz.ntmps86]) ?_
    simp only [go_sem,zA,zB,zC,zD,zE,zF,zG,zH,zI,zJ,zK,zL,zM,zN,zO,zP,↓reduceIte,reduceCtorEq,Tryz.ntmps86,Tryz.results86]
    refine DefA.of tabOK mixed Tryz.func83 rfl rfl rfl rfl rfl rfl rfl rfl (by decide +kernel) rfl rfl rfl (by simp [Tryz.ntmps83]) (by simp [Tryz.ntmps83]) (by simp [Tryz.ntmps83]) rfl ?_
    simp only [go_sem,zA,zB,zC,zD,zE,zF,zG,zH,zI,zJ,zK,zL,zM,zN,zO,zP,↓reduceIte,reduceCtorEq,Tryz.ntmps83,Tryz.results83,w1]
    (refine CallA.pure (c1) (by simp only [go_sem,zA,zB,zC,zD,zE,zF,zG,zH,zI,zJ,zK,zL,zM,zN,zO,zP,↓reduceIte,reduceCtorEq,Tryz.ntmps83,Tryz.results83,Tryz.ntmps63,Tryz.results63,Tryz.ntmps43,Tryz.results43,Srv.pv,Srv.cells,lq,ldr,r0,rowB,g2,lt,d0,dl,dz] <;> first | rfl | decide) ?_; simp only [go_sem,zA,zB,zC,zD,zE,zF,zG,zH,zI,zJ,zK,zL,zM,zN,zO,zP,↓reduceIte,reduceCtorEq,Tryz.ntmps83,Tryz.results83,Tryz.ntmps63,Tryz.results63,Tryz.ntmps43,Tryz.results43,Srv.pv,Srv.cells,lq,ldr,r0,rowB,g2,lt,d0,dl,dz])
  | true =>
    have g5 : decide (c = 46) = true ∧ decide (2 < q.length) = false := by
      cases h5 : decide (c = 46) <;> cases h6 : decide (2 < q.length) <;> simp [lenB,g4,h5,h6] at hl ⊢
    obtain ⟨g5,g6⟩ := g5
    have hc : c = 46 := by simpa using g5
    subst hc
    have g7 : decide ((q.length : Int) > 2) = false := by simp at g6; exact decide_eq_false (by omega)
    simp only [go_sem,zA,zB,zC,zD,zE,zF,zG,zH,zI,zJ,zK,zL,zM,zN,zO,zP,↓reduceIte,reduceCtorEq,lq,ldr,r0,rowB,rowsB_length,g3,g4,g7,u3,Tryz.ntmps63,Tryz.results63]
    refine callD_tail (by decide +kernel) (by decide +kernel) ?_
    simp only [go_sem,zA,zB,zC,zD,zE,zF,zG,zH,zI,zJ,zK,zL,zM,zN,zO,zP,↓reduceIte,reduceCtorEq]
    refine CallA.into tabOK mixed Tryz.func86 rfl rfl (by decide +kernel) (by simp [Tryz.ntmps86]) ?_
    simp only [go_sem,zA,zB,zC,zD,zE,zF,zG,zH,zI,zJ,zK,zL,zM,zN,zO,zP,↓reduceIte,reduceCtorEq,Tryz.ntmps86,Tryz.results86]
    refine DefA.of tabOK mixed Tryz.func83 rfl rfl rfl rfl rfl rfl rfl rfl (by decide +kernel) rfl rfl rfl (by simp [Tryz.ntmps83]) (by simp [Tryz.ntmps83]) (by simp [Tryz.ntmps83]) rfl ?_
    simp only [go_sem,zA,zB,zC,zD,zE,zF,zG,zH,zI,zJ,zK,zL,zM,zN,zO,zP,↓reduceIte,reduceCtorEq,Tryz.ntmps83,Tryz.results83,w1,u3]
    (refine CallA.pure (c1) (by simp only [go_sem,zA,zB,zC,zD,zE,zF,zG,zH,zI,zJ,zK,zL,zM,zN,zO,zP,↓reduceIte,reduceCtorEq,Tryz.ntmps83,Tryz.results83,Tryz.ntmps63,Tryz.results63,Tryz.ntmps43,Tryz.results43,Srv.pv,Srv.cells,lq,ldr,r0,rowB,g2,lt,d0,dl,dz] <;> first | rfl | decide) ?_; simp only [go_sem,zA,zB,zC,zD,zE,zF,zG,zH,zI,zJ,zK,zL,zM,zN,zO,zP,↓reduceIte,reduceCtorEq,Tryz.ntmps83,Tryz.results83,Tryz.ntmps63,Tryz.results63,Tryz.ntmps43,Tryz.results43,Srv.pv,Srv.cells,lq,ldr,r0,rowB,g2,lt,d0,dl,dz])
    rfl
theorem len_facts {l : Int} {c : UInt8} {n : Nat} (h : lenB l c n = true) : decide (l = (n : Int)) = true ∨ (decide (l = (n : Int)) = false ∧ decide (l = -1) = true ∧ decide ((c.toNat : Int) = 46) = false) ∨ (decide (l = (n : Int)) = false ∧ decide (l = -1) = true ∧ decide ((c.toNat : Int) = 46) = true ∧ decide ((n : Int) > 2) = true) := by
  cases h1 : decide (l = (n : Int)) with
  | true => exact .inl rfl
  | false =>
    cases h2 : decide (l = -1) with
    | false => simp [lenB,h1,h2] at h
    | true =>
      cases h3 : decide (c = 46) with
      | false =>
        refine .inr (.inl ⟨rfl,rfl,decide_eq_false (fun e => ?_)⟩)
        have : c = 46 := UInt8.toNat_inj.1 (by simp; omega)
        simp [this] at h3
      | true =>
        have hc : c = 46 := by simpa using h3
        subst hc
        refine .inr (.inr ⟨rfl,rfl,rfl,?_⟩)
        cases h4 : decide (2 < n) with
        | true => simp at h4; exact decide_eq_true (by omega)
        | false => simp [lenB,h1,h2,h4] at h
theorem ask_yes {c : UInt8} {q out : List UInt8} {s s' : Srv} {l : Int} {g : Nat} (hf : FindsP c { s with quiet := 0 } q (l,g)) (hl : lenB l c q.length = true) (hd : DoesP g { s with quiet := 0 } q out s') (ho : out.length < 10000000)
    (hc : decide (((c + 64).toNat : Int) = 127) = false) (hn : decide ((c.toNat : Int) = 52) = false ∧ decide ((c.toNat : Int) = 54) = false ∧ decide ((c.toNat : Int) = 55) = false) : PureCalls Tryz.prog 43 [s.pv,bytesPV (c :: q)] (.tup [s'.pv,bytesPV ((c + 64) :: out),PB false]) := by
  obtain ⟨n1,n2,n3⟩ := hn
  have hcc : IntKind.wrap .u8 ((c.toNat : Int) + 64) = ((c + 64).toNat : Int) := by
    rw [IntKind.wrap_u8]; simp
  have r1 : (rowsB ((c + 64) :: out)).getD 0 [] = rowB (c + 64) := rfl
  have ll : (rowsB ((c + 64) :: out)).length = out.length + 1 := by rw [rowsB_length]; rfl
  have lz : (0 : Int) < ((out.length + 1 : Nat) : Int) := by omega
  have lo : (rowsB out).length = out.length := rowsB_length out
  refine PureCalls.of tabOK mixed Tryz.func43 rfl rfl (by decide +kernel) (by simp [Tryz.ntmps43]) ?_
  have lq : (rowsB (c :: q)).length = q.length + 1 := by rw [rowsB_length]; rfl
  have ldr : (rowsB (c :: q)).drop 1 = rowsB q := rfl
  have r0 : (rowsB (c :: q)).getD 0 [] = rowB c := rfl
  have lt : List.take q.length q = q := List.take_length
  have g1 : decide (((q.length + 1 : Nat) : Int) = 0) = false := decide_eq_false (by omega)
  have g2 : (0 : Int) < ((q.length + 1 : Nat) : Int) := by omega
  have w1 : IntKind.wrap .i64 (c.toNat : Int) = (c.toNat : Int) := wrapI64 (by have := c.toNat_lt; omega)
  simp only [go_sem,zA,zB,zC,zD,zE,zF,zG,zH,zI,zJ,zK,zL,zM,zN,zO,zP,↓reduceIte,reduceCtorEq,Tryz.ntmps43,Tryz.results43,Srv.pv,Srv.cells,lq,ldr,r0,rowB,g1,g2,lt]
  refine ⟨by omega,endD_intro (by decide +kernel) ?_⟩
  simp only [go_sem,zA,zB,zC,zD,zE,zF,zG,zH,zI,zJ,zK,zL,zM,zN,zO,zP,↓reduceIte,reduceCtorEq,lq,r0,rowB,g2]
  refine CallA.intoD (g := 83) tabOK mixed Tryz.func63 rfl rfl (by decide +kernel) (by decide +kernel) ⟨_,by rfl,by decide +kernel,by decide +kernel⟩ rfl rfl rfl rfl rfl rfl (by simp [Tryz.ntmps63]) ?_
  simp only [go_sem,zA,zB,zC,zD,zE,zF,zG,zH,zI,zJ,zK,zL,zM,zN,zO,zP,↓reduceIte,reduceCtorEq,Tryz.ntmps63,Tryz.results63,yCa,lt]
  refine hf (b := 7) rfl ?_ ?_
  · simp only [go_sem,zA,zB,zC,zD,zE,zF,zG,zH,zI,zJ,zK,zL,zM,zN,zO,zP,↓reduceIte,reduceCtorEq]
  simp only [go_sem,zA,zB,zC,zD,zE,zF,zG,zH,zI,zJ,zK,zL,zM,zN,zO,zP,↓reduceIte,reduceCtorEq]
  rcases len_facts hl with h1 | ⟨h1,h2,h3⟩ | ⟨h1,h2,h3,h4⟩
  · simp only [go_sem,zA,zB,zC,zD,zE,zF,zG,zH,zI,zJ,zK,zL,zM,zN,zO,zP,↓reduceIte,reduceCtorEq,lq,ldr,r0,rowB,rowsB_length,h1,Tryz.ntmps63,Tryz.results63]
    refine callD_tail (by decide +kernel) (by decide +kernel) ?_
    simp only [go_sem,zA,zB,zC,zD,zE,zF,zG,zH,zI,zJ,zK,zL,zM,zN,zO,zP,↓reduceIte,reduceCtorEq]
    refine CallA.into tabOK mixed Tryz.func86 rfl rfl (by decide +kernel) (by simp [Tryz.ntmps86]) ?_
    simp only [go_sem,zA,zB,zC,zD,zE,zF,zG,zH,zI,zJ,zK,zL,zM,zN,zO,zP,↓reduceIte,reduceCtorEq,Tryz.ntmps86,Tryz.results86,hcc]
    refine callD_eff (hd (b := 7) rfl) ?_
    simp only [go_sem,zA,zB,zC,zD,zE,zF,zG,zH,zI,zJ,zK,zL,zM,zN,zO,zP,↓reduceIte,reduceCtorEq,Tryz.ntmps86,Tryz.results86,hcc,lo,askedCells]
    refine ⟨by omega,endD_intro (by decide +kernel) ?_⟩
    simp only [go_sem,zA,zB,zC,zD,zE,zF,zG,zH,zI,zJ,zK,zL,zM,zN,zO,zP,↓reduceIte,reduceCtorEq,lo]
    refine DefA.of tabOK mixed Tryz.func83 rfl rfl rfl rfl rfl rfl rfl rfl (by decide +kernel) rfl rfl rfl (by simp [Tryz.ntmps83]) (by simp [Tryz.ntmps83]) (by simp [Tryz.ntmps83]) trivial ?_
    simp only [go_sem,zA,zB,zC,zD,zE,zF,zG,zH,zI,zJ,zK,zL,zM,zN,zO,zP,↓reduceIte,reduceCtorEq,Tryz.ntmps83,Tryz.results83,Tryz.ntmps63,Tryz.results63,Tryz.ntmps43,Tryz.results43,Srv.pv,Srv.cells,lq,ldr,r0,rowB,g2,lt,lo,ll,lz,r1,hc,n1,n2,n3,askedCells,Nat.zero_lt_succ]
    rfl
  · simp only [go_sem,zA,zB,zC,zD,zE,zF,zG,zH,zI,zJ,zK,zL,zM,zN,zO,zP,↓reduceIte,reduceCtorEq,lq,ldr,r0,rowB,rowsB_length,h1,h2,h3,Tryz.ntmps63,Tryz.results63]
    refine callD_tail (by decide +kernel) (by decide +kernel) ?_
    simp only [go_sem,zA,zB,zC,zD,zE,zF,zG,zH,zI,zJ,zK,zL,zM,zN,zO,zP,↓reduceIte,reduceCtorEq]
    refine CallA.into tabOK mixed Tryz.func86 rfl rfl (by decide +kernel) (by simp [Tryz.ntmps86]) ?_
    simp only [go_sem,zA,zB,zC,zD,zE,zF,zG,zH,zI,zJ,zK,zL,zM,zN,zO,zP,↓reduceIte,reduceCtorEq,Tryz.ntmps86,Tryz.results86,hcc]
    refine callD_eff (hd (b := 7) rfl) ?_
    simp only [go_sem,zA,zB,zC,zD,zE,zF,zG,zH,zI,zJ,zK,zL,zM,zN,zO,zP,↓reduceIte,reduceCtorEq,Tryz.ntmps86,Tryz.results86,hcc,lo,askedCells]
    refine ⟨by omega,endD_intro (by decide +kernel) ?_⟩
    simp only [go_sem,zA,zB,zC,zD,zE,zF,zG,zH,zI,zJ,zK,zL,zM,zN,zO,zP,↓reduceIte,reduceCtorEq,lo]
    refine DefA.of tabOK mixed Tryz.func83 rfl rfl rfl rfl rfl rfl rfl rfl (by decide +kernel) rfl rfl rfl (by simp [Tryz.ntmps83]) (by simp [Tryz.ntmps83]) (by simp [Tryz.ntmps83]) trivial ?_
    simp only [go_sem,zA,zB,zC,zD,zE,zF,zG,zH,zI,zJ,zK,zL,zM,zN,zO,zP,↓reduceIte,reduceCtorEq,Tryz.ntmps83,Tryz.results83,Tryz.ntmps63,Tryz.results63,Tryz.ntmps43,Tryz.results43,Srv.pv,Srv.cells,lq,ldr,r0,rowB,g2,lt,lo,ll,lz,r1,hc,n1,n2,n3,askedCells,Nat.zero_lt_succ]
    rfl
  · simp only [go_sem,zA,zB,zC,zD,zE,zF,zG,zH,zI,zJ,zK,zL,zM,zN,zO,zP,↓reduceIte,reduceCtorEq,lq,ldr,r0,rowB,rowsB_length,h1,h2,h3,h4,Tryz.ntmps63,Tryz.results63]
    refine callD_tail (by decide +kernel) (by decide +kernel) ?_
    simp only [go_sem,zA,zB,zC,zD,zE,zF,zG,zH,zI,zJ,zK,zL,zM,zN,zO,zP,↓reduceIte,reduceCtorEq]
    refine CallA.into tabOK mixed Tryz.func86 rfl rfl (by decide +kernel) (by simp [Tryz.ntmps86]) ?_
    simp only [go_sem,zA,zB,zC,zD,zE,zF,zG,zH,zI,zJ,zK,zL,zM,zN,zO,zP,↓reduceIte,reduceCtorEq,Tryz.ntmps86,Tryz.results86,hcc]
    refine callD_eff (hd (b := 7) rfl) ?_
    simp only [go_sem,zA,zB,zC,zD,zE,zF,zG,zH,zI,zJ,zK,zL,zM,zN,zO,zP,↓reduceIte,reduceCtorEq,Tryz.ntmps86,Tryz.results86,hcc,lo,askedCells]
    refine ⟨by omega,endD_intro (by decide +kernel) ?_⟩
    simp only [go_sem,zA,zB,zC,zD,zE,zF,zG,zH,zI,zJ,zK,zL,zM,zN,zO,zP,↓reduceIte,reduceCtorEq,lo]
    refine DefA.of tabOK mixed Tryz.func83 rfl rfl rfl rfl rfl rfl rfl rfl (by decide +kernel) rfl rfl rfl (by simp [Tryz.ntmps83]) (by simp [Tryz.ntmps83]) (by simp [Tryz.ntmps83]) trivial ?_
    simp only [go_sem,zA,zB,zC,zD,zE,zF,zG,zH,zI,zJ,zK,zL,zM,zN,zO,zP,↓reduceIte,reduceCtorEq,Tryz.ntmps83,Tryz.results83,Tryz.ntmps63,Tryz.results63,Tryz.ntmps43,Tryz.results43,Srv.pv,Srv.cells,lq,ldr,r0,rowB,g2,lt,lo,ll,lz,r1,hc,n1,n2,n3,askedCells,Nat.zero_lt_succ]
    rfl
theorem ask_hand {c : UInt8} {q out : List UInt8} {s s' : Srv} {l : Int} {g : Nat} (hf : FindsP c { s with quiet := 0 } q (l,g)) (hl : lenB l c q.length = true) (hd : DoesP g { s with quiet := 0 } q out s') (ho : out.length < 10000000)
    (hc : decide (((c + 64).toNat : Int) = 127) = false)
    (hn : decide ((c.toNat : Int) = 52) = true ∨ (decide ((c.toNat : Int) = 52) = false ∧ decide ((c.toNat : Int) = 54) = true) ∨ (decide ((c.toNat : Int) = 52) = false ∧ decide ((c.toNat : Int) = 54) = false ∧ decide ((c.toNat : Int) = 55) = true)) : PureCalls Tryz.prog 43 [s.pv,bytesPV (c :: q)] (.tup [s'.pv,bytesPV [],PB true]) := by
  have hcc : IntKind.wrap .u8 ((c.toNat : Int) + 64) = ((c + 64).toNat : Int) := by
    rw [IntKind.wrap_u8]; simp
  have r1 : (rowsB ((c + 64) :: out)).getD 0 [] = rowB (c + 64) := rfl
  have ll : (rowsB ((c + 64) :: out)).length = out.length + 1 := by rw [rowsB_length]; rfl
  have lz : (0 : Int) < ((out.length + 1 : Nat) : Int) := by omega
  have lo : (rowsB out).length = out.length := rowsB_length out
  refine PureCalls.of tabOK mixed Tryz.func43 rfl rfl (by decide +kernel) (by simp [Tryz.ntmps43]) ?_
  have lq : (rowsB (c :: q)).length = q.length + 1 := by rw [rowsB_length]; rfl
  have ldr : (rowsB (c :: q)).drop 1 = rowsB q := rfl
  have r0 : (rowsB (c :: q)).getD 0 [] = rowB c := rfl
  have lt : List.take q.length q = q := List.take_length
  have g1 : decide (((q.length + 1 : Nat) : Int) = 0) = false := decide_eq_false (by omega)
  have g2 : (0 : Int) < ((q.length + 1 : Nat) : Int) := by omega
  have w1 : IntKind.wrap .i64 (c.toNat : Int) = (c.toNat : Int) := wrapI64 (by have := c.toNat_lt; omega)
  simp only [go_sem,zA,zB,zC,zD,zE,zF,zG,zH,zI,zJ,zK,zL,zM,zN,zO,zP,↓reduceIte,reduceCtorEq,Tryz.ntmps43,Tryz.results43,Srv.pv,Srv.cells,lq,ldr,r0,rowB,g1,g2,lt]
  refine ⟨by omega,endD_intro (by decide +kernel) ?_⟩
  simp only [go_sem,zA,zB,zC,zD,zE,zF,zG,zH,zI,zJ,zK,zL,zM,zN,zO,zP,↓reduceIte,reduceCtorEq,lq,r0,rowB,g2]
  refine CallA.intoD (g := 83) tabOK mixed Tryz.func63 rfl rfl (by decide +kernel) (by decide +kernel) ⟨_,by rfl,by decide +kernel,by decide +kernel⟩ rfl rfl rfl rfl rfl rfl (by simp [Tryz.ntmps63]) ?_
  simp only [go_sem,zA,zB,zC,zD,zE,zF,zG,zH,zI,zJ,zK,zL,zM,zN,zO,zP,↓reduceIte,reduceCtorEq,Tryz.ntmps63,Tryz.results63,yCa,lt]
  refine hf (b := 7) rfl ?_ ?_
  · simp only [go_sem,zA,zB,zC,zD,zE,zF,zG,zH,zI,zJ,zK,zL,zM,zN,zO,zP,↓reduceIte,reduceCtorEq]
  simp only [go_sem,zA,zB,zC,zD,zE,zF,zG,zH,zI,zJ,zK,zL,zM,zN,zO,zP,↓reduceIte,reduceCtorEq]
  rcases len_facts hl with h1 | ⟨h1,h2,h3⟩ | ⟨h1,h2,h3,h4⟩
  · simp only [go_sem,zA,zB,zC,zD,zE,zF,zG,zH,zI,zJ,zK,zL,zM,zN,zO,zP,↓reduceIte,reduceCtorEq,lq,ldr,r0,rowB,rowsB_length,h1,Tryz.ntmps63,Tryz.results63]
    refine callD_tail (by decide +kernel) (by decide +kernel) ?_
    simp only [go_sem,zA,zB,zC,zD,zE,zF,zG,zH,zI,zJ,zK,zL,zM,zN,zO,zP,↓reduceIte,reduceCtorEq]
    refine CallA.into tabOK mixed Tryz.func86 rfl rfl (by decide +kernel) (by simp [Tryz.ntmps86]) ?_
    simp only [go_sem,zA,zB,zC,zD,zE,zF,zG,zH,zI,zJ,zK,zL,zM,zN,zO,zP,↓reduceIte,reduceCtorEq,Tryz.ntmps86,Tryz.results86,hcc]
    refine callD_eff (hd (b := 7) rfl) ?_
    simp only [go_sem,zA,zB,zC,zD,zE,zF,zG,zH,zI,zJ,zK,zL,zM,zN,zO,zP,↓reduceIte,reduceCtorEq,Tryz.ntmps86,Tryz.results86,hcc,lo,askedCells]
    refine ⟨by omega,endD_intro (by decide +kernel) ?_⟩
    simp only [go_sem,zA,zB,zC,zD,zE,zF,zG,zH,zI,zJ,zK,zL,zM,zN,zO,zP,↓reduceIte,reduceCtorEq,lo]
    refine DefA.of tabOK mixed Tryz.func83 rfl rfl rfl rfl rfl rfl rfl rfl (by decide +kernel) rfl rfl rfl (by simp [Tryz.ntmps83]) (by simp [Tryz.ntmps83]) (by simp [Tryz.ntmps83]) trivial ?_
    simp only [go_sem,zA,zB,zC,zD,zE,zF,zG,zH,zI,zJ,zK,zL,zM,zN,zO,zP,↓reduceIte,reduceCtorEq,Tryz.ntmps83,Tryz.results83,Tryz.ntmps63,Tryz.results63,lq,ldr,r0,rowB,g2,lt,lo,ll,lz,r1,hc,askedCells,Nat.zero_lt_succ]
    rcases hn with n1 | ⟨n1,n2⟩ | ⟨n1,n2,n3⟩
    · simp only [go_sem,zA,zB,zC,zD,zE,zF,zG,zH,zI,zJ,zK,zL,zM,zN,zO,zP,↓reduceIte,reduceCtorEq,Tryz.ntmps43,Tryz.results43,Srv.pv,Srv.cells,lq,r0,rowB,g2,n1,askedCells]
    · simp only [go_sem,zA,zB,zC,zD,zE,zF,zG,zH,zI,zJ,zK,zL,zM,zN,zO,zP,↓reduceIte,reduceCtorEq,Tryz.ntmps43,Tryz.results43,Srv.pv,Srv.cells,lq,r0,rowB,g2,n1,n2,askedCells]
    · simp only [go_sem,zA,zB,zC,zD,zE,zF,zG,zH,zI,zJ,zK,zL,zM,zN,zO,zP,↓reduceIte,reduceCtorEq,Tryz.ntmps43,Tryz.results43,Srv.pv,Srv.cells,lq,r0,rowB,g2,n1,n2,n3,askedCells]
  · simp only [go_sem,zA,zB,zC,zD,zE,zF,zG,zH,zI,zJ,zK,zL,zM,zN,zO,zP,↓reduceIte,reduceCtorEq,lq,ldr,r0,rowB,rowsB_length,h1,h2,h3,Tryz.ntmps63,Tryz.results63]
    refine callD_tail (by decide +kernel) (by decide +kernel) ?_
    simp only [go_sem,zA,zB,zC,zD,zE,zF,zG,zH,zI,zJ,zK,zL,zM,zN,zO,zP,↓reduceIte,reduceCtorEq]
    refine CallA.into tabOK mixed Tryz.func86 rfl rfl (by decide +kernel) (by simp [Tryz.ntmps86]) ?_
    simp only [go_sem,zA,zB,zC,zD,zE,zF,zG,zH,zI,zJ,zK,zL,zM,zN,zO,zP,↓reduceIte,reduceCtorEq,Tryz.ntmps86,Tryz.results86,hcc]
    refine callD_eff (hd (b := 7) rfl) ?_
    simp only [go_sem,zA,zB,zC,zD,zE,zF,zG,zH,zI,zJ,zK,zL,zM,zN,zO,zP,↓reduceIte,reduceCtorEq,Tryz.ntmps86,Tryz.results86,hcc,lo,askedCells]
    refine ⟨by omega,endD_intro (by decide +kernel) ?_⟩
    simp only [go_sem,zA,zB,zC,zD,zE,zF,zG,zH,zI,zJ,zK,zL,zM,zN,zO,zP,↓reduceIte,reduceCtorEq,lo]
    refine DefA.of tabOK mixed Tryz.func83 rfl rfl rfl rfl rfl rfl rfl rfl (by decide +kernel) rfl rfl rfl (by simp [Tryz.ntmps83]) (by simp [Tryz.ntmps83]) (by simp [Tryz.ntmps83]) trivial ?_
    simp only [go_sem,zA,zB,zC,zD,zE,zF,zG,zH,zI,zJ,zK,zL,zM,zN,zO,zP,↓reduceIte,reduceCtorEq,Tryz.ntmps83,Tryz.results83,Tryz.ntmps63,Tryz.results63,lq,ldr,r0,rowB,g2,lt,lo,ll,lz,r1,hc,askedCells,Nat.zero_lt_succ]
    rcases hn with n1 | ⟨n1,n2⟩ | ⟨n1,n2,n3⟩
    · simp only [go_sem,zA,zB,zC,zD,zE,zF,zG,zH,zI,zJ,zK,zL,zM,zN,zO,zP,↓reduceIte,reduceCtorEq,Tryz.ntmps43,Tryz.results43,Srv.pv,Srv.cells,lq,r0,rowB,g2,n1,askedCells]
    · simp only [go_sem,zA,zB,zC,zD,zE,zF,zG,zH,zI,zJ,zK,zL,zM,zN,zO,zP,↓reduceIte,reduceCtorEq,Tryz.ntmps43,Tryz.results43,Srv.pv,Srv.cells,lq,r0,rowB,g2,n1,n2,askedCells]
    · simp only [go_sem,zA,zB,zC,zD,zE,zF,zG,zH,zI,zJ,zK,zL,zM,zN,zO,zP,↓reduceIte,reduceCtorEq,Tryz.ntmps43,Tryz.results43,Srv.pv,Srv.cells,lq,r0,rowB,g2,n1,n2,n3,askedCells]
  · simp only [go_sem,zA,zB,zC,zD,zE,zF,zG,zH,zI,zJ,zK,zL,zM,zN,zO,zP,↓reduceIte,reduceCtorEq,lq,ldr,r0,rowB,rowsB_length,h1,h2,h3,h4,Tryz.ntmps63,Tryz.results63]
    refine callD_tail (by decide +kernel) (by decide +kernel) ?_
    simp only [go_sem,zA,zB,zC,zD,zE,zF,zG,zH,zI,zJ,zK,zL,zM,zN,zO,zP,↓reduceIte,reduceCtorEq]
    refine CallA.into tabOK mixed Tryz.func86 rfl rfl (by decide +kernel) (by simp [Tryz.ntmps86]) ?_
    simp only [go_sem,zA,zB,zC,zD,zE,zF,zG,zH,zI,zJ,zK,zL,zM,zN,zO,zP,↓reduceIte,reduceCtorEq,Tryz.ntmps86,Tryz.results86,hcc]
    refine callD_eff (hd (b := 7) rfl) ?_
    simp only [go_sem,zA,zB,zC,zD,zE,zF,zG,zH,zI,zJ,zK,zL,zM,zN,zO,zP,↓reduceIte,reduceCtorEq,Tryz.ntmps86,Tryz.results86,hcc,lo,askedCells]
    refine ⟨by omega,endD_intro (by decide +kernel) ?_⟩
    simp only [go_sem,zA,zB,zC,zD,zE,zF,zG,zH,zI,zJ,zK,zL,zM,zN,zO,zP,↓reduceIte,reduceCtorEq,lo]
    refine DefA.of tabOK mixed Tryz.func83 rfl rfl rfl rfl rfl rfl rfl rfl (by decide +kernel) rfl rfl rfl (by simp [Tryz.ntmps83]) (by simp [Tryz.ntmps83]) (by simp [Tryz.ntmps83]) trivial ?_
    simp only [go_sem,zA,zB,zC,zD,zE,zF,zG,zH,zI,zJ,zK,zL,zM,zN,zO,zP,↓reduceIte,reduceCtorEq,Tryz.ntmps83,Tryz.results83,Tryz.ntmps63,Tryz.results63,lq,ldr,r0,rowB,g2,lt,lo,ll,lz,r1,hc,askedCells,Nat.zero_lt_succ]
    rcases hn with n1 | ⟨n1,n2⟩ | ⟨n1,n2,n3⟩
    · simp only [go_sem,zA,zB,zC,zD,zE,zF,zG,zH,zI,zJ,zK,zL,zM,zN,zO,zP,↓reduceIte,reduceCtorEq,Tryz.ntmps43,Tryz.results43,Srv.pv,Srv.cells,lq,r0,rowB,g2,n1,askedCells]
    · simp only [go_sem,zA,zB,zC,zD,zE,zF,zG,zH,zI,zJ,zK,zL,zM,zN,zO,zP,↓reduceIte,reduceCtorEq,Tryz.ntmps43,Tryz.results43,Srv.pv,Srv.cells,lq,r0,rowB,g2,n1,n2,askedCells]
    · simp only [go_sem,zA,zB,zC,zD,zE,zF,zG,zH,zI,zJ,zK,zL,zM,zN,zO,zP,↓reduceIte,reduceCtorEq,Tryz.ntmps43,Tryz.results43,Srv.pv,Srv.cells,lq,r0,rowB,g2,n1,n2,n3,askedCells]
theorem ask_dno {c : UInt8} {q : List UInt8} {s s' : Srv} {why : Int} {l : Int} {g : Nat} (hf : FindsP c { s with quiet := 0 } q (l,g)) (hl : lenB l c q.length = true) (hd : DoesN g { s with quiet := 0 } q why s') : PureCalls Tryz.prog 43 [s.pv,bytesPV (c :: q)] (.tup [s'.pv,bytesPV (denyV c.toNat why),PB false]) := by
  have hcc : IntKind.wrap .u8 ((c.toNat : Int) + 64) = ((c + 64).toNat : Int) := by
    rw [IntKind.wrap_u8]; simp
  refine PureCalls.of tabOK mixed Tryz.func43 rfl rfl (by decide +kernel) (by simp [Tryz.ntmps43]) ?_
  have lq : (rowsB (c :: q)).length = q.length + 1 := by rw [rowsB_length]; rfl
  have ldr : (rowsB (c :: q)).drop 1 = rowsB q := rfl
  have r0 : (rowsB (c :: q)).getD 0 [] = rowB c := rfl
  have lt : List.take q.length q = q := List.take_length
  have g1 : decide (((q.length + 1 : Nat) : Int) = 0) = false := decide_eq_false (by omega)
  have g2 : (0 : Int) < ((q.length + 1 : Nat) : Int) := by omega
  have w1 : IntKind.wrap .i64 (c.toNat : Int) = (c.toNat : Int) := wrapI64 (by have := c.toNat_lt; omega)
  have d0 : (rowsB (denyV c.toNat why)).getD 0 [] = [PV.lit (.int .u8 127)] := rfl
  have dl : (denyV c.toNat why).length = 3 := rfl
  have dz : (0 : Int) < ((3 : Nat) : Int) := by decide
  have c1 := deny_calls c.toNat why
  simp only [go_sem,zA,zB,zC,zD,zE,zF,zG,zH,zI,zJ,zK,zL,zM,zN,zO,zP,↓reduceIte,reduceCtorEq,Tryz.ntmps43,Tryz.results43,Srv.pv,Srv.cells,lq,ldr,r0,rowB,g1,g2,lt]
  refine ⟨by omega,endD_intro (by decide +kernel) ?_⟩
  simp only [go_sem,zA,zB,zC,zD,zE,zF,zG,zH,zI,zJ,zK,zL,zM,zN,zO,zP,↓reduceIte,reduceCtorEq,lq,r0,rowB,g2]
  refine CallA.intoD (g := 83) tabOK mixed Tryz.func63 rfl rfl (by decide +kernel) (by decide +kernel) ⟨_,by rfl,by decide +kernel,by decide +kernel⟩ rfl rfl rfl rfl rfl rfl (by simp [Tryz.ntmps63]) ?_
  simp only [go_sem,zA,zB,zC,zD,zE,zF,zG,zH,zI,zJ,zK,zL,zM,zN,zO,zP,↓reduceIte,reduceCtorEq,Tryz.ntmps63,Tryz.results63,yCa,lt]
  refine hf (b := 7) rfl ?_ ?_
  · simp only [go_sem,zA,zB,zC,zD,zE,zF,zG,zH,zI,zJ,zK,zL,zM,zN,zO,zP,↓reduceIte,reduceCtorEq]
  simp only [go_sem,zA,zB,zC,zD,zE,zF,zG,zH,zI,zJ,zK,zL,zM,zN,zO,zP,↓reduceIte,reduceCtorEq]
  rcases len_facts hl with h1 | ⟨h1,h2,h3⟩ | ⟨h1,h2,h3,h4⟩
  · simp only [go_sem,zA,zB,zC,zD,zE,zF,zG,zH,zI,zJ,zK,zL,zM,zN,zO,zP,↓reduceIte,reduceCtorEq,lq,ldr,r0,rowB,rowsB_length,h1,Tryz.ntmps63,Tryz.results63]
    refine callD_tail (by decide +kernel) (by decide +kernel) ?_
    simp only [go_sem,zA,zB,zC,zD,zE,zF,zG,zH,zI,zJ,zK,zL,zM,zN,zO,zP,↓reduceIte,reduceCtorEq]
    refine CallA.into tabOK mixed Tryz.func86 rfl rfl (by decide +kernel) (by simp [Tryz.ntmps86]) ?_
    simp only [go_sem,zA,zB,zC,zD,zE,zF,zG,zH,zI,zJ,zK,zL,zM,zN,zO,zP,↓reduceIte,reduceCtorEq,Tryz.ntmps86,Tryz.results86,hcc]
    refine callD_pan ⟨44,[(4,.ptr 10 0)],[(7,askedB s' q),(10,.box 22 [.lit (.slice none 0 0)]),(9,.box 5 [.lit (.int .u8 c.toNat)]),(0,.box 26 (Srv.cells { s with quiet := 0 })),(1,.box 26 [.lit (.int .i64 0),.lit (.bool false),.lit (.int .i64 0),.lit (.int .i64 0),.lit (.int .i64 0),.lit (.int .i64 0),.lit (.int .i64 0),.lit (.slice none 0 0),.im 4 []])],100,11⟩ (hd (b := 7) rfl) rfl (by decide +kernel) (by kernel_rfl) ?_ ?_
    · simp [PanW,lk,addL,refsIn,refsInL,Blk.refsIn,Srv.cells,askedCells,hpF_eq]
    simp only [go_sem,zA,zB,zC,zD,zE,zF,zG,zH,zI,zJ,zK,zL,zM,zN,zO,zP,↓reduceIte,reduceCtorEq,Tryz.ntmps63,Tryz.results63]
    refine DefA.of tabOK mixed Tryz.func83 rfl rfl rfl rfl rfl rfl rfl rfl (by decide +kernel) rfl rfl rfl (by simp [Tryz.ntmps83]) (by simp [Tryz.ntmps83]) (by simp [Tryz.ntmps83]) rfl ?_
    simp only [go_sem,zA,zB,zC,zD,zE,zF,zG,zH,zI,zJ,zK,zL,zM,zN,zO,zP,↓reduceIte,reduceCtorEq,Tryz.ntmps83,Tryz.results83,w1]
    (refine CallA.pure (c1) (by simp only [go_sem,zA,zB,zC,zD,zE,zF,zG,zH,zI,zJ,zK,zL,zM,zN,zO,zP,↓reduceIte,reduceCtorEq,Tryz.ntmps83,Tryz.results83,Tryz.ntmps63,Tryz.results63,Tryz.ntmps43,Tryz.results43,Srv.pv,Srv.cells,lq,ldr,r0,rowB,g2,lt,d0,dl,dz,askedCells] <;> first | rfl | decide) ?_; simp only [go_sem,zA,zB,zC,zD,zE,zF,zG,zH,zI,zJ,zK,zL,zM,zN,zO,zP,↓reduceIte,reduceCtorEq,Tryz.ntmps83,Tryz.results83,Tryz.ntmps63,Tryz.results63,Tryz.ntmps43,Tryz.results43,Srv.pv,Srv.cells,lq,ldr,r0,rowB,g2,lt,d0,dl,dz,askedCells])
  · simp only [go_sem,zA,zB,zC,zD,zE,zF,zG,zH,zI,zJ,zK,zL,zM,zN,zO,zP,↓reduceIte,reduceCtorEq,lq,ldr,r0,rowB,rowsB_length,h1,h2,h3,Tryz.ntmps63,Tryz.results63]
    refine callD_tail (by decide +kernel) (by decide +kernel) ?_
    simp only [go_sem,zA,zB,zC,zD,zE,zF,zG,zH,zI,zJ,zK,zL,zM,zN,zO,zP,↓reduceIte,reduceCtorEq]
    refine CallA.into tabOK mixed Tryz.func86 rfl rfl (by decide +kernel) (by simp [Tryz.ntmps86]) ?_
    simp only [go_sem,zA,zB,zC,zD,zE,zF,zG,zH,zI,zJ,zK,zL,zM,zN,zO,zP,↓reduceIte,reduceCtorEq,Tryz.ntmps86,Tryz.results86,hcc]
    refine callD_pan ⟨44,[(4,.ptr 10 0)],[(7,askedB s' q),(10,.box 22 [.lit (.slice none 0 0)]),(9,.box 5 [.lit (.int .u8 c.toNat)]),(0,.box 26 (Srv.cells { s with quiet := 0 })),(1,.box 26 [.lit (.int .i64 0),.lit (.bool false),.lit (.int .i64 0),.lit (.int .i64 0),.lit (.int .i64 0),.lit (.int .i64 0),.lit (.int .i64 0),.lit (.slice none 0 0),.im 4 []])],100,11⟩ (hd (b := 7) rfl) rfl (by decide +kernel) (by kernel_rfl) ?_ ?_
    · simp [PanW,lk,addL,refsIn,refsInL,Blk.refsIn,Srv.cells,askedCells,hpF_eq]
    simp only [go_sem,zA,zB,zC,zD,zE,zF,zG,zH,zI,zJ,zK,zL,zM,zN,zO,zP,↓reduceIte,reduceCtorEq,Tryz.ntmps63,Tryz.results63]
    refine DefA.of tabOK mixed Tryz.func83 rfl rfl rfl rfl rfl rfl rfl rfl (by decide +kernel) rfl rfl rfl (by simp [Tryz.ntmps83]) (by simp [Tryz.ntmps83]) (by simp [Tryz.ntmps83]) rfl ?_
    simp only [go_sem,zA,zB,zC,zD,zE,zF,zG,zH,zI,zJ,zK,zL,zM,zN,zO,zP,↓reduceIte,reduceCtorEq,Tryz.ntmps83,Tryz.results83,w1]
    (refine CallA.pure (c1) (by simp only [go_sem,zA,zB,zC,zD,zE,zF,zG,zH,zI,zJ,zK,zL,zM,zN,zO,zP,↓reduceIte,reduceCtorEq,Tryz.ntmps83,Tryz.results83,Tryz.ntmps63,Tryz.results63,Tryz.ntmps43,Tryz.results43,Srv.pv,Srv.cells,lq,ldr,r0,rowB,g2,lt,d0,dl,dz,askedCells] <;> first | rfl | decide) ?_; simp only [go_sem,zA,zB,zC,zD,zE,zF,zG,zH,zI,zJ,zK,zL,zM,zN,zO,zP,↓reduceIte,reduceCtorEq,Tryz.ntmps83,Tryz.results83,Tryz.ntmps63,Tryz.results63,Tryz.ntmps43,Tryz.results43,Srv.pv,Srv.cells,lq,ldr,r0,rowB,g2,lt,d0,dl,dz,askedCells])
  · simp only [go_sem,zA,zB,zC,zD,zE,zF,zG,zH,zI,zJ,zK,zL,zM,zN,zO,zP,↓reduceIte,reduceCtorEq,lq,ldr,r0,rowB,rowsB_length,h1,h2,h3,h4,Tryz.ntmps63,Tryz.results63]
    refine callD_tail (by decide +kernel) (by decide +kernel) ?_
    simp only [go_sem,zA,zB,zC,zD,zE,zF,zG,zH,zI,zJ,zK,zL,zM,zN,zO,zP,↓reduceIte,reduceCtorEq]
    refine CallA.into tabOK mixed Tryz.func86 rfl rfl (by decide +kernel) (by simp [Tryz.ntmps86]) ?_
    simp only [go_sem,zA,zB,zC,zD,zE,zF,zG,zH,zI,zJ,zK,zL,zM,zN,zO,zP,↓reduceIte,reduceCtorEq,Tryz.ntmps86,Tryz.results86,hcc]
    refine callD_pan ⟨44,[(4,.ptr 10 0)],[(7,askedB s' q),(10,.box 22 [.lit (.slice none 0 0)]),(9,.box 5 [.lit (.int .u8 c.toNat)]),(0,.box 26 (Srv.cells { s with quiet := 0 })),(1,.box 26 [.lit (.int .i64 0),.lit (.bool false),.lit (.int .i64 0),.lit (.int .i64 0),.lit (.int .i64 0),.lit (.int .i64 0),.lit (.int .i64 0),.lit (.slice none 0 0),.im 4 []])],100,11⟩ (hd (b := 7) rfl) rfl (by decide +kernel) (by kernel_rfl) ?_ ?_
    · simp [PanW,lk,addL,refsIn,refsInL,Blk.refsIn,Srv.cells,askedCells,hpF_eq]
    simp only [go_sem,zA,zB,zC,zD,zE,zF,zG,zH,zI,zJ,zK,zL,zM,zN,zO,zP,↓reduceIte,reduceCtorEq,Tryz.ntmps63,Tryz.results63]
    refine DefA.of tabOK mixed Tryz.func83 rfl rfl rfl rfl rfl rfl rfl rfl (by decide +kernel) rfl rfl rfl (by simp [Tryz.ntmps83]) (by simp [Tryz.ntmps83]) (by simp [Tryz.ntmps83]) rfl ?_
    simp only [go_sem,zA,zB,zC,zD,zE,zF,zG,zH,zI,zJ,zK,zL,zM,zN,zO,zP,↓reduceIte,reduceCtorEq,Tryz.ntmps83,Tryz.results83,w1]
    (refine CallA.pure (c1) (by simp only [go_sem,zA,zB,zC,zD,zE,zF,zG,zH,zI,zJ,zK,zL,zM,zN,zO,zP,↓reduceIte,reduceCtorEq,Tryz.ntmps83,Tryz.results83,Tryz.ntmps63,Tryz.results63,Tryz.ntmps43,Tryz.results43,Srv.pv,Srv.cells,lq,ldr,r0,rowB,g2,lt,d0,dl,dz,askedCells] <;> first | rfl | decide) ?_; simp only [go_sem,zA,zB,zC,zD,zE,zF,zG,zH,zI,zJ,zK,zL,zM,zN,zO,zP,↓reduceIte,reduceCtorEq,Tryz.ntmps83,Tryz.results83,Tryz.ntmps63,Tryz.results63,Tryz.ntmps43,Tryz.results43,Srv.pv,Srv.cells,lq,ldr,r0,rowB,g2,lt,d0,dl,dz,askedCells])
end Go.Proofs.YtcdmhigmgpflbaaGreat.Pe
namespace Go.Proofs.YtcdmhigmgpflbaaGreat.Pe
open Go.Pe Go.RowKit
abbrev AskR : Type := Srv × List UInt8 × Bool
def denyA (s : Srv) (c : UInt8) (why : Int) : AskR := (s,denyV c.toNat why,false)
def yesA (s : Srv) (c : UInt8) (out : List UInt8) : AskR := (s,(c + 64) :: out,false)
def sesA (s : Srv) : List UInt8 → AskR
  | [n] => if sesOK n = true then yesA { s with ses := n.toNat,op := false,seed := -1 } 0x10 [n] else denyA s 0x10 0x31
  | _ => denyA s 0x10 0x13
def seedA (s : Srv) : AskR :=
  if ¬ s.wrong ≤ 2 then denyA s 0x27 0x36 else if s.ses = 1 then denyA s 0x27 0x22 else if s.op = true then yesA s 0x27 [1,0,0,0,0]
  else yesA { s with seed := s.draw,draw := nextDraw s.draw } 0x27 (1 :: fourV s.draw)
def keyA (s : Srv) (k : List UInt8) : AskR :=
  if ¬ s.wrong ≤ 2 then denyA s 0x27 0x36 else if s.ses = 1 then denyA s 0x27 0x22 else if ¬ s.seed ≥ 0 then denyA s 0x27 0x22
  else if k = fourV (keyV s.seed s.sec) then yesA { s with op := true,seed := -1,wrong := 0 } 0x27 [2] else denyA (wrongA s) 0x27 0x35
def unlA (s : Srv) : List UInt8 → AskR
  | [] => denyA s 0x27 0x13
  | k :: r => if k = 1 then (if r = [] then seedA s else denyA s 0x27 0x13) else if k = 2 then (if r.length = 4 then keyA s r else denyA s 0x27 0x13) else denyA s 0x27 0x31
def readA (s : Srv) : List UInt8 → AskR
  | [a,b] => match findV s.items (idV a b) false with
    | some i => yesA s 0x22 (a :: b :: (s.items.getD i itmZ).data)
    | none => denyA s 0x22 0x31
  | _ => denyA s 0x22 0x13
def writeA (s : Srv) : List UInt8 → AskR
  | a :: b :: d => if d = [] then denyA s 0x2E 0x13 else if s.ses = 1 then denyA s 0x2E 0x22 else if s.op = false then denyA s 0x2E 0x33 else match findV s.items (idV a b) true with
    | some i => if d.length = (s.items.getD i itmZ).data.length then yesA { s with items := s.items.set i { s.items.getD i itmZ with data := d } } 0x2E [a,b] else denyA s 0x2E 0x13
    | none => denyA s 0x2E 0x31
  | _ => denyA s 0x2E 0x13
def forgetA (s : Srv) : List UInt8 → AskR
  | [] => if s.ses = 2 then yesA { s with dtc := [] } 0x14 [] else denyA s 0x14 0x22
  | _ => denyA s 0x14 0x13
def maskA (s : Srv) : List UInt8 → AskR
  | [m] => yesA s 0x19 (m :: packV m.toNat s.dtc)
  | _ => denyA s 0x19 0x13
def hereA (s : Srv) : List UInt8 → AskR
  | [] => yesA s 0x3E []
  | _ => denyA s 0x3E 0x13
def handA (s : Srv) (c : UInt8) : AskR := if ¬ s.ses = 3 then denyA s c 0x22 else if s.op = false then denyA s c 0x33 else (s,[],true)
def askV (s0 : Srv) : List UInt8 → AskR
  | [] => (s0,[],false)
  | c :: r =>
    let s : Srv := { s0 with quiet := 0 }
    if c = 0x10 then sesA s r else if c = 0x27 then unlA s r else if c = 0x22 then readA s r else if c = 0x2E then writeA s r else if c = 0x14 then forgetA s r
    else if c = 0x19 then maskA s r else if c = 0x3E then hereA s r else if c = 0x34 ∨ c = 0x36 ∨ c = 0x37 then handA s c else denyA s c 0x11
abbrev AskR.pv (r : AskR) : PV := .tup [r.1.pv,bytesPV r.2.1,PB r.2.2]
structure Srv.fits (s : Srv) : Prop where
  items : s.items.length < 1000000
  data : ∀ x ∈ s.items,x.data.length < 1000000
  dtc : s.dtc.length < 1000000
  wrong : 0 ≤ s.wrong
theorem ask_nil (s : Srv) : PureCalls Tryz.prog 43 [s.pv,bytesPV []] (.tup [s.pv,bytesPV [],PB false]) := by
  refine PureCalls.of tabOK mixed Tryz.func43 rfl rfl (by decide +kernel) (by simp [Tryz.ntmps43]) ?_
  have z : decide (((0 : Nat) : Int) = 0) = true := rfl
  simp only [go_sem,zA,zB,zC,zD,zE,zF,zG,zH,zI,zJ,zK,zL,zM,zN,zO,zP,↓reduceIte,reduceCtorEq,Tryz.ntmps43,Tryz.results43,Srv.pv,Srv.cells,rowsB,List.map_nil,yCb,z]
theorem pack_lt {l : List Trb} (m : Int) (h : l.length < 1000000) : (packV m l).length < 4000000 := by
  rw [packV,packL_len]; have := listV_len m l; omega
theorem foot1 (b : Nat) : b ∈ footL [.ptr b 0] := by simp [footL,ptrsOf,deepL,deepB]
section
variable {s t : Srv}
theorem ask_svc {c : UInt8} {l : Int} {g : Nat} {r : List UInt8} (h : svcOf c = some (l,g)) : FindsP c t r (l,g) := fun _ _ _ _ _ e1 hx hK => find_at h e1 hx hK
theorem askN {c : UInt8} {q : List UInt8} {why : Int} (ht : { s with quiet := 0 } = t) (hf : FindsN c t q why) : PureCalls Tryz.prog 43 [s.pv,bytesPV (c :: q)] (denyA t c why).pv := by subst ht; exact ask_no hf
theorem askL {c : UInt8} {q : List UInt8} {l : Int} {g : Nat} (ht : { s with quiet := 0 } = t) (hf : FindsP c t q (l,g)) (hl : lenB l c q.length = false) : PureCalls Tryz.prog 43 [s.pv,bytesPV (c :: q)] (denyA t c 0x13).pv := by subst ht; exact ask_len hf hl
theorem askY {c : UInt8} {q out : List UInt8} {s' : Srv} {l : Int} {g : Nat} (ht : { s with quiet := 0 } = t) (hf : FindsP c t q (l,g)) (hl : lenB l c q.length = true) (hd : DoesP g t q out s') (ho : out.length < 10000000)
    (hc : decide (((c + 64).toNat : Int) = 127) = false) (hn : decide ((c.toNat : Int) = 52) = false ∧ decide ((c.toNat : Int) = 54) = false ∧ decide ((c.toNat : Int) = 55) = false) : PureCalls Tryz.prog 43 [s.pv,bytesPV (c :: q)] (yesA s' c out).pv := by subst ht; exact ask_yes hf hl hd ho hc hn
theorem askD {c : UInt8} {q : List UInt8} {s' : Srv} {why : Int} {l : Int} {g : Nat} (ht : { s with quiet := 0 } = t) (hf : FindsP c t q (l,g)) (hl : lenB l c q.length = true) (hd : DoesN g t q why s') : PureCalls Tryz.prog 43 [s.pv,bytesPV (c :: q)] (denyA s' c why).pv := by subst ht; exact ask_dno hf hl hd
theorem ask_ses (ht : { s with quiet := 0 } = t) (r : List UInt8) : PureCalls Tryz.prog 43 [s.pv,bytesPV (0x10 :: r)] (sesA t r).pv := by
  have hf : ∀ r,FindsP 0x10 t r (1,119) := fun r => ask_svc rfl
  match r with
  | [] => exact askL ht (hf _) rfl
  | [n] =>
    simp only [sesA]
    cases hn : sesOK n with
    | true => rw [if_pos rfl]; exact askY ht (hf _) rfl (fun _ _ hb => ses_eff hb hn) (by simp) (by decide) ⟨by decide,by decide,by decide⟩
    | false => rw [if_neg (by decide)]; exact askD ht (hf _) rfl (fun _ _ hb => PanCalls.keep (ses_pan hb hn) (foot1 _) hb)
  | n :: m :: r => exact askL ht (hf _) (by simp [lenB]; omega)
theorem ask_forget (ht : { s with quiet := 0 } = t) (r : List UInt8) : PureCalls Tryz.prog 43 [s.pv,bytesPV (0x14 :: r)] (forgetA t r).pv := by
  have hf : ∀ r,FindsP 0x14 t r (0,122) := fun r => ask_svc rfl
  match r with
  | [] =>
    simp only [forgetA]
    by_cases h : t.ses = 2
    · rw [if_pos h]; exact askY ht (hf _) rfl (fun _ _ hb => forget_eff hb (decide_eq_true h)) (by simp) (by decide) ⟨by decide,by decide,by decide⟩
    · rw [if_neg h]; exact askD ht (hf _) rfl (fun _ _ hb => PanCalls.keep (forget_pan hb (decide_eq_false h)) (foot1 _) hb)
  | m :: r => exact askL ht (hf _) (by simp [lenB]; omega)
theorem ask_mask (ht : { s with quiet := 0 } = t) (r : List UInt8) (hd : t.dtc.length < 1000000) : PureCalls Tryz.prog 43 [s.pv,bytesPV (0x19 :: r)] (maskA t r).pv := by
  have hf : ∀ r,FindsP 0x19 t r (1,124) := fun r => ask_svc rfl
  match r with
  | [] => exact askL ht (hf _) rfl
  | [m] => exact askY ht (hf _) rfl (fun _ _ hb => EffCalls.keep (mask_eff hb hd) (foot1 _) hb) (by have := pack_lt m.toNat hd; simp only [yBa]; omega) (by decide) ⟨by decide,by decide,by decide⟩
  | n :: m :: r => exact askL ht (hf _) (by simp [lenB]; omega)
theorem ask_here (ht : { s with quiet := 0 } = t) (r : List UInt8) : PureCalls Tryz.prog 43 [s.pv,bytesPV (0x3E :: r)] (hereA t r).pv := by
  have hf : ∀ r,FindsP 0x3E t r (0,126) := fun r => ask_svc rfl
  match r with
  | [] => exact askY ht (hf _) rfl (fun _ _ hb => EffCalls.keep (here_eff hb) (foot1 _) hb) (by simp) (by decide) ⟨by decide,by decide,by decide⟩
  | m :: r => exact askL ht (hf _) (by simp [lenB]; omega)
theorem ask_handA (ht : { s with quiet := 0 } = t) {c : UInt8} (r : List UInt8) (hc : c = 0x34 ∨ c = 0x36 ∨ c = 0x37) : PureCalls Tryz.prog 43 [s.pv,bytesPV (c :: r)] (handA t c).pv := by
  have hf : FindsP c t r (-1,118) := ask_svc (by rcases hc with rfl | rfl | rfl <;> rfl)
  have hl : lenB (-1) c r.length = true := by rcases hc with rfl | rfl | rfl <;> simp [lenB]
  unfold handA
  by_cases h : t.ses = 3
  rotate_left 1
  · rw [if_pos h]; exact askD ht hf hl (fun _ _ hb => PanCalls.keep (hand_pan22 hb (decide_eq_false h)) (foot1 _) hb)
  rw [if_neg (fun k => k h)]
  cases ho : t.op with
  | false => rw [if_pos rfl]; exact askD ht hf hl (fun _ _ hb => PanCalls.keep (hand_pan33 hb (decide_eq_true h) ho) (foot1 _) hb)
  | true =>
    rw [if_neg (by decide)]
    have hd : DoesP 118 t r [] t := fun _ _ hb => EffCalls.keep (hand_eff hb (decide_eq_true h) ho) (foot1 _) hb
    subst ht
    exact ask_hand hf hl hd (by simp) (by rcases hc with rfl | rfl | rfl <;> decide) (by rcases hc with rfl | rfl | rfl <;> decide)
theorem seedA_calls (ht : { s with quiet := 0 } = t) : PureCalls Tryz.prog 43 [s.pv,bytesPV [0x27,1]] (seedA t).pv := by
  have hf : FindsP 0x27 t [1] (1,110) := fun _ _ _ _ _ e1 hx hK => find_unl (.inl ⟨rfl,rfl⟩) e1 hx hK
  unfold seedA
  by_cases hw : t.wrong ≤ 2
  rotate_left 1
  · rw [if_pos hw]; exact askD ht hf rfl (fun _ _ hb => PanCalls.keep (seed_pan36 hb (decide_eq_false hw)) (foot1 _) hb)
  rw [if_neg (fun k => k hw)]
  by_cases hs : t.ses = 1
  · rw [if_pos hs]; exact askD ht hf rfl (fun _ _ hb => PanCalls.keep (seed_pan22 hb (decide_eq_true hw) (decide_eq_true hs)) (foot1 _) hb)
  rw [if_neg hs]
  cases ho : t.op with
  | true => rw [if_pos rfl]; exact askY ht hf rfl (fun _ _ hb => EffCalls.keep (seed_open hb (decide_eq_true hw) (decide_eq_false hs) ho) (foot1 _) hb) (by simp) (by decide) ⟨by decide,by decide,by decide⟩
  | false => rw [if_neg (by decide)]; exact askY ht hf rfl (fun _ _ hb => by have h9 := seed_eff hb (decide_eq_true hw) (decide_eq_false hs) ho; rw [ho] at h9; exact h9) (by simp [fourV_len]) (by decide) ⟨by decide,by decide,by decide⟩
theorem keyA_calls (ht : { s with quiet := 0 } = t) (k : List UInt8) (hk : k.length = 4) (hw0 : 0 ≤ t.wrong) : PureCalls Tryz.prog 43 [s.pv,bytesPV (0x27 :: 2 :: k)] (keyA t k).pv := by
  have hf : FindsP 0x27 t (2 :: k) (5,111) := fun _ _ _ _ _ e1 hx hK => find_unl (.inr ⟨rfl,rfl⟩) e1 hx hK
  have hl : lenB 5 0x27 (2 :: k).length = true := by simp [lenB,hk]
  unfold keyA
  by_cases hw : t.wrong ≤ 2
  rotate_left 1
  · rw [if_pos hw]; exact askD ht hf hl (fun _ _ hb => PanCalls.keep (key_pan36 hb (decide_eq_false hw)) (foot1 _) hb)
  rw [if_neg (fun k => k hw)]
  by_cases hs : t.ses = 1
  · rw [if_pos hs]; exact askD ht hf hl (fun _ _ hb => PanCalls.keep (key_pan22 hb (decide_eq_true hw) (.inl (decide_eq_true hs))) (foot1 _) hb)
  rw [if_neg hs]
  by_cases hsd : t.seed ≥ 0
  rotate_left 1
  · rw [if_pos hsd]; exact askD ht hf hl (fun _ _ hb => PanCalls.keep (key_pan22 hb (decide_eq_true hw) (.inr (decide_eq_false hsd))) (foot1 _) hb)
  rw [if_neg (fun k => k hsd)]
  by_cases he : k = fourV (keyV t.seed t.sec)
  · rw [if_pos he]; exact askY ht hf hl (fun _ _ hb => key_eff hb hk (decide_eq_true hw) (decide_eq_false hs) (decide_eq_true hsd) (decide_eq_true he)) (by simp) (by decide) ⟨by decide,by decide,by decide⟩
  · rw [if_neg he]; exact askD ht hf hl (fun _ _ hb => key_pan35 hb hk hw0 (decide_eq_true hw) (decide_eq_false hs) (decide_eq_true hsd) (decide_eq_false he))
theorem ask_unl (ht : { s with quiet := 0 } = t) (r : List UInt8) (hw0 : 0 ≤ t.wrong) : PureCalls Tryz.prog 43 [s.pv,bytesPV (0x27 :: r)] (unlA t r).pv := by
  match r with
  | [] => exact askN ht (fun _ _ _ _ _ e1 hx hK => find_unl13 e1 hx hK)
  | k :: r =>
    simp only [unlA]
    by_cases h1 : k = 1
    · subst h1
      rw [if_pos rfl]
      by_cases hr : r = []
      · subst hr; rw [if_pos rfl]; exact seedA_calls ht
      · rw [if_neg hr]
        have hl : r.length ≠ 0 := fun e => hr (List.eq_nil_of_length_eq_zero e)
        exact askL ht (fun _ _ _ _ _ e1 hx hK => find_unl (.inl ⟨rfl,rfl⟩) e1 hx hK) (by simp [lenB]; omega)
    rw [if_neg h1]
    by_cases h2 : k = 2
    · subst h2
      rw [if_pos rfl]
      by_cases hr : r.length = 4
      · rw [if_pos hr]; exact keyA_calls ht r hr hw0
      · rw [if_neg hr]
        exact askL ht (fun _ _ _ _ _ e1 hx hK => find_unl (.inr ⟨rfl,rfl⟩) e1 hx hK) (by simp [lenB]; omega)
    rw [if_neg h2]
    exact askN ht (fun _ _ _ _ _ e1 hx hK => find_unl31 h1 h2 e1 hx hK)
theorem ask_read (ht : { s with quiet := 0 } = t) (r : List UInt8) (hi : t.items.length < 1000000) (hd : ∀ x ∈ t.items,x.data.length < 1000000) : PureCalls Tryz.prog 43 [s.pv,bytesPV (0x22 :: r)] (readA t r).pv := by
  have hf : ∀ r,FindsP 0x22 t r (2,120) := fun r => ask_svc rfl
  match r with
  | [] => exact askL ht (hf _) rfl
  | [_] => exact askL ht (hf _) rfl
  | [a,b] =>
    simp only [readA]
    cases hfd : findV t.items (idV a b) false with
    | none => dsimp only; exact askD ht (hf _) rfl (fun _ _ hb => PanCalls.keep (read_pan hb hi hfd) (foot1 _) hb)
    | some i =>
      dsimp only
      have hlt := find_lt hfd
      have hdl : (t.items.getD i itmZ).data.length < 1000000 := by rw [itm_getD hlt]; exact hd _ (List.getElem_mem _)
      exact askY ht (hf _) rfl (fun _ _ hb => EffCalls.keep (read_eff hb hi hfd hdl) (foot1 _) hb) (by simp only [yBa]; omega) (by decide) ⟨by decide,by decide,by decide⟩
  | a :: b :: c :: r => exact askL ht (hf _) (by simp [lenB]; omega)
theorem ask_write (ht : { s with quiet := 0 } = t) (r : List UInt8) (hi : t.items.length < 1000000) (hd : ∀ x ∈ t.items,x.data.length < 1000000) : PureCalls Tryz.prog 43 [s.pv,bytesPV (0x2E :: r)] (writeA t r).pv := by
  have hf : ∀ r,FindsP 0x2E t r (-1,121) := fun r => ask_svc rfl
  match r with
  | [] => exact askL ht (hf _) rfl
  | [_] => exact askL ht (hf _) rfl
  | a :: b :: d =>
    simp only [writeA]
    by_cases hdn : d = []
    · subst hdn; rw [if_pos rfl]; exact askL ht (hf _) rfl
    rw [if_neg hdn]
    have hl : lenB (-1) 0x2E (a :: b :: d).length = true := by
      have hl : d.length ≠ 0 := fun e => hdn (List.eq_nil_of_length_eq_zero e)
      simp [lenB]; omega
    by_cases hs : t.ses = 1
    · rw [if_pos hs]; exact askD ht (hf _) hl (fun _ _ hb => PanCalls.keep (write_pan22 hb (decide_eq_true hs)) (foot1 _) hb)
    rw [if_neg hs]
    cases ho : t.op with
    | false => rw [if_pos rfl]; exact askD ht (hf _) hl (fun _ _ hb => PanCalls.keep (write_pan33 hb (decide_eq_false hs) ho) (foot1 _) hb)
    | true =>
    rw [if_neg (by decide)]
    cases hfd : findV t.items (idV a b) true with
    | none => dsimp only; exact askD ht (hf _) hl (fun _ _ hb => PanCalls.keep (write_pan31 hb (decide_eq_false hs) ho hi hfd) (foot1 _) hb)
    | some i =>
      dsimp only
      have hlt := find_lt hfd
      have hdl : (t.items.getD i itmZ).data.length < 1000000 := by rw [itm_getD hlt]; exact hd _ (List.getElem_mem _)
      by_cases hq : d.length = (t.items.getD i itmZ).data.length
      · simp only [if_pos hq]
        exact askY ht (hf _) hl (fun _ _ hb => by have h9 := write_eff hb (decide_eq_false hs) ho hi hfd (decide_eq_true hq) (by omega); rw [ho] at h9; exact h9) (by simp) (by decide) ⟨by decide,by decide,by decide⟩
      · simp only [if_neg hq]
        exact askD ht (hf _) hl (fun _ _ hb => PanCalls.keep (write_pan13 hb (decide_eq_false hs) ho hi hfd (decide_eq_false hq)) (foot1 _) hb)
theorem ask_calls (s : Srv) (q : List UInt8) (h : s.fits) : PureCalls Tryz.prog 43 [s.pv,bytesPV q] (askV s q).pv := by
  match q with
  | [] => exact ask_nil s
  | c :: r =>
    have g : ∀ t,{ s with quiet := 0 } = t → PureCalls Tryz.prog 43 [s.pv,bytesPV (c :: r)] (AskR.pv (if c = 0x10 then sesA t r else if c = 0x27 then unlA t r else if c = 0x22 then readA t r else if c = 0x2E then writeA t r else if c = 0x14 then forgetA t r
        else if c = 0x19 then maskA t r else if c = 0x3E then hereA t r else if c = 0x34 ∨ c = 0x36 ∨ c = 0x37 then handA t c else denyA t c 0x11)) := by
      intro t ht
      have hw0 : 0 ≤ t.wrong := by rw [← ht]; exact h.wrong
      have hi : t.items.length < 1000000 := by rw [← ht]; exact h.items
      have hd : ∀ x ∈ t.items,x.data.length < 1000000 := by rw [← ht]; exact h.data
      have hdt : t.dtc.length < 1000000 := by rw [← ht]; exact h.dtc
      split
      · rename_i e; subst e; exact ask_ses ht r
      split
      · rename_i e; subst e; exact ask_unl ht r hw0
      split
      · rename_i e; subst e; exact ask_read ht r hi hd
      split
      · rename_i e; subst e; exact ask_write ht r hi hd
      split
      · rename_i e; subst e; exact ask_forget ht r
      split
      · rename_i e; subst e; exact ask_mask ht r hdt
      split
      · rename_i e; subst e; exact ask_here ht r
      split
      · rename_i e; exact ask_handA ht r e
      · rename_i h1 h2 h3 h4 h5 h6 h7 h8
        have hn : svcOf c = none := by simp only [svcOf,h1,h3,h4,h5,h6,h7,h8,if_false]
        exact askN ht (fun _ _ _ _ _ e1 hx hK => find_none hn h2 e1 hx hK)
    exact g _ rfl
end
end Go.Proofs.YtcdmhigmgpflbaaGreat.Pe
