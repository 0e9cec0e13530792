import Derived.Test.YtcdmhigmgpflbaaGreatDI3
import Derived.Test.YtcdmhigmgpflbaaGreatPeU
set_option maxRecDepth 20000
set_option maxHeartbeats 4000000
set_option linter.unusedSimpArgs false
set_option linter.unusedVariables false
open Nat renaming reduceAdd → zA,reduceSub → zB,reduceMul → zC,reduceLT → zD,reduceLeDiff → zE,reduceEqDiff → zF,reduceBEq → zG,add_lt_add_iff_left → yAa,add_left_cancel_iff → yAb,left_eq_add → yAc,add_eq_left → yAd,le_add_right → yAe,add_assoc → yAf,lt_irrefl → yAg
open Int renaming reduceToNat → zH,reduceLT → zI,reduceLE → zJ,reduceEq → zK,reduceNe → zL,reduceAdd → zM,reduceSub → zN,reduceMul → zO,reduceNeg → zP,toNat_natCast → yCa,natCast_zero → yCb
namespace Go.Proofs.YtcdmhigmgpflbaaGreat.Pe
open Go.Pe Go.RowKit
def askedCells (s : Srv) (q : List UInt8) : List PV := [PI s.ses,PB s.op,PI s.seed,PI s.wrong,PI s.quiet,PI s.draw,PI s.sec,itmsPV s.items,trbsPV s.dtc,bytesPV q]
abbrev askedB (s : Srv) (q : List UInt8) : Blk := .box 88 (askedCells s q)
abbrev refPV (why : Int) : PV := .iface 125 (PI why)
theorem lk_freshK {nx : Nat} {hp : List (Nat × Blk)} (h : ∀ x ∈ hp,x.1 < nx) (k : Nat) : lk (nx + k) hp = none := by
  cases hq : lk (nx + k) hp with
  | none => rfl
  | some x => have := lk_lt h hq; omega
theorem lk_fresh0 {nx : Nat} {hp : List (Nat × Blk)} (h : ∀ x ∈ hp,x.1 < nx) : lk nx hp = none := lk_freshK h 0
theorem ltNe {b nx : Nat} (h : b < nx) (k : Nat) : (b = nx + k) = False := eq_false (by omega)
theorem ltNe0 {b nx : Nat} (h : b < nx) : (b = nx) = False := eq_false (by omega)
theorem gtNe {b nx : Nat} (h : b < nx) (k : Nat) : (nx + k = b) = False := eq_false (by omega)
theorem gtNe0 {b nx : Nat} (h : b < nx) : (nx = b) = False := eq_false (by omega)
theorem allK {nx : Nat} {hp : List (Nat × Blk)} (h : ∀ x ∈ hp,x.1 < nx) (k : Nat) : (∀ x ∈ hp,x.1 < nx + k) = True := eq_true fun x hx => Nat.lt_of_lt_of_le (h x hx) (yAe _ _)
theorem ltK {b nx : Nat} (h : b < nx) (k : Nat) : (b < nx + k) = True := eq_true (by omega)
theorem ltSelfK {nx k : Nat} : (nx < nx + (k + 1)) = True := eq_true (by omega)
theorem effOK_nil {args : List PV} {H0 : Heap} : EffOK args H0 [] := fun e he => by cases he
theorem effOK_one {b : Nat} {H0 : Heap} {s s' : Srv} {q q' : List UInt8} (h : H0 b = some (askedB s q)) : EffOK [.ptr b 0] H0 [(b,askedB s' q')] := by
  intro e he
  simp only [List.mem_singleton] at he
  subst he
  exact ⟨by simp [footL,ptrsOf,deepL,deepB],by rw [h]; rfl,rfl⟩
theorem foot_one {b : Nat} {H0 : Heap} {hp : List (Nat × Blk)} (h : ∀ c ∈ footL [.ptr b 0],lk c hp = H0 c) : lk b hp = H0 b := h b (by simp [footL,ptrsOf,deepL,deepB])
theorem within_at {n lo hi : Int} {r : Bool} (h : (decide (lo ≤ n) && decide (n ≤ hi)) = r) : PureCalls Tryz.prog 129 [PI n,PI lo,PI hi] (PB r) := h ▸ within_calls n lo hi
theorem tidyK_im {l : List UInt8} {eff hp hp' : List (Nat × Blk)} {nx nx' : Nat} (h : ∀ b,b < nx → lk b hp' = applyEff (hpF hp) eff b) : TidyK (bytesPV l) eff hp nx (bytesPV l) hp' nx' := ⟨by simp [FrzR],h,by simp [frzD]⟩
theorem tidyK_own {l : List UInt8} {eff hp hp' : List (Nat × Blk)} {nx nx' c T ver : Nat} {f : Bool} {rows : List (List PV)} (h0 : lk c hp' = some (.arr T 1 rows ver f)) (hr : rows = rowsB l) (hc : nx ≤ c) (h : ∀ b,b < nx → lk b hp' = applyEff (hpF hp) eff b) : TidyK (bytesPV l) eff hp nx (.own c ver) hp' nx' := by
  subst hr
  refine ⟨⟨T,1,_,f,h0,rfl⟩,h,fun e he => ?_⟩
  simp only [frzD,frzOne,hpF_eq,h0,List.mem_singleton,if_true] at he
  subst he
  exact hc
theorem tidyK_nil {eff hp hp' : List (Nat × Blk)} {nx nx' : Nat} (h : ∀ b,b < nx → lk b hp' = applyEff (hpF hp) eff b) : TidyK (bytesPV []) eff hp nx (.lit (.slice none 0 0)) hp' nx' := ⟨by simp [FrzR,rowsB,isNil],h,by simp [frzD]⟩
def sesOK (n : UInt8) : Bool := decide (1 ≤ (n.toNat : Int)) && decide ((n.toNat : Int) ≤ 3)
theorem ses_eff {H : Heap} {b : Nat} {s : Srv} {n : UInt8} (h : H b = some (askedB s [n])) (hn : sesOK n = true) :
    EffCalls Tryz.prog 119 [.ptr b 0] H (bytesPV [n]) [(b,askedB { s with ses := n.toNat,op := false,seed := -1 } [n])] := by
  refine EffCalls.ofT ⟨_,by rfl,by decide +kernel,by decide +kernel⟩ (effOK_one h) fun hp nx hH hx => ?_
  have e1 := (foot_one hH).trans h
  have hlt := lk_lt hx e1
  have y1 := lk_fresh0 hx; have y2 := lk_freshK hx; have y3 := ltNe0 hlt; have y4 := ltNe hlt; have y5 := gtNe0 hlt; have y6 := gtNe hlt; have y7 := eq_true hx; have y8 := allK hx; have y9 := eq_true hlt; have y10 := ltK hlt
  have c1 := within_at hn
  have w1 : IntKind.wrap .i64 (n.toNat : Int) = (n.toNat : Int) := wrapI64 (by have := n.toNat_lt; omega)
  refine CallA.into tabOK mixed Tryz.func119 rfl rfl (by decide +kernel) (by simp [Tryz.ntmps119]) ?_
  simp only [go_sem,zA,zB,zC,zD,zE,zF,zG,zH,zI,zJ,zK,zL,zM,zN,zO,zP,↓reduceIte,reduceCtorEq,Tryz.ntmps119,Tryz.results119,e1,y1,y2,y3,y4,y5,y6,y7,y8,y9,y10,yAf,yAd,yAc,yAb,yAa,ltSelfK,yAe,zF,yAg,hpF_addL,askedCells,rowsB,rowB,w1]
  (refine CallA.pure (c1) (by simp only [go_sem,zA,zB,zC,zD,zE,zF,zG,zH,zI,zJ,zK,zL,zM,zN,zO,zP,↓reduceIte,reduceCtorEq,e1,y1,y2,y3,y4,y5,y6,y7,y8,y9,y10,yAf,yAd,yAc,yAb,yAa,ltSelfK,yAe,zF,yAg,hpF_addL] <;> first | rfl | decide) ?_; simp only [go_sem,zA,zB,zC,zD,zE,zF,zG,zH,zI,zJ,zK,zL,zM,zN,zO,zP,↓reduceIte,reduceCtorEq,e1,y1,y2,y3,y4,y5,y6,y7,y8,y9,y10,yAf,yAd,yAc,yAb,yAa,ltSelfK,yAe,zF,yAg,hpF_addL])
  refine CallA.into tabOK mixed Tryz.func86 rfl rfl (by decide +kernel) (by simp [Tryz.ntmps86]) ?_
  simp only [go_sem,zA,zB,zC,zD,zE,zF,zG,zH,zI,zJ,zK,zL,zM,zN,zO,zP,↓reduceIte,reduceCtorEq,Tryz.ntmps86,Tryz.results86,e1,y1,y2,y3,y4,y5,y6,y7,y8,y9,y10,yAf,yAd,yAc,yAb,yAa,ltSelfK,yAe,zF,yAg,hpF_addL,askedCells,rowsB,rowB,w1,Tryz.ntmps119,Tryz.results119]
  exact tidyK_im (by (intro c hc; have z1 := ltNe0 hc; have z2 := ltNe hc; simp only [lk,applyEff,List.foldl_cons,List.foldl_nil,upd,hpF_eq,z1,z2,if_false,yAf,zA] <;> (repeat' split) <;> first | rfl | (simp_all [askedCells]; done) | (exfalso; omega)))
theorem ses_pan {H : Heap} {b : Nat} {s : Srv} {n : UInt8} (h : H b = some (askedB s [n])) (hn : sesOK n = false) :
    PanCalls Tryz.prog 119 [.ptr b 0] H (refPV 0x31) [] := by
  refine PanCalls.ofT ⟨_,by rfl,by decide +kernel,by decide +kernel⟩ effOK_nil rfl fun hp nx hH hx => ?_
  have e1 := (foot_one hH).trans h
  have hlt := lk_lt hx e1
  have y1 := lk_fresh0 hx; have y2 := lk_freshK hx; have y3 := ltNe0 hlt; have y4 := ltNe hlt; have y5 := gtNe0 hlt; have y6 := gtNe hlt; have y7 := eq_true hx; have y8 := allK hx; have y9 := eq_true hlt; have y10 := ltK hlt
  have c1 := within_at hn
  have w1 : IntKind.wrap .i64 (n.toNat : Int) = (n.toNat : Int) := wrapI64 (by have := n.toNat_lt; omega)
  refine CallA.into tabOK mixed Tryz.func119 rfl rfl (by decide +kernel) (by simp [Tryz.ntmps119]) ?_
  simp only [go_sem,zA,zB,zC,zD,zE,zF,zG,zH,zI,zJ,zK,zL,zM,zN,zO,zP,↓reduceIte,reduceCtorEq,Tryz.ntmps119,Tryz.results119,e1,y1,y2,y3,y4,y5,y6,y7,y8,y9,y10,yAf,yAd,yAc,yAb,yAa,ltSelfK,yAe,zF,yAg,hpF_addL,askedCells,rowsB,rowB,w1]
  (refine CallA.pure (c1) (by simp only [go_sem,zA,zB,zC,zD,zE,zF,zG,zH,zI,zJ,zK,zL,zM,zN,zO,zP,↓reduceIte,reduceCtorEq,e1,y1,y2,y3,y4,y5,y6,y7,y8,y9,y10,yAf,yAd,yAc,yAb,yAa,ltSelfK,yAe,zF,yAg,hpF_addL] <;> first | rfl | decide) ?_; simp only [go_sem,zA,zB,zC,zD,zE,zF,zG,zH,zI,zJ,zK,zL,zM,zN,zO,zP,↓reduceIte,reduceCtorEq,e1,y1,y2,y3,y4,y5,y6,y7,y8,y9,y10,yAf,yAd,yAc,yAb,yAa,ltSelfK,yAe,zF,yAg,hpF_addL])
  refine CallA.into tabOK mixed Tryz.func86 rfl rfl (by decide +kernel) (by simp [Tryz.ntmps86]) ?_
  simp only [go_sem,zA,zB,zC,zD,zE,zF,zG,zH,zI,zJ,zK,zL,zM,zN,zO,zP,↓reduceIte,reduceCtorEq,Tryz.ntmps86,Tryz.results86,e1,y1,y2,y3,y4,y5,y6,y7,y8,y9,y10,yAf,yAd,yAc,yAb,yAa,ltSelfK,yAe,zF,yAg,hpF_addL,askedCells,rowsB,rowB,w1,Tryz.ntmps119,Tryz.results119]
  exact ⟨rfl,by (intro c hc; have z1 := ltNe0 hc; have z2 := ltNe hc; simp only [lk,applyEff,List.foldl_cons,List.foldl_nil,upd,hpF_eq,z1,z2,if_false,yAf,zA] <;> (repeat' split) <;> first | rfl | (simp_all [askedCells]; done) | (exfalso; omega))⟩
end Go.Proofs.YtcdmhigmgpflbaaGreat.Pe
namespace Go.Proofs.YtcdmhigmgpflbaaGreat.Pe
open Go.Pe Go.RowKit
def eqSt (a b : List UInt8) (i : Nat) : St := ⟨26,[(0,bytesPV a),(1,bytesPV b),(12,PI a.length),(13,PI i)],[],20,0⟩
def eqI (a b : List UInt8) (m : Nat) (st : St) : Prop := ∃ i : Nat,i ≤ a.length ∧ m = a.length - i ∧ decide (a.drop i = b.drop i) = decide (a = b) ∧ st = eqSt a b i
theorem equal_calls (a b : List UInt8) (ha : a.length < 1000000) : PureCalls Tryz.prog 128 [bytesPV a,bytesPV b] (PB (decide (a = b))) := by
  refine PureCalls.of tabOK mixed Tryz.func128 rfl rfl (by decide +kernel) (by simp [Tryz.ntmps128]) ?_
  have la := rowsB_length a
  have lb := rowsB_length b
  by_cases hl : a.length = b.length
  rotate_left 1
  · have f : decide ((a.length : Int) = (b.length : Int)) = false := decide_eq_false (by omega)
    have g : decide (a = b) = false := decide_eq_false (fun e => hl (by rw [e]))
    simp only [go_sem,zA,zB,zC,zD,zE,zF,zG,zH,zI,zJ,zK,zL,zM,zN,zO,zP,↓reduceIte,reduceCtorEq,Tryz.ntmps128,Tryz.results128,la,lb,f,g]
  have f : decide ((a.length : Int) = (b.length : Int)) = true := decide_eq_true (by omega)
  simp only [go_sem,zA,zB,zC,zD,zE,zF,zG,zH,zI,zJ,zK,zL,zM,zN,zO,zP,↓reduceIte,reduceCtorEq,Tryz.ntmps128,Tryz.results128,la,lb,f]
  refine wpA_loop (eqI a b) ⟨_,_,?_,0,by omega,rfl,rfl,rfl⟩ ?_
  · simp only [go_sem,zA,zB,zC,zD,zE,zF,zG,zH,zI,zJ,zK,zL,zM,zN,zO,zP,↓reduceIte,reduceCtorEq,eqSt,yCb]
  rintro m st ⟨i,hi,rfl,hd,rfl⟩
  by_cases hc : i < a.length
  rotate_left 1
  · have f1 : decide ((i : Int) < (a.length : Int)) = false := decide_eq_false (by omega)
    have g : decide (a = b) = true := by
      rw [← hd,List.drop_of_length_le (by omega),List.drop_of_length_le (by omega)]
      rfl
    simp only [go_sem,zA,zB,zC,zD,zE,zF,zG,zH,zI,zJ,zK,zL,zM,zN,zO,zP,↓reduceIte,reduceCtorEq,eqSt,f1,g,Tryz.ntmps128,Tryz.results128]
  have f1 : decide ((i : Int) < (a.length : Int)) = true := decide_eq_true (by omega)
  have f2 : (i : Int) < (a.length : Int) := by omega
  have f2b : (i : Int) < (b.length : Int) := by omega
  have f0 : (0 : Int) ≤ (i : Int) := by omega
  have hw := wrapIN (i := i) (by omega)
  have hcb : i < b.length := by omega
  have r1 : (rowsB a).getD i [] = rowB a[i] := by rw [rowsB_getD hc]; simp [hc]
  have r2 : (rowsB b).getD i [] = rowB b[i] := by rw [rowsB_getD hcb]; simp [hcb]
  have hda : a.drop i = a[i] :: a.drop (i + 1) := by rw [List.drop_eq_getElem_cons hc]
  have hdb : b.drop i = b[i] :: b.drop (i + 1) := by rw [List.drop_eq_getElem_cons hcb]
  rw [hda,hdb] at hd
  generalize a[i] = x at hd r1
  generalize b[i] = y at hd r2
  by_cases hxy : x = y
  · subst hxy
    simp only [go_sem,zA,zB,zC,zD,zE,zF,zG,zH,zI,zJ,zK,zL,zM,zN,zO,zP,↓reduceIte,reduceCtorEq,eqSt,la,lb,f1,f2,f2b,f0,yCa,r1,r2,rowB,hw]
    refine endD_intro (by decide +kernel) ?_
    simp only [go_sem,zA,zB,zC,zD,zE,zF,zG,zH,zI,zJ,zK,zL,zM,zN,zO,zP,↓reduceIte,reduceCtorEq,hw]
    refine ⟨a.length - (i + 1),_,by omega,?_,i + 1,by omega,rfl,?_,rfl⟩
    · simp only [go_sem,zA,zB,zC,zD,zE,zF,zG,zH,zI,zJ,zK,zL,zM,zN,zO,zP,↓reduceIte,reduceCtorEq,eqSt]
    · rw [← hd]; simp
  · have g1 : decide ((x.toNat : Int) = (y.toNat : Int)) = false := decide_eq_false (fun e => hxy (UInt8.toNat_inj.1 (by omega)))
    have g : decide (a = b) = false := by rw [← hd]; simp [hxy]
    simp only [go_sem,zA,zB,zC,zD,zE,zF,zG,zH,zI,zJ,zK,zL,zM,zN,zO,zP,↓reduceIte,reduceCtorEq,eqSt,la,lb,f1,f2,f2b,f0,yCa,r1,r2,rowB,hw,g1]
    refine endD_intro (by decide +kernel) ?_
    simp only [go_sem,zA,zB,zC,zD,zE,zF,zG,zH,zI,zJ,zK,zL,zM,zN,zO,zP,↓reduceIte,reduceCtorEq,g,Tryz.ntmps128,Tryz.results128]
def hitV (id : Int) (w : Bool) (x : Itm) : Bool := decide (x.id = id) && (!w || x.wr)
def findV (l : List Itm) (id : Int) (w : Bool) : Option Nat := l.findIdx? (hitV id w)
def findI (l : List Itm) (id : Int) (w : Bool) : Int := match findV l id w with
  | some i => (i : Int)
  | none => -1
def isFn (w : Bool) : Nat := match w with
  | true => 132
  | false => 131
theorem is_calls (x : Itm) (w : Bool) : PureCalls Tryz.prog (isFn w) [.agg x.cells] (PB (!w || x.wr)) := by
  cases w with
  | true =>
    refine PureCalls.of tabOK mixed Tryz.func132 rfl rfl (by decide +kernel) (by simp [Tryz.ntmps132]) ?_
    simp only [go_sem,zA,zB,zC,zD,zE,zF,zG,zH,zI,zJ,zK,zL,zM,zN,zO,zP,↓reduceIte,reduceCtorEq,Tryz.ntmps132,Tryz.results132,Itm.cells]
  | false =>
    refine PureCalls.of tabOK mixed Tryz.func131 rfl rfl (by decide +kernel) (by simp [Tryz.ntmps131]) ?_
    simp only [go_sem,zA,zB,zC,zD,zE,zF,zG,zH,zI,zJ,zK,zL,zM,zN,zO,zP,↓reduceIte,reduceCtorEq,Tryz.ntmps131,Tryz.results131,Itm.cells]
theorem itmRows_len (l : List Itm) : (itmRows l).length = l.length := by simp
theorem itmRows_get {l : List Itm} {i : Nat} (h : i < l.length) : (itmRows l).getD i [] = l[i].cells := by
  simp [itmRows,List.getD_eq_getElem?_getD,h]
abbrev idxFn (i j : Nat) : PV := .fn (.func 136) [] [.ptr i 0,.ptr j 0]
def ixSt (l : List Itm) (i j : Nat) (hp : List (Nat × Blk)) (nx k : Nat) : St := ⟨19,[(0,itmsPV l),(1,idxFn i j),(7,PI l.length),(8,PI k)],hp,nx,nx⟩
def ixI (l : List Itm) (id : Int) (w : Bool) (i j : Nat) (hp : List (Nat × Blk)) (nx : Nat) (m : Nat) (st : St) : Prop := ∃ k : Nat,k ≤ l.length ∧ m = l.length - k ∧ (l.take k).findIdx? (hitV id w) = none ∧ st = ixSt l i j hp nx k
theorem find_snoc {l : List Itm} {p : Itm → Bool} {k : Nat} (h : k < l.length) (h0 : (l.take k).findIdx? p = none) : (p l[k] = false → (l.take (k + 1)).findIdx? p = none) ∧ (p l[k] = true → l.findIdx? p = some k) := by
  constructor
  · intro hp
    rw [List.take_succ_eq_append_getElem h,List.findIdx?_append,h0]
    simp [hp]
  · intro hp
    conv => lhs; rw [← List.take_append_drop k l]
    rw [List.findIdx?_append,h0,List.drop_eq_getElem_cons h,List.findIdx?_cons,hp]
    simp [Nat.min_eq_left (Nat.le_of_lt h)]
theorem idx_call {l : List Itm} {id : Int} {w : Bool} {hp : List (Nat × Blk)} {nx i j : Nat} {K KP : CK} (hi : lk i hp = some (.box 3 [PI id])) (hj : lk j hp = some (.box 151 [.lit (.func (.func (isFn w)) #[] #[])])) (hx : ∀ x ∈ hp,x.1 < nx) (hbig : l.length < 1000000)
    (hK : K (PI (findI l id w)) hp nx) : CallA Tryz.prog 135 [itmsPV l,idxFn i j] hp nx K KP := by
  refine CallA.tidy (fun hcl => ?_) ⟨_,by rfl,by decide +kernel,by decide +kernel⟩ hx hK
  have hli := lk_lt hx hi
  have hlt := lk_lt hx hj
  have z3 := ltNe0 hli; have z4 := ltNe hli; have z5 := gtNe0 hli; have z6 := gtNe hli; have z9 := eq_true hli; have z10 := ltK hli
  have y1 := lk_fresh0 hx; have y2 := lk_freshK hx; have y3 := ltNe0 hlt; have y4 := ltNe hlt; have y5 := gtNe0 hlt; have y6 := gtNe hlt; have y7 := eq_true hx; have y8 := allK hx; have y9 := eq_true hlt; have y10 := ltK hlt
  have la := itmRows_len l
  refine CallA.into tabOK mixed Tryz.func135 rfl rfl (by decide +kernel) (by simp [Tryz.ntmps135]) ?_
  simp only [go_sem,zA,zB,zC,zD,zE,zF,zG,zH,zI,zJ,zK,zL,zM,zN,zO,zP,↓reduceIte,reduceCtorEq,Tryz.ntmps135,Tryz.results135,y1,y2,y3,y4,y5,y6,y7,y8,y9,y10,yAf,yAd,yAc,yAb,yAa,ltSelfK,yAe,zF,yAg,hpF_addL,la,idxFn]
  refine wpA_loopS (ixI l id w i j hp nx) ⟨_,_,?_,0,by omega,rfl,rfl,rfl⟩ ?_
  · refine WeakS.garbage (G := []) (by simp) hx hcl ?_
    have si : (lk i hp).isSome = true := by rw [hi]; rfl
    have sj : (lk j hp).isSome = true := by rw [hj]; rfl
    simp only [go_sem,zA,zB,zC,zD,zE,zF,zG,zH,zI,zJ,zK,zL,zM,zN,zO,zP,↓reduceIte,reduceCtorEq,idxFn,refsIn,refsInL,si,sj,yCb]
  rintro m st ⟨k,hk,rfl,hno,rfl⟩
  by_cases hc : k < l.length
  rotate_left 1
  · have f1 : decide ((k : Int) < (l.length : Int)) = false := decide_eq_false (by omega)
    have hf : findI l id w = -1 := by rw [List.take_of_length_le (by omega)] at hno; simp [findI,findV,hno]
    simp only [go_sem,zA,zB,zC,zD,zE,zF,zG,zH,zI,zJ,zK,zL,zM,zN,zO,zP,↓reduceIte,reduceCtorEq,ixSt,f1,Tryz.ntmps135,Tryz.results135]
    refine ⟨by rw [hf]; simp [FrzR],fun b hb => rfl,by simp [frzD]⟩
  have f1 : decide ((k : Int) < (l.length : Int)) = true := decide_eq_true (by omega)
  have f2 : (k : Int) < (l.length : Int) := by omega
  have f0 : (0 : Int) ≤ (k : Int) := by omega
  have hw := wrapIN (i := k) (by omega)
  have r1 := itmRows_get hc
  obtain ⟨n1,n2⟩ := find_snoc hc hno
  generalize l[k] = x at r1 n1 n2
  have c1 := is_calls x w
  simp only [go_sem,zA,zB,zC,zD,zE,zF,zG,zH,zI,zJ,zK,zL,zM,zN,zO,zP,↓reduceIte,reduceCtorEq,ixSt,f1,f2,f0,yCa,la,r1,Itm.cells,idxFn,y1,y2,y3,y4,y5,y6,y7,y8,y9,y10,yAf,yAd,yAc,yAb,yAa,ltSelfK,yAe,zF,yAg,hpF_addL]
  refine CallA.into tabOK mixed Tryz.func136 rfl rfl (by decide +kernel) (by simp [Tryz.ntmps136]) ?_
  simp only [go_sem,zA,zB,zC,zD,zE,zF,zG,zH,zI,zJ,zK,zL,zM,zN,zO,zP,↓reduceIte,reduceCtorEq,Tryz.ntmps136,Tryz.results136,y1,y2,y3,y4,y5,y6,y7,y8,y9,y10,yAf,yAd,yAc,yAb,yAa,ltSelfK,yAe,zF,yAg,hpF_addL,Itm.cells,hi,hj,z3,z4,z5,z6,z9,z10]
  have si : (lk i hp).isSome = true := by rw [hi]; rfl
  have sj : (lk j hp).isSome = true := by rw [hj]; rfl
  have next : hitV id w x = false → ∀ G nx1 env,(∀ y ∈ G,nx ≤ y.1) → (lk 0 env = some (itmsPV l)) → lk 1 env = some (idxFn i j) → lk 7 env = some (PI l.length) → lk 8 env = some (PI ((k + 1 : Nat) : Int)) →
      ∃ m' s'',m' < l.length - k ∧ WeakS ⟨19,env,G ++ hp,nx1,nx⟩ s'' ∧ ixI l id w i j hp nx m' s'' := by
    intro hh G nx1 env hG q0 q1 q7 q8
    refine ⟨l.length - (k + 1),ixSt l i j hp nx (k + 1),by omega,WeakS.garbage hG hx hcl ?_,k + 1,by omega,rfl,n1 hh,rfl⟩
    intro y hy
    simp only [List.mem_cons,List.not_mem_nil,or_false] at hy
    rcases hy with rfl | rfl | rfl | rfl
    · exact ⟨q0,rfl⟩
    · exact ⟨q1,by simp [idxFn,refsIn,refsInL,si,sj]⟩
    · exact ⟨q7,rfl⟩
    · exact ⟨q8,rfl⟩
  cases hid : decide (x.id = id) with
  | false =>
    have hh : hitV id w x = false := by simp [hitV,hid]
    simp only [go_sem,zA,zB,zC,zD,zE,zF,zG,zH,zI,zJ,zK,zL,zM,zN,zO,zP,↓reduceIte,reduceCtorEq,y1,y2,y3,y4,y5,y6,y7,y8,y9,y10,yAf,yAd,yAc,yAb,yAa,ltSelfK,yAe,zF,yAg,hpF_addL,hw,z3,z4,z5,z6,z9,z10,Tryz.ntmps135,Tryz.results135,Tryz.ntmps136,Tryz.results136]
    exact next hh [_] _ _ (by simp <;> omega) rfl rfl rfl rfl
  | true =>
    simp only [go_sem,zA,zB,zC,zD,zE,zF,zG,zH,zI,zJ,zK,zL,zM,zN,zO,zP,↓reduceIte,reduceCtorEq,y1,y2,y3,y4,y5,y6,y7,y8,y9,y10,yAf,yAd,yAc,yAb,yAa,ltSelfK,yAe,zF,yAg,hpF_addL,hi,hj,z3,z4,z5,z6,z9,z10]
    (refine CallA.pure (c1) (by simp only [go_sem,zA,zB,zC,zD,zE,zF,zG,zH,zI,zJ,zK,zL,zM,zN,zO,zP,↓reduceIte,reduceCtorEq,Itm.cells,y1,y2,y3,y4,y5,y6,y7,y8,y9,y10,yAf,yAd,yAc,yAb,yAa,ltSelfK,yAe,zF,yAg,hpF_addL,hw,z3,z4,z5,z6,z9,z10,Tryz.ntmps135,Tryz.results135,Tryz.ntmps136,Tryz.results136] <;> first | rfl | decide) ?_; simp only [go_sem,zA,zB,zC,zD,zE,zF,zG,zH,zI,zJ,zK,zL,zM,zN,zO,zP,↓reduceIte,reduceCtorEq,Itm.cells,y1,y2,y3,y4,y5,y6,y7,y8,y9,y10,yAf,yAd,yAc,yAb,yAa,ltSelfK,yAe,zF,yAg,hpF_addL,hw,z3,z4,z5,z6,z9,z10,Tryz.ntmps135,Tryz.results135,Tryz.ntmps136,Tryz.results136])
    cases hw2 : (!w || x.wr) with
    | false =>
      have hh : hitV id w x = false := by simp only [hitV,hid,hw2,Bool.and_false]
      simp only [go_sem,zA,zB,zC,zD,zE,zF,zG,zH,zI,zJ,zK,zL,zM,zN,zO,zP,↓reduceIte,reduceCtorEq,y1,y2,y3,y4,y5,y6,y7,y8,y9,y10,yAf,yAd,yAc,yAb,yAa,ltSelfK,yAe,zF,yAg,hpF_addL,hw,z3,z4,z5,z6,z9,z10,Tryz.ntmps135,Tryz.results135,Tryz.ntmps136,Tryz.results136]
      exact next hh [_] _ _ (by simp <;> omega) rfl rfl rfl rfl
    | true =>
      have hh : hitV id w x = true := by simp only [hitV,hid,hw2,Bool.and_self]
      have hf : findI l id w = (k : Int) := by simp only [findI,findV,n2 hh]
      simp only [go_sem,zA,zB,zC,zD,zE,zF,zG,zH,zI,zJ,zK,zL,zM,zN,zO,zP,↓reduceIte,reduceCtorEq,y1,y2,y3,y4,y5,y6,y7,y8,y9,y10,yAf,yAd,yAc,yAb,yAa,ltSelfK,yAe,zF,yAg,hpF_addL,hw,z3,z4,z5,z6,z9,z10,Tryz.ntmps135,Tryz.results135,Tryz.ntmps136,Tryz.results136]
      refine ⟨by rw [hf]; simp [FrzR],fun b hb => ?_,by simp [frzD]⟩
      have z1 := ltNe0 hb; have z2 := ltNe hb
      simp only [lk,z1,z2,if_false]
      rfl
end Go.Proofs.YtcdmhigmgpflbaaGreat.Pe
namespace Go.Proofs.YtcdmhigmgpflbaaGreat.Pe
open Go.Pe Go.RowKit
abbrev nextDraw (d : Int) : Int := bitsA .and .i64 (IntKind.wrap .i64 (IntKind.wrap .i64 (d * 1664525) + 1013904223)) 4294967295
theorem seed_pan36 {H : Heap} {b : Nat} {s : Srv} {q : List UInt8} (h : H b = some (askedB s q)) (hw : decide (s.wrong ≤ 2) = false) :
    PanCalls Tryz.prog 110 [.ptr b 0] H (refPV 0x36) [] := by
  refine PanCalls.ofT ⟨_,by rfl,by decide +kernel,by decide +kernel⟩ effOK_nil rfl fun hp nx hH hx => ?_
  have e1 := (foot_one hH).trans h
  have hlt := lk_lt hx e1
  have y1 := lk_fresh0 hx; have y2 := lk_freshK hx; have y3 := ltNe0 hlt; have y4 := ltNe hlt; have y5 := gtNe0 hlt; have y6 := gtNe hlt; have y7 := eq_true hx; have y8 := allK hx; have y9 := eq_true hlt; have y10 := ltK hlt
  refine CallA.into tabOK mixed Tryz.func110 rfl rfl (by decide +kernel) (by simp [Tryz.ntmps110]) ?_
  simp only [go_sem,zA,zB,zC,zD,zE,zF,zG,zH,zI,zJ,zK,zL,zM,zN,zO,zP,↓reduceIte,reduceCtorEq,Tryz.ntmps110,Tryz.results110,e1,y1,y2,y3,y4,y5,y6,y7,y8,y9,y10,yAf,yAd,yAc,yAb,yAa,ltSelfK,yAe,zF,yAg,hpF_addL,askedCells,hw]
  refine CallA.into tabOK mixed Tryz.func86 rfl rfl (by decide +kernel) (by simp [Tryz.ntmps86]) ?_
  simp only [go_sem,zA,zB,zC,zD,zE,zF,zG,zH,zI,zJ,zK,zL,zM,zN,zO,zP,↓reduceIte,reduceCtorEq,Tryz.ntmps86,Tryz.results86,e1,y1,y2,y3,y4,y5,y6,y7,y8,y9,y10,yAf,yAd,yAc,yAb,yAa,ltSelfK,yAe,zF,yAg,hpF_addL,askedCells,Tryz.ntmps110,Tryz.results110]
  exact ⟨rfl,by (intro c hc; have z1 := ltNe0 hc; have z2 := ltNe hc; simp only [lk,applyEff,List.foldl_cons,List.foldl_nil,upd,hpF_eq,z1,z2,if_false,yAf,zA] <;> (repeat' split) <;> first | rfl | (simp_all [askedCells]; done) | (exfalso; omega))⟩
theorem seed_pan22 {H : Heap} {b : Nat} {s : Srv} {q : List UInt8} (h : H b = some (askedB s q)) (hw : decide (s.wrong ≤ 2) = true) (hs : decide (s.ses = 1) = true) :
    PanCalls Tryz.prog 110 [.ptr b 0] H (refPV 0x22) [] := by
  refine PanCalls.ofT ⟨_,by rfl,by decide +kernel,by decide +kernel⟩ effOK_nil rfl fun hp nx hH hx => ?_
  have e1 := (foot_one hH).trans h
  have hlt := lk_lt hx e1
  have y1 := lk_fresh0 hx; have y2 := lk_freshK hx; have y3 := ltNe0 hlt; have y4 := ltNe hlt; have y5 := gtNe0 hlt; have y6 := gtNe hlt; have y7 := eq_true hx; have y8 := allK hx; have y9 := eq_true hlt; have y10 := ltK hlt
  refine CallA.into tabOK mixed Tryz.func110 rfl rfl (by decide +kernel) (by simp [Tryz.ntmps110]) ?_
  simp only [go_sem,zA,zB,zC,zD,zE,zF,zG,zH,zI,zJ,zK,zL,zM,zN,zO,zP,↓reduceIte,reduceCtorEq,Tryz.ntmps110,Tryz.results110,e1,y1,y2,y3,y4,y5,y6,y7,y8,y9,y10,yAf,yAd,yAc,yAb,yAa,ltSelfK,yAe,zF,yAg,hpF_addL,askedCells,hw]
  refine CallA.into tabOK mixed Tryz.func86 rfl rfl (by decide +kernel) (by simp [Tryz.ntmps86]) ?_
  simp only [go_sem,zA,zB,zC,zD,zE,zF,zG,zH,zI,zJ,zK,zL,zM,zN,zO,zP,↓reduceIte,reduceCtorEq,Tryz.ntmps86,Tryz.results86,e1,y1,y2,y3,y4,y5,y6,y7,y8,y9,y10,yAf,yAd,yAc,yAb,yAa,ltSelfK,yAe,zF,yAg,hpF_addL,askedCells,hs,Tryz.ntmps110,Tryz.results110]
  refine CallA.into tabOK mixed Tryz.func86 rfl rfl (by decide +kernel) (by simp [Tryz.ntmps86]) ?_
  simp only [go_sem,zA,zB,zC,zD,zE,zF,zG,zH,zI,zJ,zK,zL,zM,zN,zO,zP,↓reduceIte,reduceCtorEq,Tryz.ntmps86,Tryz.results86,e1,y1,y2,y3,y4,y5,y6,y7,y8,y9,y10,yAf,yAd,yAc,yAb,yAa,ltSelfK,yAe,zF,yAg,hpF_addL,askedCells,Tryz.ntmps110,Tryz.results110]
  exact ⟨rfl,by (intro c hc; have z1 := ltNe0 hc; have z2 := ltNe hc; simp only [lk,applyEff,List.foldl_cons,List.foldl_nil,upd,hpF_eq,z1,z2,if_false,yAf,zA] <;> (repeat' split) <;> first | rfl | (simp_all [askedCells]; done) | (exfalso; omega))⟩
theorem four_at {n : Int} {l : List UInt8} (h : fourV n = l) : PureCalls Tryz.prog 127 [PI n] (bytesPV l) := h ▸ four_calls n
theorem seed_open {H : Heap} {b : Nat} {s : Srv} {q : List UInt8} (h : H b = some (askedB s q)) (hw : decide (s.wrong ≤ 2) = true) (hs : decide (s.ses = 1) = false) (ho : s.op = true) :
    EffCalls Tryz.prog 110 [.ptr b 0] H (bytesPV [1,0,0,0,0]) [] := by
  refine EffCalls.ofT ⟨_,by rfl,by decide +kernel,by decide +kernel⟩ effOK_nil fun hp nx hH hx => ?_
  have e1 := (foot_one hH).trans h
  have hlt := lk_lt hx e1
  have y1 := lk_fresh0 hx; have y2 := lk_freshK hx; have y3 := ltNe0 hlt; have y4 := ltNe hlt; have y5 := gtNe0 hlt; have y6 := gtNe hlt; have y7 := eq_true hx; have y8 := allK hx; have y9 := eq_true hlt; have y10 := ltK hlt
  have c1 := four_at (n := 0) (l := [0,0,0,0]) (by decide)
  refine CallA.into tabOK mixed Tryz.func110 rfl rfl (by decide +kernel) (by simp [Tryz.ntmps110]) ?_
  simp only [go_sem,zA,zB,zC,zD,zE,zF,zG,zH,zI,zJ,zK,zL,zM,zN,zO,zP,↓reduceIte,reduceCtorEq,Tryz.ntmps110,Tryz.results110,e1,y1,y2,y3,y4,y5,y6,y7,y8,y9,y10,yAf,yAd,yAc,yAb,yAa,ltSelfK,yAe,zF,yAg,hpF_addL,askedCells,hw]
  refine CallA.into tabOK mixed Tryz.func86 rfl rfl (by decide +kernel) (by simp [Tryz.ntmps86]) ?_
  simp only [go_sem,zA,zB,zC,zD,zE,zF,zG,zH,zI,zJ,zK,zL,zM,zN,zO,zP,↓reduceIte,reduceCtorEq,Tryz.ntmps86,Tryz.results86,e1,y1,y2,y3,y4,y5,y6,y7,y8,y9,y10,yAf,yAd,yAc,yAb,yAa,ltSelfK,yAe,zF,yAg,hpF_addL,askedCells,hs,Tryz.ntmps110,Tryz.results110]
  refine CallA.into tabOK mixed Tryz.func86 rfl rfl (by decide +kernel) (by simp [Tryz.ntmps86]) ?_
  simp only [go_sem,zA,zB,zC,zD,zE,zF,zG,zH,zI,zJ,zK,zL,zM,zN,zO,zP,↓reduceIte,reduceCtorEq,Tryz.ntmps86,Tryz.results86,e1,y1,y2,y3,y4,y5,y6,y7,y8,y9,y10,yAf,yAd,yAc,yAb,yAa,ltSelfK,yAe,zF,yAg,hpF_addL,askedCells,ho,Tryz.ntmps110,Tryz.results110]
  (refine CallA.pure (c1) (by simp only [go_sem,zA,zB,zC,zD,zE,zF,zG,zH,zI,zJ,zK,zL,zM,zN,zO,zP,↓reduceIte,reduceCtorEq,e1,y1,y2,y3,y4,y5,y6,y7,y8,y9,y10,yAf,yAd,yAc,yAb,yAa,ltSelfK,yAe,zF,yAg,hpF_addL,askedCells,Tryz.ntmps110,Tryz.results110] <;> first | rfl | decide) ?_; simp only [go_sem,zA,zB,zC,zD,zE,zF,zG,zH,zI,zJ,zK,zL,zM,zN,zO,zP,↓reduceIte,reduceCtorEq,e1,y1,y2,y3,y4,y5,y6,y7,y8,y9,y10,yAf,yAd,yAc,yAb,yAa,ltSelfK,yAe,zF,yAg,hpF_addL,askedCells,Tryz.ntmps110,Tryz.results110])
  apply tidyK_own
  · first | (rw [lk,if_pos rfl]; done) | (simp only [lk,y1,y2,y3,y4,y5,y6,y7,y8,y9,y10,yAf,yAd,yAc,yAb,yAa,ltSelfK,yAe,zF,yAg,hpF_addL,if_false,if_true,↓reduceIte]; rfl)
  · simp [rowsB,rowB]
  · omega
  · (intro c hc; have z1 := ltNe0 hc; have z2 := ltNe hc; simp only [lk,applyEff,List.foldl_cons,List.foldl_nil,upd,hpF_eq,z1,z2,if_false,yAf,zA] <;> (repeat' split) <;> first | rfl | (simp_all [askedCells]; done) | (exfalso; omega))
theorem seed_eff {H : Heap} {b : Nat} {s : Srv} {q : List UInt8} (h : H b = some (askedB s q)) (hw : decide (s.wrong ≤ 2) = true) (hs : decide (s.ses = 1) = false) (ho : s.op = false) :
    EffCalls Tryz.prog 110 [.ptr b 0] H (bytesPV (1 :: fourV s.draw)) [(b,askedB { s with seed := s.draw,draw := nextDraw s.draw } q)] := by
  refine EffCalls.ofT ⟨_,by rfl,by decide +kernel,by decide +kernel⟩ (effOK_one h) fun hp nx hH hx => ?_
  have e1 := (foot_one hH).trans h
  have hlt := lk_lt hx e1
  have y1 := lk_fresh0 hx; have y2 := lk_freshK hx; have y3 := ltNe0 hlt; have y4 := ltNe hlt; have y5 := gtNe0 hlt; have y6 := gtNe hlt; have y7 := eq_true hx; have y8 := allK hx; have y9 := eq_true hlt; have y10 := ltK hlt
  have c1 := four_calls s.draw
  refine CallA.into tabOK mixed Tryz.func110 rfl rfl (by decide +kernel) (by simp [Tryz.ntmps110]) ?_
  simp only [go_sem,zA,zB,zC,zD,zE,zF,zG,zH,zI,zJ,zK,zL,zM,zN,zO,zP,↓reduceIte,reduceCtorEq,Tryz.ntmps110,Tryz.results110,e1,y1,y2,y3,y4,y5,y6,y7,y8,y9,y10,yAf,yAd,yAc,yAb,yAa,ltSelfK,yAe,zF,yAg,hpF_addL,askedCells,hw]
  refine CallA.into tabOK mixed Tryz.func86 rfl rfl (by decide +kernel) (by simp [Tryz.ntmps86]) ?_
  simp only [go_sem,zA,zB,zC,zD,zE,zF,zG,zH,zI,zJ,zK,zL,zM,zN,zO,zP,↓reduceIte,reduceCtorEq,Tryz.ntmps86,Tryz.results86,e1,y1,y2,y3,y4,y5,y6,y7,y8,y9,y10,yAf,yAd,yAc,yAb,yAa,ltSelfK,yAe,zF,yAg,hpF_addL,askedCells,hs,Tryz.ntmps110,Tryz.results110]
  refine CallA.into tabOK mixed Tryz.func86 rfl rfl (by decide +kernel) (by simp [Tryz.ntmps86]) ?_
  simp only [go_sem,zA,zB,zC,zD,zE,zF,zG,zH,zI,zJ,zK,zL,zM,zN,zO,zP,↓reduceIte,reduceCtorEq,Tryz.ntmps86,Tryz.results86,e1,y1,y2,y3,y4,y5,y6,y7,y8,y9,y10,yAf,yAd,yAc,yAb,yAa,ltSelfK,yAe,zF,yAg,hpF_addL,askedCells,ho,Tryz.ntmps110,Tryz.results110]
  refine endD_intro (by kernel_rfl) ?_
  simp only [go_sem,zA,zB,zC,zD,zE,zF,zG,zH,zI,zJ,zK,zL,zM,zN,zO,zP,↓reduceIte,reduceCtorEq,e1,y1,y2,y3,y4,y5,y6,y7,y8,y9,y10,yAf,yAd,yAc,yAb,yAa,ltSelfK,yAe,zF,yAg,hpF_addL,askedCells,Tryz.ntmps110,Tryz.results110]
  (refine CallA.pure (c1) (by simp only [go_sem,zA,zB,zC,zD,zE,zF,zG,zH,zI,zJ,zK,zL,zM,zN,zO,zP,↓reduceIte,reduceCtorEq,e1,y1,y2,y3,y4,y5,y6,y7,y8,y9,y10,yAf,yAd,yAc,yAb,yAa,ltSelfK,yAe,zF,yAg,hpF_addL,askedCells,Tryz.ntmps110,Tryz.results110] <;> first | rfl | decide) ?_; simp only [go_sem,zA,zB,zC,zD,zE,zF,zG,zH,zI,zJ,zK,zL,zM,zN,zO,zP,↓reduceIte,reduceCtorEq,e1,y1,y2,y3,y4,y5,y6,y7,y8,y9,y10,yAf,yAd,yAc,yAb,yAa,ltSelfK,yAe,zF,yAg,hpF_addL,askedCells,Tryz.ntmps110,Tryz.results110])
  refine ⟨by simp [fourV_len],?_⟩
  apply tidyK_own
  · first | (rw [lk,if_pos rfl]; done) | (simp only [lk,y1,y2,y3,y4,y5,y6,y7,y8,y9,y10,yAf,yAd,yAc,yAb,yAa,ltSelfK,yAe,zF,yAg,hpF_addL,if_false,if_true,↓reduceIte]; rfl)
  · simp [rowsB,rowB]
  · omega
  · (intro c hc; have z1 := ltNe0 hc; have z2 := ltNe hc; simp only [lk,applyEff,List.foldl_cons,List.foldl_nil,upd,hpF_eq,z1,z2,if_false,yAf,zA] <;> (repeat' split) <;> first | rfl | (simp_all [askedCells]; done) | (exfalso; omega))
theorem hand_eff {H : Heap} {b : Nat} {s : Srv} {q : List UInt8} (h : H b = some (askedB s q)) (hs : decide (s.ses = 3) = true) (ho : s.op = true) :
    EffCalls Tryz.prog 118 [.ptr b 0] H (bytesPV []) [] := by
  refine EffCalls.ofT ⟨_,by rfl,by decide +kernel,by decide +kernel⟩ effOK_nil fun hp nx hH hx => ?_
  have e1 := (foot_one hH).trans h
  have hlt := lk_lt hx e1
  have y1 := lk_fresh0 hx; have y2 := lk_freshK hx; have y3 := ltNe0 hlt; have y4 := ltNe hlt; have y5 := gtNe0 hlt; have y6 := gtNe hlt; have y7 := eq_true hx; have y8 := allK hx; have y9 := eq_true hlt; have y10 := ltK hlt
  refine CallA.into tabOK mixed Tryz.func118 rfl rfl (by decide +kernel) (by simp [Tryz.ntmps118]) ?_
  simp only [go_sem,zA,zB,zC,zD,zE,zF,zG,zH,zI,zJ,zK,zL,zM,zN,zO,zP,↓reduceIte,reduceCtorEq,Tryz.ntmps118,Tryz.results118,e1,y1,y2,y3,y4,y5,y6,y7,y8,y9,y10,yAf,yAd,yAc,yAb,yAa,ltSelfK,yAe,zF,yAg,hpF_addL,askedCells,hs]
  refine CallA.into tabOK mixed Tryz.func86 rfl rfl (by decide +kernel) (by simp [Tryz.ntmps86]) ?_
  simp only [go_sem,zA,zB,zC,zD,zE,zF,zG,zH,zI,zJ,zK,zL,zM,zN,zO,zP,↓reduceIte,reduceCtorEq,Tryz.ntmps86,Tryz.results86,e1,y1,y2,y3,y4,y5,y6,y7,y8,y9,y10,yAf,yAd,yAc,yAb,yAa,ltSelfK,yAe,zF,yAg,hpF_addL,askedCells,ho,Tryz.ntmps118,Tryz.results118]
  refine CallA.into tabOK mixed Tryz.func86 rfl rfl (by decide +kernel) (by simp [Tryz.ntmps86]) ?_
  simp only [go_sem,zA,zB,zC,zD,zE,zF,zG,zH,zI,zJ,zK,zL,zM,zN,zO,zP,↓reduceIte,reduceCtorEq,Tryz.ntmps86,Tryz.results86,e1,y1,y2,y3,y4,y5,y6,y7,y8,y9,y10,yAf,yAd,yAc,yAb,yAa,ltSelfK,yAe,zF,yAg,hpF_addL,askedCells,ho,Tryz.ntmps118,Tryz.results118]
  exact tidyK_nil (by (intro c hc; have z1 := ltNe0 hc; have z2 := ltNe hc; simp only [lk,applyEff,List.foldl_cons,List.foldl_nil,upd,hpF_eq,z1,z2,if_false,yAf,zA] <;> (repeat' split) <;> first | rfl | (simp_all [askedCells]; done) | (exfalso; omega)))
theorem hand_pan22 {H : Heap} {b : Nat} {s : Srv} {q : List UInt8} (h : H b = some (askedB s q)) (hs : decide (s.ses = 3) = false) :
    PanCalls Tryz.prog 118 [.ptr b 0] H (refPV 0x22) [] := by
  refine PanCalls.ofT ⟨_,by rfl,by decide +kernel,by decide +kernel⟩ effOK_nil rfl fun hp nx hH hx => ?_
  have e1 := (foot_one hH).trans h
  have hlt := lk_lt hx e1
  have y1 := lk_fresh0 hx; have y2 := lk_freshK hx; have y3 := ltNe0 hlt; have y4 := ltNe hlt; have y5 := gtNe0 hlt; have y6 := gtNe hlt; have y7 := eq_true hx; have y8 := allK hx; have y9 := eq_true hlt; have y10 := ltK hlt
  refine CallA.into tabOK mixed Tryz.func118 rfl rfl (by decide +kernel) (by simp [Tryz.ntmps118]) ?_
  simp only [go_sem,zA,zB,zC,zD,zE,zF,zG,zH,zI,zJ,zK,zL,zM,zN,zO,zP,↓reduceIte,reduceCtorEq,Tryz.ntmps118,Tryz.results118,e1,y1,y2,y3,y4,y5,y6,y7,y8,y9,y10,yAf,yAd,yAc,yAb,yAa,ltSelfK,yAe,zF,yAg,hpF_addL,askedCells,hs]
  refine CallA.into tabOK mixed Tryz.func86 rfl rfl (by decide +kernel) (by simp [Tryz.ntmps86]) ?_
  simp only [go_sem,zA,zB,zC,zD,zE,zF,zG,zH,zI,zJ,zK,zL,zM,zN,zO,zP,↓reduceIte,reduceCtorEq,Tryz.ntmps86,Tryz.results86,e1,y1,y2,y3,y4,y5,y6,y7,y8,y9,y10,yAf,yAd,yAc,yAb,yAa,ltSelfK,yAe,zF,yAg,hpF_addL,askedCells,Tryz.ntmps118,Tryz.results118]
  exact ⟨rfl,by (intro c hc; have z1 := ltNe0 hc; have z2 := ltNe hc; simp only [lk,applyEff,List.foldl_cons,List.foldl_nil,upd,hpF_eq,z1,z2,if_false,yAf,zA] <;> (repeat' split) <;> first | rfl | (simp_all [askedCells]; done) | (exfalso; omega))⟩
theorem hand_pan33 {H : Heap} {b : Nat} {s : Srv} {q : List UInt8} (h : H b = some (askedB s q)) (hs : decide (s.ses = 3) = true) (ho : s.op = false) :
    PanCalls Tryz.prog 118 [.ptr b 0] H (refPV 0x33) [] := by
  refine PanCalls.ofT ⟨_,by rfl,by decide +kernel,by decide +kernel⟩ effOK_nil rfl fun hp nx hH hx => ?_
  have e1 := (foot_one hH).trans h
  have hlt := lk_lt hx e1
  have y1 := lk_fresh0 hx; have y2 := lk_freshK hx; have y3 := ltNe0 hlt; have y4 := ltNe hlt; have y5 := gtNe0 hlt; have y6 := gtNe hlt; have y7 := eq_true hx; have y8 := allK hx; have y9 := eq_true hlt; have y10 := ltK hlt
  refine CallA.into tabOK mixed Tryz.func118 rfl rfl (by decide +kernel) (by simp [Tryz.ntmps118]) ?_
  simp only [go_sem,zA,zB,zC,zD,zE,zF,zG,zH,zI,zJ,zK,zL,zM,zN,zO,zP,↓reduceIte,reduceCtorEq,Tryz.ntmps118,Tryz.results118,e1,y1,y2,y3,y4,y5,y6,y7,y8,y9,y10,yAf,yAd,yAc,yAb,yAa,ltSelfK,yAe,zF,yAg,hpF_addL,askedCells,hs]
  refine CallA.into tabOK mixed Tryz.func86 rfl rfl (by decide +kernel) (by simp [Tryz.ntmps86]) ?_
  simp only [go_sem,zA,zB,zC,zD,zE,zF,zG,zH,zI,zJ,zK,zL,zM,zN,zO,zP,↓reduceIte,reduceCtorEq,Tryz.ntmps86,Tryz.results86,e1,y1,y2,y3,y4,y5,y6,y7,y8,y9,y10,yAf,yAd,yAc,yAb,yAa,ltSelfK,yAe,zF,yAg,hpF_addL,askedCells,ho,Tryz.ntmps118,Tryz.results118]
  refine CallA.into tabOK mixed Tryz.func86 rfl rfl (by decide +kernel) (by simp [Tryz.ntmps86]) ?_
  simp only [go_sem,zA,zB,zC,zD,zE,zF,zG,zH,zI,zJ,zK,zL,zM,zN,zO,zP,↓reduceIte,reduceCtorEq,Tryz.ntmps86,Tryz.results86,e1,y1,y2,y3,y4,y5,y6,y7,y8,y9,y10,yAf,yAd,yAc,yAb,yAa,ltSelfK,yAe,zF,yAg,hpF_addL,askedCells,ho,Tryz.ntmps118,Tryz.results118]
  exact ⟨rfl,by (intro c hc; have z1 := ltNe0 hc; have z2 := ltNe hc; simp only [lk,applyEff,List.foldl_cons,List.foldl_nil,upd,hpF_eq,z1,z2,if_false,yAf,zA] <;> (repeat' split) <;> first | rfl | (simp_all [askedCells]; done) | (exfalso; omega))⟩
theorem here_eff {H : Heap} {b : Nat} {s : Srv} {q : List UInt8} (h : H b = some (askedB s q)) : EffCalls Tryz.prog 126 [.ptr b 0] H (bytesPV []) [] := by
  refine EffCalls.ofT ⟨_,by rfl,by decide +kernel,by decide +kernel⟩ effOK_nil fun hp nx hH hx => ?_
  have e1 := (foot_one hH).trans h
  have hlt := lk_lt hx e1
  have y1 := lk_fresh0 hx; have y2 := lk_freshK hx; have y3 := ltNe0 hlt; have y4 := ltNe hlt; have y5 := gtNe0 hlt; have y6 := gtNe hlt; have y7 := eq_true hx; have y8 := allK hx; have y9 := eq_true hlt; have y10 := ltK hlt
  refine CallA.into tabOK mixed Tryz.func126 rfl rfl (by decide +kernel) (by simp [Tryz.ntmps126]) ?_
  simp only [go_sem,zA,zB,zC,zD,zE,zF,zG,zH,zI,zJ,zK,zL,zM,zN,zO,zP,↓reduceIte,reduceCtorEq,Tryz.ntmps126,Tryz.results126,e1,y1,y2,y3,y4,y5,y6,y7,y8,y9,y10,yAf,yAd,yAc,yAb,yAa,ltSelfK,yAe,zF,yAg,hpF_addL,askedCells]
  exact tidyK_nil (by (intro c hc; have z1 := ltNe0 hc; have z2 := ltNe hc; simp only [lk,applyEff,List.foldl_cons,List.foldl_nil,upd,hpF_eq,z1,z2,if_false,yAf,zA] <;> (repeat' split) <;> first | rfl | (simp_all [askedCells]; done) | (exfalso; omega)))
theorem forget_eff {H : Heap} {b : Nat} {s : Srv} {q : List UInt8} (h : H b = some (askedB s q)) (hs : decide (s.ses = 2) = true) :
    EffCalls Tryz.prog 122 [.ptr b 0] H (bytesPV []) [(b,askedB { s with dtc := [] } q)] := by
  refine EffCalls.ofT ⟨_,by rfl,by decide +kernel,by decide +kernel⟩ (effOK_one h) fun hp nx hH hx => ?_
  have e1 := (foot_one hH).trans h
  have hlt := lk_lt hx e1
  have y1 := lk_fresh0 hx; have y2 := lk_freshK hx; have y3 := ltNe0 hlt; have y4 := ltNe hlt; have y5 := gtNe0 hlt; have y6 := gtNe hlt; have y7 := eq_true hx; have y8 := allK hx; have y9 := eq_true hlt; have y10 := ltK hlt
  have c1 := clear_calls s.dtc
  refine CallA.into tabOK mixed Tryz.func122 rfl rfl (by decide +kernel) (by simp [Tryz.ntmps122]) ?_
  simp only [go_sem,zA,zB,zC,zD,zE,zF,zG,zH,zI,zJ,zK,zL,zM,zN,zO,zP,↓reduceIte,reduceCtorEq,Tryz.ntmps122,Tryz.results122,e1,y1,y2,y3,y4,y5,y6,y7,y8,y9,y10,yAf,yAd,yAc,yAb,yAa,ltSelfK,yAe,zF,yAg,hpF_addL,askedCells,hs]
  refine CallA.into tabOK mixed Tryz.func86 rfl rfl (by decide +kernel) (by simp [Tryz.ntmps86]) ?_
  simp only [go_sem,zA,zB,zC,zD,zE,zF,zG,zH,zI,zJ,zK,zL,zM,zN,zO,zP,↓reduceIte,reduceCtorEq,Tryz.ntmps86,Tryz.results86,e1,y1,y2,y3,y4,y5,y6,y7,y8,y9,y10,yAf,yAd,yAc,yAb,yAa,ltSelfK,yAe,zF,yAg,hpF_addL,askedCells,Tryz.ntmps122,Tryz.results122]
  (refine CallA.pure (c1) (by simp only [go_sem,zA,zB,zC,zD,zE,zF,zG,zH,zI,zJ,zK,zL,zM,zN,zO,zP,↓reduceIte,reduceCtorEq,e1,y1,y2,y3,y4,y5,y6,y7,y8,y9,y10,yAf,yAd,yAc,yAb,yAa,ltSelfK,yAe,zF,yAg,hpF_addL,askedCells,Tryz.ntmps122,Tryz.results122] <;> first | rfl | decide) ?_; simp only [go_sem,zA,zB,zC,zD,zE,zF,zG,zH,zI,zJ,zK,zL,zM,zN,zO,zP,↓reduceIte,reduceCtorEq,e1,y1,y2,y3,y4,y5,y6,y7,y8,y9,y10,yAf,yAd,yAc,yAb,yAa,ltSelfK,yAe,zF,yAg,hpF_addL,askedCells,Tryz.ntmps122,Tryz.results122])
  exact tidyK_nil (by (intro c hc; have z1 := ltNe0 hc; have z2 := ltNe hc; simp only [lk,applyEff,List.foldl_cons,List.foldl_nil,upd,hpF_eq,z1,z2,if_false,yAf,zA] <;> (repeat' split) <;> first | rfl | (simp_all [askedCells]; done) | (exfalso; omega)))
theorem forget_pan {H : Heap} {b : Nat} {s : Srv} {q : List UInt8} (h : H b = some (askedB s q)) (hs : decide (s.ses = 2) = false) :
    PanCalls Tryz.prog 122 [.ptr b 0] H (refPV 0x22) [] := by
  refine PanCalls.ofT ⟨_,by rfl,by decide +kernel,by decide +kernel⟩ effOK_nil rfl fun hp nx hH hx => ?_
  have e1 := (foot_one hH).trans h
  have hlt := lk_lt hx e1
  have y1 := lk_fresh0 hx; have y2 := lk_freshK hx; have y3 := ltNe0 hlt; have y4 := ltNe hlt; have y5 := gtNe0 hlt; have y6 := gtNe hlt; have y7 := eq_true hx; have y8 := allK hx; have y9 := eq_true hlt; have y10 := ltK hlt
  refine CallA.into tabOK mixed Tryz.func122 rfl rfl (by decide +kernel) (by simp [Tryz.ntmps122]) ?_
  simp only [go_sem,zA,zB,zC,zD,zE,zF,zG,zH,zI,zJ,zK,zL,zM,zN,zO,zP,↓reduceIte,reduceCtorEq,Tryz.ntmps122,Tryz.results122,e1,y1,y2,y3,y4,y5,y6,y7,y8,y9,y10,yAf,yAd,yAc,yAb,yAa,ltSelfK,yAe,zF,yAg,hpF_addL,askedCells,hs]
  refine CallA.into tabOK mixed Tryz.func86 rfl rfl (by decide +kernel) (by simp [Tryz.ntmps86]) ?_
  simp only [go_sem,zA,zB,zC,zD,zE,zF,zG,zH,zI,zJ,zK,zL,zM,zN,zO,zP,↓reduceIte,reduceCtorEq,Tryz.ntmps86,Tryz.results86,e1,y1,y2,y3,y4,y5,y6,y7,y8,y9,y10,yAf,yAd,yAc,yAb,yAa,ltSelfK,yAe,zF,yAg,hpF_addL,askedCells,Tryz.ntmps122,Tryz.results122]
  exact ⟨rfl,by (intro c hc; have z1 := ltNe0 hc; have z2 := ltNe hc; simp only [lk,applyEff,List.foldl_cons,List.foldl_nil,upd,hpF_eq,z1,z2,if_false,yAf,zA] <;> (repeat' split) <;> first | rfl | (simp_all [askedCells]; done) | (exfalso; omega))⟩
end Go.Proofs.YtcdmhigmgpflbaaGreat.Pe
