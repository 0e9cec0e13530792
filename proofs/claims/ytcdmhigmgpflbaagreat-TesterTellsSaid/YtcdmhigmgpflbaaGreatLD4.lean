import Derived.Test.YtcdmhigmgpflbaaGreatLC3
import Derived.Test.YtcdmhigmgpflbaaGreatLCR18
set_option maxRecDepth 20000
set_option maxHeartbeats 4000000
set_option linter.unusedSimpArgs false
set_option linter.unusedVariables false
open Nat renaming reduceAdd → zA,reduceSub → zB,reduceMul → zC,reduceLT → zD,reduceLeDiff → zE,reduceEqDiff → zF,reduceBEq → zG
open Int renaming reduceToNat → zH,reduceLT → zI,reduceLE → zJ,reduceEq → zK,reduceNe → zL,reduceAdd → zM,reduceSub → zN,reduceMul → zO,reduceNeg → zP,natCast_zero → yCb
namespace Go.Proofs.YtcdmhigmgpflbaaGreat.Pe.Lk
open Go.Pe Go.RowKit
theorem clone_calls (l : List UInt8) (h : l.length ≤ 1000000) : PureCalls Tryz.prog 117 [bytesPV l] (bytesPV l) := by
  refine PureCalls.of tabOK mixed Tryz.func117 rfl rfl (by decide +kernel) (by simp [Tryz.ntmps117]) ?_
  simp only [go_sem,zA,zB,zC,zD,zE,zF,zG,zH,zI,zJ,zK,zL,zM,zN,zO,zP,↓reduceIte,reduceCtorEq,Tryz.ntmps117,Tryz.results117]
  intro b hb
  cases b with
  | true =>
    have : l = [] := by simpa [rowsB] using hb rfl
    subst this
    simp only [go_sem,zA,zB,zC,zD,zE,zF,zG,zH,zI,zJ,zK,zL,zM,zN,zO,zP,↓reduceIte,reduceCtorEq,Tryz.ntmps117,Tryz.results117]
  | false =>
    simp only [go_sem,zA,zB,zC,zD,zE,zF,zG,zH,zI,zJ,zK,zL,zM,zN,zO,zP,↓reduceIte,reduceCtorEq,Tryz.ntmps117,Tryz.results117]
    exact ⟨by omega,by omega⟩
end Go.Proofs.YtcdmhigmgpflbaaGreat.Pe.Lk
namespace Go.Proofs.YtcdmhigmgpflbaaGreat.Pe.Lk
open Go.Pe Go.RowKit
def tabT : Tab := fun t => if t = 22 then (tab t).map (fun ti => { ti with trunc := true }) else tab t
theorem tabTOK : TabOK Tryz.prog tabT := by
  intro t ti h
  unfold tabT at h
  split at h
  · obtain ⟨ti',h1,rfl⟩ := Option.map_eq_some_iff.1 h
    obtain ⟨q1,q2,q3,q4⟩ := tabOK t ti' h1
    exact ⟨q1,q2,q3,q4⟩
  · exact tabOK t ti h
theorem tabT_bytes : tabT 22 = some { ti22 with trunc := true } := rfl
theorem tabT_int : tabT 3 = tab 3 := rfl
theorem tabT_u8 : tabT 5 = tab 5 := rfl
theorem tabT_bool : tabT 4 = tab 4 := rfl
theorem tabT_str : tabT 9 = tab 9 := rfl
theorem tabT_bb : tabT 62 = tab 62 := rfl
attribute [go_sem] tabT_bytes tabT_int tabT_u8 tabT_bool tabT_str tabT_bb
theorem grow_call {n : Int} {hp : List (Nat × Blk)} {nx : Nat} {K KP : CK} (h0 : 0 ≤ n) (h1 : n ≤ 1000000) (hnx : lk nx hp = none) (hnx2 : lk (nx + 1) hp = none) (h : K (.own nx 1) ((nx,.arr 5 1 [] 1 false) :: (nx,.arr 5 1 (List.replicate n.toNat [.lit (.int .u8 0)]) 0 false) :: hp) (nx + 1 + 1)) (hnil : n = 0 → K (.lit (.slice none 0 0)) hp nx) :
    CallA Tryz.prog 74 [.lit (.slice none 0 0),PI n] hp nx K KP := by
  refine CallA.into tabTOK mixed Tryz.func74 rfl rfl (by decide +kernel) (by simp [Tryz.ntmps74]) ?_
  have g0 : decide (n < 0) = false := by simp; omega
  have hw0 : IntKind.wrap .i64 0 = 0 := by decide
  have hw : IntKind.wrap .i64 (n - 0) = n := by rw [wrapI64 (by omega)]; omega
  simp only [go_sem,zA,zB,zC,zD,zE,zF,zG,zH,zI,zJ,zK,zL,zM,zN,zO,zP,↓reduceIte,reduceCtorEq,Tryz.ntmps74,Tryz.results74,g0,hw0,hw]
  by_cases hn : n = 0
  · have g1 : decide (n > 0) = false := by simp; omega
    simp only [go_sem,zA,zB,zC,zD,zE,zF,zG,zH,zI,zJ,zK,zL,zM,zN,zO,zP,↓reduceIte,reduceCtorEq,Tryz.ntmps74,Tryz.results74,g0,hw0,hw,g1]
    exact hnil hn
  · have g1 : decide (n > 0) = true := by simp; omega
    simp only [go_sem,zA,zB,zC,zD,zE,zF,zG,zH,zI,zJ,zK,zL,zM,zN,zO,zP,↓reduceIte,reduceCtorEq,Tryz.ntmps74,Tryz.results74,g0,hw0,hw,g1,hnx,hnx2]
    exact ⟨⟨h0,by omega,by omega⟩,by rw [if_neg (by omega)],by omega,h⟩
theorem concat_calls (a b : List UInt8) (h : a.length + b.length ≤ 1000000) : PureCalls Tryz.prog 49 [.im 1 [[bytesPV a],[bytesPV b]]] (bytesPV (a ++ b)) := by
  refine PureCalls.of tabTOK mixed Tryz.func49 rfl rfl (by decide +kernel) (by simp [Tryz.ntmps49]) ?_
  simp only [go_sem,zA,zB,zC,zD,zE,zF,zG,zH,zI,zJ,zK,zL,zM,zN,zO,zP,↓reduceIte,reduceCtorEq,Tryz.ntmps49,Tryz.results49]
  refine wpA_loop (fun m s => ∃ i : Nat,i ≤ 2 ∧ m = 2 - i ∧ s = ⟨36,[(0,.im 1 [[bytesPV a],[bytesPV b]]),(3,PI (if i = 0 then 0 else if i = 1 then a.length else a.length + b.length)),(9,.im 1 [[bytesPV a],[bytesPV b]]),(10,PI 2),(11,PI i)],[],0,0⟩) ⟨2,_,?_,0,by omega,by omega,rfl⟩ ?_
  · simp only [go_sem,zA,zB,zC,zD,zE,zF,zG,zH,zI,zJ,zK,zL,zM,zN,zO,zP,↓reduceIte,reduceCtorEq,yCb]
  rintro m s ⟨i,hi,rfl,rfl⟩
  have hc : i = 0 ∨ i = 1 ∨ i = 2 := by omega
  rcases hc with rfl | rfl | rfl
  · have hw0 : IntKind.wrap .i64 (a.length : Int) = a.length := wrapI64 (by omega)
    have f0 : decide ((a.length : Int) < 0) = false := by simp
    have w1 : IntKind.wrap .i64 1 = 1 := by decide
    simp only [go_sem,zA,zB,zC,zD,zE,zF,zG,zH,zI,zJ,zK,zL,zM,zN,zO,zP,↓reduceIte,reduceCtorEq,hw0,f0,w1,yCb,Int.natCast_one,Int.zero_add]
    refine ⟨1,_,by omega,?_,1,by omega,rfl,rfl⟩
    simp only [go_sem,zA,zB,zC,zD,zE,zF,zG,zH,zI,zJ,zK,zL,zM,zN,zO,zP,↓reduceIte,reduceCtorEq,Int.natCast_one]
  · have hw0 : IntKind.wrap .i64 ((a.length : Int) + (b.length : Int)) = a.length + b.length := wrapI64 (by omega)
    have f0 : decide ((a.length : Int) + (b.length : Int) < 0) = false := by simp; omega
    have w1 : IntKind.wrap .i64 2 = 2 := by decide
    simp only [go_sem,zA,zB,zC,zD,zE,zF,zG,zH,zI,zJ,zK,zL,zM,zN,zO,zP,↓reduceIte,reduceCtorEq,hw0,f0,w1,yCb,Int.natCast_one]
    refine ⟨0,_,by omega,?_,2,by omega,rfl,rfl⟩
    simp only [go_sem,zA,zB,zC,zD,zE,zF,zG,zH,zI,zJ,zK,zL,zM,zN,zO,zP,↓reduceIte,reduceCtorEq,Int.natCast_one]
  · have e2 : decide (((2 : Nat) : Int) < 2) = false := by decide
    have la : (rowsB a).length = a.length := rowsB_length a
    have ha0 : ∀ (x y : Int),(x = a.length ∧ y = b.length) → IntKind.wrap .i64 1 = 1 := fun _ _ _ => by decide
    have w1 : IntKind.wrap .i64 1 = 1 := by decide
    have w2 : IntKind.wrap .i64 2 = 2 := by decide
    simp only [go_sem,zA,zB,zC,zD,zE,zF,zG,zH,zI,zJ,zK,zL,zM,zN,zO,zP,↓reduceIte,reduceCtorEq,e2]
    refine grow_call (by omega) (by omega) rfl rfl ?_ ?_
    · simp only [go_sem,zA,zB,zC,zD,zE,zF,zG,zH,zI,zJ,zK,zL,zM,zN,zO,zP,↓reduceIte,reduceCtorEq]
      refine wpA_loop (fun m s => ∃ i v : Nat,i ≤ 2 ∧ m = 2 - i ∧ s = ⟨36,[(6,.own 0 v),(25,.im 1 [[bytesPV a],[bytesPV b]]),(26,PI 2),(27,PI i)],[(0,.arr 5 1 (rowsB (if i = 0 then [] else if i = 1 then a else a ++ b)) v false)],3,0⟩) ⟨2,_,?_,0,1,by omega,by omega,rfl⟩ ?_
      · simp only [go_sem,zA,zB,zC,zD,zE,zF,zG,zH,zI,zJ,zK,zL,zM,zN,zO,zP,↓reduceIte,reduceCtorEq,yCb]
      rintro m s ⟨i,v,hi,rfl,rfl⟩
      have hc : i = 0 ∨ i = 1 ∨ i = 2 := by omega
      rcases hc with rfl | rfl | rfl
      · simp only [go_sem,zA,zB,zC,zD,zE,zF,zG,zH,zI,zJ,zK,zL,zM,zN,zO,zP,↓reduceIte,reduceCtorEq,w1,yCb,List.length_nil]
        refine ⟨⟨by omega,by omega⟩,1,_,by omega,?_,1,v + 1,by omega,rfl,rfl⟩
        simp only [go_sem,zA,zB,zC,zD,zE,zF,zG,zH,zI,zJ,zK,zL,zM,zN,zO,zP,↓reduceIte,reduceCtorEq,Int.natCast_one]
      · simp only [go_sem,zA,zB,zC,zD,zE,zF,zG,zH,zI,zJ,zK,zL,zM,zN,zO,zP,↓reduceIte,reduceCtorEq,w2,Int.natCast_one]
        refine ⟨⟨by omega,by omega⟩,0,_,by omega,?_,2,v + 1,by omega,rfl,rfl⟩
        simp only [go_sem,zA,zB,zC,zD,zE,zF,zG,zH,zI,zJ,zK,zL,zM,zN,zO,zP,↓reduceIte,reduceCtorEq,Int.natCast_one]
      · simp only [go_sem,zA,zB,zC,zD,zE,zF,zG,zH,zI,zJ,zK,zL,zM,zN,zO,zP,↓reduceIte,reduceCtorEq,e2,Tryz.ntmps49,Tryz.results49]
    · intro h0
      have ha : a = [] := List.eq_nil_of_length_eq_zero (by omega)
      have hb : b = [] := List.eq_nil_of_length_eq_zero (by omega)
      subst ha hb
      simp only [go_sem,zA,zB,zC,zD,zE,zF,zG,zH,zI,zJ,zK,zL,zM,zN,zO,zP,↓reduceIte,reduceCtorEq]
      refine wpA_loop (fun m s => ∃ i v : Nat,i ≤ 2 ∧ m = 2 - i ∧ ((i = 0 ∧ s = ⟨36,[(6,.lit (.slice none 0 0)),(25,.im 1 [[bytesPV []],[bytesPV []]]),(26,PI 2),(27,PI i)],[],3,0⟩) ∨ (0 < i ∧ s = ⟨36,[(6,.own 3 v),(25,.im 1 [[bytesPV []],[bytesPV []]]),(26,PI 2),(27,PI i)],[(3,.arr 5 1 [] v false)],4,0⟩))) ⟨2,_,?_,0,0,by omega,by omega,.inl ⟨rfl,rfl⟩⟩ ?_
      · simp only [go_sem,zA,zB,zC,zD,zE,zF,zG,zH,zI,zJ,zK,zL,zM,zN,zO,zP,↓reduceIte,reduceCtorEq,yCb]
      rintro m s ⟨i,v,hi,rfl,⟨rfl,rfl⟩ | ⟨hp,rfl⟩⟩
      · simp only [go_sem,zA,zB,zC,zD,zE,zF,zG,zH,zI,zJ,zK,zL,zM,zN,zO,zP,↓reduceIte,reduceCtorEq,w1,yCb,List.length_nil]
        refine ⟨1,_,by omega,?_,1,0,by omega,rfl,.inr ⟨by omega,rfl⟩⟩
        simp only [go_sem,zA,zB,zC,zD,zE,zF,zG,zH,zI,zJ,zK,zL,zM,zN,zO,zP,↓reduceIte,reduceCtorEq,Int.natCast_one]
      have hc : i = 1 ∨ i = 2 := by omega
      rcases hc with rfl | rfl
      · simp only [go_sem,zA,zB,zC,zD,zE,zF,zG,zH,zI,zJ,zK,zL,zM,zN,zO,zP,↓reduceIte,reduceCtorEq,w2,Int.natCast_one]
        refine ⟨0,_,by omega,?_,2,v + 1,by omega,rfl,.inr ⟨by omega,rfl⟩⟩
        simp only [go_sem,zA,zB,zC,zD,zE,zF,zG,zH,zI,zJ,zK,zL,zM,zN,zO,zP,↓reduceIte,reduceCtorEq,Int.natCast_one]
      · simp only [go_sem,zA,zB,zC,zD,zE,zF,zG,zH,zI,zJ,zK,zL,zM,zN,zO,zP,↓reduceIte,reduceCtorEq,e2,Tryz.ntmps49,Tryz.results49]
end Go.Proofs.YtcdmhigmgpflbaaGreat.Pe.Lk
namespace Go.Proofs.YtcdmhigmgpflbaaGreat.Pe.Lk
open Go.Pe Go.RowKit
structure Rcv where
  st : Int
  len : Int
  got : List UInt8
  num : Int
  left : Int
  block : Int
  gap : Int
  clock : Int
  room : Int
  err : Int
  deriving DecidableEq
abbrev Rcv.cells (r : Rcv) : List PV := [PI r.st,PI r.len,bytesPV r.got,PI r.num,PI r.left,PI r.block,PI r.gap,PI r.clock,PI r.room,PI r.err]
def Rcv.pv (r : Rcv) : PV := .agg r.cells
def Pdu.none : Pdu := ⟨0,0,0,0,0,0,[]⟩
def freshR (room block gap : Int) : Rcv := ⟨0,0,[],0,0,block,gap,0,room,0⟩
def failR (r : Rcv) (e : Int) : Rcv := { r with st := 4,err := e }
def beginR (r : Rcv) (p : Pdu) (st : Int) : Rcv := if r.room < p.l then failR (freshR r.room r.block r.gap) 182 else { freshR r.room r.block r.gap with st := st,len := p.l,got := p.d }
def goP (r : Rcv) : Pdu := ⟨4,0,0,0,r.block,r.gap,[]⟩
def missR (r : Rcv) : Int := r.len - r.got.length
def moreR (r : Rcv) (p : Pdu) : Rcv := { r with got := r.got ++ p.d,clock := 0,num := (r.num + 1).tmod 16 }
def nextV (r : Rcv) (p : Pdu) : Rcv × Pdu × Bool :=
  if p.n ≠ r.num ∨ (p.d.length : Int) ≠ (if missR r < 7 then missR r else 7) then (failR r 183,Pdu.none,false)
  else if (p.d.length : Int) = missR r then ({ moreR r p with st := 3 },Pdu.none,false)
  else if r.left < 0 then (moreR r p,Pdu.none,false)
  else if 1 < r.left then ({ moreR r p with left := r.left - 1 },Pdu.none,false)
  else ({ moreR r p with left := r.block },goP r,true)
def recvV (r : Rcv) (p : Pdu) : Rcv × Pdu × Bool :=
  if p.k = 1 then (beginR r p 3,Pdu.none,false)
  else if p.k = 2 then
    (if r.room < p.l then (beginR r p 2,⟨4,0,0,2,0,0,[]⟩,true) else ({ beginR r p 2 with num := 1,left := if r.block = 0 then -1 else r.block },goP r,true))
  else if p.k = 3 ∧ r.st = 2 then nextV r p
  else (r,Pdu.none,false)
def Rcv.fine (r : Rcv) : Prop := 0 ≤ r.num ∧ r.num ≤ 15 ∧ 0 ≤ r.len ∧ r.len ≤ 4095 ∧ (r.got.length : Int) ≤ r.len ∧ -1 ≤ r.left ∧ r.left ≤ 255 ∧ 0 ≤ r.block ∧ r.block ≤ 255
theorem and15 {n : Int} (h : 0 ≤ n ∧ n ≤ 15) : bitsA .and .i64 (n + 1) 15 = (n + 1).tmod 16 := by
  have : n = 0 ∨ n = 1 ∨ n = 2 ∨ n = 3 ∨ n = 4 ∨ n = 5 ∨ n = 6 ∨ n = 7 ∨ n = 8 ∨ n = 9 ∨ n = 10 ∨ n = 11 ∨ n = 12 ∨ n = 13 ∨ n = 14 ∨ n = 15 := by omega
  rcases this with rfl | rfl | rfl | rfl | rfl | rfl | rfl | rfl | rfl | rfl | rfl | rfl | rfl | rfl | rfl | rfl <;> decide
theorem newT_calls (room block gap : Int) : PureCalls Tryz.prog 53 [PI room,PI block,PI gap] (freshR room block gap).pv := by
  refine PureCalls.of tabOK mixed Tryz.func53 rfl rfl (by decide +kernel) (by simp [Tryz.ntmps53]) ?_
  simp only [go_sem,zA,zB,zC,zD,zE,zF,zG,zH,zI,zJ,zK,zL,zM,zN,zO,zP,↓reduceIte,reduceCtorEq,Tryz.ntmps53,Tryz.results53,freshR,Rcv.pv]
theorem tickT_calls (r : Rcv) : PureCalls Tryz.prog 62 [r.pv] (if r.st = 2 then (if 100 < IntKind.wrap .i64 (r.clock + 1) then failR { r with clock := IntKind.wrap .i64 (r.clock + 1) } 181 else { r with clock := IntKind.wrap .i64 (r.clock + 1) }) else r).pv := by
  refine PureCalls.of tabOK mixed Tryz.func62 rfl rfl (by decide +kernel) (by simp [Tryz.ntmps62]) ?_
  obtain ⟨st,len,got,num,left,block,gap,clock,room,err⟩ := r
  simp only [go_sem,zA,zB,zC,zD,zE,zF,zG,zH,zI,zJ,zK,zL,zM,zN,zO,zP,↓reduceIte,reduceCtorEq,Tryz.ntmps62,Tryz.results62,Rcv.pv]
  by_cases h : st = 2
  · have f : decide (st = 2) = true := by simp [h]
    subst h
    simp only [go_sem,zA,zB,zC,zD,zE,zF,zG,zH,zI,zJ,zK,zL,zM,zN,zO,zP,↓reduceIte,reduceCtorEq]
    generalize IntKind.wrap .i64 (clock + 1) = c
    by_cases hc : 100 < c
    · have f2 : decide (c > 100) = true := by simp; omega
      simp only [go_sem,zA,zB,zC,zD,zE,zF,zG,zH,zI,zJ,zK,zL,zM,zN,zO,zP,↓reduceIte,reduceCtorEq,f2]
      refine CallA.into tabOK mixed Tryz.func82 rfl rfl (by decide +kernel) (by simp [Tryz.ntmps82]) ?_
      simp only [go_sem,zA,zB,zC,zD,zE,zF,zG,zH,zI,zJ,zK,zL,zM,zN,zO,zP,↓reduceIte,reduceCtorEq,Tryz.ntmps82,Tryz.results82,Tryz.ntmps62,Tryz.results62,hc,failR]
    · have f2 : decide (c > 100) = false := by simp; omega
      simp only [go_sem,zA,zB,zC,zD,zE,zF,zG,zH,zI,zJ,zK,zL,zM,zN,zO,zP,↓reduceIte,reduceCtorEq,f2,Tryz.ntmps62,Tryz.results62,hc]
  · have f : decide (st = 2) = false := by simp [h]
    simp only [go_sem,zA,zB,zC,zD,zE,zF,zG,zH,zI,zJ,zK,zL,zM,zN,zO,zP,↓reduceIte,reduceCtorEq,f,Tryz.ntmps62,Tryz.results62,h]
theorem textT_calls (r : Rcv) : PureCalls Tryz.prog 42 [r.pv] (.tup [bytesPV (if r.st = 3 then r.got else []),PB (decide (r.st = 3))]) := by
  refine PureCalls.of tabOK mixed Tryz.func42 rfl rfl (by decide +kernel) (by simp [Tryz.ntmps42]) ?_
  obtain ⟨st,len,got,num,left,block,gap,clock,room,err⟩ := r
  simp only [go_sem,zA,zB,zC,zD,zE,zF,zG,zH,zI,zJ,zK,zL,zM,zN,zO,zP,↓reduceIte,reduceCtorEq,Tryz.ntmps42,Tryz.results42,Rcv.pv]
  by_cases h : st = 3
  · have f : decide (st = 3) = true := by simp [h]
    simp only [go_sem,zA,zB,zC,zD,zE,zF,zG,zH,zI,zJ,zK,zL,zM,zN,zO,zP,↓reduceIte,reduceCtorEq,f,Tryz.ntmps42,Tryz.results42,h]
  · have f : decide (st = 3) = false := by simp [h]
    simp only [go_sem,zA,zB,zC,zD,zE,zF,zG,zH,zI,zJ,zK,zL,zM,zN,zO,zP,↓reduceIte,reduceCtorEq,f,Tryz.ntmps42,Tryz.results42,h]
theorem right_d {p : Pdu} (h : p.right = true) : p.d.length ≤ 7 := by
  unfold Pdu.right at h
  split at h
  · simp at h; omega
  · split at h
    · simp at h; omega
    · split at h
      · simp at h; omega
      · split at h
        · simp at h; simp [h]
        · simp at h
theorem takeT_calls (r : Rcv) (p : Pdu) (hr : r.fine) (hp : p.right = true) : PureCalls Tryz.prog 58 [r.pv,p.pv] (.tup [(recvV r p).1.pv,(recvV r p).2.1.pv,PB (recvV r p).2.2]) := by
  refine PureCalls.of tabOK mixed Tryz.func58 rfl rfl (by decide +kernel) (by simp [Tryz.ntmps58]) ?_
  have hd := right_d hp
  obtain ⟨st,len,got,num,left,block,gap,clock,room,err⟩ := r
  obtain ⟨k,l,n,sy,b,g,d⟩ := p
  generalize hres : recvV ⟨st,len,got,num,left,block,gap,clock,room,err⟩ ⟨k,l,n,sy,b,g,d⟩ = res
  generalize hR1 : res.1.pv = R1
  generalize hR2 : res.2.1.pv = R2
  generalize hR3 : res.2.2 = R3
  have fin : ∀ x,res = x → R1 = x.1.pv ∧ R2 = x.2.1.pv ∧ R3 = x.2.2 := by
    rintro x rfl
    exact ⟨hR1.symm,hR2.symm,hR3.symm⟩
  simp only [go_sem,zA,zB,zC,zD,zE,zF,zG,zH,zI,zJ,zK,zL,zM,zN,zO,zP,↓reduceIte,reduceCtorEq,Tryz.ntmps58,Tryz.results58,Rcv.pv,Pdu.pv]
  by_cases h1 : k = 1
  · subst h1
    simp only [go_sem,zA,zB,zC,zD,zE,zF,zG,zH,zI,zJ,zK,zL,zM,zN,zO,zP,↓reduceIte,reduceCtorEq]
    refine CallA.into tabOK mixed Tryz.func76 rfl rfl (by decide +kernel) (by simp [Tryz.ntmps76]) ?_
    simp only [go_sem,zA,zB,zC,zD,zE,zF,zG,zH,zI,zJ,zK,zL,zM,zN,zO,zP,↓reduceIte,reduceCtorEq,Tryz.ntmps76,Tryz.results76]
    refine CallA.into tabOK mixed Tryz.func98 rfl rfl (by decide +kernel) (by simp [Tryz.ntmps98]) ?_
    simp only [go_sem,zA,zB,zC,zD,zE,zF,zG,zH,zI,zJ,zK,zL,zM,zN,zO,zP,↓reduceIte,reduceCtorEq,Tryz.ntmps98,Tryz.results98]
    refine callD_same (newT_calls _ _ _) (by simp only [go_sem,zA,zB,zC,zD,zE,zF,zG,zH,zI,zJ,zK,zL,zM,zN,zO,zP,↓reduceIte,reduceCtorEq]) ?_
    simp only [go_sem,zA,zB,zC,zD,zE,zF,zG,zH,zI,zJ,zK,zL,zM,zN,zO,zP,↓reduceIte,reduceCtorEq,freshR,Rcv.pv]
    refine endD_intro (by decide +kernel) ?_
    simp only [go_sem,zA,zB,zC,zD,zE,zF,zG,zH,zI,zJ,zK,zL,zM,zN,zO,zP,↓reduceIte,reduceCtorEq]
    refine endD_intro (by decide +kernel) ?_
    by_cases hroom : room < l
    · have f : decide (l > room) = true := by simp; omega
      simp only [go_sem,zA,zB,zC,zD,zE,zF,zG,zH,zI,zJ,zK,zL,zM,zN,zO,zP,↓reduceIte,reduceCtorEq,f]
      refine CallA.into tabOK mixed Tryz.func82 rfl rfl (by decide +kernel) (by simp [Tryz.ntmps82]) ?_
      simp only [go_sem,zA,zB,zC,zD,zE,zF,zG,zH,zI,zJ,zK,zL,zM,zN,zO,zP,↓reduceIte,reduceCtorEq,Tryz.ntmps82,Tryz.results82,Tryz.ntmps98,Tryz.results98,Tryz.ntmps76,Tryz.results76,Tryz.ntmps58,Tryz.results58]
      refine endD_intro (by decide +kernel) ?_
      obtain ⟨q1,q2,q3⟩ := fin _ hres.symm
      rw [q1,q2,q3]
      simp only [go_sem,zA,zB,zC,zD,zE,zF,zG,zH,zI,zJ,zK,zL,zM,zN,zO,zP,↓reduceIte,reduceCtorEq,recvV,hroom,beginR,failR,freshR,Rcv.pv,Pdu.pv,Pdu.none,Tryz.ntmps58,Tryz.results58]
    · have f : decide (l > room) = false := by simp; omega
      simp only [go_sem,zA,zB,zC,zD,zE,zF,zG,zH,zI,zJ,zK,zL,zM,zN,zO,zP,↓reduceIte,reduceCtorEq,f]
      refine callD_same (clone_calls d (by simp at hd; omega)) (by simp only [go_sem,zA,zB,zC,zD,zE,zF,zG,zH,zI,zJ,zK,zL,zM,zN,zO,zP,↓reduceIte,reduceCtorEq]) ?_
      simp only [go_sem,zA,zB,zC,zD,zE,zF,zG,zH,zI,zJ,zK,zL,zM,zN,zO,zP,↓reduceIte,reduceCtorEq]
      refine endD_intro (by decide +kernel) ?_
      simp only [go_sem,zA,zB,zC,zD,zE,zF,zG,zH,zI,zJ,zK,zL,zM,zN,zO,zP,↓reduceIte,reduceCtorEq,Tryz.ntmps98,Tryz.results98,Tryz.ntmps76,Tryz.results76,Tryz.ntmps58,Tryz.results58]
      refine endD_intro (by decide +kernel) ?_
      obtain ⟨q1,q2,q3⟩ := fin _ hres.symm
      rw [q1,q2,q3]
      simp only [go_sem,zA,zB,zC,zD,zE,zF,zG,zH,zI,zJ,zK,zL,zM,zN,zO,zP,↓reduceIte,reduceCtorEq,recvV,hroom,beginR,failR,freshR,Rcv.pv,Pdu.pv,Pdu.none,Tryz.ntmps58,Tryz.results58]
  by_cases h2 : k = 2
  · subst h2
    simp only [go_sem,zA,zB,zC,zD,zE,zF,zG,zH,zI,zJ,zK,zL,zM,zN,zO,zP,↓reduceIte,reduceCtorEq]
    refine CallA.into tabOK mixed Tryz.func77 rfl rfl (by decide +kernel) (by simp [Tryz.ntmps77]) ?_
    simp only [go_sem,zA,zB,zC,zD,zE,zF,zG,zH,zI,zJ,zK,zL,zM,zN,zO,zP,↓reduceIte,reduceCtorEq,Tryz.ntmps77,Tryz.results77]
    refine CallA.into tabOK mixed Tryz.func98 rfl rfl (by decide +kernel) (by simp [Tryz.ntmps98]) ?_
    simp only [go_sem,zA,zB,zC,zD,zE,zF,zG,zH,zI,zJ,zK,zL,zM,zN,zO,zP,↓reduceIte,reduceCtorEq,Tryz.ntmps98,Tryz.results98]
    refine callD_same (newT_calls _ _ _) (by simp only [go_sem,zA,zB,zC,zD,zE,zF,zG,zH,zI,zJ,zK,zL,zM,zN,zO,zP,↓reduceIte,reduceCtorEq]) ?_
    simp only [go_sem,zA,zB,zC,zD,zE,zF,zG,zH,zI,zJ,zK,zL,zM,zN,zO,zP,↓reduceIte,reduceCtorEq,freshR,Rcv.pv]
    refine endD_intro (by decide +kernel) ?_
    simp only [go_sem,zA,zB,zC,zD,zE,zF,zG,zH,zI,zJ,zK,zL,zM,zN,zO,zP,↓reduceIte,reduceCtorEq]
    refine endD_intro (by decide +kernel) ?_
    by_cases hroom : room < l
    · have f : decide (l > room) = true := by simp; omega
      simp only [go_sem,zA,zB,zC,zD,zE,zF,zG,zH,zI,zJ,zK,zL,zM,zN,zO,zP,↓reduceIte,reduceCtorEq,f]
      refine CallA.into tabOK mixed Tryz.func82 rfl rfl (by decide +kernel) (by simp [Tryz.ntmps82]) ?_
      simp only [go_sem,zA,zB,zC,zD,zE,zF,zG,zH,zI,zJ,zK,zL,zM,zN,zO,zP,↓reduceIte,reduceCtorEq,Tryz.ntmps82,Tryz.results82,Tryz.ntmps98,Tryz.results98,Tryz.ntmps77,Tryz.results77,Tryz.ntmps58,Tryz.results58]
      refine endD_intro (by decide +kernel) ?_
      obtain ⟨q1,q2,q3⟩ := fin _ hres.symm
      rw [q1,q2,q3]
      simp only [go_sem,zA,zB,zC,zD,zE,zF,zG,zH,zI,zJ,zK,zL,zM,zN,zO,zP,↓reduceIte,reduceCtorEq,recvV,hroom,beginR,failR,freshR,Rcv.pv,Pdu.pv,Pdu.none,Tryz.ntmps58,Tryz.results58]
    · have f : decide (l > room) = false := by simp; omega
      simp only [go_sem,zA,zB,zC,zD,zE,zF,zG,zH,zI,zJ,zK,zL,zM,zN,zO,zP,↓reduceIte,reduceCtorEq,f]
      refine callD_same (clone_calls d (by simp at hd; omega)) (by simp only [go_sem,zA,zB,zC,zD,zE,zF,zG,zH,zI,zJ,zK,zL,zM,zN,zO,zP,↓reduceIte,reduceCtorEq]) ?_
      simp only [go_sem,zA,zB,zC,zD,zE,zF,zG,zH,zI,zJ,zK,zL,zM,zN,zO,zP,↓reduceIte,reduceCtorEq]
      refine endD_intro (by decide +kernel) ?_
      simp only [go_sem,zA,zB,zC,zD,zE,zF,zG,zH,zI,zJ,zK,zL,zM,zN,zO,zP,↓reduceIte,reduceCtorEq,Tryz.ntmps98,Tryz.results98,Tryz.ntmps77,Tryz.results77,Tryz.ntmps58,Tryz.results58]
      by_cases hb : block = 0
      · have fb : decide (block = 0) = true := by simp [hb]
        simp only [go_sem,zA,zB,zC,zD,zE,zF,zG,zH,zI,zJ,zK,zL,zM,zN,zO,zP,↓reduceIte,reduceCtorEq,fb]
        refine CallA.into tabOK mixed Tryz.func99 rfl rfl (by decide +kernel) (by simp [Tryz.ntmps99]) ?_
        simp only [go_sem,zA,zB,zC,zD,zE,zF,zG,zH,zI,zJ,zK,zL,zM,zN,zO,zP,↓reduceIte,reduceCtorEq,Tryz.ntmps99,Tryz.results99]
        refine endD_intro (by decide +kernel) ?_
        simp only [go_sem,zA,zB,zC,zD,zE,zF,zG,zH,zI,zJ,zK,zL,zM,zN,zO,zP,↓reduceIte,reduceCtorEq,Tryz.ntmps99,Tryz.results99,Tryz.ntmps77,Tryz.results77,Tryz.ntmps58,Tryz.results58]
        refine endD_intro (by decide +kernel) ?_
        obtain ⟨q1,q2,q3⟩ := fin _ hres.symm
        rw [q1,q2,q3]
        simp only [go_sem,zA,zB,zC,zD,zE,zF,zG,zH,zI,zJ,zK,zL,zM,zN,zO,zP,↓reduceIte,reduceCtorEq,recvV,hroom,beginR,failR,freshR,goP,hb,Rcv.pv,Pdu.pv,Pdu.none,Tryz.ntmps58,Tryz.results58]
      · have fb : decide (block = 0) = false := by simp [hb]
        simp only [go_sem,zA,zB,zC,zD,zE,zF,zG,zH,zI,zJ,zK,zL,zM,zN,zO,zP,↓reduceIte,reduceCtorEq,fb]
        refine CallA.into tabOK mixed Tryz.func99 rfl rfl (by decide +kernel) (by simp [Tryz.ntmps99]) ?_
        simp only [go_sem,zA,zB,zC,zD,zE,zF,zG,zH,zI,zJ,zK,zL,zM,zN,zO,zP,↓reduceIte,reduceCtorEq,Tryz.ntmps99,Tryz.results99]
        refine endD_intro (by decide +kernel) ?_
        simp only [go_sem,zA,zB,zC,zD,zE,zF,zG,zH,zI,zJ,zK,zL,zM,zN,zO,zP,↓reduceIte,reduceCtorEq,Tryz.ntmps99,Tryz.results99,Tryz.ntmps77,Tryz.results77,Tryz.ntmps58,Tryz.results58]
        refine endD_intro (by decide +kernel) ?_
        obtain ⟨q1,q2,q3⟩ := fin _ hres.symm
        rw [q1,q2,q3]
        simp only [go_sem,zA,zB,zC,zD,zE,zF,zG,zH,zI,zJ,zK,zL,zM,zN,zO,zP,↓reduceIte,reduceCtorEq,recvV,hroom,beginR,failR,freshR,goP,hb,Rcv.pv,Pdu.pv,Pdu.none,Tryz.ntmps58,Tryz.results58]
  by_cases h3 : k = 3
  · subst h3
    simp only [go_sem,zA,zB,zC,zD,zE,zF,zG,zH,zI,zJ,zK,zL,zM,zN,zO,zP,↓reduceIte,reduceCtorEq]
    refine CallA.into tabOK mixed Tryz.func78 rfl rfl (by decide +kernel) (by simp [Tryz.ntmps78]) ?_
    obtain ⟨hr1,hr2,hr3,hr4,hr5,hr6,hr7,hr8,hr9⟩ := hr
    simp only at hr1 hr2 hr3 hr4 hr5 hr6 hr7 hr8 hr9
    have hwm : IntKind.wrap .i64 (len - (got.length : Int)) = len - got.length := wrapI64 (by omega)
    simp only [go_sem,zA,zB,zC,zD,zE,zF,zG,zH,zI,zJ,zK,zL,zM,zN,zO,zP,↓reduceIte,reduceCtorEq,Tryz.ntmps78,Tryz.results78,hwm]
    refine endD_intro (by decide +kernel) ?_
    by_cases hst : st = 2
    rotate_left 1
    · have fs : decide (st = 2) = false := by simp [hst]
      simp only [go_sem,zA,zB,zC,zD,zE,zF,zG,zH,zI,zJ,zK,zL,zM,zN,zO,zP,↓reduceIte,reduceCtorEq,fs,Tryz.ntmps78,Tryz.results78,Tryz.ntmps58,Tryz.results58]
      refine endD_intro (by decide +kernel) ?_
      obtain ⟨q1,q2,q3⟩ := fin _ hres.symm
      rw [q1,q2,q3]
      simp only [go_sem,zA,zB,zC,zD,zE,zF,zG,zH,zI,zJ,zK,zL,zM,zN,zO,zP,↓reduceIte,reduceCtorEq,recvV,hst,Rcv.pv,Pdu.pv,Pdu.none,Tryz.ntmps58,Tryz.results58]
    subst hst
    simp only [recvV,nextV,missR,moreR,goP] at hres
    simp only [show ¬ ((3 : Int) = 1) by decide,show ¬ ((3 : Int) = 2) by decide,if_false,and_self,if_true] at hres
    obtain ⟨mi,hmi⟩ : ∃ mi,len - (got.length : Int) = mi := ⟨_,rfl⟩
    simp only [hmi] at hres
    simp only [go_sem,zA,zB,zC,zD,zE,zF,zG,zH,zI,zJ,zK,zL,zM,zN,zO,zP,↓reduceIte,reduceCtorEq,hmi]
    by_cases hn : n = num
    rotate_left 1
    · have fn : decide (n = num) = false := by simp [hn]
      rw [if_pos (.inl hn)] at hres
      simp only [go_sem,zA,zB,zC,zD,zE,zF,zG,zH,zI,zJ,zK,zL,zM,zN,zO,zP,↓reduceIte,reduceCtorEq,fn]
      refine endD_intro (by decide +kernel) ?_
      simp only [go_sem,zA,zB,zC,zD,zE,zF,zG,zH,zI,zJ,zK,zL,zM,zN,zO,zP,↓reduceIte,reduceCtorEq]
      refine CallA.into tabOK mixed Tryz.func82 rfl rfl (by decide +kernel) (by simp [Tryz.ntmps82]) ?_
      simp only [go_sem,zA,zB,zC,zD,zE,zF,zG,zH,zI,zJ,zK,zL,zM,zN,zO,zP,↓reduceIte,reduceCtorEq,Tryz.ntmps82,Tryz.results82,Tryz.ntmps78,Tryz.results78,Tryz.ntmps58,Tryz.results58]
      refine endD_intro (by decide +kernel) ?_
      obtain ⟨q1,q2,q3⟩ := fin _ hres.symm
      rw [q1,q2,q3]
      simp only [go_sem,zA,zB,zC,zD,zE,zF,zG,zH,zI,zJ,zK,zL,zM,zN,zO,zP,↓reduceIte,reduceCtorEq,failR,Rcv.pv,Pdu.pv,Pdu.none,Tryz.ntmps58,Tryz.results58]
    have fn : decide (n = num) = true := by simp [hn]
    by_cases hl : (d.length : Int) = (if mi < 7 then mi else 7)
    rotate_left 1
    · have fl : decide ((d.length : Int) = (if mi < 7 then mi else 7)) = false := by simpa using hl
      rw [if_pos (.inr hl)] at hres
      simp only [go_sem,zA,zB,zC,zD,zE,zF,zG,zH,zI,zJ,zK,zL,zM,zN,zO,zP,↓reduceIte,reduceCtorEq,fn,fl,hmi]
      refine endD_intro (by decide +kernel) ?_
      simp only [go_sem,zA,zB,zC,zD,zE,zF,zG,zH,zI,zJ,zK,zL,zM,zN,zO,zP,↓reduceIte,reduceCtorEq,fl]
      refine CallA.into tabOK mixed Tryz.func82 rfl rfl (by decide +kernel) (by simp [Tryz.ntmps82]) ?_
      simp only [go_sem,zA,zB,zC,zD,zE,zF,zG,zH,zI,zJ,zK,zL,zM,zN,zO,zP,↓reduceIte,reduceCtorEq,Tryz.ntmps82,Tryz.results82,Tryz.ntmps78,Tryz.results78,Tryz.ntmps58,Tryz.results58]
      refine endD_intro (by decide +kernel) ?_
      obtain ⟨q1,q2,q3⟩ := fin _ hres.symm
      rw [q1,q2,q3]
      simp only [go_sem,zA,zB,zC,zD,zE,zF,zG,zH,zI,zJ,zK,zL,zM,zN,zO,zP,↓reduceIte,reduceCtorEq,failR,Rcv.pv,Pdu.pv,Pdu.none,Tryz.ntmps58,Tryz.results58]
    have fl : decide ((d.length : Int) = (if mi < 7 then mi else 7)) = true := by simpa using hl
    rw [if_neg (by simp [hn]; exact hl)] at hres
    have hw1 : IntKind.wrap .i64 (num + 1) = num + 1 := wrapI64 (by omega)
    have h15 := and15 ⟨hr1,hr2⟩
    simp only [go_sem,zA,zB,zC,zD,zE,zF,zG,zH,zI,zJ,zK,zL,zM,zN,zO,zP,↓reduceIte,reduceCtorEq,fn,fl,hmi]
    refine endD_intro (by decide +kernel) ?_
    simp only [go_sem,zA,zB,zC,zD,zE,zF,zG,zH,zI,zJ,zK,zL,zM,zN,zO,zP,↓reduceIte,reduceCtorEq,fl]
    refine callD_pure (concat_calls got d (by omega)) (by simp only [go_sem,zA,zB,zC,zD,zE,zF,zG,zH,zI,zJ,zK,zL,zM,zN,zO,zP,↓reduceIte,reduceCtorEq]) ?_
    simp only [go_sem,zA,zB,zC,zD,zE,zF,zG,zH,zI,zJ,zK,zL,zM,zN,zO,zP,↓reduceIte,reduceCtorEq]
    refine endD_intro (by decide +kernel) ?_
    simp only [go_sem,zA,zB,zC,zD,zE,zF,zG,zH,zI,zJ,zK,zL,zM,zN,zO,zP,↓reduceIte,reduceCtorEq,hw1,h15,hmi]
    by_cases hm : (d.length : Int) = mi
    · have fm : decide ((d.length : Int) = mi) = true := by simp [hm]
      rw [if_pos hm] at hres
      simp only [go_sem,zA,zB,zC,zD,zE,zF,zG,zH,zI,zJ,zK,zL,zM,zN,zO,zP,↓reduceIte,reduceCtorEq,fm,Tryz.ntmps78,Tryz.results78,Tryz.ntmps58,Tryz.results58]
      refine endD_intro (by decide +kernel) ?_
      obtain ⟨q1,q2,q3⟩ := fin _ hres.symm
      rw [q1,q2,q3]
      simp only [go_sem,zA,zB,zC,zD,zE,zF,zG,zH,zI,zJ,zK,zL,zM,zN,zO,zP,↓reduceIte,reduceCtorEq,Rcv.pv,Pdu.pv,Pdu.none,Tryz.ntmps58,Tryz.results58]
    have fm : decide ((d.length : Int) = mi) = false := by simp [hm]
    rw [if_neg hm] at hres
    by_cases hl0 : left < 0
    · have f0 : decide (left < 0) = true := by simp [hl0]
      rw [if_pos hl0] at hres
      simp only [go_sem,zA,zB,zC,zD,zE,zF,zG,zH,zI,zJ,zK,zL,zM,zN,zO,zP,↓reduceIte,reduceCtorEq,fm,f0,Tryz.ntmps78,Tryz.results78,Tryz.ntmps58,Tryz.results58]
      refine endD_intro (by decide +kernel) ?_
      obtain ⟨q1,q2,q3⟩ := fin _ hres.symm
      rw [q1,q2,q3]
      simp only [go_sem,zA,zB,zC,zD,zE,zF,zG,zH,zI,zJ,zK,zL,zM,zN,zO,zP,↓reduceIte,reduceCtorEq,Rcv.pv,Pdu.pv,Pdu.none,Tryz.ntmps58,Tryz.results58]
    have f0 : decide (left < 0) = false := by simp; omega
    have hwl : IntKind.wrap .i64 (left - 1) = left - 1 := wrapI64 (by omega)
    rw [if_neg hl0] at hres
    by_cases hl1 : 1 < left
    · have f1 : decide (left - 1 > 0) = true := by simp; omega
      rw [if_pos hl1] at hres
      simp only [go_sem,zA,zB,zC,zD,zE,zF,zG,zH,zI,zJ,zK,zL,zM,zN,zO,zP,↓reduceIte,reduceCtorEq,fm,f0,hwl,f1,Tryz.ntmps78,Tryz.results78,Tryz.ntmps58,Tryz.results58]
      refine endD_intro (by decide +kernel) ?_
      obtain ⟨q1,q2,q3⟩ := fin _ hres.symm
      rw [q1,q2,q3]
      simp only [go_sem,zA,zB,zC,zD,zE,zF,zG,zH,zI,zJ,zK,zL,zM,zN,zO,zP,↓reduceIte,reduceCtorEq,Rcv.pv,Pdu.pv,Pdu.none,Tryz.ntmps58,Tryz.results58]
    have f1 : decide (left - 1 > 0) = false := by simp; omega
    rw [if_neg hl1] at hres
    simp only [go_sem,zA,zB,zC,zD,zE,zF,zG,zH,zI,zJ,zK,zL,zM,zN,zO,zP,↓reduceIte,reduceCtorEq,fm,f0,hwl,f1]
    refine CallA.into tabOK mixed Tryz.func99 rfl rfl (by decide +kernel) (by simp [Tryz.ntmps99]) ?_
    simp only [go_sem,zA,zB,zC,zD,zE,zF,zG,zH,zI,zJ,zK,zL,zM,zN,zO,zP,↓reduceIte,reduceCtorEq,Tryz.ntmps99,Tryz.results99]
    refine endD_intro (by decide +kernel) ?_
    simp only [go_sem,zA,zB,zC,zD,zE,zF,zG,zH,zI,zJ,zK,zL,zM,zN,zO,zP,↓reduceIte,reduceCtorEq,Tryz.ntmps99,Tryz.results99,Tryz.ntmps78,Tryz.results78,Tryz.ntmps58,Tryz.results58]
    refine endD_intro (by decide +kernel) ?_
    obtain ⟨q1,q2,q3⟩ := fin _ hres.symm
    rw [q1,q2,q3]
    simp only [go_sem,zA,zB,zC,zD,zE,zF,zG,zH,zI,zJ,zK,zL,zM,zN,zO,zP,↓reduceIte,reduceCtorEq,Rcv.pv,Pdu.pv,Pdu.none,Tryz.ntmps58,Tryz.results58]
  have k1 : decide (k = 1) = false := by simp [h1]
  have k2 : decide (k = 2) = false := by simp [h2]
  have k3 : decide (k = 3) = false := by simp [h3]
  obtain ⟨q1,q2,q3⟩ := fin _ (by rw [← hres,recvV,if_neg h1,if_neg h2,if_neg (fun h => h3 h.1)])
  rw [q1,q2,q3]
  simp only [go_sem,zA,zB,zC,zD,zE,zF,zG,zH,zI,zJ,zK,zL,zM,zN,zO,zP,↓reduceIte,reduceCtorEq,k1,k2,k3,h1,h2,h3]
  refine endD_intro (by decide +kernel) ?_
  simp only [go_sem,zA,zB,zC,zD,zE,zF,zG,zH,zI,zJ,zK,zL,zM,zN,zO,zP,↓reduceIte,reduceCtorEq,Tryz.ntmps58,Tryz.results58,Rcv.pv,Pdu.pv,Pdu.none]
end Go.Proofs.YtcdmhigmgpflbaaGreat.Pe.Lk
namespace Go.Proofs.YtcdmhigmgpflbaaGreat.Pe.Lk
open Go.Pe Go.RowKit
theorem newV_calls (room block gap : Int) : PureCalls Tryz.prog 64 [PI room,PI block,PI gap] (freshR room block gap).pv := by
  refine PureCalls.of tabOK mixed Tryz.func64 rfl rfl (by decide +kernel) (by simp [Tryz.ntmps64]) ?_
  simp only [go_sem,zA,zB,zC,zD,zE,zF,zG,zH,zI,zJ,zK,zL,zM,zN,zO,zP,↓reduceIte,reduceCtorEq,Tryz.ntmps64,Tryz.results64,freshR,Rcv.pv]
theorem failV_calls (r : Rcv) (e : Int) : PureCalls Tryz.prog 112 [r.pv,PI e] (failR r e).pv := by
  refine PureCalls.of tabOK mixed Tryz.func112 rfl rfl (by decide +kernel) (by simp [Tryz.ntmps112]) ?_
  obtain ⟨st,len,got,num,left,block,gap,clock,room,err⟩ := r
  simp only [go_sem,zA,zB,zC,zD,zE,zF,zG,zH,zI,zJ,zK,zL,zM,zN,zO,zP,↓reduceIte,reduceCtorEq,Tryz.ntmps112,Tryz.results112,failR,Rcv.pv]
theorem leftV_calls (r : Rcv) : PureCalls Tryz.prog 113 [r.pv] (PI (if r.block = 0 then -1 else r.block)) := by
  refine PureCalls.of tabOK mixed Tryz.func113 rfl rfl (by decide +kernel) (by simp [Tryz.ntmps113]) ?_
  obtain ⟨st,len,got,num,left,block,gap,clock,room,err⟩ := r
  simp only [go_sem,zA,zB,zC,zD,zE,zF,zG,zH,zI,zJ,zK,zL,zM,zN,zO,zP,↓reduceIte,reduceCtorEq,Tryz.ntmps113,Tryz.results113,Rcv.pv]
  repeat' (first | (refine wantK_splitN (fun h => ?_) (fun h => ?_) <;> simp only [go_sem,zA,zB,zC,zD,zE,zF,zG,zH,zI,zJ,zK,zL,zM,zN,zO,zP,↓reduceIte,reduceCtorEq,Tryz.ntmps113,Tryz.results113, *]) | (refine wantK_split (fun h => ?_) (fun h => ?_) <;> simp only [go_sem,zA,zB,zC,zD,zE,zF,zG,zH,zI,zJ,zK,zL,zM,zN,zO,zP,↓reduceIte,reduceCtorEq,Tryz.ntmps113,Tryz.results113, *]) | (refine condK_splitN (fun h => ?_) (fun h => ?_) <;> simp only [go_sem,zA,zB,zC,zD,zE,zF,zG,zH,zI,zJ,zK,zL,zM,zN,zO,zP,↓reduceIte,reduceCtorEq,Tryz.ntmps113,Tryz.results113, *]) | (refine condK_split (fun h => ?_) (fun h => ?_) <;> simp only [go_sem,zA,zB,zC,zD,zE,zF,zG,zH,zI,zJ,zK,zL,zM,zN,zO,zP,↓reduceIte,reduceCtorEq,Tryz.ntmps113,Tryz.results113, *]) | (refine drawK_splitN (fun h => ?_) (fun h => ?_) <;> simp only [go_sem,zA,zB,zC,zD,zE,zF,zG,zH,zI,zJ,zK,zL,zM,zN,zO,zP,↓reduceIte,reduceCtorEq,Tryz.ntmps113,Tryz.results113, *]) | (refine drawK_split (fun h => ?_) (fun h => ?_) <;> simp only [go_sem,zA,zB,zC,zD,zE,zF,zG,zH,zI,zJ,zK,zL,zM,zN,zO,zP,↓reduceIte,reduceCtorEq,Tryz.ntmps113,Tryz.results113, *]) | (refine endD_intro (by decide +kernel) ?_; simp only [go_sem,zA,zB,zC,zD,zE,zF,zG,zH,zI,zJ,zK,zL,zM,zN,zO,zP,↓reduceIte,reduceCtorEq,Tryz.ntmps113,Tryz.results113, *]) | (with_reducible refine And.intro ?_ ?_))
  all_goals (first | omega | (simp_all [FrzR_agg,FrzR_tup,FrzRL_cons,FrzRL_nil,FrzR_lit,FrzR_im,FrzR_own,frzOwn,FrzR_nilS,lk,hpF_eq]; done) | (simp_all [FrzR_agg,FrzR_tup,FrzRL_cons,FrzRL_nil,FrzR_lit,FrzR_im,FrzR_own,frzOwn,FrzR_nilS,lk,hpF_eq]; omega) | ((simp_all [FrzR_agg,FrzR_tup,FrzRL_cons,FrzRL_nil,FrzR_lit,FrzR_im,FrzR_own,frzOwn,FrzR_nilS,lk,hpF_eq]; repeat' split) <;> (first | omega | (simp_all [FrzR_agg,FrzR_tup,FrzRL_cons,FrzRL_nil,FrzR_lit,FrzR_im,FrzR_own,frzOwn,FrzR_nilS,lk,hpF_eq]; done) | (simp_all [FrzR_agg,FrzR_tup,FrzRL_cons,FrzRL_nil,FrzR_lit,FrzR_im,FrzR_own,frzOwn,FrzR_nilS,lk,hpF_eq]; omega))) | (repeat' split) <;> (first | omega | (simp_all [FrzR_agg,FrzR_tup,FrzRL_cons,FrzRL_nil,FrzR_lit,FrzR_im,FrzR_own,frzOwn,FrzR_nilS,lk,hpF_eq]; done) | (simp_all [FrzR_agg,FrzR_tup,FrzRL_cons,FrzRL_nil,FrzR_lit,FrzR_im,FrzR_own,frzOwn,FrzR_nilS,lk,hpF_eq]; omega)))
theorem goV_calls (r : Rcv) : PureCalls Tryz.prog 114 [r.pv] (goP r).pv := by
  refine PureCalls.of tabOK mixed Tryz.func114 rfl rfl (by decide +kernel) (by simp [Tryz.ntmps114]) ?_
  obtain ⟨st,len,got,num,left,block,gap,clock,room,err⟩ := r
  simp only [go_sem,zA,zB,zC,zD,zE,zF,zG,zH,zI,zJ,zK,zL,zM,zN,zO,zP,↓reduceIte,reduceCtorEq,Tryz.ntmps114,Tryz.results114,goP,Rcv.pv,Pdu.pv]
def tickV (r : Rcv) : Rcv := if r.st = 2 then (if 100 < IntKind.wrap .i64 (r.clock + 1) then failR { r with clock := IntKind.wrap .i64 (r.clock + 1) } 181 else { r with clock := IntKind.wrap .i64 (r.clock + 1) }) else r
theorem tickV_calls (r : Rcv) : PureCalls Tryz.prog 95 [r.pv] (tickV r).pv := by
  refine PureCalls.of tabOK mixed Tryz.func95 rfl rfl (by decide +kernel) (by simp [Tryz.ntmps95]) ?_
  obtain ⟨st,len,got,num,left,block,gap,clock,room,err⟩ := r
  simp only [go_sem,zA,zB,zC,zD,zE,zF,zG,zH,zI,zJ,zK,zL,zM,zN,zO,zP,↓reduceIte,reduceCtorEq,Tryz.ntmps95,Tryz.results95,Rcv.pv,tickV]
  by_cases h : st = 2
  · subst h
    simp only [go_sem,zA,zB,zC,zD,zE,zF,zG,zH,zI,zJ,zK,zL,zM,zN,zO,zP,↓reduceIte,reduceCtorEq]
    obtain ⟨c,hc⟩ : ∃ c,IntKind.wrap .i64 (clock + 1) = c := ⟨_,rfl⟩
    by_cases hk : 100 < c
    · have f2 : decide (c > 100) = true := by simp; omega
      simp only [go_sem,zA,zB,zC,zD,zE,zF,zG,zH,zI,zJ,zK,zL,zM,zN,zO,zP,↓reduceIte,reduceCtorEq,hc,f2]
      refine CallA.same (failV_calls ⟨2,len,got,num,left,block,gap,c,room,err⟩ 181) (by simp only [go_sem,zA,zB,zC,zD,zE,zF,zG,zH,zI,zJ,zK,zL,zM,zN,zO,zP,↓reduceIte,reduceCtorEq,Rcv.pv]) ?_
      simp only [go_sem,zA,zB,zC,zD,zE,zF,zG,zH,zI,zJ,zK,zL,zM,zN,zO,zP,↓reduceIte,reduceCtorEq,Tryz.ntmps95,Tryz.results95,hk,failR,Rcv.pv]
    · have f2 : decide (c > 100) = false := by simp; omega
      simp only [go_sem,zA,zB,zC,zD,zE,zF,zG,zH,zI,zJ,zK,zL,zM,zN,zO,zP,↓reduceIte,reduceCtorEq,hc,f2,Tryz.ntmps95,Tryz.results95,hk]
  · have f : decide (st = 2) = false := by simp [h]
    simp only [go_sem,zA,zB,zC,zD,zE,zF,zG,zH,zI,zJ,zK,zL,zM,zN,zO,zP,↓reduceIte,reduceCtorEq,f,Tryz.ntmps95,Tryz.results95,h]
theorem textV_calls (r : Rcv) : PureCalls Tryz.prog 45 [r.pv] (.tup [bytesPV (if r.st = 3 then r.got else []),PB (decide (r.st = 3))]) := by
  refine PureCalls.of tabOK mixed Tryz.func45 rfl rfl (by decide +kernel) (by simp [Tryz.ntmps45]) ?_
  obtain ⟨st,len,got,num,left,block,gap,clock,room,err⟩ := r
  simp only [go_sem,zA,zB,zC,zD,zE,zF,zG,zH,zI,zJ,zK,zL,zM,zN,zO,zP,↓reduceIte,reduceCtorEq,Tryz.ntmps45,Tryz.results45,Rcv.pv]
  by_cases h : st = 3
  · have f : decide (st = 3) = true := by simp [h]
    simp only [go_sem,zA,zB,zC,zD,zE,zF,zG,zH,zI,zJ,zK,zL,zM,zN,zO,zP,↓reduceIte,reduceCtorEq,f,Tryz.ntmps45,Tryz.results45,h]
  · have f : decide (st = 3) = false := by simp [h]
    simp only [go_sem,zA,zB,zC,zD,zE,zF,zG,zH,zI,zJ,zK,zL,zM,zN,zO,zP,↓reduceIte,reduceCtorEq,f,Tryz.ntmps45,Tryz.results45,h]
theorem nextR_callsV (r : Rcv) (p : Pdu) (hr : r.fine) (hd : p.d.length ≤ 7) : PureCalls Tryz.prog 115 [r.pv,p.pv] (.tup [(nextV r p).1.pv,(nextV r p).2.1.pv,PB (nextV r p).2.2]) := by
  refine PureCalls.of tabOK mixed Tryz.func115 rfl rfl (by decide +kernel) (by simp [Tryz.ntmps115]) ?_
  obtain ⟨st,len,got,num,left,block,gap,clock,room,err⟩ := r
  obtain ⟨k,l,n,sy,b,g,d⟩ := p
  generalize hres : nextV ⟨st,len,got,num,left,block,gap,clock,room,err⟩ ⟨k,l,n,sy,b,g,d⟩ = res
  generalize hR1 : res.1.pv = R1
  generalize hR2 : res.2.1.pv = R2
  generalize hR3 : res.2.2 = R3
  have fin : ∀ x,res = x → R1 = x.1.pv ∧ R2 = x.2.1.pv ∧ R3 = x.2.2 := by
    rintro x rfl
    exact ⟨hR1.symm,hR2.symm,hR3.symm⟩
  obtain ⟨hr1,hr2,hr3,hr4,hr5,hr6,hr7,hr8,hr9⟩ := hr
  simp only at hr1 hr2 hr3 hr4 hr5 hr6 hr7 hr8 hr9 hd
  have hwm : IntKind.wrap .i64 (len - (got.length : Int)) = len - got.length := wrapI64 (by omega)
  have hw1 : IntKind.wrap .i64 (num + 1) = num + 1 := wrapI64 (by omega)
  have hwl : IntKind.wrap .i64 (left - 1) = left - 1 := wrapI64 (by omega)
  simp only [nextV,missR,moreR,goP] at hres
  obtain ⟨mi,hmi⟩ : ∃ mi,len - (got.length : Int) = mi := ⟨_,rfl⟩
  simp only [hmi] at hres
  replace hwm := hwm.trans hmi
  simp only [go_sem,zA,zB,zC,zD,zE,zF,zG,zH,zI,zJ,zK,zL,zM,zN,zO,zP,↓reduceIte,reduceCtorEq,Tryz.ntmps115,Tryz.results115,Rcv.pv,Pdu.pv]
  by_cases hn : n = num
  rotate_left 1
  · have fn : decide (n = num) = false := by simp [hn]
    rw [if_pos (.inl hn)] at hres
    simp only [go_sem,zA,zB,zC,zD,zE,zF,zG,zH,zI,zJ,zK,zL,zM,zN,zO,zP,↓reduceIte,reduceCtorEq,fn]
    refine CallA.same (failV_calls ⟨st,len,got,num,left,block,gap,clock,room,err⟩ 183) (by simp only [go_sem,zA,zB,zC,zD,zE,zF,zG,zH,zI,zJ,zK,zL,zM,zN,zO,zP,↓reduceIte,reduceCtorEq,Rcv.pv]) ?_
    obtain ⟨q1,q2,q3⟩ := fin _ hres.symm
    rw [q1,q2,q3]
    simp only [go_sem,zA,zB,zC,zD,zE,zF,zG,zH,zI,zJ,zK,zL,zM,zN,zO,zP,↓reduceIte,reduceCtorEq,failR,Rcv.pv,Pdu.pv,Pdu.none,Tryz.ntmps115,Tryz.results115]
  have fn : decide (n = num) = true := by simp [hn]
  by_cases hl : (d.length : Int) = (if mi < 7 then mi else 7)
  rotate_left 1
  · have fl : decide ((d.length : Int) = (if mi < 7 then mi else 7)) = false := by simpa using hl
    rw [if_pos (.inr hl)] at hres
    simp only [go_sem,zA,zB,zC,zD,zE,zF,zG,zH,zI,zJ,zK,zL,zM,zN,zO,zP,↓reduceIte,reduceCtorEq,fn,hwm,fl]
    refine CallA.same (failV_calls ⟨st,len,got,num,left,block,gap,clock,room,err⟩ 183) (by simp only [go_sem,zA,zB,zC,zD,zE,zF,zG,zH,zI,zJ,zK,zL,zM,zN,zO,zP,↓reduceIte,reduceCtorEq,Rcv.pv]) ?_
    obtain ⟨q1,q2,q3⟩ := fin _ hres.symm
    rw [q1,q2,q3]
    simp only [go_sem,zA,zB,zC,zD,zE,zF,zG,zH,zI,zJ,zK,zL,zM,zN,zO,zP,↓reduceIte,reduceCtorEq,failR,Rcv.pv,Pdu.pv,Pdu.none,Tryz.ntmps115,Tryz.results115]
  have fl : decide ((d.length : Int) = (if mi < 7 then mi else 7)) = true := by simpa using hl
  rw [if_neg (by simp [hn]; exact hl)] at hres
  simp only [go_sem,zA,zB,zC,zD,zE,zF,zG,zH,zI,zJ,zK,zL,zM,zN,zO,zP,↓reduceIte,reduceCtorEq,fn,hwm,fl]
  refine ⟨⟨by omega,by omega⟩,⟨by first | omega | (simp; omega),by first | omega | (simp; omega)⟩,endD_intro (by decide +kernel) ?_⟩
  simp only [go_sem,zA,zB,zC,zD,zE,zF,zG,zH,zI,zJ,zK,zL,zM,zN,zO,zP,↓reduceIte,reduceCtorEq,hw1]
  by_cases hm : (d.length : Int) = mi
  · have fm : decide (((got ++ d).length : Int) = len) = true := by simp; omega
    rw [if_pos hm] at hres
    simp only [go_sem,zA,zB,zC,zD,zE,zF,zG,zH,zI,zJ,zK,zL,zM,zN,zO,zP,↓reduceIte,reduceCtorEq,fm,Tryz.ntmps115,Tryz.results115]
    obtain ⟨q1,q2,q3⟩ := fin _ hres.symm
    rw [q1,q2,q3]
    simp only [go_sem,zA,zB,zC,zD,zE,zF,zG,zH,zI,zJ,zK,zL,zM,zN,zO,zP,↓reduceIte,reduceCtorEq,Rcv.pv,Pdu.pv,Pdu.none,Tryz.ntmps115,Tryz.results115]
  have fm : decide (((got ++ d).length : Int) = len) = false := by simp; omega
  rw [if_neg hm] at hres
  simp only [go_sem,zA,zB,zC,zD,zE,zF,zG,zH,zI,zJ,zK,zL,zM,zN,zO,zP,↓reduceIte,reduceCtorEq,fm]
  by_cases hl0 : left < 0
  · have f0 : decide (left > 0) = false := by simp; omega
    have f1 : decide (left = 0) = false := by simp; omega
    rw [if_pos hl0] at hres
    simp only [go_sem,zA,zB,zC,zD,zE,zF,zG,zH,zI,zJ,zK,zL,zM,zN,zO,zP,↓reduceIte,reduceCtorEq,f0,f1,Tryz.ntmps115,Tryz.results115]
    obtain ⟨q1,q2,q3⟩ := fin _ hres.symm
    rw [q1,q2,q3]
    simp only [go_sem,zA,zB,zC,zD,zE,zF,zG,zH,zI,zJ,zK,zL,zM,zN,zO,zP,↓reduceIte,reduceCtorEq,Rcv.pv,Pdu.pv,Pdu.none,Tryz.ntmps115,Tryz.results115]
  rw [if_neg hl0] at hres
  by_cases hl1 : 1 < left
  · have f0 : decide (left > 0) = true := by simp; omega
    have f1 : decide (left - 1 = 0) = false := by simp; omega
    rw [if_pos hl1] at hres
    simp only [go_sem,zA,zB,zC,zD,zE,zF,zG,zH,zI,zJ,zK,zL,zM,zN,zO,zP,↓reduceIte,reduceCtorEq,f0,hwl,f1,Tryz.ntmps115,Tryz.results115]
    obtain ⟨q1,q2,q3⟩ := fin _ hres.symm
    rw [q1,q2,q3]
    simp only [go_sem,zA,zB,zC,zD,zE,zF,zG,zH,zI,zJ,zK,zL,zM,zN,zO,zP,↓reduceIte,reduceCtorEq,Rcv.pv,Pdu.pv,Pdu.none,Tryz.ntmps115,Tryz.results115]
  rw [if_neg hl1] at hres
  have cG := goV_calls ⟨st,len,got ++ d,(num + 1).tmod 16,block,block,gap,0,room,err⟩
  by_cases hl2 : left = 0
  · have f0 : decide (left > 0) = false := by simp; omega
    have f1 : decide (left = 0) = true := by simp; omega
    simp only [go_sem,zA,zB,zC,zD,zE,zF,zG,zH,zI,zJ,zK,zL,zM,zN,zO,zP,↓reduceIte,reduceCtorEq,f0,f1]
    refine callD_pure cG (by simp only [go_sem,zA,zB,zC,zD,zE,zF,zG,zH,zI,zJ,zK,zL,zM,zN,zO,zP,↓reduceIte,reduceCtorEq,Rcv.pv]) ?_
    simp only [go_sem,zA,zB,zC,zD,zE,zF,zG,zH,zI,zJ,zK,zL,zM,zN,zO,zP,↓reduceIte,reduceCtorEq,goP,Pdu.pv]
    refine endD_intro (by decide +kernel) ?_
    obtain ⟨q1,q2,q3⟩ := fin _ hres.symm
    rw [q1,q2,q3]
    simp only [go_sem,zA,zB,zC,zD,zE,zF,zG,zH,zI,zJ,zK,zL,zM,zN,zO,zP,↓reduceIte,reduceCtorEq,Rcv.pv,Pdu.pv,Pdu.none,Tryz.ntmps115,Tryz.results115]
  · have f0 : decide (left > 0) = true := by simp; omega
    have f1 : decide (left - 1 = 0) = true := by simp; omega
    simp only [go_sem,zA,zB,zC,zD,zE,zF,zG,zH,zI,zJ,zK,zL,zM,zN,zO,zP,↓reduceIte,reduceCtorEq,f0,hwl,f1]
    refine callD_pure cG (by simp only [go_sem,zA,zB,zC,zD,zE,zF,zG,zH,zI,zJ,zK,zL,zM,zN,zO,zP,↓reduceIte,reduceCtorEq,Rcv.pv]) ?_
    simp only [go_sem,zA,zB,zC,zD,zE,zF,zG,zH,zI,zJ,zK,zL,zM,zN,zO,zP,↓reduceIte,reduceCtorEq,goP,Pdu.pv]
    refine endD_intro (by decide +kernel) ?_
    obtain ⟨q1,q2,q3⟩ := fin _ hres.symm
    rw [q1,q2,q3]
    simp only [go_sem,zA,zB,zC,zD,zE,zF,zG,zH,zI,zJ,zK,zL,zM,zN,zO,zP,↓reduceIte,reduceCtorEq,Rcv.pv,Pdu.pv,Pdu.none,Tryz.ntmps115,Tryz.results115]
theorem takeV_calls (r : Rcv) (p : Pdu) (hr : r.fine) (hp : p.right = true) : PureCalls Tryz.prog 90 [r.pv,p.pv] (.tup [(recvV r p).1.pv,(recvV r p).2.1.pv,PB (recvV r p).2.2]) := by
  refine PureCalls.of tabOK mixed Tryz.func90 rfl rfl (by decide +kernel) (by simp [Tryz.ntmps90]) ?_
  have hd := right_d hp
  have cN := nextR_callsV r p hr hd
  obtain ⟨st,len,got,num,left,block,gap,clock,room,err⟩ := r
  obtain ⟨k,l,n,sy,b,g,d⟩ := p
  simp only at hd
  generalize hres : recvV ⟨st,len,got,num,left,block,gap,clock,room,err⟩ ⟨k,l,n,sy,b,g,d⟩ = res
  generalize hR1 : res.1.pv = R1
  generalize hR2 : res.2.1.pv = R2
  generalize hR3 : res.2.2 = R3
  have fin : ∀ x,res = x → R1 = x.1.pv ∧ R2 = x.2.1.pv ∧ R3 = x.2.2 := by
    rintro x rfl
    exact ⟨hR1.symm,hR2.symm,hR3.symm⟩
  simp only [go_sem,zA,zB,zC,zD,zE,zF,zG,zH,zI,zJ,zK,zL,zM,zN,zO,zP,↓reduceIte,reduceCtorEq,Tryz.ntmps90,Tryz.results90,Rcv.pv,Pdu.pv]
  refine CallA.same (newV_calls _ _ _) (by simp only [go_sem,zA,zB,zC,zD,zE,zF,zG,zH,zI,zJ,zK,zL,zM,zN,zO,zP,↓reduceIte,reduceCtorEq]) ?_
  simp only [go_sem,zA,zB,zC,zD,zE,zF,zG,zH,zI,zJ,zK,zL,zM,zN,zO,zP,↓reduceIte,reduceCtorEq,freshR,Rcv.pv]
  by_cases h1 : k = 1
  · subst h1
    simp only [go_sem,zA,zB,zC,zD,zE,zF,zG,zH,zI,zJ,zK,zL,zM,zN,zO,zP,↓reduceIte,reduceCtorEq]
    by_cases hroom : room < l
    · have f : decide (l > room) = true := by simp; omega
      simp only [go_sem,zA,zB,zC,zD,zE,zF,zG,zH,zI,zJ,zK,zL,zM,zN,zO,zP,↓reduceIte,reduceCtorEq,f]
      refine CallA.same (failV_calls ⟨0,0,[],0,0,block,gap,0,room,0⟩ 182) (by simp only [go_sem,zA,zB,zC,zD,zE,zF,zG,zH,zI,zJ,zK,zL,zM,zN,zO,zP,↓reduceIte,reduceCtorEq,Rcv.pv]) ?_
      obtain ⟨q1,q2,q3⟩ := fin _ hres.symm
      rw [q1,q2,q3]
      simp only [go_sem,zA,zB,zC,zD,zE,zF,zG,zH,zI,zJ,zK,zL,zM,zN,zO,zP,↓reduceIte,reduceCtorEq,recvV,hroom,beginR,failR,freshR,Rcv.pv,Pdu.pv,Pdu.none,Tryz.ntmps90,Tryz.results90]
    · have f : decide (l > room) = false := by simp; omega
      simp only [go_sem,zA,zB,zC,zD,zE,zF,zG,zH,zI,zJ,zK,zL,zM,zN,zO,zP,↓reduceIte,reduceCtorEq,f]
      refine ⟨⟨by omega,by omega⟩,?_⟩
      obtain ⟨q1,q2,q3⟩ := fin _ hres.symm
      rw [q1,q2,q3]
      simp only [go_sem,zA,zB,zC,zD,zE,zF,zG,zH,zI,zJ,zK,zL,zM,zN,zO,zP,↓reduceIte,reduceCtorEq,recvV,hroom,beginR,failR,freshR,Rcv.pv,Pdu.pv,Pdu.none,Tryz.ntmps90,Tryz.results90]
  by_cases h2 : k = 2
  · subst h2
    simp only [go_sem,zA,zB,zC,zD,zE,zF,zG,zH,zI,zJ,zK,zL,zM,zN,zO,zP,↓reduceIte,reduceCtorEq]
    by_cases hroom : room < l
    · have f : decide (l > room) = true := by simp; omega
      simp only [go_sem,zA,zB,zC,zD,zE,zF,zG,zH,zI,zJ,zK,zL,zM,zN,zO,zP,↓reduceIte,reduceCtorEq,f]
      refine CallA.same (failV_calls ⟨0,0,[],0,0,block,gap,0,room,0⟩ 182) (by simp only [go_sem,zA,zB,zC,zD,zE,zF,zG,zH,zI,zJ,zK,zL,zM,zN,zO,zP,↓reduceIte,reduceCtorEq,Rcv.pv]) ?_
      obtain ⟨q1,q2,q3⟩ := fin _ hres.symm
      rw [q1,q2,q3]
      simp only [go_sem,zA,zB,zC,zD,zE,zF,zG,zH,zI,zJ,zK,zL,zM,zN,zO,zP,↓reduceIte,reduceCtorEq,recvV,hroom,beginR,failR,freshR,Rcv.pv,Pdu.pv,Pdu.none,Tryz.ntmps90,Tryz.results90]
    · have f : decide (l > room) = false := by simp; omega
      simp only [go_sem,zA,zB,zC,zD,zE,zF,zG,zH,zI,zJ,zK,zL,zM,zN,zO,zP,↓reduceIte,reduceCtorEq,f]
      refine ⟨⟨by omega,by omega⟩,?_⟩
      refine CallA.pure (leftV_calls ⟨2,l,d,1,0,block,gap,0,room,0⟩) (by simp only [go_sem,zA,zB,zC,zD,zE,zF,zG,zH,zI,zJ,zK,zL,zM,zN,zO,zP,↓reduceIte,reduceCtorEq,Rcv.pv]) ?_
      simp only [go_sem,zA,zB,zC,zD,zE,zF,zG,zH,zI,zJ,zK,zL,zM,zN,zO,zP,↓reduceIte,reduceCtorEq]
      refine callD_pure (goV_calls ⟨2,l,d,1,(if block = 0 then -1 else block),block,gap,0,room,0⟩) (by simp only [go_sem,zA,zB,zC,zD,zE,zF,zG,zH,zI,zJ,zK,zL,zM,zN,zO,zP,↓reduceIte,reduceCtorEq,Rcv.pv]) ?_
      simp only [go_sem,zA,zB,zC,zD,zE,zF,zG,zH,zI,zJ,zK,zL,zM,zN,zO,zP,↓reduceIte,reduceCtorEq,goP,Pdu.pv]
      refine endD_intro (by decide +kernel) ?_
      obtain ⟨q1,q2,q3⟩ := fin _ hres.symm
      rw [q1,q2,q3]
      simp only [go_sem,zA,zB,zC,zD,zE,zF,zG,zH,zI,zJ,zK,zL,zM,zN,zO,zP,↓reduceIte,reduceCtorEq,recvV,hroom,beginR,failR,freshR,goP,Rcv.pv,Pdu.pv,Pdu.none,Tryz.ntmps90,Tryz.results90]
  by_cases h3 : k = 3
  · subst h3
    by_cases hst : st = 2
    · subst hst
      simp only [go_sem,zA,zB,zC,zD,zE,zF,zG,zH,zI,zJ,zK,zL,zM,zN,zO,zP,↓reduceIte,reduceCtorEq]
      refine CallA.same cN (by simp only [go_sem,zA,zB,zC,zD,zE,zF,zG,zH,zI,zJ,zK,zL,zM,zN,zO,zP,↓reduceIte,reduceCtorEq,Rcv.pv,Pdu.pv]) ?_
      obtain ⟨q1,q2,q3⟩ := fin _ hres.symm
      rw [q1,q2,q3]
      simp only [recvV,show ¬ ((3 : Int) = 1) by decide,show ¬ ((3 : Int) = 2) by decide,if_false,and_self,if_true]
      generalize nextV ⟨2,len,got,num,left,block,gap,clock,room,err⟩ ⟨3,l,n,sy,b,g,d⟩ = x
      simp only [go_sem,zA,zB,zC,zD,zE,zF,zG,zH,zI,zJ,zK,zL,zM,zN,zO,zP,↓reduceIte,reduceCtorEq,Rcv.pv,Pdu.pv]
      refine endD_intro (by decide +kernel) ?_
      simp only [go_sem,zA,zB,zC,zD,zE,zF,zG,zH,zI,zJ,zK,zL,zM,zN,zO,zP,↓reduceIte,reduceCtorEq,Tryz.ntmps90,Tryz.results90]
    · have fs : decide (st = 2) = false := by simp [hst]
      obtain ⟨q1,q2,q3⟩ := fin _ hres.symm
      rw [q1,q2,q3]
      simp only [go_sem,zA,zB,zC,zD,zE,zF,zG,zH,zI,zJ,zK,zL,zM,zN,zO,zP,↓reduceIte,reduceCtorEq,recvV,hst,fs,Rcv.pv,Pdu.pv,Pdu.none,Tryz.ntmps90,Tryz.results90]
  have k1 : decide (k = 1) = false := by simp [h1]
  have k2 : decide (k = 2) = false := by simp [h2]
  have k3 : decide (k = 3) = false := by simp [h3]
  obtain ⟨q1,q2,q3⟩ := fin _ (by rw [← hres,recvV,if_neg h1,if_neg h2,if_neg (fun h => h3 h.1)])
  rw [q1,q2,q3]
  simp only [go_sem,zA,zB,zC,zD,zE,zF,zG,zH,zI,zJ,zK,zL,zM,zN,zO,zP,↓reduceIte,reduceCtorEq,k1,k2,k3,h1,h2,h3,Rcv.pv,Pdu.pv,Pdu.none,Tryz.ntmps90,Tryz.results90]
end Go.Proofs.YtcdmhigmgpflbaaGreat.Pe.Lk
namespace Go.Proofs.YtcdmhigmgpflbaaGreat.Pe.Lk
open Go.Pe Go.RowKit
attribute [go_sem] pduRows_length
abbrev U8 (n : UInt8) : PV := .lit (.int .u8 n.toNat)
theorem wrapIN {i : Nat} (h : i ≤ 1000000) : IntKind.wrap .i64 ((i : Int) + 1) = ((i + 1 : Nat) : Int) := by rw [wrapI64 (by omega)]; rfl
structure Op19 where
  n : UInt8
  p : Pdu
abbrev Op19.row (o : Op19) : List PV := [.lit (.int .u8 o.n.toNat),PI o.p.k,PI o.p.l,PI o.p.n,PI o.p.s,PI o.p.b,PI o.p.g,bytesPV o.p.d]
abbrev ops19 (l : List Op19) : List (List PV) := l.map Op19.row
theorem ops19_length (l : List Op19) : (ops19 l).length = l.length := by simp [ops19]
attribute [go_sem] ops19_length
theorem right_l {p : Pdu} (h : p.right = true) : 0 ≤ p.l ∧ p.l ≤ 4095 ∧ (p.k = 1 → p.l = p.d.length) ∧ (p.k = 2 → 8 ≤ p.l ∧ p.d.length = 6) := by
  unfold Pdu.right at h
  split at h
  · simp at h; omega
  · split at h
    · simp at h; omega
    · split at h
      · simp [z4] at h; omega
      · split at h
        · simp at h; omega
        · simp at h
theorem fine_tick {r : Rcv} (h : r.fine) : (tickV r).fine := by
  unfold tickV
  split
  · split <;> exact h
  · exact h
theorem fine_begin {r : Rcv} (h : r.fine) {p : Pdu} (hp : p.right = true) (st : Int) (hk : p.k = 1 ∨ p.k = 2) : (beginR r p st).fine := by
  obtain ⟨q1,q2,q3,q4⟩ := right_l hp
  obtain ⟨h1,h2,h3,h4,h5,h6,h7,h8,h9⟩ := h
  unfold beginR failR freshR Rcv.fine
  split
  · simp; omega
  · simp
    rcases hk with hk | hk
    · have := q3 hk; omega
    · have := q4 hk; omega
theorem fine_recv {r : Rcv} (h : r.fine) {p : Pdu} (hp : p.right = true) : (recvV r p).1.fine := by
  unfold recvV
  by_cases h1 : p.k = 1
  · rw [if_pos h1]; exact fine_begin h hp 3 (.inl h1)
  rw [if_neg h1]
  by_cases h2 : p.k = 2
  · rw [if_pos h2]
    have hb := fine_begin h hp 2 (.inr h2)
    split
    · exact hb
    · rename_i hr
      unfold beginR at hb ⊢
      rw [if_neg hr] at hb ⊢
      obtain ⟨a1,a2,a3,a4,a5,a6,a7,a8,a9⟩ := h
      unfold Rcv.fine freshR at *
      simp at hb ⊢
      split <;> omega
  rw [if_neg h2]
  by_cases h3 : p.k = 3 ∧ r.st = 2
  · rw [if_pos h3]
    unfold nextV
    obtain ⟨a1,a2,a3,a4,a5,a6,a7,a8,a9⟩ := h
    have hm0 : 0 ≤ (r.num + 1).tmod 16 := Int.tmod_nonneg _ (by omega)
    have hm1 : (r.num + 1).tmod 16 < 16 := Int.tmod_lt_of_pos _ (by omega)
    by_cases hc : p.n ≠ r.num ∨ (p.d.length : Int) ≠ (if missR r < 7 then missR r else 7)
    · rw [if_pos hc]
      exact ⟨a1,a2,a3,a4,a5,a6,a7,a8,a9⟩
    · rw [if_neg hc]
      have hl : (p.d.length : Int) ≤ missR r := by
        have : (p.d.length : Int) = if missR r < 7 then missR r else 7 := by
          apply Classical.byContradiction; intro hh; exact hc (.inr hh)
        rw [this]; split <;> omega
      unfold missR at hl
      have hg : ((r.got ++ p.d).length : Int) ≤ r.len := by simp; omega
      repeat' split
      · exact ⟨hm0,by simp only [moreR]; omega,a3,a4,hg,a6,a7,a8,a9⟩
      · exact ⟨hm0,by simp only [moreR]; omega,a3,a4,hg,a6,a7,a8,a9⟩
      · exact ⟨hm0,by simp only [moreR]; omega,a3,a4,hg,by simp only; omega,by simp only; omega,a8,a9⟩
      · exact ⟨hm0,by simp only [moreR]; omega,a3,a4,hg,by simp only; omega,by simp only; omega,a8,a9⟩
  · rw [if_neg h3]
    exact h
def greatV (l : List Op19) : Bool := decide (100 < l.length) || l.any fun o => decide (20 < o.p.d.length)
instance (r : Rcv) : Decidable r.fine := by unfold Rcv.fine; infer_instance
def b8 : List UInt8 := [1,2,3,4,5,6,7,8]
def h19 : Pdu := ⟨2,8,0,0,0,0,[1,2,3,4,5,6]⟩
theorem tickT_at (r : Rcv) : PureCalls Tryz.prog 62 [r.pv] (tickV r).pv := tickT_calls r
end Go.Proofs.YtcdmhigmgpflbaaGreat.Pe.Lk
