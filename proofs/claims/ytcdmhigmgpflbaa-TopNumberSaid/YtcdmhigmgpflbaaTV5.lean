import Derived.Test.YtcdmhigmgpflbaaSG7
import Derived.Test.YtcdmhigmgpflbaaSGa
import Derived.Test.YtcdmhigmgpflbaaTV1
namespace Go.Proofs.Ytcdmhigmgpflbaa.Pe
open Go.Pe Go.RowKit
set_option maxRecDepth 20000
set_option maxHeartbeats 4000000
set_option linter.unusedSimpArgs false
set_option linter.unusedVariables false
/-! ### one bit turned,another sum -/
def untk (t : UInt8) (b : Bool) : UInt8 := if t &&& 1 = 0 then (t >>> 1) ||| (if b = true then 128 else 0) else ((t ^^^ 29) >>> 1) ||| (if b = true then 0 else 128)
theorem untk_all : ∀ n : Nat,n < 256 → untk (takeB (UInt8.ofNat n) false) false = UInt8.ofNat n ∧ untk (takeB (UInt8.ofNat n) true) true = UInt8.ofNat n ∧ takeB (UInt8.ofNat n) false ≠ takeB (UInt8.ofNat n) true := by decide +kernel
theorem untk_eq (s : UInt8) (b : Bool) : untk (takeB s b) b = s := by
  obtain ⟨h1,h2,_⟩ := untk_all s.toNat s.toNat_lt
  rw [UInt8.ofNat_toNat] at h1 h2
  cases b with
  | false => exact h1
  | true => exact h2
theorem takeB_inj {s t : UInt8} {b : Bool} (h : takeB s b = takeB t b) : s = t := by
  rw [← untk_eq s b,h,untk_eq]
theorem takeB_ne (s : UInt8) {b c : Bool} (h : b ≠ c) : takeB s b ≠ takeB s c := by
  obtain ⟨_,_,h3⟩ := untk_all s.toNat s.toNat_lt
  rw [UInt8.ofNat_toNat] at h3
  cases b <;> cases c
  · exact absurd rfl h
  · exact h3
  · exact fun e => h3 e.symm
  · exact absurd rfl h
theorem bitsB_inj (x : UInt8) : ∀ (m k : Nat) (s t : UInt8),bitsB x m k s = bitsB x m k t → s = t
  | 0,k,s,t,h => h
  | m + 1,k,s,t,h => by
    rw [bitsB_succ,bitsB_succ] at h
    exact takeB_inj (bitsB_inj x m (k + 1) _ _ h)
theorem bitsB_congr {x y : UInt8} : ∀ (m k : Nat) (s : UInt8),(∀ i,k ≤ i → i < k + m → bitB x i = bitB y i) → bitsB x m k s = bitsB y m k s
  | 0,k,s,_ => rfl
  | m + 1,k,s,h => by
    rw [bitsB_succ,bitsB_succ,h k (Nat.le_refl _) (by omega)]
    exact bitsB_congr m (k + 1) _ (fun i h1 h2 => h i (by omega) (by omega))
theorem bitsB_ne {x y : UInt8} {j : Nat} (hj : bitB x j ≠ bitB y j) : ∀ (m k : Nat) (s : UInt8),k ≤ j → j < k + m → (∀ i,i < k + m → i ≠ j → bitB x i = bitB y i) → bitsB x m k s ≠ bitsB y m k s
  | 0,k,s,h1,h2,_ => by omega
  | m + 1,k,s,h1,h2,h => by
    rw [bitsB_succ,bitsB_succ]
    by_cases hk : k = j
    · subst hk
      intro e
      rw [bitsB_congr (x := x) (y := y) m (k + 1) _ (fun i h3 h4 => h i (by omega) (by omega))] at e
      exact takeB_ne s hj (bitsB_inj y m (k + 1) _ _ e)
    · rw [h k (by omega) hk]
      exact bitsB_ne hj m (k + 1) _ (by omega) (by omega) (fun i h3 h4 => h i (by omega) h4)
theorem flip_all : ∀ j,j < 8 → ∀ k,k < 8 → ∀ n,n < 256 → bitB (UInt8.ofNat n ^^^ UInt8.ofNat (2 ^ j)) k = (bitB (UInt8.ofNat n) k != decide (k = 7 - j)) := by decide +kernel
theorem byteB_inj {x s t : UInt8} (h : byteB x s = byteB x t) : s = t := bitsB_inj x 8 0 s t h
theorem byteB_flip (x : UInt8) {j : Nat} (hj : j < 8) (s : UInt8) : byteB (x ^^^ UInt8.ofNat (2 ^ j)) s ≠ byteB x s := by
  have key : ∀ k,k < 8 → bitB (x ^^^ UInt8.ofNat (2 ^ j)) k = (bitB x k != decide (k = 7 - j)) := by
    intro k hk
    have := flip_all j hj k hk x.toNat x.toNat_lt
    rwa [UInt8.ofNat_toNat] at this
  refine bitsB_ne (j := 7 - j) ?_ 8 0 s (by omega) (by omega) (fun i h1 h2 => ?_)
  · rw [key (7 - j) (by omega),decide_eq_true rfl]
    cases bitB x (7 - j) <;> decide
  · rw [key i (by omega),decide_eq_false h2]
    cases bitB x i <;> rfl
theorem crcF_inj {f : UInt8 → UInt8 → UInt8} (hf : ∀ x s t,f x s = f x t → s = t) : ∀ (l : List UInt8) (s t : UInt8),crcF f s l = crcF f t l → s = t
  | [],s,t,h => h
  | x :: l,s,t,h => by
    rw [crcF_cons,crcF_cons] at h
    exact hf x s t (crcF_inj hf l _ _ h)
theorem crcF_set {f : UInt8 → UInt8 → UInt8} (hf : ∀ x s t,f x s = f x t → s = t) {c : UInt8} : ∀ (l : List UInt8) (i : Nat) (s : UInt8),i < l.length → (∀ t,f c t ≠ f (l.getD i 0) t) → crcF f s (l.set i c) ≠ crcF f s l
  | [],i,s,h,_ => by simp at h
  | x :: l,0,s,_,hc => by
    rw [List.set_cons_zero,crcF_cons,crcF_cons]
    exact fun e => hc s (crcF_inj hf l _ _ e)
  | x :: l,i + 1,s,h,hc => by
    rw [List.set_cons_succ,crcF_cons,crcF_cons]
    exact crcF_set hf l i _ (by simpa using h) (fun t => by simpa using hc t)
theorem crcV_flip (l : List UInt8) {i j : Nat} (hi : i < l.length) (hj : j < 8) : crcV (l.set i (l.getD i 0 ^^^ UInt8.ofNat (2 ^ j))) ≠ crcV l := by
  obtain ⟨f,hf⟩ : ∃ f,f = byteB := ⟨_,rfl⟩
  have h1 := crcF_set (f := f) (c := l.getD i 0 ^^^ UInt8.ofNat (2 ^ j)) (fun x s t h => by rw [hf] at h; exact byteB_inj h) l i 255 hi (fun t => by rw [hf]; exact byteB_flip _ hj t)
  have hV : ∀ l,crcV l = crcF f 255 l ^^^ 255 := fun l => by rw [hf]; rfl
  rw [hV,hV]
  generalize crcF f 255 (l.set i (l.getD i 0 ^^^ UInt8.ofNat (2 ^ j))) = a at h1 ⊢
  generalize crcF f 255 l = b at h1
  intro e
  apply h1
  have := congrArg (· ^^^ 255) e
  simpa [UInt8.xor_assoc] using this
end Go.Proofs.Ytcdmhigmgpflbaa.Pe


namespace Go.Proofs.Ytcdmhigmgpflbaa.Pe
open Go.Pe Go.RowKit
open Nat renaming reduceAdd → zA,reduceSub → zB,reduceMul → zC,reduceLT → zD,reduceLeDiff → zE,reduceEqDiff → zF,reduceBEq → zG
open Int renaming reduceToNat → zH,reduceLT → zI,reduceLE → zJ,reduceEq → zK,reduceNe → zL,reduceAdd → zM,reduceSub → zN,reduceMul → zO,reduceNeg → zP
set_option maxRecDepth 20000
set_option maxHeartbeats 4000000
set_option linter.unusedSimpArgs false
set_option linter.unusedVariables false
/-- A receiver's trust. -/
structure Trs where
  on : Bool
  last : Int
  was : Int
  bad : Int
  deriving DecidableEq
def Trs.cells (t : Trs) : List PV := [PB t.on,PI t.last,PI t.was,PI t.bad]
def Trs.pv (t : Trs) : PV := .agg t.cells
def newTr : Trs := ⟨false,0,0,0⟩
theorem newTr_calls : PureCalls Try.prog 64 [] newTr.pv := by
  refine PureCalls.of tabOK mixed Try.func64 rfl rfl (by decide +kernel) (by simp [Try.ntmps64]) ?_
  simp only [go_sem,zA,zB,zC,zD,zE,zF,zG,zH,zI,zJ,zK,zL,zM,zN,zO,zP,↓reduceIte,reduceCtorEq,Try.ntmps64,Try.results64,newTr,Trs.pv,Trs.cells]
theorem bclone_calls (x : UInt8) (l : List UInt8) (h : l.length ≤ 1000000) : PureCalls Try.prog 137 [bytesPV (x :: l)] (bytesPV (x :: l)) := by
  refine PureCalls.of tabOK mixed Try.func137 rfl rfl (by decide +kernel) (by simp [Try.ntmps137]) ?_
  simp only [go_sem,zA,zB,zC,zD,zE,zF,zG,zH,zI,zJ,zK,zL,zM,zN,zO,zP,↓reduceIte,reduceCtorEq,Try.ntmps137,Try.results137,rowsB_length,List.length_cons]
  intro b hb
  cases b with
  | true => exact absurd (hb rfl) (by simp [rowsB])
  | false =>
    simp only [go_sem,zA,zB,zC,zD,zE,zF,zG,zH,zI,zJ,zK,zL,zM,zN,zO,zP,↓reduceIte,reduceCtorEq,Try.ntmps137,Try.results137,rowsB_length,List.length_cons]
    exact ⟨by omega,by omega⟩
def openV (id : Int) (b : List UInt8) : List UInt8 × Int × Bool := if (b.getD 1 0).toNat ≥ 15 ∨ sumV id (b.getD 1 0).toNat (b.drop 2) ≠ b.getD 0 0 then ([],0,false) else (b.drop 2,(b.getD 1 0).toNat,true)
theorem sum_at {id count : Int} {b : List UInt8} {x : UInt8} (h : sumV id count b = x) (hl : b.length ≤ 900000) : PureCalls Try.prog 106 [PI id,PI count,bytesPV b] (.lit (.int .u8 x.toNat)) := h ▸ sum_calls id count b hl
theorem open_calls (id : Int) (a c y : UInt8) (b : List UInt8) (hid : id.fdiv (2 ^ min 16 64) = 0) (hl : b.length ≤ 5) : PureCalls Try.prog 107 [PI id,bytesPV (a :: c :: y :: b)] (.tup [bytesPV (openV id (a :: c :: y :: b)).1,PI (openV id (a :: c :: y :: b)).2.1,PB (openV id (a :: c :: y :: b)).2.2]) := by
  refine PureCalls.of tabOK mixed Try.func107 rfl rfl (by decide +kernel) (by simp [Try.ntmps107]) ?_
  obtain ⟨x,hx⟩ : ∃ x,sumV id c.toNat (y :: b) = x := ⟨_,rfl⟩
  have c1 := sum_at hx (by simp only [List.length_cons]; omega)
  have c2 := bclone_calls y b (by omega)
  have g1 : decide (id.fdiv (2 ^ min 16 64) = 0) = true := decide_eq_true hid
  have g2 : decide (((b.length + 1 + 1 + 1 : Nat) : Int) < 2) = false := decide_eq_false (by omega)
  have g3 : decide (((b.length + 1 + 1 + 1 : Nat) : Int) > 8) = false := decide_eq_false (by omega)
  have e0 : openV id (a :: c :: y :: b) = if c.toNat ≥ 15 ∨ x ≠ a then ([],0,false) else (y :: b,(c.toNat : Int),true) := by rw [← hx]; rfl
  have w1 : IntKind.wrap .i64 (c.toNat : Int) = (c.toNat : Int) := by rw [wrapI64_eq]; have := c.toNat_lt; omega
  have i1 : (1 : Int) < ((b.length + 1 + 1 + 1 : Nat) : Int) := by omega
  have i0 : (0 : Int) < ((b.length + 1 + 1 + 1 : Nat) : Int) := by omega
  have x1 : (rowsB (a :: c :: y :: b)).getD 1 [] = [.lit (.int .u8 c.toNat)] := rfl
  have x0 : (rowsB (a :: c :: y :: b)).getD 0 [] = [.lit (.int .u8 a.toNat)] := rfl
  have rl : (rowsB (a :: c :: y :: b)).length = b.length + 1 + 1 + 1 := by rw [rowsB_length]; rfl
  by_cases hc : c.toNat ≥ 15
  · have g4 : decide ((c.toNat : Int) ≥ 15) = true := decide_eq_true (by omega)
    rw [e0,if_pos (.inl hc)]
    simp only [go_sem,zA,zB,zC,zD,zE,zF,zG,zH,zI,zJ,zK,zL,zM,zN,zO,zP,↓reduceIte,reduceCtorEq,g1,g2,g3,g4,i1,i0,rl,x1,Bool.not_true,List.headD_cons,List.length_cons,List.length_nil,Nat.le_add_left,Try.ntmps107,Try.results107]
    refine endD_intro (by decide +kernel) ?_
    simp only [go_sem,zA,zB,zC,zD,zE,zF,zG,zH,zI,zJ,zK,zL,zM,zN,zO,zP,↓reduceIte,reduceCtorEq,rowsB_nil,Try.ntmps107,Try.results107]
    done
  · have g4 : decide ((c.toNat : Int) ≥ 15) = false := decide_eq_false (by omega)
    have d2 : List.drop 2 (List.take (((b.length + 1 + 1 + 1 : Nat) : Int)).toNat (a :: c :: y :: b)) = y :: b := by
      rw [Int.toNat_natCast,List.take_of_length_le (by simp)]
      rfl
    have i2 : (2 : Int) ≤ ((b.length + 1 + 1 + 1 : Nat) : Int) := by omega
    by_cases hxa : x = a
    · have g5 : decide ((x.toNat : Int) = (a.toNat : Int)) = true := decide_eq_true (by rw [hxa])
      rw [e0,if_neg (by rw [not_or]; exact ⟨hc,fun h => h hxa⟩)]
      clear e0
      simp only [go_sem,zA,zB,zC,zD,zE,zF,zG,zH,zI,zJ,zK,zL,zM,zN,zO,zP,↓reduceIte,reduceCtorEq,g1,g2,g3,g4,i1,i0,i2,Int.le_refl,rl,x1,x0,w1,d2,Bool.not_true,List.headD_cons,List.length_cons,List.length_nil,Nat.le_add_left,Try.ntmps107,Try.results107]
      (refine callD_pure (c1) (by simp only [go_sem,zA,zB,zC,zD,zE,zF,zG,zH,zI,zJ,zK,zL,zM,zN,zO,zP,↓reduceIte,reduceCtorEq,g5,i0,x0,rl,Bool.not_true,List.headD_cons,List.length_cons,List.length_nil,Nat.le_add_left] <;> first | rfl | decide) ?_; simp only [go_sem,zA,zB,zC,zD,zE,zF,zG,zH,zI,zJ,zK,zL,zM,zN,zO,zP,↓reduceIte,reduceCtorEq,g5,i0,x0,rl,Bool.not_true,List.headD_cons,List.length_cons,List.length_nil,Nat.le_add_left])
      refine endD_intro (by decide +kernel) ?_
      simp only [go_sem,zA,zB,zC,zD,zE,zF,zG,zH,zI,zJ,zK,zL,zM,zN,zO,zP,↓reduceIte,reduceCtorEq,i2,Int.le_refl,d2,rl]
      (refine callD_pure (c2) (by simp only [go_sem,zA,zB,zC,zD,zE,zF,zG,zH,zI,zJ,zK,zL,zM,zN,zO,zP,↓reduceIte,reduceCtorEq,i1,x1,rl,w1,List.headD_cons,List.length_cons,List.length_nil,Nat.le_add_left] <;> first | rfl | decide) ?_; simp only [go_sem,zA,zB,zC,zD,zE,zF,zG,zH,zI,zJ,zK,zL,zM,zN,zO,zP,↓reduceIte,reduceCtorEq,i1,x1,rl,w1,List.headD_cons,List.length_cons,List.length_nil,Nat.le_add_left])
      refine endD_intro (by decide +kernel) ?_
      simp only [go_sem,zA,zB,zC,zD,zE,zF,zG,zH,zI,zJ,zK,zL,zM,zN,zO,zP,↓reduceIte,reduceCtorEq,Try.ntmps107,Try.results107]
      done
    · have g5 : decide ((x.toNat : Int) = (a.toNat : Int)) = false := decide_eq_false (fun h => hxa (UInt8.toNat_inj.1 (by omega)))
      rw [e0,if_pos (.inr hxa)]
      clear e0
      simp only [go_sem,zA,zB,zC,zD,zE,zF,zG,zH,zI,zJ,zK,zL,zM,zN,zO,zP,↓reduceIte,reduceCtorEq,g1,g2,g3,g4,i1,i0,i2,Int.le_refl,rl,x1,x0,w1,d2,Bool.not_true,List.headD_cons,List.length_cons,List.length_nil,Nat.le_add_left,Try.ntmps107,Try.results107]
      (refine callD_pure (c1) (by simp only [go_sem,zA,zB,zC,zD,zE,zF,zG,zH,zI,zJ,zK,zL,zM,zN,zO,zP,↓reduceIte,reduceCtorEq,g5,i0,x0,rl,Bool.not_false,List.headD_cons,List.length_cons,List.length_nil,Nat.le_add_left] <;> first | rfl | decide) ?_; simp only [go_sem,zA,zB,zC,zD,zE,zF,zG,zH,zI,zJ,zK,zL,zM,zN,zO,zP,↓reduceIte,reduceCtorEq,g5,i0,x0,rl,Bool.not_false,List.headD_cons,List.length_cons,List.length_nil,Nat.le_add_left])
      refine endD_intro (by decide +kernel) ?_
      simp only [go_sem,zA,zB,zC,zD,zE,zF,zG,zH,zI,zJ,zK,zL,zM,zN,zO,zP,↓reduceIte,reduceCtorEq,rowsB_nil,Try.ntmps107,Try.results107]
      done
theorem open_at {id : Int} {a c y : UInt8} {b d : List UInt8} {n : Int} {is : Bool} (h : openV id (a :: c :: y :: b) = (d,n,is)) (hid : id.fdiv (2 ^ min 16 64) = 0) (hl : b.length ≤ 5) : PureCalls Try.prog 107 [PI id,bytesPV (a :: c :: y :: b)] (.tup [bytesPV d,PI n,PB is]) := by
  have := open_calls id a c y b hid hl
  rwa [h] at this
/-- The first that comes is trusted. -/
theorem check_first {id : Int} {a c y : UInt8} {b d : List UInt8} {n : Int} (h : openV id (a :: c :: y :: b) = (d,n,true)) (hid : id.fdiv (2 ^ min 16 64) = 0) (hl : b.length ≤ 5) :
    PureCalls Try.prog 63 [newTr.pv,PI id,bytesPV (a :: c :: y :: b),PI 3] (.tup [Trs.pv ⟨true,n,2,0⟩,bytesPV d,PI 2]) := by
  refine PureCalls.of tabOK mixed Try.func63 rfl rfl (by decide +kernel) (by simp [Try.ntmps63]) ?_
  have c1 := open_at h hid hl
  generalize a :: c :: y :: b = w at c1
  simp only [go_sem,zA,zB,zC,zD,zE,zF,zG,zH,zI,zJ,zK,zL,zM,zN,zO,zP,↓reduceIte,reduceCtorEq,Try.ntmps63,Try.results63,newTr,Trs.pv,Trs.cells]
  (refine CallA.pure (c1) (by simp only [go_sem,zA,zB,zC,zD,zE,zF,zG,zH,zI,zJ,zK,zL,zM,zN,zO,zP,↓reduceIte,reduceCtorEq] <;> first | rfl | decide) ?_; simp only [go_sem,zA,zB,zC,zD,zE,zF,zG,zH,zI,zJ,zK,zL,zM,zN,zO,zP,↓reduceIte,reduceCtorEq])
  refine CallA.into tabOK mixed Try.func108 rfl rfl (by decide +kernel) (by simp [Try.ntmps108]) ?_
  simp only [go_sem,zA,zB,zC,zD,zE,zF,zG,zH,zI,zJ,zK,zL,zM,zN,zO,zP,↓reduceIte,reduceCtorEq,Try.ntmps108,Try.results108]
  refine endD_intro (by decide +kernel) ?_
  simp only [go_sem,zA,zB,zC,zD,zE,zF,zG,zH,zI,zJ,zK,zL,zM,zN,zO,zP,↓reduceIte,reduceCtorEq,Try.ntmps63,Try.results63]
/-- What is spoilt changes neither the count nor whether one was trusted. -/
theorem check_spoilt {t : Trs} {id : Int} {a c y : UInt8} {b d : List UInt8} {n : Int} (h : openV id (a :: c :: y :: b) = (d,n,false)) (hid : id.fdiv (2 ^ min 16 64) = 0) (hl : b.length ≤ 5) :
    PureCalls Try.prog 63 [t.pv,PI id,bytesPV (a :: c :: y :: b),PI 3] (.tup [Trs.pv ⟨t.on,t.last,5,IntKind.wrap .i64 (t.bad + 1)⟩,bytesPV [],PI 5]) := by
  refine PureCalls.of tabOK mixed Try.func63 rfl rfl (by decide +kernel) (by simp [Try.ntmps63]) ?_
  have c1 := open_at h hid hl
  generalize a :: c :: y :: b = w at c1
  simp only [go_sem,zA,zB,zC,zD,zE,zF,zG,zH,zI,zJ,zK,zL,zM,zN,zO,zP,↓reduceIte,reduceCtorEq,Try.ntmps63,Try.results63,Trs.pv,Trs.cells]
  (refine CallA.pure (c1) (by simp only [go_sem,zA,zB,zC,zD,zE,zF,zG,zH,zI,zJ,zK,zL,zM,zN,zO,zP,↓reduceIte,reduceCtorEq] <;> first | rfl | decide) ?_; simp only [go_sem,zA,zB,zC,zD,zE,zF,zG,zH,zI,zJ,zK,zL,zM,zN,zO,zP,↓reduceIte,reduceCtorEq])
  refine endD_intro (by decide +kernel) ?_
  simp only [go_sem,zA,zB,zC,zD,zE,zF,zG,zH,zI,zJ,zK,zL,zM,zN,zO,zP,↓reduceIte,reduceCtorEq,rowsB_nil,Try.ntmps63,Try.results63]
end Go.Proofs.Ytcdmhigmgpflbaa.Pe


namespace Go.Proofs.Ytcdmhigmgpflbaa.Pe
open Go.Pe Go.RowKit
set_option maxRecDepth 20000
set_option maxHeartbeats 4000000
set_option linter.unusedSimpArgs false
set_option linter.unusedVariables false
theorem u8of_nat (c : UInt8) : u8of (c.toNat : Int) = c := by
  have h := u8of_eq (c.toNat : Int)
  have := c.toNat_lt
  rw [IntKind.wrap_u8] at h
  exact UInt8.toNat_inj.1 (by omega)
theorem u8of_low {c : Int} (h : 0 ≤ c ∧ c < 15) : ((u8of c).toNat : Int) = c := by
  have := u8of_eq c
  rw [IntKind.wrap_u8] at this
  omega
theorem open_wrap {id c : Int} {y : List UInt8} (hc : 0 ≤ c ∧ c < 15) : openV id (sumV id c y :: u8of c :: y) = (y,c,true) := by
  have h1 := u8of_low hc
  have e1 : (sumV id c y :: u8of c :: y).getD 1 0 = u8of c := rfl
  have e0 : (sumV id c y :: u8of c :: y).getD 0 0 = sumV id c y := rfl
  have e2 : (sumV id c y :: u8of c :: y).drop 2 = y := rfl
  unfold openV
  rw [e1,e0,e2,h1,if_neg]
  rw [not_or]
  exact ⟨by omega,fun h => h rfl⟩
theorem flip_ne (a : UInt8) {j : Nat} (hj : j < 8) : a ^^^ UInt8.ofNat (2 ^ j) ≠ a := fun h => byteB_flip a hj 0 (by rw [h])
theorem open_flip {id c : Int} {y : List UInt8} (hc : 0 ≤ c ∧ c < 15) {i j : Nat} (hi : i < y.length + 2) (hj : j < 8) :
    (openV id ((sumV id c y :: u8of c :: y).set i ((sumV id c y :: u8of c :: y).getD i 0 ^^^ UInt8.ofNat (2 ^ j)))).2.2 = false := by
  have h1 := u8of_low hc
  have key : ∀ l : List UInt8,((l.getD 1 0).toNat < 15 → sumV id (l.getD 1 0).toNat (l.drop 2) ≠ l.getD 0 0) → (openV id l).2.2 = false := by
    intro l h
    unfold openV
    by_cases h15 : (l.getD 1 0).toNat ≥ 15
    · rw [if_pos (.inl h15)]
    · rw [if_pos (.inr (h (by omega)))]
  apply key
  match i with
  | 0 =>
    intro _
    show sumV id ((u8of c).toNat : Int) y ≠ sumV id c y ^^^ UInt8.ofNat (2 ^ j)
    rw [h1]
    exact fun h => flip_ne _ hj h.symm
  | 1 =>
    intro _
    show sumV id ((u8of c ^^^ UInt8.ofNat (2 ^ j)).toNat : Int) y ≠ sumV id c y
    have := crcV_flip (u8of (id.fdiv (2 ^ min 8 64)) :: u8of id :: u8of c :: y) (i := 2) (by simp) hj
    unfold sumV
    rw [u8of_nat]
    exact this
  | i + 2 =>
    intro _
    show sumV id ((u8of c).toNat : Int) (y.set i (y.getD i 0 ^^^ UInt8.ofNat (2 ^ j))) ≠ sumV id c y
    have := crcV_flip (u8of (id.fdiv (2 ^ min 8 64)) :: u8of id :: u8of c :: y) (i := i + 3) (by simp; omega) hj
    rw [h1]
    unfold sumV
    exact this
theorem len3 {l : List UInt8} (h : 3 ≤ l.length) : ∃ a c y b,l = a :: c :: y :: b ∧ b.length + 3 = l.length := by
  match l with
  | [] => simp at h
  | [_] => simp at h
  | [_,_] => simp at h
  | a :: c :: y :: b => exact ⟨a,c,y,b,rfl,by simp⟩
end Go.Proofs.Ytcdmhigmgpflbaa.Pe


namespace Go.Proofs.Ytcdmhigmgpflbaa.Pe
open Go.Pe Go.RowKit
open Nat renaming reduceAdd → zA,reduceSub → zB,reduceMul → zC,reduceLT → zD,reduceLeDiff → zE,reduceEqDiff → zF,reduceBEq → zG
open Int renaming reduceToNat → zH,reduceLT → zI,reduceLE → zJ,reduceEq → zK,reduceNe → zL,reduceAdd → zM,reduceSub → zN,reduceMul → zO,reduceNeg → zP
set_option maxRecDepth 20000
set_option maxHeartbeats 4000000
set_option linter.unusedSimpArgs false
set_option linter.unusedVariables false
theorem putG_at {b x : List UInt8} {s : Sgl} {n : Int} {is : Bool} (h : putV b s n = (x,is)) (hl : b.length ≤ 100) : PureCalls Try.prog 61 [bytesPV b,s.pv,PI n] (.tup [bytesPV x,PB is]) := by
  have := put_of b s n (places_calls s) hl
  rwa [h] at this
theorem getG_at {b : List UInt8} {s : Sgl} {n : Int} (h : getV b s = (n,true)) (hl : b.length ≤ 100) : PureCalls Try.prog 65 [bytesPV b,s.pv] (.tup [PI n,PB true]) := by
  have := get_calls b s hl
  rwa [h] at this
theorem putV_len (b : List UInt8) (s : Sgl) (n : Int) : (putV b s n).1.length ≤ b.length := by
  unfold putV
  split
  · exact Nat.le_of_eq (putL_len _ _ _ _)
  · exact Nat.zero_le _
theorem apart_at {s o : Sgl} {n : Int} {b : Bool} (h : apartV s o n = b) : PureCalls Try.prog 60 [.im 6 [s.cells,o.cells],PI n] (PB b) := h ▸ apart_calls s o n
theorem first_at {id : Int} {l d : List UInt8} {n : Int} (h : openV id l = (d,n,true)) (hid : id.fdiv (2 ^ min 16 64) = 0) (h3 : 3 ≤ l.length ∧ l.length ≤ 8) : PureCalls Try.prog 63 [newTr.pv,PI id,bytesPV l,PI 3] (.tup [Trs.pv ⟨true,n,2,0⟩,bytesPV d,PI 2]) := by
  obtain ⟨a,c,y,b,rfl,hb⟩ := len3 h3.1
  exact check_first h hid (by omega)
theorem spoilt_at {t : Trs} {id : Int} {l : List UInt8} (h : (openV id l).2.2 = false) (hid : id.fdiv (2 ^ min 16 64) = 0) (h3 : 3 ≤ l.length ∧ l.length ≤ 8) : PureCalls Try.prog 63 [t.pv,PI id,bytesPV l,PI 3] (.tup [Trs.pv ⟨t.on,t.last,5,IntKind.wrap .i64 (t.bad + 1)⟩,bytesPV [],PI 5]) := by
  obtain ⟨a,c,y,b,rfl,hb⟩ := len3 h3.1
  obtain ⟨d,n,f,ho⟩ : ∃ d n f,openV id (a :: c :: y :: b) = (d,n,f) := ⟨_,_,_,rfl⟩
  rw [ho] at h
  have h : f = false := h
  rw [h] at ho
  exact check_spoilt ho hid (by omega)
theorem xor8 (a b : UInt8) : bitsA .xor .u8 (a.toNat : Int) (b.toNat : Int) = ((a ^^^ b).toNat : Int) := by
  have ha : BitVec.ofInt 8 (a.toNat : Int) = a.toBitVec := by
    apply BitVec.eq_of_toNat_eq; rw [BitVec.toNat_ofInt]; have := a.toNat_lt; show ((a.toNat : Int) % 256).toNat = a.toNat; omega
  have hb : BitVec.ofInt 8 (b.toNat : Int) = b.toBitVec := by
    apply BitVec.eq_of_toNat_eq; rw [BitVec.toNat_ofInt]; have := b.toNat_lt; show ((b.toNat : Int) % 256).toNat = b.toNat; omega
  have wr : ∀ x : UInt8,IntKind.wrap .u8 (x.toBitVec.toNat : Int) = (x.toNat : Int) := fun x => by
    rw [IntKind.wrap_u8]; have := x.toNat_lt; show ((x.toNat : Int)) % 256 = x.toNat; omega
  show IntKind.wrap .u8 ((BitVec.ofInt 8 (a.toNat : Int) ^^^ BitVec.ofInt 8 (b.toNat : Int)).toNat : Int) = _
  rw [ha,hb,← wr]
  rfl
theorem numberTop_calls (s o : Sgl) (b : List UInt8) (n m : Int) (id : UInt16) (count bit : UInt8) : PureCalls Try.prog 21 [s.pv,o.pv,bytesPV b,PI n,PI m,.lit (.int .u16 id.toNat),.lit (.int .u8 count.toNat),.lit (.int .u8 bit.toNat)] (PB true) := by
  refine PureCalls.of tabOK mixed Try.func21 rfl rfl (by decide +kernel) (by simp [Try.ntmps21]) ?_
  simp only [go_sem,zA,zB,zC,zD,zE,zF,zG,zH,zI,zJ,zK,zL,zM,zN,zO,zP,↓reduceIte,reduceCtorEq,Try.ntmps21,Try.results21,Sgl.pv,Sgl.cells]
  (refine CallA.pure (top23_calls) (by simp only [go_sem,zA,zB,zC,zD,zE,zF,zG,zH,zI,zJ,zK,zL,zM,zN,zO,zP,↓reduceIte,reduceCtorEq] <;> first | rfl | decide) ?_; simp only [go_sem,zA,zB,zC,zD,zE,zF,zG,zH,zI,zJ,zK,zL,zM,zN,zO,zP,↓reduceIte,reduceCtorEq])
  by_cases h0 : b.length = 0
  · have g0 : decide ((b.length : Int) = 0) = true := decide_eq_true (by omega)
    simp only [go_sem,zA,zB,zC,zD,zE,zF,zG,zH,zI,zJ,zK,zL,zM,zN,zO,zP,↓reduceIte,reduceCtorEq,rowsB_length,g0,Try.ntmps21,Try.results21]
    done
  have g0 : decide ((b.length : Int) = 0) = false := decide_eq_false (by omega)
  by_cases h6 : b.length > 6
  · have g6 : decide ((b.length : Int) > 6) = true := decide_eq_true (by omega)
    simp only [go_sem,zA,zB,zC,zD,zE,zF,zG,zH,zI,zJ,zK,zL,zM,zN,zO,zP,↓reduceIte,reduceCtorEq,rowsB_length,g0,g6,Try.ntmps21,Try.results21]
    done
  have g6 : decide ((b.length : Int) > 6) = false := decide_eq_false (by omega)
  cases ha : apartV s o b.length with
  | false =>
    have c1 := apart_at ha
    simp only [go_sem,zA,zB,zC,zD,zE,zF,zG,zH,zI,zJ,zK,zL,zM,zN,zO,zP,↓reduceIte,reduceCtorEq,rowsB_length,g0,g6]
    (refine CallA.pure (c1) (by simp only [go_sem,zA,zB,zC,zD,zE,zF,zG,zH,zI,zJ,zK,zL,zM,zN,zO,zP,↓reduceIte,reduceCtorEq,Sgl.cells,Try.ntmps21,Try.results21] <;> first | rfl | decide) ?_; simp only [go_sem,zA,zB,zC,zD,zE,zF,zG,zH,zI,zJ,zK,zL,zM,zN,zO,zP,↓reduceIte,reduceCtorEq,Sgl.cells,Try.ntmps21,Try.results21])
    done
  | true =>
  have c1 := apart_at ha
  simp only [go_sem,zA,zB,zC,zD,zE,zF,zG,zH,zI,zJ,zK,zL,zM,zN,zO,zP,↓reduceIte,reduceCtorEq,rowsB_length,g0,g6]
  (refine CallA.pure (c1) (by simp only [go_sem,zA,zB,zC,zD,zE,zF,zG,zH,zI,zJ,zK,zL,zM,zN,zO,zP,↓reduceIte,reduceCtorEq,Sgl.cells] <;> first | rfl | decide) ?_; simp only [go_sem,zA,zB,zC,zD,zE,zF,zG,zH,zI,zJ,zK,zL,zM,zN,zO,zP,↓reduceIte,reduceCtorEq,Sgl.cells])
  obtain ⟨x,is,hx⟩ : ∃ x is,putV b o m = (x,is) := ⟨_,_,rfl⟩
  have hxl : x.length ≤ b.length := by have := putV_len b o m; rw [hx] at this; exact this
  have c2 := putG_at hx (by omega)
  (refine CallA.pure (c2) (by simp only [go_sem,zA,zB,zC,zD,zE,zF,zG,zH,zI,zJ,zK,zL,zM,zN,zO,zP,↓reduceIte,reduceCtorEq,Sgl.pv,Sgl.cells] <;> first | rfl | decide) ?_; simp only [go_sem,zA,zB,zC,zD,zE,zF,zG,zH,zI,zJ,zK,zL,zM,zN,zO,zP,↓reduceIte,reduceCtorEq,Sgl.pv,Sgl.cells])
  obtain ⟨y,it,hy⟩ : ∃ y it,putV x s n = (y,it) := ⟨_,_,rfl⟩
  have c3 := putG_at hy (by omega)
  (refine CallA.pure (c3) (by simp only [go_sem,zA,zB,zC,zD,zE,zF,zG,zH,zI,zJ,zK,zL,zM,zN,zO,zP,↓reduceIte,reduceCtorEq,Sgl.pv,Sgl.cells] <;> first | rfl | decide) ?_; simp only [go_sem,zA,zB,zC,zD,zE,zF,zG,zH,zI,zJ,zK,zL,zM,zN,zO,zP,↓reduceIte,reduceCtorEq,Sgl.pv,Sgl.cells])
  cases is with
  | false =>
    simp only [go_sem,zA,zB,zC,zD,zE,zF,zG,zH,zI,zJ,zK,zL,zM,zN,zO,zP,↓reduceIte,reduceCtorEq,Bool.not_false,Try.ntmps21,Try.results21]
    done
  | true =>
  cases it with
  | false =>
    simp only [go_sem,zA,zB,zC,zD,zE,zF,zG,zH,zI,zJ,zK,zL,zM,zN,zO,zP,↓reduceIte,reduceCtorEq,Bool.not_true,Bool.not_false,Try.ntmps21,Try.results21]
    done
  | true =>
  have law := put_get (s := s) (o := o) (b := b) (n := n) (m := m) ha (by rw [hx]) (by rw [hx,hy])
  rw [hx] at law
  simp only at law
  rw [hy] at law
  obtain ⟨l1,l2,l3⟩ := law
  have l1 : getV y s = (n,true) := l1
  have l2 : getV y o = (m,true) := l2
  have l3 : y.length = b.length := l3
  have wc : IntKind.wrap .i64 (count.toNat : Int) = (count.toNat : Int) := by rw [wrapI64_eq]; have := count.toNat_lt; omega
  have wi : IntKind.wrap .i64 (id.toNat : Int) = (id.toNat : Int) := by rw [wrapI64_eq]; have := id.toNat_lt; omega
  have hc : 0 ≤ (count.toNat : Int).tmod 15 ∧ (count.toNat : Int).tmod 15 < 15 := by rw [Int.tmod_eq_emod_of_nonneg (by omega)]; omega
  have hid : (id.toNat : Int).fdiv (2 ^ min 16 64) = 0 := by
    show (id.toNat : Int).fdiv 65536 = 0
    rw [Int.fdiv_eq_ediv_of_nonneg _ (by decide)]
    have := id.toNat_lt
    omega
  generalize hcI : (count.toNat : Int).tmod 15 = c at hc
  have hw : wrapV id.toNat c y = (sumV id.toNat c y :: u8of c :: y,true) := by
    rw [wrapV,if_neg]
    rw [hid]
    omega
  have c4 := wrap_at hw (by omega)
  have hopen := open_wrap (id := id.toNat) (y := y) hc
  have hflip : ∀ i j,i < y.length + 2 → j < 8 → _ := fun i j hi hj => open_flip (id := id.toNat) (y := y) hc hi hj
  obtain ⟨w,hwd⟩ : ∃ w,sumV id.toNat c y :: u8of c :: y = w := ⟨_,rfl⟩
  have hwl : w.length = y.length + 2 := by rw [← hwd]; rfl
  rw [hwd] at c4 hopen hflip
  clear hw hwd hx hy
  have c5 := first_at hopen hid (by omega)
  have c6 := getG_at l1 (by omega)
  have c7 := getG_at l2 (by omega)
  have wl : IntKind.wrap .i64 ((b.length : Int) + 2) = (w.length : Int) := by rw [wrapI64_eq]; omega
  have wb : IntKind.wrap .i64 (bit.toNat : Int) = (bit.toNat : Int) := by rw [wrapI64_eq]; have := bit.toNat_lt; omega
  have w8 : IntKind.wrap .i64 (8 * (w.length : Int)) = 8 * (w.length : Int) := by rw [wrapI64_eq]; omega
  have hk : 0 ≤ (bit.toNat : Int).tmod (8 * (w.length : Int)) ∧ (bit.toNat : Int).tmod (8 * (w.length : Int)) < 8 * (w.length : Int) := by
    rw [Int.tmod_eq_emod_of_nonneg (by omega)]
    exact ⟨Int.emod_nonneg _ (by omega),Int.emod_lt_of_pos _ (by omega)⟩
  generalize hkI : (bit.toNat : Int).tmod (8 * (w.length : Int)) = p at hk
  have h8 : IntKind.wrap .i64 (p.tdiv 8) = ((p.toNat / 8 : Nat) : Int) := by
    rw [Int.tdiv_eq_ediv_of_nonneg hk.1,wrapI64_eq]; omega
  have h9 : p.tmod 8 = ((p.toNat % 8 : Nat) : Int) := by
    rw [Int.tmod_eq_emod_of_nonneg hk.1]; omega
  have hj : p.toNat / 8 < w.length := by omega
  have hj0 : (0 : Int) ≤ ((p.toNat / 8 : Nat) : Int) ∧ ((p.toNat / 8 : Nat) : Int) < (w.length : Int) := by omega
  have h10 : (0 : Int) ≤ ((p.toNat % 8 : Nat) : Int) := by omega
  have wm := maskB_eq p
  have gx : (rowsB w).getD (p.toNat / 8) [] = [.lit (.int .u8 (w.getD (p.toNat / 8) 0).toNat)] := rowsB_getD hj
  have bx := xor8 (w.getD (p.toNat / 8) 0) (maskB p)
  have c8 := spoilt_at (t := ⟨true,c,2,0⟩) (show (openV id.toNat (w.set (p.toNat / 8) (w.getD (p.toNat / 8) 0 ^^^ maskB p))).2.2 = false from hflip (p.toNat / 8) (p.toNat % 8) (by omega) (Nat.mod_lt _ (by decide))) hid (by rw [List.length_set]; omega)
  have h88 : decide ((8 : Int) * (w.length : Int) = 0) = false := decide_eq_false (by omega)
  simp only [go_sem,zA,zB,zC,zD,zE,zF,zG,zH,zI,zJ,zK,zL,zM,zN,zO,zP,↓reduceIte,reduceCtorEq,Bool.not_true,wc,wi,hcI]
  (refine CallA.pure (c4) (by simp only [go_sem,zA,zB,zC,zD,zE,zF,zG,zH,zI,zJ,zK,zL,zM,zN,zO,zP,↓reduceIte,reduceCtorEq,wl,rowsB_length] <;> first | rfl | decide) ?_; simp only [go_sem,zA,zB,zC,zD,zE,zF,zG,zH,zI,zJ,zK,zL,zM,zN,zO,zP,↓reduceIte,reduceCtorEq,wl,rowsB_length])
  (refine CallA.pure (newTr_calls) (by simp only [go_sem,zA,zB,zC,zD,zE,zF,zG,zH,zI,zJ,zK,zL,zM,zN,zO,zP,↓reduceIte,reduceCtorEq,wi,newTr,Trs.pv,Trs.cells] <;> first | rfl | decide) ?_; simp only [go_sem,zA,zB,zC,zD,zE,zF,zG,zH,zI,zJ,zK,zL,zM,zN,zO,zP,↓reduceIte,reduceCtorEq,wi,newTr,Trs.pv,Trs.cells])
  (refine CallA.pure (c5) (by simp only [go_sem,zA,zB,zC,zD,zE,zF,zG,zH,zI,zJ,zK,zL,zM,zN,zO,zP,↓reduceIte,reduceCtorEq,wi,newTr,Trs.pv,Trs.cells] <;> first | rfl | decide) ?_; simp only [go_sem,zA,zB,zC,zD,zE,zF,zG,zH,zI,zJ,zK,zL,zM,zN,zO,zP,↓reduceIte,reduceCtorEq,wi,newTr,Trs.pv,Trs.cells])
  (refine CallA.pure (c6) (by simp only [go_sem,zA,zB,zC,zD,zE,zF,zG,zH,zI,zJ,zK,zL,zM,zN,zO,zP,↓reduceIte,reduceCtorEq,Sgl.pv,Sgl.cells] <;> first | rfl | decide) ?_; simp only [go_sem,zA,zB,zC,zD,zE,zF,zG,zH,zI,zJ,zK,zL,zM,zN,zO,zP,↓reduceIte,reduceCtorEq,Sgl.pv,Sgl.cells])
  have z0 : ¬ ((8 : Int) * (w.length : Int) = 0) := by omega
  have z1 : w.length * 1 ≤ 140737488355328 := by omega
  have z2 : w.length ≤ 9223372036854775807 := by omega
  (refine CallA.pure (c7) (by simp only [go_sem,zA,zB,zC,zD,zE,zF,zG,zH,zI,zJ,zK,zL,zM,zN,zO,zP,↓reduceIte,reduceCtorEq,Sgl.pv,Sgl.cells,wb,w8,hkI,z0,z1,z2,h8,h9,hj,hj0.1,hj0.2,h10,wm,gx,bx,rowsB_length,rowsB_set,Int.toNat_natCast,List.headD_cons,List.length_cons,List.length_nil,Nat.le_add_left,List.cons_append,List.nil_append,List.drop_succ_cons,List.drop_zero,wi] <;> first | rfl | decide) ?_; simp only [go_sem,zA,zB,zC,zD,zE,zF,zG,zH,zI,zJ,zK,zL,zM,zN,zO,zP,↓reduceIte,reduceCtorEq,Sgl.pv,Sgl.cells,wb,w8,hkI,z0,z1,z2,h8,h9,hj,hj0.1,hj0.2,h10,wm,gx,bx,rowsB_length,rowsB_set,Int.toNat_natCast,List.headD_cons,List.length_cons,List.length_nil,Nat.le_add_left,List.cons_append,List.nil_append,List.drop_succ_cons,List.drop_zero,wi])
  refine endD_intro (by decide +kernel) ?_
  simp only [go_sem,zA,zB,zC,zD,zE,zF,zG,zH,zI,zJ,zK,zL,zM,zN,zO,zP,↓reduceIte,reduceCtorEq,wi]
  (refine CallA.pure (c8) (by simp only [go_sem,zA,zB,zC,zD,zE,zF,zG,zH,zI,zJ,zK,zL,zM,zN,zO,zP,↓reduceIte,reduceCtorEq,Trs.pv,Trs.cells,rowsB_nil,wi,Try.ntmps21,Try.results21] <;> first | rfl | decide) ?_; simp only [go_sem,zA,zB,zC,zD,zE,zF,zG,zH,zI,zJ,zK,zL,zM,zN,zO,zP,↓reduceIte,reduceCtorEq,Trs.pv,Trs.cells,rowsB_nil,wi,Try.ntmps21,Try.results21])
  done
end Go.Proofs.Ytcdmhigmgpflbaa.Pe

