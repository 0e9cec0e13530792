import Derived.Test.YtcdmhigmgpflbaaDT2
import Derived.Test.YtcdmhigmgpflbaaPeU
import Derived.Test.YtcdmhigmgpflbaaDT7
namespace Go.Proofs.Ytcdmhigmgpflbaa.Pe
open Go.Pe Go.RowKit
set_option maxRecDepth 20000
set_option maxHeartbeats 4000000
set_option linter.unusedSimpArgs false
set_option linter.unusedVariables false

end Go.Proofs.Ytcdmhigmgpflbaa.Pe


namespace Go.Proofs.Ytcdmhigmgpflbaa.Pe
open Go.Pe Go.RowKit
set_option maxRecDepth 20000
set_option maxHeartbeats 4000000
set_option linter.unusedSimpArgs false
set_option linter.unusedVariables false

theorem set_getD {rows : List (List PV)} {i : Nat} (h : i < rows.length) (x : List PV) : (rows.set i x).getD i [] = x := by
  simp [List.getD_eq_getElem?_getD,h]
end Go.Proofs.Ytcdmhigmgpflbaa.Pe


namespace Go.Proofs.Ytcdmhigmgpflbaa.Pe
open Go.Pe Go.RowKit
set_option maxRecDepth 20000
set_option maxHeartbeats 4000000
set_option linter.unusedSimpArgs false
set_option linter.unusedVariables false

def scT (sc : Int) (f : Bool) : Int := if f = true then (if 4 < sc + 2 then 4 else sc + 2) else (if -4 > sc - 1 then -4 else sc - 1)
/-- A trouble behind a test. -/
def testedV (t : Trb) (f : Bool) : Trb :=
  if scT t.sc f = -4 then ⟨t.id,dropV (dropV t.st 8) 1,scT t.sc f,t.ca⟩
  else if scT t.sc f = 4 ∧ hasV (dropV t.st 8) 1 = false then ⟨t.id,setV (if hasV (dropV t.st 8) 2 = true then setV (dropV t.st 8) 4 else dropV t.st 8) 3,scT t.sc f,0⟩
  else ⟨t.id,dropV t.st 8,scT t.sc f,t.ca⟩
theorem okR_bounds {t : Trb} (h : t.okR = true) : 0 ≤ t.id ∧ t.id ≤ 65535 ∧ 0 ≤ t.st ∧ t.st ≤ 15 ∧ -4 ≤ t.sc ∧ t.sc ≤ 4 ∧ 0 ≤ t.ca ∧ t.ca ≤ 2 := by
  simp only [Trb.okR,Bool.and_eq_true,Bool.not_eq_true',decide_eq_false_iff_not] at h
  omega
end Go.Proofs.Ytcdmhigmgpflbaa.Pe


namespace Go.Proofs.Ytcdmhigmgpflbaa.Pe
open Go.Pe Go.RowKit
set_option maxRecDepth 20000
set_option maxHeartbeats 4000000
set_option linter.unusedSimpArgs false
set_option linter.unusedVariables false

def atV : List Trb → Int → Nat
  | [],_ => 0
  | t :: r,id => if t.id < id then atV r id + 1 else 0
theorem atV_le : ∀ (l : List Trb) (id : Int),atV l id ≤ l.length
  | [],_ => Nat.le_refl _
  | t :: r,id => by
    have := atV_le r id
    unfold atV
    split <;> simp <;> omega
theorem atV_lt : ∀ (l : List Trb) (id : Int) (j : Nat) (t : Trb),j < atV l id → l[j]? = some t → t.id < id
  | [],_,j,t,h,_ => by simp [atV] at h
  | u :: r,id,j,t,h,hg => by
    unfold atV at h
    split at h
    · rename_i hu
      cases j with
      | zero => cases hg; exact hu
      | succ j => exact atV_lt r id j t (by omega) hg
    · omega
theorem atV_ge : ∀ (l : List Trb) (id : Int) (t : Trb),l[atV l id]? = some t → ¬ t.id < id
  | [],_,t,hg => by simp [atV] at hg
  | u :: r,id,t,hg => by
    unfold atV at hg
    split at hg
    · exact atV_ge r id t hg
    · rename_i hu
      cases hg
      exact hu
def freshT (id : Int) : Trb := ⟨id,8,0,0⟩
theorem fresh_okR {id : Int} (h : 0 ≤ id ∧ id ≤ 65535) : (freshT id).okR = true := by
  have e : (freshT id).okR = (!decide (id < 0) && !decide (id > 65535) && !decide ((8 : Int) < 0) && !decide ((8 : Int) > 15) && !(hasV 8 1 && !hasV 8 2) && !decide ((0 : Int) < -4) && !decide ((0 : Int) > 4) && !decide ((0 : Int) < 0) && !decide ((0 : Int) > 2) && !(decide ((0 : Int) > 0) && !hasV 8 4)) := rfl
  have e0 : (!false && !false && !decide ((8 : Int) < 0) && !decide ((8 : Int) > 15) && !(hasV 8 1 && !hasV 8 2) && !decide ((0 : Int) < -4) && !decide ((0 : Int) > 4) && !decide ((0 : Int) < 0) && !decide ((0 : Int) > 2) && !(decide ((0 : Int) > 0) && !hasV 8 4)) = true := by decide +kernel
  rw [e,decide_eq_false (show ¬ id < 0 by omega),decide_eq_false (show ¬ id > 65535 by omega)]
  exact e0
def isV (l : List Trb) (id : Int) : Bool := match l[atV l id]? with | some t => decide (t.id = id) | none => false
/-- Troubles behind a report. -/
def reportV (l : List Trb) (id : Int) (f : Bool) : List Trb :=
  if id < 0 ∨ id > 65535 ∨ (isV l id = false ∧ 16 ≤ l.length) then l
  else match l[atV l id]? with
    | some t => if t.id = id then l.take (atV l id) ++ (testedV t f :: l.drop (atV l id + 1)) else l.take (atV l id) ++ (testedV (freshT id) f :: l.drop (atV l id))
    | none => l ++ [testedV (freshT id) f]
theorem okFrom_mem : ∀ {l : List Trb} {p : Option Int},okFrom p l = true → ∀ t ∈ l,t.okR = true
  | [],_,_,t,h => by simp at h
  | u :: r,p,h,t,ht => by
    simp only [okFrom,Bool.and_eq_true] at h
    rcases List.mem_cons.1 ht with rfl | ht
    · exact h.1.1
    · exact okFrom_mem h.2 t ht
theorem rightL_mem {l : List Trb} (h : rightL l = true) : ∀ t ∈ l,t.okR = true := by
  simp only [rightL,Bool.and_eq_true] at h
  exact okFrom_mem h.2
theorem rightL_len {l : List Trb} (h : rightL l = true) : l.length ≤ 16 := by
  simp only [rightL,Bool.and_eq_true,Bool.not_eq_true',decide_eq_false_iff_not] at h
  omega
end Go.Proofs.Ytcdmhigmgpflbaa.Pe

