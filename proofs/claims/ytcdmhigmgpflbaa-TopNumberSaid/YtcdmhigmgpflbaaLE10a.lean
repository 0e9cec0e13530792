import Derived.Test.YtcdmhigmgpflbaaLE2
namespace Go.Proofs.Ytcdmhigmgpflbaa.Pe.Lk
open Go.Pe Go.RowKit
set_option maxRecDepth 20000
set_option maxHeartbeats 4000000
set_option linter.unusedSimpArgs false
set_option linter.unusedVariables false

def ticksV (n block gap : Int) : Int :=
  if n < 1 ∨ 4095 < n ∨ block < 0 ∨ 255 < block ∨ gap < 0 ∨ 127 < gap then 0
  else if n ≤ 7 then 1
  else if 0 < block then 2 + (n.tdiv 7 - 1).tdiv block + (n.tdiv 7 - 1 - (n.tdiv 7 - 1).tdiv block) * (if 1 > gap then 1 else gap)
  else 2 + (n.tdiv 7 - 1) * (if 1 > gap then 1 else gap)
end Go.Proofs.Ytcdmhigmgpflbaa.Pe.Lk


namespace Go.Proofs.Ytcdmhigmgpflbaa.Pe.Lk
open Go.Pe Go.RowKit
set_option maxRecDepth 20000
set_option maxHeartbeats 4000000
set_option linter.unusedSimpArgs false
set_option linter.unusedVariables false

theorem fateL_nil (k : Nat) : fateL [] k = 1 := rfl
theorem putW_pass (w : Way) (p : Pdu) : putW w p 1 = ⟨w.u ++ [p] ++ w.h,[]⟩ := by simp [putW]
theorem run_go {fates : List Int} {f n : Nat} {L : Lnk} (h : doneL L = false) : runL fates (f + 1) n L = runL fates f (n + 1) (tickL fates L) := by rw [runL,h]; simp
theorem run_done {fates : List Int} {f n : Nat} {L : Lnk} (h : doneL L = true) : runL fates (f + 1) n L = (L,n) := by rw [runL,h]; simp
end Go.Proofs.Ytcdmhigmgpflbaa.Pe.Lk


namespace Go.Proofs.Ytcdmhigmgpflbaa.Pe.Lk
open Go.Pe Go.RowKit
set_option maxRecDepth 20000
set_option maxHeartbeats 4000000
set_option linter.unusedSimpArgs false
set_option linter.unusedVariables false

end Go.Proofs.Ytcdmhigmgpflbaa.Pe.Lk


namespace Go.Proofs.Ytcdmhigmgpflbaa.Pe.Lk
open Go.Pe Go.RowKit
set_option maxRecDepth 20000
set_option maxHeartbeats 4000000
set_option linter.unusedSimpArgs false
set_option linter.unusedVariables false

/-- The formula in natural numbers. -/
def tkN (s b G : Nat) : Nat := 2 + (if b = 0 then 0 else s / b) + (s - (if b = 0 then 0 else s / b)) * G
theorem tk_of {n b g : Nat} (h0 : 1 ≤ n) (h1 : n ≤ 4095) (hb : b ≤ 255) (hg : g ≤ 127) : ticksV n b g = if n ≤ 7 then 1 else (tkN (n / 7 - 1) b (max g 1) : Nat) := by
  rw [ticksV,if_neg (by omega)]
  by_cases h7 : n ≤ 7
  · rw [if_pos (by omega),if_pos h7]
    rfl
  · rw [if_neg (by omega),if_neg h7]
    have e1 : (n : Int).tdiv 7 = ((n / 7 : Nat) : Int) := rfl
    have e2 : ((n / 7 : Nat) : Int) - 1 = ((n / 7 - 1 : Nat) : Int) := by omega
    have e3 : (if (1 : Int) > (g : Int) then (1 : Int) else (g : Int)) = ((max g 1 : Nat) : Int) := by split <;> omega
    rw [e1,e2,e3]
    unfold tkN
    by_cases hb0 : b = 0
    · rw [if_neg (by omega),if_pos hb0]
      simp
    · rw [if_pos (by omega),if_neg hb0]
      have e4 : ((n / 7 - 1 : Nat) : Int).tdiv (b : Int) = (((n / 7 - 1) / b : Nat) : Int) := rfl
      rw [e4]
      have hle : (n / 7 - 1) / b ≤ n / 7 - 1 := Nat.div_le_self _ _
      have e5 : ((n / 7 - 1 : Nat) : Int) - (((n / 7 - 1) / b : Nat) : Int) = ((n / 7 - 1 - (n / 7 - 1) / b : Nat) : Int) := by omega
      rw [e5]
      simp
end Go.Proofs.Ytcdmhigmgpflbaa.Pe.Lk


namespace Go.Proofs.Ytcdmhigmgpflbaa.Pe.Lk
open Go.Pe Go.RowKit
set_option maxRecDepth 20000
set_option maxHeartbeats 4000000
set_option linter.unusedSimpArgs false
set_option linter.unusedVariables false
theorem tkN_step (s b G : Nat) : tkN (s + 1) b G = tkN s b G + (if b ≠ 0 ∧ (s + 1) % b = 0 then 1 else G) := by
  unfold tkN
  by_cases hb : b = 0
  · simp [hb,Nat.add_mul]; omega
  · rw [if_neg hb,if_neg hb]
    have h1 : (s + 1) / b = s / b + if b ∣ s + 1 then 1 else 0 := Nat.succ_div
    have hle : s / b ≤ s := Nat.div_le_self _ _
    by_cases hd : (s + 1) % b = 0
    · have hdv : b ∣ s + 1 := Nat.dvd_of_mod_eq_zero hd
      rw [if_pos hdv] at h1
      rw [if_pos ⟨hb,hd⟩,h1]
      have : s + 1 - (s / b + 1) = s - s / b := by omega
      rw [this]
      omega
    · have hdv : ¬ b ∣ s + 1 := fun h => hd (Nat.mod_eq_zero_of_dvd h)
      rw [if_neg hdv] at h1
      rw [if_neg (fun h => hd h.2),h1]
      have : s + 1 - (s / b + 0) = s - s / b + 1 := by omega
      rw [this,Nat.add_mul]
      omega
end Go.Proofs.Ytcdmhigmgpflbaa.Pe.Lk

