import Derived.Test.YtcdmhigmgpflbaaDI20
namespace Go.Proofs.Ytcdmhigmgpflbaa.Pe
open Go.Pe Go.RowKit
set_option maxRecDepth 20000
set_option maxHeartbeats 4000000
set_option linter.unusedSimpArgs false
set_option linter.unusedVariables false

theorem itN_inj {f : Nat → Nat} {P : Nat → Prop} (hf : ∀ x y, P x → P y → f x = f y → x = y) (hP : ∀ x, P x → P (f x)) : ∀ (n : Nat) {x y : Nat}, P x → P y → itN f n x = itN f n y → x = y
  | 0, _, _, _, _, h => h
  | n + 1, x, y, hx, hy, h => by rw [itN_succ, itN_succ] at h; exact hf x y hx hy (itN_inj hf hP n (hP x hx) (hP y hy) h)
theorem mul_inj {k k' x y s : Nat} (hk : k * k' % 4294967296 = 1) (hx : x < 4294967296) (hy : y < 4294967296) (h : (x * k + s) % 4294967296 = (y * k + s) % 4294967296) : x = y := by
  have h1 : (x * k) % 4294967296 = (y * k) % 4294967296 := by
    revert h
    generalize x * k = a
    generalize y * k = b
    intro h
    omega
  have h2 : ∀ z, z < 4294967296 → (z * k) % 4294967296 * k' % 4294967296 = z := by
    intro z hz
    rw [Nat.mod_mul_mod, Nat.mul_assoc, Nat.mul_mod, hk, Nat.mul_one, Nat.mod_mod, Nat.mod_eq_of_lt hz]
  rw [← h2 x hx, ← h2 y hy, h1]
theorem xor_zero {a b : Nat} (h : a ^^^ b = 0) : a = b := by
  have h1 : (a ^^^ b) ^^^ b = 0 ^^^ b := by rw [h]
  rwa [Nat.xor_assoc, Nat.xor_self, Nat.xor_zero, Nat.zero_xor] at h1
theorem xs_inj {x y : Nat} (hx : x < 4294967296) (hy : y < 4294967296) (h : x ^^^ x / 32768 = y ^^^ y / 32768) : x = y := by
  have hd : (x ^^^ y) = (x ^^^ y) / 32768 := by
    have e : (x ^^^ y) / 32768 = x / 32768 ^^^ y / 32768 := by
      have := Nat.shiftRight_xor_distrib (a := x) (b := y) (i := 15)
      simpa [Nat.shiftRight_eq_div_pow] using this
    rw [e]
    have h3 : (x ^^^ x / 32768) ^^^ (y ^^^ y / 32768) = 0 := by rw [h, Nat.xor_self]
    have h4 : (x ^^^ y) ^^^ (x / 32768 ^^^ y / 32768) = 0 := by
      rw [← h3, Nat.xor_assoc, Nat.xor_assoc, ← Nat.xor_assoc y, Nat.xor_comm y, Nat.xor_assoc]
    exact xor_zero h4
  have hlt := xor_lt hx hy
  have : x ^^^ y = 0 := by omega
  exact xor_zero this
theorem keyS_eq (s x : Nat) : keyS s x = ((x * keyF + s) % 4294967296) ^^^ ((x * keyF + s) % 4294967296 / 32768) := by unfold keyS; rfl
theorem keyF_inv : ∃ k', keyF * k' % 4294967296 = 1 := ⟨244002641, by decide +kernel⟩
theorem keyS_inj (s : Nat) : ∀ x y, x < 4294967296 → y < 4294967296 → keyS s x = keyS s y → x = y := by
  intro x y hx hy h
  obtain ⟨k', hk⟩ := keyF_inv
  rw [keyS_eq, keyS_eq] at h
  refine mul_inj hk hx hy (xs_inj (Nat.mod_lt _ (by decide)) (Nat.mod_lt _ (by decide)) h)
theorem itN_lt {f : Nat → Nat} {m : Nat} (hf : ∀ x, f x < m) : ∀ (n : Nat) {x : Nat}, x < m → itN f n x < m
  | 0, x, h => by rw [itN_zero]; exact h
  | n + 1, x, _ => by rw [itN_succ]; exact itN_lt hf n (hf x)
theorem itN_keyS_lt (s n : Nat) {x : Nat} (h : x < 4294967296) : itN (keyS s) n x < 4294967296 := itN_lt (fun x => keyS_lt s x) n h
theorem keyV_wide (a sec : Int) : 0 ≤ keyV a sec ∧ keyV a sec ≤ 4294967295 := by
  have := itN_keyS_lt (nat32 sec) 3 (xor_lt (nat32_lt a) (nat32_lt sec))
  unfold keyV
  omega
theorem keyV_inj (a b sec : Int) : keyV a sec = keyV b sec ↔ lowV a = lowV b := by
  have e : ∀ n, lowV n = ((nat32 n : Nat) : Int) := fun n => by rw [lowV_eq, nat32_eq]
  rw [e, e]
  unfold keyV
  constructor
  · intro h
    have h1 := itN_inj (P := fun x => x < 4294967296) (keyS_inj (nat32 sec)) (fun x _ => keyS_lt _ _) 3 (xor_lt (nat32_lt a) (nat32_lt sec)) (xor_lt (nat32_lt b) (nat32_lt sec)) (by exact_mod_cast h)
    have h2 : (nat32 a ^^^ nat32 sec) ^^^ nat32 sec = (nat32 b ^^^ nat32 sec) ^^^ nat32 sec := by rw [h1]
    rw [Nat.xor_assoc, Nat.xor_assoc, Nat.xor_self, Nat.xor_zero, Nat.xor_zero] at h2
    exact_mod_cast h2
  · intro h
    have : nat32 a = nat32 b := by exact_mod_cast h
    rw [this]
theorem keyV_low (a sec : Int) : keyV (lowV a) (lowV sec) = keyV a sec := by
  have e : ∀ n, nat32 (lowV n) = nat32 n := fun n => by unfold nat32; rw [lowV_eq]; omega
  unfold keyV
  rw [e, e]
theorem diagKey_calls (a b sec : Int) : PureCalls Try.prog 11 [PI a, PI b, PI sec] (PB true) := by
  refine PureCalls.of tabOK mixed Try.func11 rfl rfl (by decide +kernel) (by simp [Try.ntmps11]) ?_
  have c1 := keyD_calls a sec
  have c2 := keyD_calls b sec
  have c3 := keyD_calls (lowV a) (lowV sec)
  rw [keyV_low] at c3
  have w1 := keyV_wide a sec
  have f1 : decide (keyV a sec ≥ 0) = true := decide_eq_true w1.1
  have f2 : decide (keyV a sec ≤ 4294967295) = true := decide_eq_true w1.2
  have f3 : (decide (keyV a sec = keyV b sec) == decide (lowV a = lowV b)) = true := by
    have := keyV_inj a b sec
    simp [this]
  generalize keyV a sec = x at c1 c3 f1 f2 f3
  generalize keyV b sec = y at c2 f3
  simp only [go_sem, Nat.reduceAdd, Nat.reduceSub, Nat.reduceMul, Nat.reduceLT, Nat.reduceLeDiff, Nat.reduceEqDiff, Nat.reduceBEq, Int.reduceToNat, Int.reduceLT, Int.reduceLE, Int.reduceEq, Int.reduceNe, Int.reduceAdd, Int.reduceSub, Int.reduceMul, Int.reduceNeg, ↓reduceIte, reduceCtorEq, Try.ntmps11, Try.results11]
  (refine CallA.pure (h22_calls) (by simp only [go_sem, Nat.reduceAdd, Nat.reduceSub, Nat.reduceMul, Nat.reduceLT, Nat.reduceLeDiff, Nat.reduceEqDiff, Nat.reduceBEq, Int.reduceToNat, Int.reduceLT, Int.reduceLE, Int.reduceEq, Int.reduceNe, Int.reduceAdd, Int.reduceSub, Int.reduceMul, Int.reduceNeg, ↓reduceIte, reduceCtorEq] <;> first | rfl | decide) ?_; simp only [go_sem, Nat.reduceAdd, Nat.reduceSub, Nat.reduceMul, Nat.reduceLT, Nat.reduceLeDiff, Nat.reduceEqDiff, Nat.reduceBEq, Int.reduceToNat, Int.reduceLT, Int.reduceLE, Int.reduceEq, Int.reduceNe, Int.reduceAdd, Int.reduceSub, Int.reduceMul, Int.reduceNeg, ↓reduceIte, reduceCtorEq])
  (refine CallA.pure (c1) (by simp only [go_sem, Nat.reduceAdd, Nat.reduceSub, Nat.reduceMul, Nat.reduceLT, Nat.reduceLeDiff, Nat.reduceEqDiff, Nat.reduceBEq, Int.reduceToNat, Int.reduceLT, Int.reduceLE, Int.reduceEq, Int.reduceNe, Int.reduceAdd, Int.reduceSub, Int.reduceMul, Int.reduceNeg, ↓reduceIte, reduceCtorEq] <;> first | rfl | decide) ?_; simp only [go_sem, Nat.reduceAdd, Nat.reduceSub, Nat.reduceMul, Nat.reduceLT, Nat.reduceLeDiff, Nat.reduceEqDiff, Nat.reduceBEq, Int.reduceToNat, Int.reduceLT, Int.reduceLE, Int.reduceEq, Int.reduceNe, Int.reduceAdd, Int.reduceSub, Int.reduceMul, Int.reduceNeg, ↓reduceIte, reduceCtorEq])
  (refine CallA.pure (c2) (by simp only [go_sem, Nat.reduceAdd, Nat.reduceSub, Nat.reduceMul, Nat.reduceLT, Nat.reduceLeDiff, Nat.reduceEqDiff, Nat.reduceBEq, Int.reduceToNat, Int.reduceLT, Int.reduceLE, Int.reduceEq, Int.reduceNe, Int.reduceAdd, Int.reduceSub, Int.reduceMul, Int.reduceNeg, ↓reduceIte, reduceCtorEq, f1, f2, f3] <;> first | rfl | decide) ?_; simp only [go_sem, Nat.reduceAdd, Nat.reduceSub, Nat.reduceMul, Nat.reduceLT, Nat.reduceLeDiff, Nat.reduceEqDiff, Nat.reduceBEq, Int.reduceToNat, Int.reduceLT, Int.reduceLE, Int.reduceEq, Int.reduceNe, Int.reduceAdd, Int.reduceSub, Int.reduceMul, Int.reduceNeg, ↓reduceIte, reduceCtorEq, f1, f2, f3])
  (refine CallA.pure (c3) (by simp only [go_sem, Nat.reduceAdd, Nat.reduceSub, Nat.reduceMul, Nat.reduceLT, Nat.reduceLeDiff, Nat.reduceEqDiff, Nat.reduceBEq, Int.reduceToNat, Int.reduceLT, Int.reduceLE, Int.reduceEq, Int.reduceNe, Int.reduceAdd, Int.reduceSub, Int.reduceMul, Int.reduceNeg, ↓reduceIte, reduceCtorEq, Try.ntmps11, Try.results11] <;> first | rfl | decide) ?_; simp only [go_sem, Nat.reduceAdd, Nat.reduceSub, Nat.reduceMul, Nat.reduceLT, Nat.reduceLeDiff, Nat.reduceEqDiff, Nat.reduceBEq, Int.reduceToNat, Int.reduceLT, Int.reduceLE, Int.reduceEq, Int.reduceNe, Int.reduceAdd, Int.reduceSub, Int.reduceMul, Int.reduceNeg, ↓reduceIte, reduceCtorEq, Try.ntmps11, Try.results11])
end Go.Proofs.Ytcdmhigmgpflbaa.Pe
