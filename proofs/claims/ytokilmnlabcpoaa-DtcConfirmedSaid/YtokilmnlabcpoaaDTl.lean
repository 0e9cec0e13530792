import Derived.Test.YtokilmnlabcpoaaDTk
namespace Go.Proofs.Ytokilmnlabcpoaa.Pe
open Go.Pe Go.RowKit
set_option maxRecDepth 20000
set_option maxHeartbeats 4000000
set_option linter.unusedSimpArgs false
set_option linter.unusedVariables false

def noB (st b : Int) : Bool := decide (bitsA .and .i64 st b = 0)
def calm1 (w n : Int) (cyc : Bool) (calm : Int) : Int := if (!noB w 1 || !noB n 1) = true then 0 else if (cyc && !noB w 4) = true then IntKind.wrap .i64 (calm + 1) else calm
def calm2 (w n : Int) (cyc : Bool) (calm : Int) : Int := if (noB n 4 && !noB w 4) = true then 0 else calm1 w n cyc calm
/-- What a step must be. -/
def chkB (w calm n nsc nca : Int) (cyc f : Bool) : Bool :=
  (!(noB w 4 && !noB n 4) || (f && !noB w 2 && !noB n 1)) && (!(!noB w 4 && !noB n 4) || !decide (calm1 w n cyc calm = 3)) && (!(!noB w 4 && noB n 4) || decide (calm1 w n cyc calm = 3)) &&
    (okS n nsc nca && decide (nca = calm2 w n cyc calm) && (noB n 1 || decide (nca = 0)))
theorem chk_ridden : ∀ n : Nat, n < 16 → ∀ s : Nat, s < 9 → ∀ c : Nat, c < 3 → okS n ((s : Int) - 4) c = true → (noB n 1 || decide ((c : Int) = 0)) = true →
    chkB n c (riddenV ⟨0, n, (s : Int) - 4, c⟩).st (riddenV ⟨0, n, (s : Int) - 4, c⟩).sc (riddenV ⟨0, n, (s : Int) - 4, c⟩).ca true false = true := by decide +kernel
theorem chk_tested : ∀ n : Nat, n < 16 → ∀ s : Nat, s < 9 → ∀ c : Nat, c < 3 → ∀ f : Bool, okS n ((s : Int) - 4) c = true → (noB n 1 || decide ((c : Int) = 0)) = true →
    chkB n c (testedV ⟨0, n, (s : Int) - 4, c⟩ f).st (testedV ⟨0, n, (s : Int) - 4, c⟩ f).sc (testedV ⟨0, n, (s : Int) - 4, c⟩ f).ca false f = true := by decide +kernel
theorem chk_zero : chkB 0 0 0 0 0 true false = true ∧ ∀ f, chkB 0 0 (testedV (freshT 0) f).st (testedV (freshT 0) f).sc (testedV (freshT 0) f).ca false f = true := by decide +kernel
structure CInv (c : List Trb) (id calm : Int) : Prop where
  right : rightL c = true
  shape : c = [] ∨ ∃ t, c = [t] ∧ t.id = id
  calm : calm = (oneV c id).ca
  ok : okS (oneV c id).st (oneV c id).sc (oneV c id).ca = true
  fail : (noB (oneV c id).st 1 || decide ((oneV c id).ca = 0)) = true
theorem CInv.bound {c : List Trb} {id calm : Int} (h : CInv c id calm) : 0 ≤ calm ∧ calm ≤ 2 := by
  have := h.ok
  simp only [okS, Bool.and_eq_true, Bool.not_eq_true', decide_eq_false_iff_not] at this
  rw [h.calm]
  omega
theorem one_single {t : Trb} {id : Int} (h : t.id = id) : oneV [t] id = t := by simp [oneV, h]
theorem CInv.cyc {c : List Trb} {id calm : Int} (h : CInv c id calm) : chkB (oneV c id).st calm (oneV (cycL c) id).st (oneV (cycL c) id).sc (oneV (cycL c) id).ca true false = true ∧ rightL (cycL c) = true ∧ (cycL c = [] ∨ ∃ t, cycL c = [t] ∧ t.id = id) := by
  refine ⟨?_, cyc_right h.right, ?_⟩
  · have hc := h.calm
    have h4 := h.ok
    have h5 := h.fail
    rcases h.shape with rfl | ⟨t, rfl, ht⟩
    · have e : oneV [] id = zeroT := rfl
      rw [e] at hc
      subst hc
      exact chk_zero.1
    · have hok := rightL_mem h.right t (by simp)
      obtain ⟨n, s, k, hn, hs, hk, e1, e2, e3⟩ := okR_small hok
      obtain ⟨f1, f2, f3⟩ := ridden_of t
      have e5 : oneV (cycL [t]) id = riddenV t := one_single (by rw [ridden_id]; exact ht)
      rw [one_single ht] at hc h4 h5 ⊢
      rw [e5, f1, f2, f3, hc, e1, e2, e3]
      rw [e1, e2, e3] at h4
      rw [e1, e3] at h5
      exact chk_ridden n hn s hs k hk h4 h5
  · rcases h.shape with rfl | ⟨t, rfl, ht⟩
    · exact .inl rfl
    · exact .inr ⟨riddenV t, rfl, by rw [ridden_id]; exact ht⟩
theorem CInv.rep {c : List Trb} {id calm : Int} (h : CInv c id calm) (hid : 0 ≤ id ∧ id ≤ 65535) (f : Bool) : chkB (oneV c id).st calm (oneV (reportV c id f) id).st (oneV (reportV c id f) id).sc (oneV (reportV c id f) id).ca false f = true ∧ rightL (reportV c id f) = true ∧ (reportV c id f = [] ∨ ∃ t, reportV c id f = [t] ∧ t.id = id) := by
  have e0 : reportV c id f = Pe.rep c id f := reportV_rep hid (.inr (by rcases h.shape with rfl | ⟨t, rfl, _⟩ <;> simp))
  have hr := report_right id f h.right
  rw [e0] at hr ⊢
  have hc := h.calm
  have h4 := h.ok
  have h5 := h.fail
  rcases h.shape with rfl | ⟨t, rfl, ht⟩
  · have e1 : (testedV (freshT id) f).id = id := by rw [tested_id]; rfl
    refine ⟨?_, hr, .inr ⟨_, rfl, e1⟩⟩
    have e : oneV [] id = zeroT := rfl
    have e2 : oneV (Pe.rep [] id f) id = testedV (freshT id) f := one_single e1
    obtain ⟨f1, f2, f3⟩ := tested_of (freshT id) f
    rw [e] at hc
    subst hc
    rw [e2, f1, f2, f3]
    exact chk_zero.2 f
  · have e1 : Pe.rep [t] id f = [testedV t f] := by simp [Pe.rep, ht]
    have e2 : (testedV t f).id = id := by rw [tested_id]; exact ht
    rw [e1] at hr ⊢
    refine ⟨?_, hr, .inr ⟨_, rfl, e2⟩⟩
    have hok := rightL_mem h.right t (by simp)
    obtain ⟨n, s, k, hn, hs, hk, g1, g2, g3⟩ := okR_small hok
    obtain ⟨f1, f2, f3⟩ := tested_of t f
    rw [one_single ht] at hc h4 h5 ⊢
    rw [one_single e2, f1, f2, f3, hc, g1, g2, g3]
    rw [g1, g2, g3] at h4
    rw [g1, g3] at h5
    exact chk_tested n hn s hs k hk f h4 h5
end Go.Proofs.Ytokilmnlabcpoaa.Pe
