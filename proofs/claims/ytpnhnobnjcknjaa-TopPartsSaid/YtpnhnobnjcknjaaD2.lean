import Derived.Test.YtpnhnobnjcknjaaD1
namespace Go.Proofs.Ytpnhnobnjcknjaa.Pe
open Go.Pe Go.RowKit
set_option maxRecDepth 20000
set_option maxHeartbeats 4000000
set_option linter.unusedSimpArgs false
set_option linter.unusedVariables false

structure Rcv where
  st : Int
  len : Int
  got : List UInt8
  num : Int
  left : Int
  block : Int
  gap : Int
  clock : Int
  room : Int
  err : Int
  deriving DecidableEq
abbrev Rcv.cells (r : Rcv) : List PV := [PI r.st, PI r.len, bytesPV r.got, PI r.num, PI r.left, PI r.block, PI r.gap, PI r.clock, PI r.room, PI r.err]
def Rcv.pv (r : Rcv) : PV := .agg r.cells
def Pdu.none : Pdu := ⟨0, 0, 0, 0, 0, 0, []⟩
def freshR (room block gap : Int) : Rcv := ⟨0, 0, [], 0, 0, block, gap, 0, room, 0⟩
def failR (r : Rcv) (e : Int) : Rcv := { r with st := 4, err := e }
def beginR (r : Rcv) (p : Pdu) (st : Int) : Rcv := if r.room < p.l then failR (freshR r.room r.block r.gap) 182 else { freshR r.room r.block r.gap with st := st, len := p.l, got := p.d }
def goP (r : Rcv) : Pdu := ⟨4, 0, 0, 0, r.block, r.gap, []⟩
def missR (r : Rcv) : Int := r.len - r.got.length
def moreR (r : Rcv) (p : Pdu) : Rcv := { r with got := r.got ++ p.d, clock := 0, num := (r.num + 1).tmod 16 }
def nextV (r : Rcv) (p : Pdu) : Rcv × Pdu × Bool :=
  if p.n ≠ r.num ∨ (p.d.length : Int) ≠ (if missR r < 7 then missR r else 7) then (failR r 183, Pdu.none, false)
  else if (p.d.length : Int) = missR r then ({ moreR r p with st := 3 }, Pdu.none, false)
  else if r.left < 0 then (moreR r p, Pdu.none, false)
  else if 1 < r.left then ({ moreR r p with left := r.left - 1 }, Pdu.none, false)
  else ({ moreR r p with left := r.block }, goP r, true)
def recvV (r : Rcv) (p : Pdu) : Rcv × Pdu × Bool :=
  if p.k = 1 then (beginR r p 3, Pdu.none, false)
  else if p.k = 2 then
    (if r.room < p.l then (beginR r p 2, ⟨4, 0, 0, 2, 0, 0, []⟩, true) else ({ beginR r p 2 with num := 1, left := if r.block = 0 then -1 else r.block }, goP r, true))
  else if p.k = 3 ∧ r.st = 2 then nextV r p
  else (r, Pdu.none, false)
/-- A receiver that may be. -/
def Rcv.fine (r : Rcv) : Prop := 0 ≤ r.num ∧ r.num ≤ 15 ∧ 0 ≤ r.len ∧ r.len ≤ 4095 ∧ (r.got.length : Int) ≤ r.len ∧ -1 ≤ r.left ∧ r.left ≤ 255 ∧ 0 ≤ r.block ∧ r.block ≤ 255
theorem and15 {n : Int} (h : 0 ≤ n ∧ n ≤ 15) : bitsA .and .i64 (n + 1) 15 = (n + 1).tmod 16 := by
  have : n = 0 ∨ n = 1 ∨ n = 2 ∨ n = 3 ∨ n = 4 ∨ n = 5 ∨ n = 6 ∨ n = 7 ∨ n = 8 ∨ n = 9 ∨ n = 10 ∨ n = 11 ∨ n = 12 ∨ n = 13 ∨ n = 14 ∨ n = 15 := by omega
  rcases this with rfl | rfl | rfl | rfl | rfl | rfl | rfl | rfl | rfl | rfl | rfl | rfl | rfl | rfl | rfl | rfl <;> decide
theorem newT_calls (room block gap : Int) : PureCalls Try.prog 35 [PI room, PI block, PI gap] (freshR room block gap).pv := by
  refine PureCalls.of tabOK mixed Try.func35 rfl rfl (by decide +kernel) (by simp [Try.ntmps35]) ?_
  simp only [go_sem, Nat.reduceAdd, Nat.reduceSub, Nat.reduceMul, Nat.reduceLT, Nat.reduceLeDiff, Nat.reduceEqDiff, Nat.reduceBEq, Int.reduceToNat, Int.reduceLT, Int.reduceLE, Int.reduceEq, Int.reduceNe, Int.reduceAdd, Int.reduceSub, Int.reduceMul, Int.reduceNeg, ↓reduceIte, reduceCtorEq, Try.ntmps35, Try.results35, freshR, Rcv.pv]
theorem tickT_calls (r : Rcv) : PureCalls Try.prog 24 [r.pv] (if r.st = 2 then (if 100 < IntKind.wrap .i64 (r.clock + 1) then failR { r with clock := IntKind.wrap .i64 (r.clock + 1) } 181 else { r with clock := IntKind.wrap .i64 (r.clock + 1) }) else r).pv := by
  refine PureCalls.of tabOK mixed Try.func24 rfl rfl (by decide +kernel) (by simp [Try.ntmps24]) ?_
  obtain ⟨st, len, got, num, left, block, gap, clock, room, err⟩ := r
  simp only [go_sem, Nat.reduceAdd, Nat.reduceSub, Nat.reduceMul, Nat.reduceLT, Nat.reduceLeDiff, Nat.reduceEqDiff, Nat.reduceBEq, Int.reduceToNat, Int.reduceLT, Int.reduceLE, Int.reduceEq, Int.reduceNe, Int.reduceAdd, Int.reduceSub, Int.reduceMul, Int.reduceNeg, ↓reduceIte, reduceCtorEq, Try.ntmps24, Try.results24, Rcv.pv]
  by_cases h : st = 2
  · have f : decide (st = 2) = true := by simp [h]
    subst h
    simp only [go_sem, Nat.reduceAdd, Nat.reduceSub, Nat.reduceMul, Nat.reduceLT, Nat.reduceLeDiff, Nat.reduceEqDiff, Nat.reduceBEq, Int.reduceToNat, Int.reduceLT, Int.reduceLE, Int.reduceEq, Int.reduceNe, Int.reduceAdd, Int.reduceSub, Int.reduceMul, Int.reduceNeg, ↓reduceIte, reduceCtorEq]
    generalize IntKind.wrap .i64 (clock + 1) = c
    by_cases hc : 100 < c
    · have f2 : decide (c > 100) = true := by simp; omega
      simp only [go_sem, Nat.reduceAdd, Nat.reduceSub, Nat.reduceMul, Nat.reduceLT, Nat.reduceLeDiff, Nat.reduceEqDiff, Nat.reduceBEq, Int.reduceToNat, Int.reduceLT, Int.reduceLE, Int.reduceEq, Int.reduceNe, Int.reduceAdd, Int.reduceSub, Int.reduceMul, Int.reduceNeg, ↓reduceIte, reduceCtorEq, f2]
      refine CallA.into tabOK mixed Try.func48 rfl rfl (by decide +kernel) (by simp [Try.ntmps48]) ?_
      simp only [go_sem, Nat.reduceAdd, Nat.reduceSub, Nat.reduceMul, Nat.reduceLT, Nat.reduceLeDiff, Nat.reduceEqDiff, Nat.reduceBEq, Int.reduceToNat, Int.reduceLT, Int.reduceLE, Int.reduceEq, Int.reduceNe, Int.reduceAdd, Int.reduceSub, Int.reduceMul, Int.reduceNeg, ↓reduceIte, reduceCtorEq, Try.ntmps48, Try.results48, Try.ntmps24, Try.results24, hc, failR]
    · have f2 : decide (c > 100) = false := by simp; omega
      simp only [go_sem, Nat.reduceAdd, Nat.reduceSub, Nat.reduceMul, Nat.reduceLT, Nat.reduceLeDiff, Nat.reduceEqDiff, Nat.reduceBEq, Int.reduceToNat, Int.reduceLT, Int.reduceLE, Int.reduceEq, Int.reduceNe, Int.reduceAdd, Int.reduceSub, Int.reduceMul, Int.reduceNeg, ↓reduceIte, reduceCtorEq, f2, Try.ntmps24, Try.results24, hc]
  · have f : decide (st = 2) = false := by simp [h]
    simp only [go_sem, Nat.reduceAdd, Nat.reduceSub, Nat.reduceMul, Nat.reduceLT, Nat.reduceLeDiff, Nat.reduceEqDiff, Nat.reduceBEq, Int.reduceToNat, Int.reduceLT, Int.reduceLE, Int.reduceEq, Int.reduceNe, Int.reduceAdd, Int.reduceSub, Int.reduceMul, Int.reduceNeg, ↓reduceIte, reduceCtorEq, f, Try.ntmps24, Try.results24, h]
theorem textT_calls (r : Rcv) : PureCalls Try.prog 30 [r.pv] (.tup [bytesPV (if r.st = 3 then r.got else []), PB (decide (r.st = 3))]) := by
  refine PureCalls.of tabOK mixed Try.func30 rfl rfl (by decide +kernel) (by simp [Try.ntmps30]) ?_
  obtain ⟨st, len, got, num, left, block, gap, clock, room, err⟩ := r
  simp only [go_sem, Nat.reduceAdd, Nat.reduceSub, Nat.reduceMul, Nat.reduceLT, Nat.reduceLeDiff, Nat.reduceEqDiff, Nat.reduceBEq, Int.reduceToNat, Int.reduceLT, Int.reduceLE, Int.reduceEq, Int.reduceNe, Int.reduceAdd, Int.reduceSub, Int.reduceMul, Int.reduceNeg, ↓reduceIte, reduceCtorEq, Try.ntmps30, Try.results30, Rcv.pv]
  by_cases h : st = 3
  · have f : decide (st = 3) = true := by simp [h]
    simp only [go_sem, Nat.reduceAdd, Nat.reduceSub, Nat.reduceMul, Nat.reduceLT, Nat.reduceLeDiff, Nat.reduceEqDiff, Nat.reduceBEq, Int.reduceToNat, Int.reduceLT, Int.reduceLE, Int.reduceEq, Int.reduceNe, Int.reduceAdd, Int.reduceSub, Int.reduceMul, Int.reduceNeg, ↓reduceIte, reduceCtorEq, f, Try.ntmps30, Try.results30, h]
  · have f : decide (st = 3) = false := by simp [h]
    simp only [go_sem, Nat.reduceAdd, Nat.reduceSub, Nat.reduceMul, Nat.reduceLT, Nat.reduceLeDiff, Nat.reduceEqDiff, Nat.reduceBEq, Int.reduceToNat, Int.reduceLT, Int.reduceLE, Int.reduceEq, Int.reduceNe, Int.reduceAdd, Int.reduceSub, Int.reduceMul, Int.reduceNeg, ↓reduceIte, reduceCtorEq, f, Try.ntmps30, Try.results30, h]
theorem right_d {p : Pdu} (h : p.right = true) : p.d.length ≤ 7 := by
  unfold Pdu.right at h
  split at h
  · simp at h; omega
  · split at h
    · simp at h; omega
    · split at h
      · simp at h; omega
      · split at h
        · simp at h; simp [h]
        · simp at h
theorem takeT_calls (r : Rcv) (p : Pdu) (hr : r.fine) (hp : p.right = true) : PureCalls Try.prog 27 [r.pv, p.pv] (.tup [(recvV r p).1.pv, (recvV r p).2.1.pv, PB (recvV r p).2.2]) := by
  refine PureCalls.of tabOK mixed Try.func27 rfl rfl (by decide +kernel) (by simp [Try.ntmps27]) ?_
  have hd := right_d hp
  obtain ⟨st, len, got, num, left, block, gap, clock, room, err⟩ := r
  obtain ⟨k, l, n, sy, b, g, d⟩ := p
  generalize hres : recvV ⟨st, len, got, num, left, block, gap, clock, room, err⟩ ⟨k, l, n, sy, b, g, d⟩ = res
  generalize hR1 : res.1.pv = R1
  generalize hR2 : res.2.1.pv = R2
  generalize hR3 : res.2.2 = R3
  have fin : ∀ x, res = x → R1 = x.1.pv ∧ R2 = x.2.1.pv ∧ R3 = x.2.2 := by
    rintro x rfl
    exact ⟨hR1.symm, hR2.symm, hR3.symm⟩
  simp only [go_sem, Nat.reduceAdd, Nat.reduceSub, Nat.reduceMul, Nat.reduceLT, Nat.reduceLeDiff, Nat.reduceEqDiff, Nat.reduceBEq, Int.reduceToNat, Int.reduceLT, Int.reduceLE, Int.reduceEq, Int.reduceNe, Int.reduceAdd, Int.reduceSub, Int.reduceMul, Int.reduceNeg, ↓reduceIte, reduceCtorEq, Try.ntmps27, Try.results27, Rcv.pv, Pdu.pv]
  by_cases h1 : k = 1
  · subst h1
    simp only [go_sem, Nat.reduceAdd, Nat.reduceSub, Nat.reduceMul, Nat.reduceLT, Nat.reduceLeDiff, Nat.reduceEqDiff, Nat.reduceBEq, Int.reduceToNat, Int.reduceLT, Int.reduceLE, Int.reduceEq, Int.reduceNe, Int.reduceAdd, Int.reduceSub, Int.reduceMul, Int.reduceNeg, ↓reduceIte, reduceCtorEq]
    refine CallA.into tabOK mixed Try.func50 rfl rfl (by decide +kernel) (by simp [Try.ntmps50]) ?_
    simp only [go_sem, Nat.reduceAdd, Nat.reduceSub, Nat.reduceMul, Nat.reduceLT, Nat.reduceLeDiff, Nat.reduceEqDiff, Nat.reduceBEq, Int.reduceToNat, Int.reduceLT, Int.reduceLE, Int.reduceEq, Int.reduceNe, Int.reduceAdd, Int.reduceSub, Int.reduceMul, Int.reduceNeg, ↓reduceIte, reduceCtorEq, Try.ntmps50, Try.results50]
    refine CallA.into tabOK mixed Try.func74 rfl rfl (by decide +kernel) (by simp [Try.ntmps74]) ?_
    simp only [go_sem, Nat.reduceAdd, Nat.reduceSub, Nat.reduceMul, Nat.reduceLT, Nat.reduceLeDiff, Nat.reduceEqDiff, Nat.reduceBEq, Int.reduceToNat, Int.reduceLT, Int.reduceLE, Int.reduceEq, Int.reduceNe, Int.reduceAdd, Int.reduceSub, Int.reduceMul, Int.reduceNeg, ↓reduceIte, reduceCtorEq, Try.ntmps74, Try.results74]
    refine callD_same (newT_calls _ _ _) (by simp only [go_sem, Nat.reduceAdd, Nat.reduceSub, Nat.reduceMul, Nat.reduceLT, Nat.reduceLeDiff, Nat.reduceEqDiff, Nat.reduceBEq, Int.reduceToNat, Int.reduceLT, Int.reduceLE, Int.reduceEq, Int.reduceNe, Int.reduceAdd, Int.reduceSub, Int.reduceMul, Int.reduceNeg, ↓reduceIte, reduceCtorEq]) ?_
    simp only [go_sem, Nat.reduceAdd, Nat.reduceSub, Nat.reduceMul, Nat.reduceLT, Nat.reduceLeDiff, Nat.reduceEqDiff, Nat.reduceBEq, Int.reduceToNat, Int.reduceLT, Int.reduceLE, Int.reduceEq, Int.reduceNe, Int.reduceAdd, Int.reduceSub, Int.reduceMul, Int.reduceNeg, ↓reduceIte, reduceCtorEq, freshR, Rcv.pv]
    refine endD_intro (by decide +kernel) ?_
    simp only [go_sem, Nat.reduceAdd, Nat.reduceSub, Nat.reduceMul, Nat.reduceLT, Nat.reduceLeDiff, Nat.reduceEqDiff, Nat.reduceBEq, Int.reduceToNat, Int.reduceLT, Int.reduceLE, Int.reduceEq, Int.reduceNe, Int.reduceAdd, Int.reduceSub, Int.reduceMul, Int.reduceNeg, ↓reduceIte, reduceCtorEq]
    refine endD_intro (by decide +kernel) ?_
    by_cases hroom : room < l
    · have f : decide (l > room) = true := by simp; omega
      simp only [go_sem, Nat.reduceAdd, Nat.reduceSub, Nat.reduceMul, Nat.reduceLT, Nat.reduceLeDiff, Nat.reduceEqDiff, Nat.reduceBEq, Int.reduceToNat, Int.reduceLT, Int.reduceLE, Int.reduceEq, Int.reduceNe, Int.reduceAdd, Int.reduceSub, Int.reduceMul, Int.reduceNeg, ↓reduceIte, reduceCtorEq, f]
      refine CallA.into tabOK mixed Try.func48 rfl rfl (by decide +kernel) (by simp [Try.ntmps48]) ?_
      simp only [go_sem, Nat.reduceAdd, Nat.reduceSub, Nat.reduceMul, Nat.reduceLT, Nat.reduceLeDiff, Nat.reduceEqDiff, Nat.reduceBEq, Int.reduceToNat, Int.reduceLT, Int.reduceLE, Int.reduceEq, Int.reduceNe, Int.reduceAdd, Int.reduceSub, Int.reduceMul, Int.reduceNeg, ↓reduceIte, reduceCtorEq, Try.ntmps48, Try.results48, Try.ntmps74, Try.results74, Try.ntmps50, Try.results50, Try.ntmps27, Try.results27]
      refine endD_intro (by decide +kernel) ?_
      obtain ⟨q1, q2, q3⟩ := fin _ hres.symm
      rw [q1, q2, q3]
      simp only [go_sem, Nat.reduceAdd, Nat.reduceSub, Nat.reduceMul, Nat.reduceLT, Nat.reduceLeDiff, Nat.reduceEqDiff, Nat.reduceBEq, Int.reduceToNat, Int.reduceLT, Int.reduceLE, Int.reduceEq, Int.reduceNe, Int.reduceAdd, Int.reduceSub, Int.reduceMul, Int.reduceNeg, ↓reduceIte, reduceCtorEq, recvV, hroom, beginR, failR, freshR, Rcv.pv, Pdu.pv, Pdu.none, Try.ntmps27, Try.results27]
    · have f : decide (l > room) = false := by simp; omega
      simp only [go_sem, Nat.reduceAdd, Nat.reduceSub, Nat.reduceMul, Nat.reduceLT, Nat.reduceLeDiff, Nat.reduceEqDiff, Nat.reduceBEq, Int.reduceToNat, Int.reduceLT, Int.reduceLE, Int.reduceEq, Int.reduceNe, Int.reduceAdd, Int.reduceSub, Int.reduceMul, Int.reduceNeg, ↓reduceIte, reduceCtorEq, f]
      refine callD_same (clone_calls d (by simp at hd; omega)) (by simp only [go_sem, Nat.reduceAdd, Nat.reduceSub, Nat.reduceMul, Nat.reduceLT, Nat.reduceLeDiff, Nat.reduceEqDiff, Nat.reduceBEq, Int.reduceToNat, Int.reduceLT, Int.reduceLE, Int.reduceEq, Int.reduceNe, Int.reduceAdd, Int.reduceSub, Int.reduceMul, Int.reduceNeg, ↓reduceIte, reduceCtorEq]) ?_
      simp only [go_sem, Nat.reduceAdd, Nat.reduceSub, Nat.reduceMul, Nat.reduceLT, Nat.reduceLeDiff, Nat.reduceEqDiff, Nat.reduceBEq, Int.reduceToNat, Int.reduceLT, Int.reduceLE, Int.reduceEq, Int.reduceNe, Int.reduceAdd, Int.reduceSub, Int.reduceMul, Int.reduceNeg, ↓reduceIte, reduceCtorEq]
      refine endD_intro (by decide +kernel) ?_
      simp only [go_sem, Nat.reduceAdd, Nat.reduceSub, Nat.reduceMul, Nat.reduceLT, Nat.reduceLeDiff, Nat.reduceEqDiff, Nat.reduceBEq, Int.reduceToNat, Int.reduceLT, Int.reduceLE, Int.reduceEq, Int.reduceNe, Int.reduceAdd, Int.reduceSub, Int.reduceMul, Int.reduceNeg, ↓reduceIte, reduceCtorEq, Try.ntmps74, Try.results74, Try.ntmps50, Try.results50, Try.ntmps27, Try.results27]
      refine endD_intro (by decide +kernel) ?_
      obtain ⟨q1, q2, q3⟩ := fin _ hres.symm
      rw [q1, q2, q3]
      simp only [go_sem, Nat.reduceAdd, Nat.reduceSub, Nat.reduceMul, Nat.reduceLT, Nat.reduceLeDiff, Nat.reduceEqDiff, Nat.reduceBEq, Int.reduceToNat, Int.reduceLT, Int.reduceLE, Int.reduceEq, Int.reduceNe, Int.reduceAdd, Int.reduceSub, Int.reduceMul, Int.reduceNeg, ↓reduceIte, reduceCtorEq, recvV, hroom, beginR, failR, freshR, Rcv.pv, Pdu.pv, Pdu.none, Try.ntmps27, Try.results27]
  by_cases h2 : k = 2
  · subst h2
    simp only [go_sem, Nat.reduceAdd, Nat.reduceSub, Nat.reduceMul, Nat.reduceLT, Nat.reduceLeDiff, Nat.reduceEqDiff, Nat.reduceBEq, Int.reduceToNat, Int.reduceLT, Int.reduceLE, Int.reduceEq, Int.reduceNe, Int.reduceAdd, Int.reduceSub, Int.reduceMul, Int.reduceNeg, ↓reduceIte, reduceCtorEq]
    refine CallA.into tabOK mixed Try.func51 rfl rfl (by decide +kernel) (by simp [Try.ntmps51]) ?_
    simp only [go_sem, Nat.reduceAdd, Nat.reduceSub, Nat.reduceMul, Nat.reduceLT, Nat.reduceLeDiff, Nat.reduceEqDiff, Nat.reduceBEq, Int.reduceToNat, Int.reduceLT, Int.reduceLE, Int.reduceEq, Int.reduceNe, Int.reduceAdd, Int.reduceSub, Int.reduceMul, Int.reduceNeg, ↓reduceIte, reduceCtorEq, Try.ntmps51, Try.results51]
    refine CallA.into tabOK mixed Try.func74 rfl rfl (by decide +kernel) (by simp [Try.ntmps74]) ?_
    simp only [go_sem, Nat.reduceAdd, Nat.reduceSub, Nat.reduceMul, Nat.reduceLT, Nat.reduceLeDiff, Nat.reduceEqDiff, Nat.reduceBEq, Int.reduceToNat, Int.reduceLT, Int.reduceLE, Int.reduceEq, Int.reduceNe, Int.reduceAdd, Int.reduceSub, Int.reduceMul, Int.reduceNeg, ↓reduceIte, reduceCtorEq, Try.ntmps74, Try.results74]
    refine callD_same (newT_calls _ _ _) (by simp only [go_sem, Nat.reduceAdd, Nat.reduceSub, Nat.reduceMul, Nat.reduceLT, Nat.reduceLeDiff, Nat.reduceEqDiff, Nat.reduceBEq, Int.reduceToNat, Int.reduceLT, Int.reduceLE, Int.reduceEq, Int.reduceNe, Int.reduceAdd, Int.reduceSub, Int.reduceMul, Int.reduceNeg, ↓reduceIte, reduceCtorEq]) ?_
    simp only [go_sem, Nat.reduceAdd, Nat.reduceSub, Nat.reduceMul, Nat.reduceLT, Nat.reduceLeDiff, Nat.reduceEqDiff, Nat.reduceBEq, Int.reduceToNat, Int.reduceLT, Int.reduceLE, Int.reduceEq, Int.reduceNe, Int.reduceAdd, Int.reduceSub, Int.reduceMul, Int.reduceNeg, ↓reduceIte, reduceCtorEq, freshR, Rcv.pv]
    refine endD_intro (by decide +kernel) ?_
    simp only [go_sem, Nat.reduceAdd, Nat.reduceSub, Nat.reduceMul, Nat.reduceLT, Nat.reduceLeDiff, Nat.reduceEqDiff, Nat.reduceBEq, Int.reduceToNat, Int.reduceLT, Int.reduceLE, Int.reduceEq, Int.reduceNe, Int.reduceAdd, Int.reduceSub, Int.reduceMul, Int.reduceNeg, ↓reduceIte, reduceCtorEq]
    refine endD_intro (by decide +kernel) ?_
    by_cases hroom : room < l
    · have f : decide (l > room) = true := by simp; omega
      simp only [go_sem, Nat.reduceAdd, Nat.reduceSub, Nat.reduceMul, Nat.reduceLT, Nat.reduceLeDiff, Nat.reduceEqDiff, Nat.reduceBEq, Int.reduceToNat, Int.reduceLT, Int.reduceLE, Int.reduceEq, Int.reduceNe, Int.reduceAdd, Int.reduceSub, Int.reduceMul, Int.reduceNeg, ↓reduceIte, reduceCtorEq, f]
      refine CallA.into tabOK mixed Try.func48 rfl rfl (by decide +kernel) (by simp [Try.ntmps48]) ?_
      simp only [go_sem, Nat.reduceAdd, Nat.reduceSub, Nat.reduceMul, Nat.reduceLT, Nat.reduceLeDiff, Nat.reduceEqDiff, Nat.reduceBEq, Int.reduceToNat, Int.reduceLT, Int.reduceLE, Int.reduceEq, Int.reduceNe, Int.reduceAdd, Int.reduceSub, Int.reduceMul, Int.reduceNeg, ↓reduceIte, reduceCtorEq, Try.ntmps48, Try.results48, Try.ntmps74, Try.results74, Try.ntmps51, Try.results51, Try.ntmps27, Try.results27]
      refine endD_intro (by decide +kernel) ?_
      obtain ⟨q1, q2, q3⟩ := fin _ hres.symm
      rw [q1, q2, q3]
      simp only [go_sem, Nat.reduceAdd, Nat.reduceSub, Nat.reduceMul, Nat.reduceLT, Nat.reduceLeDiff, Nat.reduceEqDiff, Nat.reduceBEq, Int.reduceToNat, Int.reduceLT, Int.reduceLE, Int.reduceEq, Int.reduceNe, Int.reduceAdd, Int.reduceSub, Int.reduceMul, Int.reduceNeg, ↓reduceIte, reduceCtorEq, recvV, hroom, beginR, failR, freshR, Rcv.pv, Pdu.pv, Pdu.none, Try.ntmps27, Try.results27]
    · have f : decide (l > room) = false := by simp; omega
      simp only [go_sem, Nat.reduceAdd, Nat.reduceSub, Nat.reduceMul, Nat.reduceLT, Nat.reduceLeDiff, Nat.reduceEqDiff, Nat.reduceBEq, Int.reduceToNat, Int.reduceLT, Int.reduceLE, Int.reduceEq, Int.reduceNe, Int.reduceAdd, Int.reduceSub, Int.reduceMul, Int.reduceNeg, ↓reduceIte, reduceCtorEq, f]
      refine callD_same (clone_calls d (by simp at hd; omega)) (by simp only [go_sem, Nat.reduceAdd, Nat.reduceSub, Nat.reduceMul, Nat.reduceLT, Nat.reduceLeDiff, Nat.reduceEqDiff, Nat.reduceBEq, Int.reduceToNat, Int.reduceLT, Int.reduceLE, Int.reduceEq, Int.reduceNe, Int.reduceAdd, Int.reduceSub, Int.reduceMul, Int.reduceNeg, ↓reduceIte, reduceCtorEq]) ?_
      simp only [go_sem, Nat.reduceAdd, Nat.reduceSub, Nat.reduceMul, Nat.reduceLT, Nat.reduceLeDiff, Nat.reduceEqDiff, Nat.reduceBEq, Int.reduceToNat, Int.reduceLT, Int.reduceLE, Int.reduceEq, Int.reduceNe, Int.reduceAdd, Int.reduceSub, Int.reduceMul, Int.reduceNeg, ↓reduceIte, reduceCtorEq]
      refine endD_intro (by decide +kernel) ?_
      simp only [go_sem, Nat.reduceAdd, Nat.reduceSub, Nat.reduceMul, Nat.reduceLT, Nat.reduceLeDiff, Nat.reduceEqDiff, Nat.reduceBEq, Int.reduceToNat, Int.reduceLT, Int.reduceLE, Int.reduceEq, Int.reduceNe, Int.reduceAdd, Int.reduceSub, Int.reduceMul, Int.reduceNeg, ↓reduceIte, reduceCtorEq, Try.ntmps74, Try.results74, Try.ntmps51, Try.results51, Try.ntmps27, Try.results27]
      by_cases hb : block = 0
      · have fb : decide (block = 0) = true := by simp [hb]
        simp only [go_sem, Nat.reduceAdd, Nat.reduceSub, Nat.reduceMul, Nat.reduceLT, Nat.reduceLeDiff, Nat.reduceEqDiff, Nat.reduceBEq, Int.reduceToNat, Int.reduceLT, Int.reduceLE, Int.reduceEq, Int.reduceNe, Int.reduceAdd, Int.reduceSub, Int.reduceMul, Int.reduceNeg, ↓reduceIte, reduceCtorEq, fb]
        refine CallA.into tabOK mixed Try.func75 rfl rfl (by decide +kernel) (by simp [Try.ntmps75]) ?_
        simp only [go_sem, Nat.reduceAdd, Nat.reduceSub, Nat.reduceMul, Nat.reduceLT, Nat.reduceLeDiff, Nat.reduceEqDiff, Nat.reduceBEq, Int.reduceToNat, Int.reduceLT, Int.reduceLE, Int.reduceEq, Int.reduceNe, Int.reduceAdd, Int.reduceSub, Int.reduceMul, Int.reduceNeg, ↓reduceIte, reduceCtorEq, Try.ntmps75, Try.results75]
        refine endD_intro (by decide +kernel) ?_
        simp only [go_sem, Nat.reduceAdd, Nat.reduceSub, Nat.reduceMul, Nat.reduceLT, Nat.reduceLeDiff, Nat.reduceEqDiff, Nat.reduceBEq, Int.reduceToNat, Int.reduceLT, Int.reduceLE, Int.reduceEq, Int.reduceNe, Int.reduceAdd, Int.reduceSub, Int.reduceMul, Int.reduceNeg, ↓reduceIte, reduceCtorEq, Try.ntmps75, Try.results75, Try.ntmps51, Try.results51, Try.ntmps27, Try.results27]
        refine endD_intro (by decide +kernel) ?_
        obtain ⟨q1, q2, q3⟩ := fin _ hres.symm
        rw [q1, q2, q3]
        simp only [go_sem, Nat.reduceAdd, Nat.reduceSub, Nat.reduceMul, Nat.reduceLT, Nat.reduceLeDiff, Nat.reduceEqDiff, Nat.reduceBEq, Int.reduceToNat, Int.reduceLT, Int.reduceLE, Int.reduceEq, Int.reduceNe, Int.reduceAdd, Int.reduceSub, Int.reduceMul, Int.reduceNeg, ↓reduceIte, reduceCtorEq, recvV, hroom, beginR, failR, freshR, goP, hb, Rcv.pv, Pdu.pv, Pdu.none, Try.ntmps27, Try.results27]
      · have fb : decide (block = 0) = false := by simp [hb]
        simp only [go_sem, Nat.reduceAdd, Nat.reduceSub, Nat.reduceMul, Nat.reduceLT, Nat.reduceLeDiff, Nat.reduceEqDiff, Nat.reduceBEq, Int.reduceToNat, Int.reduceLT, Int.reduceLE, Int.reduceEq, Int.reduceNe, Int.reduceAdd, Int.reduceSub, Int.reduceMul, Int.reduceNeg, ↓reduceIte, reduceCtorEq, fb]
        refine CallA.into tabOK mixed Try.func75 rfl rfl (by decide +kernel) (by simp [Try.ntmps75]) ?_
        simp only [go_sem, Nat.reduceAdd, Nat.reduceSub, Nat.reduceMul, Nat.reduceLT, Nat.reduceLeDiff, Nat.reduceEqDiff, Nat.reduceBEq, Int.reduceToNat, Int.reduceLT, Int.reduceLE, Int.reduceEq, Int.reduceNe, Int.reduceAdd, Int.reduceSub, Int.reduceMul, Int.reduceNeg, ↓reduceIte, reduceCtorEq, Try.ntmps75, Try.results75]
        refine endD_intro (by decide +kernel) ?_
        simp only [go_sem, Nat.reduceAdd, Nat.reduceSub, Nat.reduceMul, Nat.reduceLT, Nat.reduceLeDiff, Nat.reduceEqDiff, Nat.reduceBEq, Int.reduceToNat, Int.reduceLT, Int.reduceLE, Int.reduceEq, Int.reduceNe, Int.reduceAdd, Int.reduceSub, Int.reduceMul, Int.reduceNeg, ↓reduceIte, reduceCtorEq, Try.ntmps75, Try.results75, Try.ntmps51, Try.results51, Try.ntmps27, Try.results27]
        refine endD_intro (by decide +kernel) ?_
        obtain ⟨q1, q2, q3⟩ := fin _ hres.symm
        rw [q1, q2, q3]
        simp only [go_sem, Nat.reduceAdd, Nat.reduceSub, Nat.reduceMul, Nat.reduceLT, Nat.reduceLeDiff, Nat.reduceEqDiff, Nat.reduceBEq, Int.reduceToNat, Int.reduceLT, Int.reduceLE, Int.reduceEq, Int.reduceNe, Int.reduceAdd, Int.reduceSub, Int.reduceMul, Int.reduceNeg, ↓reduceIte, reduceCtorEq, recvV, hroom, beginR, failR, freshR, goP, hb, Rcv.pv, Pdu.pv, Pdu.none, Try.ntmps27, Try.results27]
  by_cases h3 : k = 3
  · subst h3
    simp only [go_sem, Nat.reduceAdd, Nat.reduceSub, Nat.reduceMul, Nat.reduceLT, Nat.reduceLeDiff, Nat.reduceEqDiff, Nat.reduceBEq, Int.reduceToNat, Int.reduceLT, Int.reduceLE, Int.reduceEq, Int.reduceNe, Int.reduceAdd, Int.reduceSub, Int.reduceMul, Int.reduceNeg, ↓reduceIte, reduceCtorEq]
    refine CallA.into tabOK mixed Try.func52 rfl rfl (by decide +kernel) (by simp [Try.ntmps52]) ?_
    obtain ⟨hr1, hr2, hr3, hr4, hr5, hr6, hr7, hr8, hr9⟩ := hr
    simp only at hr1 hr2 hr3 hr4 hr5 hr6 hr7 hr8 hr9
    have hwm : IntKind.wrap .i64 (len - (got.length : Int)) = len - got.length := wrapI64 (by omega)
    simp only [go_sem, Nat.reduceAdd, Nat.reduceSub, Nat.reduceMul, Nat.reduceLT, Nat.reduceLeDiff, Nat.reduceEqDiff, Nat.reduceBEq, Int.reduceToNat, Int.reduceLT, Int.reduceLE, Int.reduceEq, Int.reduceNe, Int.reduceAdd, Int.reduceSub, Int.reduceMul, Int.reduceNeg, ↓reduceIte, reduceCtorEq, Try.ntmps52, Try.results52, hwm]
    refine endD_intro (by decide +kernel) ?_
    by_cases hst : st = 2
    rotate_left 1
    · have fs : decide (st = 2) = false := by simp [hst]
      simp only [go_sem, Nat.reduceAdd, Nat.reduceSub, Nat.reduceMul, Nat.reduceLT, Nat.reduceLeDiff, Nat.reduceEqDiff, Nat.reduceBEq, Int.reduceToNat, Int.reduceLT, Int.reduceLE, Int.reduceEq, Int.reduceNe, Int.reduceAdd, Int.reduceSub, Int.reduceMul, Int.reduceNeg, ↓reduceIte, reduceCtorEq, fs, Try.ntmps52, Try.results52, Try.ntmps27, Try.results27]
      refine endD_intro (by decide +kernel) ?_
      obtain ⟨q1, q2, q3⟩ := fin _ hres.symm
      rw [q1, q2, q3]
      simp only [go_sem, Nat.reduceAdd, Nat.reduceSub, Nat.reduceMul, Nat.reduceLT, Nat.reduceLeDiff, Nat.reduceEqDiff, Nat.reduceBEq, Int.reduceToNat, Int.reduceLT, Int.reduceLE, Int.reduceEq, Int.reduceNe, Int.reduceAdd, Int.reduceSub, Int.reduceMul, Int.reduceNeg, ↓reduceIte, reduceCtorEq, recvV, hst, Rcv.pv, Pdu.pv, Pdu.none, Try.ntmps27, Try.results27]
    subst hst
    simp only [recvV, nextV, missR, moreR, goP] at hres
    simp only [show ¬ ((3 : Int) = 1) by decide, show ¬ ((3 : Int) = 2) by decide, if_false, and_self, if_true] at hres
    obtain ⟨mi, hmi⟩ : ∃ mi, len - (got.length : Int) = mi := ⟨_, rfl⟩
    simp only [hmi] at hres
    simp only [go_sem, Nat.reduceAdd, Nat.reduceSub, Nat.reduceMul, Nat.reduceLT, Nat.reduceLeDiff, Nat.reduceEqDiff, Nat.reduceBEq, Int.reduceToNat, Int.reduceLT, Int.reduceLE, Int.reduceEq, Int.reduceNe, Int.reduceAdd, Int.reduceSub, Int.reduceMul, Int.reduceNeg, ↓reduceIte, reduceCtorEq, hmi]
    by_cases hn : n = num
    rotate_left 1
    · have fn : decide (n = num) = false := by simp [hn]
      rw [if_pos (.inl hn)] at hres
      simp only [go_sem, Nat.reduceAdd, Nat.reduceSub, Nat.reduceMul, Nat.reduceLT, Nat.reduceLeDiff, Nat.reduceEqDiff, Nat.reduceBEq, Int.reduceToNat, Int.reduceLT, Int.reduceLE, Int.reduceEq, Int.reduceNe, Int.reduceAdd, Int.reduceSub, Int.reduceMul, Int.reduceNeg, ↓reduceIte, reduceCtorEq, fn]
      refine endD_intro (by decide +kernel) ?_
      simp only [go_sem, Nat.reduceAdd, Nat.reduceSub, Nat.reduceMul, Nat.reduceLT, Nat.reduceLeDiff, Nat.reduceEqDiff, Nat.reduceBEq, Int.reduceToNat, Int.reduceLT, Int.reduceLE, Int.reduceEq, Int.reduceNe, Int.reduceAdd, Int.reduceSub, Int.reduceMul, Int.reduceNeg, ↓reduceIte, reduceCtorEq]
      refine CallA.into tabOK mixed Try.func48 rfl rfl (by decide +kernel) (by simp [Try.ntmps48]) ?_
      simp only [go_sem, Nat.reduceAdd, Nat.reduceSub, Nat.reduceMul, Nat.reduceLT, Nat.reduceLeDiff, Nat.reduceEqDiff, Nat.reduceBEq, Int.reduceToNat, Int.reduceLT, Int.reduceLE, Int.reduceEq, Int.reduceNe, Int.reduceAdd, Int.reduceSub, Int.reduceMul, Int.reduceNeg, ↓reduceIte, reduceCtorEq, Try.ntmps48, Try.results48, Try.ntmps52, Try.results52, Try.ntmps27, Try.results27]
      refine endD_intro (by decide +kernel) ?_
      obtain ⟨q1, q2, q3⟩ := fin _ hres.symm
      rw [q1, q2, q3]
      simp only [go_sem, Nat.reduceAdd, Nat.reduceSub, Nat.reduceMul, Nat.reduceLT, Nat.reduceLeDiff, Nat.reduceEqDiff, Nat.reduceBEq, Int.reduceToNat, Int.reduceLT, Int.reduceLE, Int.reduceEq, Int.reduceNe, Int.reduceAdd, Int.reduceSub, Int.reduceMul, Int.reduceNeg, ↓reduceIte, reduceCtorEq, failR, Rcv.pv, Pdu.pv, Pdu.none, Try.ntmps27, Try.results27]
    have fn : decide (n = num) = true := by simp [hn]
    by_cases hl : (d.length : Int) = (if mi < 7 then mi else 7)
    rotate_left 1
    · have fl : decide ((d.length : Int) = (if mi < 7 then mi else 7)) = false := by simpa using hl
      rw [if_pos (.inr hl)] at hres
      simp only [go_sem, Nat.reduceAdd, Nat.reduceSub, Nat.reduceMul, Nat.reduceLT, Nat.reduceLeDiff, Nat.reduceEqDiff, Nat.reduceBEq, Int.reduceToNat, Int.reduceLT, Int.reduceLE, Int.reduceEq, Int.reduceNe, Int.reduceAdd, Int.reduceSub, Int.reduceMul, Int.reduceNeg, ↓reduceIte, reduceCtorEq, fn, fl, hmi]
      refine endD_intro (by decide +kernel) ?_
      simp only [go_sem, Nat.reduceAdd, Nat.reduceSub, Nat.reduceMul, Nat.reduceLT, Nat.reduceLeDiff, Nat.reduceEqDiff, Nat.reduceBEq, Int.reduceToNat, Int.reduceLT, Int.reduceLE, Int.reduceEq, Int.reduceNe, Int.reduceAdd, Int.reduceSub, Int.reduceMul, Int.reduceNeg, ↓reduceIte, reduceCtorEq, fl]
      refine CallA.into tabOK mixed Try.func48 rfl rfl (by decide +kernel) (by simp [Try.ntmps48]) ?_
      simp only [go_sem, Nat.reduceAdd, Nat.reduceSub, Nat.reduceMul, Nat.reduceLT, Nat.reduceLeDiff, Nat.reduceEqDiff, Nat.reduceBEq, Int.reduceToNat, Int.reduceLT, Int.reduceLE, Int.reduceEq, Int.reduceNe, Int.reduceAdd, Int.reduceSub, Int.reduceMul, Int.reduceNeg, ↓reduceIte, reduceCtorEq, Try.ntmps48, Try.results48, Try.ntmps52, Try.results52, Try.ntmps27, Try.results27]
      refine endD_intro (by decide +kernel) ?_
      obtain ⟨q1, q2, q3⟩ := fin _ hres.symm
      rw [q1, q2, q3]
      simp only [go_sem, Nat.reduceAdd, Nat.reduceSub, Nat.reduceMul, Nat.reduceLT, Nat.reduceLeDiff, Nat.reduceEqDiff, Nat.reduceBEq, Int.reduceToNat, Int.reduceLT, Int.reduceLE, Int.reduceEq, Int.reduceNe, Int.reduceAdd, Int.reduceSub, Int.reduceMul, Int.reduceNeg, ↓reduceIte, reduceCtorEq, failR, Rcv.pv, Pdu.pv, Pdu.none, Try.ntmps27, Try.results27]
    have fl : decide ((d.length : Int) = (if mi < 7 then mi else 7)) = true := by simpa using hl
    rw [if_neg (by simp [hn]; exact hl)] at hres
    have hw1 : IntKind.wrap .i64 (num + 1) = num + 1 := wrapI64 (by omega)
    have h15 := and15 ⟨hr1, hr2⟩
    simp only [go_sem, Nat.reduceAdd, Nat.reduceSub, Nat.reduceMul, Nat.reduceLT, Nat.reduceLeDiff, Nat.reduceEqDiff, Nat.reduceBEq, Int.reduceToNat, Int.reduceLT, Int.reduceLE, Int.reduceEq, Int.reduceNe, Int.reduceAdd, Int.reduceSub, Int.reduceMul, Int.reduceNeg, ↓reduceIte, reduceCtorEq, fn, fl, hmi]
    refine endD_intro (by decide +kernel) ?_
    simp only [go_sem, Nat.reduceAdd, Nat.reduceSub, Nat.reduceMul, Nat.reduceLT, Nat.reduceLeDiff, Nat.reduceEqDiff, Nat.reduceBEq, Int.reduceToNat, Int.reduceLT, Int.reduceLE, Int.reduceEq, Int.reduceNe, Int.reduceAdd, Int.reduceSub, Int.reduceMul, Int.reduceNeg, ↓reduceIte, reduceCtorEq, fl]
    refine callD_pure (concat_calls got d (by omega)) (by simp only [go_sem, Nat.reduceAdd, Nat.reduceSub, Nat.reduceMul, Nat.reduceLT, Nat.reduceLeDiff, Nat.reduceEqDiff, Nat.reduceBEq, Int.reduceToNat, Int.reduceLT, Int.reduceLE, Int.reduceEq, Int.reduceNe, Int.reduceAdd, Int.reduceSub, Int.reduceMul, Int.reduceNeg, ↓reduceIte, reduceCtorEq]) ?_
    simp only [go_sem, Nat.reduceAdd, Nat.reduceSub, Nat.reduceMul, Nat.reduceLT, Nat.reduceLeDiff, Nat.reduceEqDiff, Nat.reduceBEq, Int.reduceToNat, Int.reduceLT, Int.reduceLE, Int.reduceEq, Int.reduceNe, Int.reduceAdd, Int.reduceSub, Int.reduceMul, Int.reduceNeg, ↓reduceIte, reduceCtorEq]
    refine endD_intro (by decide +kernel) ?_
    simp only [go_sem, Nat.reduceAdd, Nat.reduceSub, Nat.reduceMul, Nat.reduceLT, Nat.reduceLeDiff, Nat.reduceEqDiff, Nat.reduceBEq, Int.reduceToNat, Int.reduceLT, Int.reduceLE, Int.reduceEq, Int.reduceNe, Int.reduceAdd, Int.reduceSub, Int.reduceMul, Int.reduceNeg, ↓reduceIte, reduceCtorEq, hw1, h15, hmi]
    by_cases hm : (d.length : Int) = mi
    · have fm : decide ((d.length : Int) = mi) = true := by simp [hm]
      rw [if_pos hm] at hres
      simp only [go_sem, Nat.reduceAdd, Nat.reduceSub, Nat.reduceMul, Nat.reduceLT, Nat.reduceLeDiff, Nat.reduceEqDiff, Nat.reduceBEq, Int.reduceToNat, Int.reduceLT, Int.reduceLE, Int.reduceEq, Int.reduceNe, Int.reduceAdd, Int.reduceSub, Int.reduceMul, Int.reduceNeg, ↓reduceIte, reduceCtorEq, fm, Try.ntmps52, Try.results52, Try.ntmps27, Try.results27]
      refine endD_intro (by decide +kernel) ?_
      obtain ⟨q1, q2, q3⟩ := fin _ hres.symm
      rw [q1, q2, q3]
      simp only [go_sem, Nat.reduceAdd, Nat.reduceSub, Nat.reduceMul, Nat.reduceLT, Nat.reduceLeDiff, Nat.reduceEqDiff, Nat.reduceBEq, Int.reduceToNat, Int.reduceLT, Int.reduceLE, Int.reduceEq, Int.reduceNe, Int.reduceAdd, Int.reduceSub, Int.reduceMul, Int.reduceNeg, ↓reduceIte, reduceCtorEq, Rcv.pv, Pdu.pv, Pdu.none, Try.ntmps27, Try.results27]
    have fm : decide ((d.length : Int) = mi) = false := by simp [hm]
    rw [if_neg hm] at hres
    by_cases hl0 : left < 0
    · have f0 : decide (left < 0) = true := by simp [hl0]
      rw [if_pos hl0] at hres
      simp only [go_sem, Nat.reduceAdd, Nat.reduceSub, Nat.reduceMul, Nat.reduceLT, Nat.reduceLeDiff, Nat.reduceEqDiff, Nat.reduceBEq, Int.reduceToNat, Int.reduceLT, Int.reduceLE, Int.reduceEq, Int.reduceNe, Int.reduceAdd, Int.reduceSub, Int.reduceMul, Int.reduceNeg, ↓reduceIte, reduceCtorEq, fm, f0, Try.ntmps52, Try.results52, Try.ntmps27, Try.results27]
      refine endD_intro (by decide +kernel) ?_
      obtain ⟨q1, q2, q3⟩ := fin _ hres.symm
      rw [q1, q2, q3]
      simp only [go_sem, Nat.reduceAdd, Nat.reduceSub, Nat.reduceMul, Nat.reduceLT, Nat.reduceLeDiff, Nat.reduceEqDiff, Nat.reduceBEq, Int.reduceToNat, Int.reduceLT, Int.reduceLE, Int.reduceEq, Int.reduceNe, Int.reduceAdd, Int.reduceSub, Int.reduceMul, Int.reduceNeg, ↓reduceIte, reduceCtorEq, Rcv.pv, Pdu.pv, Pdu.none, Try.ntmps27, Try.results27]
    have f0 : decide (left < 0) = false := by simp; omega
    have hwl : IntKind.wrap .i64 (left - 1) = left - 1 := wrapI64 (by omega)
    rw [if_neg hl0] at hres
    by_cases hl1 : 1 < left
    · have f1 : decide (left - 1 > 0) = true := by simp; omega
      rw [if_pos hl1] at hres
      simp only [go_sem, Nat.reduceAdd, Nat.reduceSub, Nat.reduceMul, Nat.reduceLT, Nat.reduceLeDiff, Nat.reduceEqDiff, Nat.reduceBEq, Int.reduceToNat, Int.reduceLT, Int.reduceLE, Int.reduceEq, Int.reduceNe, Int.reduceAdd, Int.reduceSub, Int.reduceMul, Int.reduceNeg, ↓reduceIte, reduceCtorEq, fm, f0, hwl, f1, Try.ntmps52, Try.results52, Try.ntmps27, Try.results27]
      refine endD_intro (by decide +kernel) ?_
      obtain ⟨q1, q2, q3⟩ := fin _ hres.symm
      rw [q1, q2, q3]
      simp only [go_sem, Nat.reduceAdd, Nat.reduceSub, Nat.reduceMul, Nat.reduceLT, Nat.reduceLeDiff, Nat.reduceEqDiff, Nat.reduceBEq, Int.reduceToNat, Int.reduceLT, Int.reduceLE, Int.reduceEq, Int.reduceNe, Int.reduceAdd, Int.reduceSub, Int.reduceMul, Int.reduceNeg, ↓reduceIte, reduceCtorEq, Rcv.pv, Pdu.pv, Pdu.none, Try.ntmps27, Try.results27]
    have f1 : decide (left - 1 > 0) = false := by simp; omega
    rw [if_neg hl1] at hres
    simp only [go_sem, Nat.reduceAdd, Nat.reduceSub, Nat.reduceMul, Nat.reduceLT, Nat.reduceLeDiff, Nat.reduceEqDiff, Nat.reduceBEq, Int.reduceToNat, Int.reduceLT, Int.reduceLE, Int.reduceEq, Int.reduceNe, Int.reduceAdd, Int.reduceSub, Int.reduceMul, Int.reduceNeg, ↓reduceIte, reduceCtorEq, fm, f0, hwl, f1]
    refine CallA.into tabOK mixed Try.func75 rfl rfl (by decide +kernel) (by simp [Try.ntmps75]) ?_
    simp only [go_sem, Nat.reduceAdd, Nat.reduceSub, Nat.reduceMul, Nat.reduceLT, Nat.reduceLeDiff, Nat.reduceEqDiff, Nat.reduceBEq, Int.reduceToNat, Int.reduceLT, Int.reduceLE, Int.reduceEq, Int.reduceNe, Int.reduceAdd, Int.reduceSub, Int.reduceMul, Int.reduceNeg, ↓reduceIte, reduceCtorEq, Try.ntmps75, Try.results75]
    refine endD_intro (by decide +kernel) ?_
    simp only [go_sem, Nat.reduceAdd, Nat.reduceSub, Nat.reduceMul, Nat.reduceLT, Nat.reduceLeDiff, Nat.reduceEqDiff, Nat.reduceBEq, Int.reduceToNat, Int.reduceLT, Int.reduceLE, Int.reduceEq, Int.reduceNe, Int.reduceAdd, Int.reduceSub, Int.reduceMul, Int.reduceNeg, ↓reduceIte, reduceCtorEq, Try.ntmps75, Try.results75, Try.ntmps52, Try.results52, Try.ntmps27, Try.results27]
    refine endD_intro (by decide +kernel) ?_
    obtain ⟨q1, q2, q3⟩ := fin _ hres.symm
    rw [q1, q2, q3]
    simp only [go_sem, Nat.reduceAdd, Nat.reduceSub, Nat.reduceMul, Nat.reduceLT, Nat.reduceLeDiff, Nat.reduceEqDiff, Nat.reduceBEq, Int.reduceToNat, Int.reduceLT, Int.reduceLE, Int.reduceEq, Int.reduceNe, Int.reduceAdd, Int.reduceSub, Int.reduceMul, Int.reduceNeg, ↓reduceIte, reduceCtorEq, Rcv.pv, Pdu.pv, Pdu.none, Try.ntmps27, Try.results27]
  have k1 : decide (k = 1) = false := by simp [h1]
  have k2 : decide (k = 2) = false := by simp [h2]
  have k3 : decide (k = 3) = false := by simp [h3]
  obtain ⟨q1, q2, q3⟩ := fin _ (by rw [← hres, recvV, if_neg h1, if_neg h2, if_neg (fun h => h3 h.1)])
  rw [q1, q2, q3]
  simp only [go_sem, Nat.reduceAdd, Nat.reduceSub, Nat.reduceMul, Nat.reduceLT, Nat.reduceLeDiff, Nat.reduceEqDiff, Nat.reduceBEq, Int.reduceToNat, Int.reduceLT, Int.reduceLE, Int.reduceEq, Int.reduceNe, Int.reduceAdd, Int.reduceSub, Int.reduceMul, Int.reduceNeg, ↓reduceIte, reduceCtorEq, k1, k2, k3, h1, h2, h3]
  refine endD_intro (by decide +kernel) ?_
  simp only [go_sem, Nat.reduceAdd, Nat.reduceSub, Nat.reduceMul, Nat.reduceLT, Nat.reduceLeDiff, Nat.reduceEqDiff, Nat.reduceBEq, Int.reduceToNat, Int.reduceLT, Int.reduceLE, Int.reduceEq, Int.reduceNe, Int.reduceAdd, Int.reduceSub, Int.reduceMul, Int.reduceNeg, ↓reduceIte, reduceCtorEq, Try.ntmps27, Try.results27, Rcv.pv, Pdu.pv, Pdu.none]
end Go.Proofs.Ytpnhnobnjcknjaa.Pe
