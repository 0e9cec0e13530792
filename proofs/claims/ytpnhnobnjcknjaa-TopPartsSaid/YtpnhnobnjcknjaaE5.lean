import Derived.Test.YtpnhnobnjcknjaaE4
namespace Go.Proofs.Ytpnhnobnjcknjaa.Pe
open Go.Pe Go.RowKit
set_option maxRecDepth 20000
set_option maxHeartbeats 4000000
set_option linter.unusedSimpArgs false
set_option linter.unusedVariables false

def b20 : List UInt8 := [116, 119, 101, 110, 116, 121, 32, 98, 121, 116, 101, 115, 32, 111, 102, 32, 116, 101, 120, 116]
theorem play_at {t : List UInt8} {room block gap : Int} {fates : List Int} (hb : 0 ≤ block ∧ block ≤ 255) {s : Snd} {r : Rcv} {n : Nat} (h : playV t room block gap fates = (s, r, n)) :
    PureCalls Try.prog 41 [bytesPV t, PI room, PI block, PI gap, intsPV fates] (.tup [s.pv, r.pv, PI n]) := by
  have := play_calls t room block gap fates hb
  rwa [h] at this
theorem pl1 : playV b20 100 0 0 [] = (⟨3, b20, 20, 3, -1, 0, 0, 0, 0⟩, ⟨3, 20, b20, 3, -1, 0, 0, 0, 100, 0⟩, 3) := by decide +kernel
theorem pl2 : playV b20 100 0 0 [2] = (⟨4, b20, 6, 1, -1, 0, 101, 0, 181⟩, ⟨0, 0, [], 0, 0, 0, 0, 0, 100, 0⟩, 101) := by decide +kernel
theorem pl3 : playV b20 10 0 0 [] = (⟨4, b20, 6, 1, -1, 0, 0, 0, 184⟩, ⟨4, 0, [], 0, 0, 0, 0, 0, 10, 182⟩, 1) := by decide +kernel
theorem ticks20 : PureCalls Try.prog 43 [PI 20, PI 0, PI 0] (PI 3) := ticks_calls 20 0 0
theorem rows20 : [[PV.lit (Value.int IntKind.u8 116)], [PV.lit (Value.int IntKind.u8 119)], [PV.lit (Value.int IntKind.u8 101)], [PV.lit (Value.int IntKind.u8 110)], [PV.lit (Value.int IntKind.u8 116)], [PV.lit (Value.int IntKind.u8 121)], [PV.lit (Value.int IntKind.u8 32)], [PV.lit (Value.int IntKind.u8 98)], [PV.lit (Value.int IntKind.u8 121)], [PV.lit (Value.int IntKind.u8 116)], [PV.lit (Value.int IntKind.u8 101)], [PV.lit (Value.int IntKind.u8 115)], [PV.lit (Value.int IntKind.u8 32)], [PV.lit (Value.int IntKind.u8 111)], [PV.lit (Value.int IntKind.u8 102)], [PV.lit (Value.int IntKind.u8 32)], [PV.lit (Value.int IntKind.u8 116)], [PV.lit (Value.int IntKind.u8 101)], [PV.lit (Value.int IntKind.u8 120)], [PV.lit (Value.int IntKind.u8 116)]] = rowsB b20 := rfl
theorem headL_calls : PureCalls Try.prog 42 [] (PB true) := by
  refine PureCalls.of tabOK mixed Try.func42 rfl rfl (by decide +kernel) (by simp [Try.ntmps42]) ?_
  have cA := play_at (by decide) pl1
  have cB := play_at (by decide) pl2
  have cC := play_at (by decide) pl3
  have cX := textT_calls ⟨3, 20, b20, 3, -1, 0, 0, 0, 100, 0⟩
  rw [if_pos rfl] at cX
  simp only [go_sem, Nat.reduceAdd, Nat.reduceSub, Nat.reduceMul, Nat.reduceLT, Nat.reduceLeDiff, Nat.reduceEqDiff, Nat.reduceBEq, Int.reduceToNat, Int.reduceLT, Int.reduceLE, Int.reduceEq, Int.reduceNe, Int.reduceAdd, Int.reduceSub, Int.reduceMul, Int.reduceNeg, ↓reduceIte, reduceCtorEq, Try.ntmps42, Try.results42]
  simp only [rows20]
  (refine CallA.pure (cA) (by simp only [go_sem, Nat.reduceAdd, Nat.reduceSub, Nat.reduceMul, Nat.reduceLT, Nat.reduceLeDiff, Nat.reduceEqDiff, Nat.reduceBEq, Int.reduceToNat, Int.reduceLT, Int.reduceLE, Int.reduceEq, Int.reduceNe, Int.reduceAdd, Int.reduceSub, Int.reduceMul, Int.reduceNeg, ↓reduceIte, reduceCtorEq, Snd.pv, Rcv.pv] <;> first | rfl | decide) ?_; simp only [go_sem, Nat.reduceAdd, Nat.reduceSub, Nat.reduceMul, Nat.reduceLT, Nat.reduceLeDiff, Nat.reduceEqDiff, Nat.reduceBEq, Int.reduceToNat, Int.reduceLT, Int.reduceLE, Int.reduceEq, Int.reduceNe, Int.reduceAdd, Int.reduceSub, Int.reduceMul, Int.reduceNeg, ↓reduceIte, reduceCtorEq, Snd.pv, Rcv.pv])
  (refine CallA.pure (cX) (by simp only [go_sem, Nat.reduceAdd, Nat.reduceSub, Nat.reduceMul, Nat.reduceLT, Nat.reduceLeDiff, Nat.reduceEqDiff, Nat.reduceBEq, Int.reduceToNat, Int.reduceLT, Int.reduceLE, Int.reduceEq, Int.reduceNe, Int.reduceAdd, Int.reduceSub, Int.reduceMul, Int.reduceNeg, ↓reduceIte, reduceCtorEq, Snd.pv, Rcv.pv] <;> first | rfl | decide) ?_; simp only [go_sem, Nat.reduceAdd, Nat.reduceSub, Nat.reduceMul, Nat.reduceLT, Nat.reduceLeDiff, Nat.reduceEqDiff, Nat.reduceBEq, Int.reduceToNat, Int.reduceLT, Int.reduceLE, Int.reduceEq, Int.reduceNe, Int.reduceAdd, Int.reduceSub, Int.reduceMul, Int.reduceNeg, ↓reduceIte, reduceCtorEq, Snd.pv, Rcv.pv])
  (refine CallA.pure (cB) (by simp only [go_sem, Nat.reduceAdd, Nat.reduceSub, Nat.reduceMul, Nat.reduceLT, Nat.reduceLeDiff, Nat.reduceEqDiff, Nat.reduceBEq, Int.reduceToNat, Int.reduceLT, Int.reduceLE, Int.reduceEq, Int.reduceNe, Int.reduceAdd, Int.reduceSub, Int.reduceMul, Int.reduceNeg, ↓reduceIte, reduceCtorEq, Snd.pv, Rcv.pv] <;> first | rfl | decide) ?_; simp only [go_sem, Nat.reduceAdd, Nat.reduceSub, Nat.reduceMul, Nat.reduceLT, Nat.reduceLeDiff, Nat.reduceEqDiff, Nat.reduceBEq, Int.reduceToNat, Int.reduceLT, Int.reduceLE, Int.reduceEq, Int.reduceNe, Int.reduceAdd, Int.reduceSub, Int.reduceMul, Int.reduceNeg, ↓reduceIte, reduceCtorEq, Snd.pv, Rcv.pv])
  (refine CallA.pure (cC) (by simp only [go_sem, Nat.reduceAdd, Nat.reduceSub, Nat.reduceMul, Nat.reduceLT, Nat.reduceLeDiff, Nat.reduceEqDiff, Nat.reduceBEq, Int.reduceToNat, Int.reduceLT, Int.reduceLE, Int.reduceEq, Int.reduceNe, Int.reduceAdd, Int.reduceSub, Int.reduceMul, Int.reduceNeg, ↓reduceIte, reduceCtorEq, Snd.pv, Rcv.pv] <;> first | rfl | decide) ?_; simp only [go_sem, Nat.reduceAdd, Nat.reduceSub, Nat.reduceMul, Nat.reduceLT, Nat.reduceLeDiff, Nat.reduceEqDiff, Nat.reduceBEq, Int.reduceToNat, Int.reduceLT, Int.reduceLE, Int.reduceEq, Int.reduceNe, Int.reduceAdd, Int.reduceSub, Int.reduceMul, Int.reduceNeg, ↓reduceIte, reduceCtorEq, Snd.pv, Rcv.pv])
  (refine CallA.pure (ticks20) (by simp only [go_sem, Nat.reduceAdd, Nat.reduceSub, Nat.reduceMul, Nat.reduceLT, Nat.reduceLeDiff, Nat.reduceEqDiff, Nat.reduceBEq, Int.reduceToNat, Int.reduceLT, Int.reduceLE, Int.reduceEq, Int.reduceNe, Int.reduceAdd, Int.reduceSub, Int.reduceMul, Int.reduceNeg, ↓reduceIte, reduceCtorEq, Try.ntmps42, Try.results42] <;> first | rfl | decide) ?_; simp only [go_sem, Nat.reduceAdd, Nat.reduceSub, Nat.reduceMul, Nat.reduceLT, Nat.reduceLeDiff, Nat.reduceEqDiff, Nat.reduceBEq, Int.reduceToNat, Int.reduceLT, Int.reduceLE, Int.reduceEq, Int.reduceNe, Int.reduceAdd, Int.reduceSub, Int.reduceMul, Int.reduceNeg, ↓reduceIte, reduceCtorEq, Try.ntmps42, Try.results42])
theorem roomL_calls (t : List UInt8) (room : UInt16) (bl gp : UInt8) : PureCalls Try.prog 18 [bytesPV t, U16 room, U8 bl, U8 gp] (PB true) := by
  refine PureCalls.of tabOK mixed Try.func18 rfl rfl (by decide +kernel) (by simp [Try.ntmps18]) ?_
  have hr : room.toNat < 65536 := room.toNat_lt
  have hb : bl.toNat < 256 := bl.toNat_lt
  have hg : gp.toNat < 256 := gp.toNat_lt
  have e1 : IntKind.wrap .i64 (room.toNat : Int) = room.toNat := wrapI64 (by omega)
  have e2 : IntKind.wrap .i64 (bl.toNat : Int) = bl.toNat := wrapI64 (by omega)
  have e3 : (gp.toNat : Int).tmod 128 = ((gp.toNat % 128 : Nat) : Int) := rfl
  have e4 : IntKind.wrap .i64 ((gp.toNat % 128 : Nat) : Int) = ((gp.toNat % 128 : Nat) : Int) := wrapI64 (by omega)
  simp only [go_sem, Nat.reduceAdd, Nat.reduceSub, Nat.reduceMul, Nat.reduceLT, Nat.reduceLeDiff, Nat.reduceEqDiff, Nat.reduceBEq, Int.reduceToNat, Int.reduceLT, Int.reduceLE, Int.reduceEq, Int.reduceNe, Int.reduceAdd, Int.reduceSub, Int.reduceMul, Int.reduceNeg, ↓reduceIte, reduceCtorEq, Try.ntmps18, Try.results18]
  (refine CallA.pure (headL_calls) (by simp only [go_sem, Nat.reduceAdd, Nat.reduceSub, Nat.reduceMul, Nat.reduceLT, Nat.reduceLeDiff, Nat.reduceEqDiff, Nat.reduceBEq, Int.reduceToNat, Int.reduceLT, Int.reduceLE, Int.reduceEq, Int.reduceNe, Int.reduceAdd, Int.reduceSub, Int.reduceMul, Int.reduceNeg, ↓reduceIte, reduceCtorEq] <;> first | rfl | decide) ?_; simp only [go_sem, Nat.reduceAdd, Nat.reduceSub, Nat.reduceMul, Nat.reduceLT, Nat.reduceLeDiff, Nat.reduceEqDiff, Nat.reduceBEq, Int.reduceToNat, Int.reduceLT, Int.reduceLE, Int.reduceEq, Int.reduceNe, Int.reduceAdd, Int.reduceSub, Int.reduceMul, Int.reduceNeg, ↓reduceIte, reduceCtorEq])
  by_cases h0 : t.length < 1
  · have f0 : decide ((t.length : Int) < 1) = true := by simp; omega
    simp only [go_sem, Nat.reduceAdd, Nat.reduceSub, Nat.reduceMul, Nat.reduceLT, Nat.reduceLeDiff, Nat.reduceEqDiff, Nat.reduceBEq, Int.reduceToNat, Int.reduceLT, Int.reduceLE, Int.reduceEq, Int.reduceNe, Int.reduceAdd, Int.reduceSub, Int.reduceMul, Int.reduceNeg, ↓reduceIte, reduceCtorEq, f0, Try.ntmps18, Try.results18]
  have f0 : decide ((t.length : Int) < 1) = false := by simp; omega
  by_cases h1 : t.length > 4095
  · have f1 : decide ((t.length : Int) > 4095) = true := by simp; omega
    simp only [go_sem, Nat.reduceAdd, Nat.reduceSub, Nat.reduceMul, Nat.reduceLT, Nat.reduceLeDiff, Nat.reduceEqDiff, Nat.reduceBEq, Int.reduceToNat, Int.reduceLT, Int.reduceLE, Int.reduceEq, Int.reduceNe, Int.reduceAdd, Int.reduceSub, Int.reduceMul, Int.reduceNeg, ↓reduceIte, reduceCtorEq, f0, f1, Try.ntmps18, Try.results18]
  have f1 : decide ((t.length : Int) > 4095) = false := by simp; omega
  by_cases h2 : (room.toNat : Int) ≥ t.length
  · have f2 : decide ((room.toNat : Int) ≥ (t.length : Int)) = true := by simpa using h2
    simp only [go_sem, Nat.reduceAdd, Nat.reduceSub, Nat.reduceMul, Nat.reduceLT, Nat.reduceLeDiff, Nat.reduceEqDiff, Nat.reduceBEq, Int.reduceToNat, Int.reduceLT, Int.reduceLE, Int.reduceEq, Int.reduceNe, Int.reduceAdd, Int.reduceSub, Int.reduceMul, Int.reduceNeg, ↓reduceIte, reduceCtorEq, f0, f1, e1, f2, Try.ntmps18, Try.results18]
  have f2 : decide ((room.toNat : Int) ≥ (t.length : Int)) = false := by simpa using h2
  have cP := play_at (gap := ((gp.toNat % 128 : Nat) : Int)) (block := (bl.toNat : Int)) (by omega) (play_room (t := t) (room := room.toNat) (by omega) (by omega) (by omega))
  have cX := textT_calls (failR (freshR room.toNat bl.toNat ((gp.toNat % 128 : Nat) : Int)) 182)
  rw [if_neg (show ¬ ((failR (freshR room.toNat bl.toNat ((gp.toNat % 128 : Nat) : Int)) 182).st = 3) from (by decide : ¬ ((4 : Int) = 3)))] at cX
  by_cases h7 : t.length ≤ 7
  · have f7 : decide ((t.length : Int) ≤ 7) = true := by simp; omega
    rw [if_pos h7] at cP
    simp only [go_sem, Nat.reduceAdd, Nat.reduceSub, Nat.reduceMul, Nat.reduceLT, Nat.reduceLeDiff, Nat.reduceEqDiff, Nat.reduceBEq, Int.reduceToNat, Int.reduceLT, Int.reduceLE, Int.reduceEq, Int.reduceNe, Int.reduceAdd, Int.reduceSub, Int.reduceMul, Int.reduceNeg, ↓reduceIte, reduceCtorEq, f0, f1, e1, f2, e2, e3, e4]
    (refine CallA.pure (cP) (by simp only [go_sem, Nat.reduceAdd, Nat.reduceSub, Nat.reduceMul, Nat.reduceLT, Nat.reduceLeDiff, Nat.reduceEqDiff, Nat.reduceBEq, Int.reduceToNat, Int.reduceLT, Int.reduceLE, Int.reduceEq, Int.reduceNe, Int.reduceAdd, Int.reduceSub, Int.reduceMul, Int.reduceNeg, ↓reduceIte, reduceCtorEq, Snd.pv, Rcv.pv, failR, freshR] <;> first | rfl | decide) ?_; simp only [go_sem, Nat.reduceAdd, Nat.reduceSub, Nat.reduceMul, Nat.reduceLT, Nat.reduceLeDiff, Nat.reduceEqDiff, Nat.reduceBEq, Int.reduceToNat, Int.reduceLT, Int.reduceLE, Int.reduceEq, Int.reduceNe, Int.reduceAdd, Int.reduceSub, Int.reduceMul, Int.reduceNeg, ↓reduceIte, reduceCtorEq, Snd.pv, Rcv.pv, failR, freshR])
    (refine CallA.pure (cX) (by simp only [go_sem, Nat.reduceAdd, Nat.reduceSub, Nat.reduceMul, Nat.reduceLT, Nat.reduceLeDiff, Nat.reduceEqDiff, Nat.reduceBEq, Int.reduceToNat, Int.reduceLT, Int.reduceLE, Int.reduceEq, Int.reduceNe, Int.reduceAdd, Int.reduceSub, Int.reduceMul, Int.reduceNeg, ↓reduceIte, reduceCtorEq, Rcv.pv, failR, freshR, f7, Try.ntmps18, Try.results18] <;> first | rfl | decide) ?_; simp only [go_sem, Nat.reduceAdd, Nat.reduceSub, Nat.reduceMul, Nat.reduceLT, Nat.reduceLeDiff, Nat.reduceEqDiff, Nat.reduceBEq, Int.reduceToNat, Int.reduceLT, Int.reduceLE, Int.reduceEq, Int.reduceNe, Int.reduceAdd, Int.reduceSub, Int.reduceMul, Int.reduceNeg, ↓reduceIte, reduceCtorEq, Rcv.pv, failR, freshR, f7, Try.ntmps18, Try.results18])
  · have f7 : decide ((t.length : Int) ≤ 7) = false := by simp; omega
    rw [if_neg h7] at cP
    simp only [go_sem, Nat.reduceAdd, Nat.reduceSub, Nat.reduceMul, Nat.reduceLT, Nat.reduceLeDiff, Nat.reduceEqDiff, Nat.reduceBEq, Int.reduceToNat, Int.reduceLT, Int.reduceLE, Int.reduceEq, Int.reduceNe, Int.reduceAdd, Int.reduceSub, Int.reduceMul, Int.reduceNeg, ↓reduceIte, reduceCtorEq, f0, f1, e1, f2, e2, e3, e4]
    (refine CallA.pure (cP) (by simp only [go_sem, Nat.reduceAdd, Nat.reduceSub, Nat.reduceMul, Nat.reduceLT, Nat.reduceLeDiff, Nat.reduceEqDiff, Nat.reduceBEq, Int.reduceToNat, Int.reduceLT, Int.reduceLE, Int.reduceEq, Int.reduceNe, Int.reduceAdd, Int.reduceSub, Int.reduceMul, Int.reduceNeg, ↓reduceIte, reduceCtorEq, Snd.pv, Rcv.pv, failR, freshR] <;> first | rfl | decide) ?_; simp only [go_sem, Nat.reduceAdd, Nat.reduceSub, Nat.reduceMul, Nat.reduceLT, Nat.reduceLeDiff, Nat.reduceEqDiff, Nat.reduceBEq, Int.reduceToNat, Int.reduceLT, Int.reduceLE, Int.reduceEq, Int.reduceNe, Int.reduceAdd, Int.reduceSub, Int.reduceMul, Int.reduceNeg, ↓reduceIte, reduceCtorEq, Snd.pv, Rcv.pv, failR, freshR])
    (refine CallA.pure (cX) (by simp only [go_sem, Nat.reduceAdd, Nat.reduceSub, Nat.reduceMul, Nat.reduceLT, Nat.reduceLeDiff, Nat.reduceEqDiff, Nat.reduceBEq, Int.reduceToNat, Int.reduceLT, Int.reduceLE, Int.reduceEq, Int.reduceNe, Int.reduceAdd, Int.reduceSub, Int.reduceMul, Int.reduceNeg, ↓reduceIte, reduceCtorEq, Rcv.pv, failR, freshR, f7, Try.ntmps18, Try.results18] <;> first | rfl | decide) ?_; simp only [go_sem, Nat.reduceAdd, Nat.reduceSub, Nat.reduceMul, Nat.reduceLT, Nat.reduceLeDiff, Nat.reduceEqDiff, Nat.reduceBEq, Int.reduceToNat, Int.reduceLT, Int.reduceLE, Int.reduceEq, Int.reduceNe, Int.reduceAdd, Int.reduceSub, Int.reduceMul, Int.reduceNeg, ↓reduceIte, reduceCtorEq, Rcv.pv, failR, freshR, f7, Try.ntmps18, Try.results18])
end Go.Proofs.Ytpnhnobnjcknjaa.Pe
