import Derived.Test.YtpnhnobnjcknjaaE3
namespace Go.Proofs.Ytpnhnobnjcknjaa.Pe
open Go.Pe Go.RowKit
set_option maxRecDepth 20000
set_option maxHeartbeats 4000000
set_option linter.unusedSimpArgs false
set_option linter.unusedVariables false

theorem fateL_nil (k : Nat) : fateL [] k = 1 := rfl
theorem putW_pass (w : Way) (p : Pdu) : putW w p 1 = ⟨w.u ++ [p] ++ w.h, []⟩ := by simp [putW]
theorem run_go {fates : List Int} {f n : Nat} {L : Lnk} (h : doneL L = false) : runL fates (f + 1) n L = runL fates f (n + 1) (tickL fates L) := by rw [runL, h]; simp
theorem run_done {fates : List Int} {f n : Nat} {L : Lnk} (h : doneL L = true) : runL fates (f + 1) n L = (L, n) := by rw [runL, h]; simp
/-- A text for which there is no room. -/
theorem play_room {t : List UInt8} {room block gap : Int} (h0 : 1 ≤ t.length) (h1 : t.length ≤ 4095) (hr : room < t.length) :
    playV t room block gap [] = (if t.length ≤ 7 then (⟨3, t, t.length, 0, -1, 0, 0, 0, 0⟩ : Snd) else ⟨4, t, 6, 1, -1, 0, 0, 0, 184⟩, failR (freshR room block gap) 182, 1) := by
  have he : newE t = 0 := by rw [newE, if_neg (by omega), if_neg (by omega)]
  rw [playV, if_pos he]
  by_cases h7 : t.length ≤ 7
  · have hs : newS t = ⟨3, t, t.length, 0, -1, 0, 0, 0, 0⟩ := by rw [newS, if_neg (by omega), if_pos h7]
    have hp : newP t = ⟨1, t.length, 0, 0, 0, 0, t⟩ := by rw [newP, if_neg (by omega), if_pos h7]
    have hq : recvV (freshR room block gap) ⟨1, t.length, 0, 0, 0, 0, t⟩ = (failR (freshR room block gap) 182, Pdu.none, false) := by
      have : (freshR room block gap).room < (t.length : Int) := hr
      simp only [recvV, if_true, beginR, if_pos this]
      rfl
    have hst : startL t room block gap [] = ⟨⟨3, t, t.length, 0, -1, 0, 0, 0, 0⟩, freshR room block gap, ⟨[⟨1, t.length, 0, 0, 0, 0, t⟩], []⟩, ⟨[], []⟩, 1⟩ := by rw [startL, hs, hp, fateL_nil, putW_pass]; rfl
    have hrun : runL [] 100000 0 (startL t room block gap []) = (⟨⟨3, t, t.length, 0, -1, 0, 0, 0, 0⟩, failR (freshR room block gap) 182, ⟨[], []⟩, ⟨[], []⟩, 1⟩, 1) := by
      rw [hst]
      show runL [] (99999 + 1) 0 _ = _
      rw [run_go (by simp [doneL])]
      have ht : tickL [] ⟨⟨3, t, t.length, 0, -1, 0, 0, 0, 0⟩, freshR room block gap, ⟨[⟨1, t.length, 0, 0, 0, 0, t⟩], []⟩, ⟨[], []⟩, 1⟩ = ⟨⟨3, t, t.length, 0, -1, 0, 0, 0, 0⟩, failR (freshR room block gap) 182, ⟨[], []⟩, ⟨[], []⟩, 1⟩ := by
        simp [tickL, recvAll, hq, takeAll, nextS, Snd.goes, tickS, tickV, failR]
      rw [ht]
      show runL [] (99998 + 1) 1 _ = _
      rw [run_done (by simp [doneL, failR])]
    rw [hrun, if_pos h7]
  · have hs : newS t = ⟨1, t, 6, 1, -1, 0, 0, 0, 0⟩ := by rw [newS, if_neg (by omega), if_neg h7]
    have hp : newP t = ⟨2, t.length, 0, 0, 0, 0, t.take 6⟩ := by rw [newP, if_neg (by omega), if_neg h7]
    have hq : recvV (freshR room block gap) ⟨2, t.length, 0, 0, 0, 0, t.take 6⟩ = (failR (freshR room block gap) 182, ⟨4, 0, 0, 2, 0, 0, []⟩, true) := by
      have h1 : (freshR room block gap).room < (t.length : Int) := hr
      simp only [recvV, show ¬ ((2 : Int) = 1) by decide, if_false, if_true, beginR, if_pos h1]
      rfl
    have hst : startL t room block gap [] = ⟨⟨1, t, 6, 1, -1, 0, 0, 0, 0⟩, freshR room block gap, ⟨[⟨2, t.length, 0, 0, 0, 0, t.take 6⟩], []⟩, ⟨[], []⟩, 1⟩ := by rw [startL, hs, hp, fateL_nil, putW_pass]; rfl
    have htk : takeS ⟨1, t, 6, 1, -1, 0, 0, 0, 0⟩ ⟨4, 0, 0, 2, 0, 0, []⟩ = ⟨4, t, 6, 1, -1, 0, 0, 0, 184⟩ := by
      simp [takeS, Snd.takes, Pdu.right]
    have hrun : runL [] 100000 0 (startL t room block gap []) = (⟨⟨4, t, 6, 1, -1, 0, 0, 0, 184⟩, failR (freshR room block gap) 182, ⟨[], []⟩, ⟨[], []⟩, 2⟩, 1) := by
      rw [hst]
      show runL [] (99999 + 1) 0 _ = _
      rw [run_go (by simp [doneL])]
      have ht : tickL [] ⟨⟨1, t, 6, 1, -1, 0, 0, 0, 0⟩, freshR room block gap, ⟨[⟨2, t.length, 0, 0, 0, 0, t.take 6⟩], []⟩, ⟨[], []⟩, 1⟩ = ⟨⟨4, t, 6, 1, -1, 0, 0, 0, 184⟩, failR (freshR room block gap) 182, ⟨[], []⟩, ⟨[], []⟩, 2⟩ := by
        simp [tickL, recvAll, hq, takeAll, fateL_nil, putW_pass, htk, nextS, Snd.goes, tickS, tickV, failR]
      rw [ht]
      show runL [] (99998 + 1) 1 _ = _
      rw [run_done (by simp [doneL, failR])]
    rw [hrun, if_neg h7]
end Go.Proofs.Ytpnhnobnjcknjaa.Pe
