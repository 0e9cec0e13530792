import Derived.Test.YtcdmhigmgpflbaaGreatLE10a
import Derived.Test.YtcdmhigmgpflbaaGreatLD10
set_option maxRecDepth 20000
set_option maxHeartbeats 4000000
set_option linter.unusedSimpArgs false
set_option linter.unusedVariables false
namespace Go.Proofs.YtcdmhigmgpflbaaGreat.Pe.Lk
open Go.Pe Go.RowKit
abbrev againAt (bn i : Nat) : Prop := i = 0 ∨ (0 < bn ∧ i % bn = 0)
structure SAt (t : List UInt8) (bn g i : Nat) (s : Snd) : Prop where
  sound : s.sound
  text : s.text = t
  pos : s.pos = if i = t.length / 7 then (t.length : Int) else ((7 * i + 6 : Nat) : Int)
  num : s.num = (((i + 1) % 16 : Nat) : Int)
  st : s.st = if i = t.length / 7 then 3 else if againAt bn i then 1 else 2
  clock : s.st = 1 → s.clock ≤ 100
  going : i < t.length / 7 → ¬ againAt bn i → s.gap = g ∧ s.left = (if bn = 0 then -1 else ((bn - i % bn : Nat) : Int))
end Go.Proofs.YtcdmhigmgpflbaaGreat.Pe.Lk
namespace Go.Proofs.YtcdmhigmgpflbaaGreat.Pe.Lk
open Go.Pe Go.RowKit
structure PAt (t : List UInt8) (bn g : Nat) (R : Int) (i : Nat) (L : Lnk) : Prop where
  le : i ≤ t.length / 7
  a : L.a = ⟨[(partsL t)[i]?.getD Pdu.none],[]⟩
  b : L.b = ⟨[],[]⟩
  s : SAt t bn g i L.s
  one : L.s.st = 2 → L.s.clock = 1
  r : ∃ r c,L.r = skR c r ∧ c ≤ 100 ∧ r.fine ∧ WAt t bn i r ∧ r.room = R ∧ r.block = bn ∧ r.gap = g ∧ (i = 0 → r.st ≠ 2)
structure QAt (t : List UInt8) (bn g : Nat) (R : Int) (i k : Nat) (L : Lnk) : Prop where
  a : L.a = ⟨[],[]⟩
  b : L.b = ⟨[],[]⟩
  s : SAt t bn g i L.s
  st : L.s.st = 2
  clock : L.s.clock = k
  r : ∃ r,L.r = skR (k - 1) r ∧ r.fine ∧ WAt t bn (i + 1) r ∧ r.room = R ∧ r.block = bn ∧ r.gap = g ∧ r.clock = 0
end Go.Proofs.YtcdmhigmgpflbaaGreat.Pe.Lk
namespace Go.Proofs.YtcdmhigmgpflbaaGreat.Pe.Lk
open Go.Pe Go.RowKit
end Go.Proofs.YtcdmhigmgpflbaaGreat.Pe.Lk
namespace Go.Proofs.YtcdmhigmgpflbaaGreat.Pe.Lk
open Go.Pe Go.RowKit
end Go.Proofs.YtcdmhigmgpflbaaGreat.Pe.Lk
