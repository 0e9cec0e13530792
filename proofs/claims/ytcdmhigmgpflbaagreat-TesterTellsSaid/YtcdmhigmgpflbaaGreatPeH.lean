import Derived.Test.YtcdmhigmgpflbaaGreatTab1
import Derived.Test.YtcdmhigmgpflbaaGreatPeR
import Derived.Test.YtcdmhigmgpflbaaGreatRows
import Derived.WalkKit
import Derived.ProofKit
import Derived.OpenShut
import Derived.ShutString
import Derived.ChangeOld
import Derived.Below
import Derived.SizedLaws
import Derived.Carry
set_option maxRecDepth 100000
namespace Go.Proofs.YtcdmhigmgpflbaaGreat.Pe
open Go.Pe Go.RowKit
def letters (l : List Nat) : List Char := l.map Char.ofNat
def orderL : List Char := letters [104,97,114,110,101,115,115,32,49,97,53,54,102,101,99,100,48,49,97,101,100,98,99,51,53,98,48,51,55,102,98,100,54,49,51,101,97,101,97,51,51,52,48,99,101,51,102,98,51,50,102,51,97,55,51,100,51,99,55,101,50,51,97,102,50,50,99,100,98,54,101,98,32,99,117,116,32,97,116,32,112,104,97,101,116,111,110,47,112,104,97,101,116,111,110,108,97,119,50,51,46,84,101,115,116,101,114,84,101,108,108,115]
def orderW : List (List Char) := [letters [104,97,114,110,101,115,115],
  letters [49,97,53,54,102,101,99,100,48,49,97,101,100,98,99,51,53,98,48,51,55,102,98,100,54,49,51,101,97,101,97,51,51,52,48,99,101,51,102,98,51,50,102,51,97,55,51,100,51,99,55,101,50,51,97,102,50,50,99,100,98,54,101,98],
  letters [99,117,116],
  letters [97,116],
  letters [112,104,97,101,116,111,110,47,112,104,97,101,116,111,110,108,97,119,50,51,46,84,101,115,116,101,114,84,101,108,108,115]]
def bareL : List (List Char) := [letters [109,97,105,110,46,109,97,105,110],
  letters [103,111,115,101,109,46,99,117,116],
  letters [40,114,117,110,116,105,109,101,46,98,111,117,110,100,115,69,114,114,111,114,41,46,69,114,114,111,114],
  letters [40,114,117,110,116,105,109,101,46,98,111,117,110,100,115,69,114,114,111,114,41,46,82,117,110,116,105,109,101,69,114,114,111,114],
  letters [40,114,117,110,116,105,109,101,46,101,114,114,111,114,83,116,114,105,110,103,41,46,69,114,114,111,114],
  letters [40,114,117,110,116,105,109,101,46,101,114,114,111,114,83,116,114,105,110,103,41,46,82,117,110,116,105,109,101,69,114,114,111,114],
  letters [40,114,117,110,116,105,109,101,46,112,108,97,105,110,69,114,114,111,114,41,46,69,114,114,111,114],
  letters [40,114,117,110,116,105,109,101,46,112,108,97,105,110,69,114,114,111,114,41,46,82,117,110,116,105,109,101,69,114,114,111,114],
  letters [40,114,117,110,116,105,109,101,46,101,114,114,111,114,65,100,100,114,101,115,115,83,116,114,105,110,103,41,46,69,114,114,111,114],
  letters [40,114,117,110,116,105,109,101,46,101,114,114,111,114,65,100,100,114,101,115,115,83,116,114,105,110,103,41,46,82,117,110,116,105,109,101,69,114,114,111,114],
  letters [40,42,114,117,110,116,105,109,101,46,84,121,112,101,65,115,115,101,114,116,105,111,110,69,114,114,111,114,41,46,69,114,114,111,114],
  letters [40,42,114,117,110,116,105,109,101,46,84,121,112,101,65,115,115,101,114,116,105,111,110,69,114,114,111,114,41,46,82,117,110,116,105,109,101,69,114,114,111,114],
  letters [40,42,114,117,110,116,105,109,101,46,80,97,110,105,99,78,105,108,69,114,114,111,114,41,46,69,114,114,111,114],
  letters [40,42,114,117,110,116,105,109,101,46,80,97,110,105,99,78,105,108,69,114,114,111,114,41,46,82,117,110,116,105,109,101,69,114,114,111,114],
  letters [40,42,105,110,116,101,114,110,97,108,47,97,98,105,46,84,121,112,101,41,46,65,108,105,103,110],
  letters [40,105,110,116,101,114,110,97,108,47,114,117,110,116,105,109,101,47,109,97,112,115,46,117,110,104,97,115,104,97,98,108,101,84,121,112,101,69,114,114,111,114,41,46,69,114,114,111,114],
  letters [40,105,110,116,101,114,110,97,108,47,114,117,110,116,105,109,101,47,109,97,112,115,46,117,110,104,97,115,104,97,98,108,101,84,121,112,101,69,114,114,111,114,41,46,82,117,110,116,105,109,101,69,114,114,111,114],
  letters [40,112,104,97,101,116,111,110,47,97,112,105,46,69,114,114,110,111,41,46,69,114,114,111,114],
  letters [40,105,110,116,101,114,110,97,108,47,97,98,105,46,75,105,110,100,41,46,83,116,114,105,110,103]]
theorem nameBytes_ofList (cs : List Char) : nameBytes (String.ofList cs) = cs.flatMap String.utf8EncodeChar := by
  unfold nameBytes
  simp [String.toUTF8,String.ofList,List.utf8Encode]
def bareOf (P : Program) : List String := (P.funcs.toList.filter fun fn => fn.body.isNone).map (·.name)
theorem any_filter_map {α β : Type} (l : List α) (p : α → Bool) (f : α → β) (q : β → Bool) : (l.any fun x => p x && q (f x)) = ((l.filter p).map f).any q := by
  induction l with
  | nil => rfl
  | cons a l ih => rw [List.any_cons,ih]; cases h : p a
                   · rw [List.filter_cons_of_neg (by rw [h]; exact Bool.false_ne_true)]; rfl
                   · rw [List.filter_cons_of_pos h]; rfl
theorem reflect_eq (P : Program) : P.bearsReflect = ((bareOf P).map nameBytes).any fun b => opensWith (nameBytes "reflect.") b || opensWith (nameBytes "(reflect.") b || opensWith (nameBytes "(*reflect.") b := by
  unfold Program.bearsReflect bareOf
  rw [List.map_map,← any_filter_map]
  rfl
theorem doors_eq (P : Program) : P.doorRows = (((bareOf P).map nameBytes).filter fun b => opensWith (nameBytes "var's door: ") b).map List.reverse := by
  unfold Program.doorRows bareOf
  rw [List.map_map,List.filter_map,List.map_map,List.filter_filter]
  congr 1
  congr 1
  funext fn
  simp [Bool.and_comm]
theorem enter_of (P : Program) (c : List Char) (r : List (List Char)) (hb : behindMainWord (wordsSigns P.initOrder.toList) = c :: r) (hc : c = "cut".toList)
    (h : stripLifts liftWords (c :: r) = ([],c :: r)) (h1 : P.laysLater = false) (h2 : P.bearsReflect = false) (h3 : P.doorFits [] = true) : P.mayEnter = true := by
  unfold Program.mayEnter
  rw [hb]
  have hc : ((c :: r).head? == some "cut".toList) = true := by subst hc; rw [List.head?_cons]; decide +kernel
  have e1 : (List.contains ([] : List String) "finals") = false := rfl
  have e2 : (List.contains ([] : List String) "reflectrows") = false := rfl
  have e3 : (List.contains ([] : List String) "leanrows") = false := rfl
  simp only [h,h1,h2,h3,hc,e1,e2,e3,Bool.not_false,Bool.or_true,Bool.and_true]
theorem make_of (P : Program) (c : List Char) (r : List (List Char)) (hb : behindMainWord (wordsSigns P.initOrder.toList) = c :: r) (hc : c = "cut".toList) : P.make = some .cut := by
  unfold Program.make
  rw [hb]
  subst hc
  have e1 : ("cut".toList == "gc".toList) = false := by decide +kernel
  have e2 : ("cut".toList == "spec".toList) = false := by decide +kernel
  have e3 : ("cut".toList == "cut".toList) = true := by decide +kernel
  simp only [e1,e2,e3,Bool.or_false,Bool.true_or,if_true,Bool.false_eq_true,if_false]
theorem final_of (P : Program) (c : List Char) (r : List (List Char)) (hb : behindMainWord (wordsSigns P.initOrder.toList) = c :: r) (hc : c = "cut".toList) (h : P.headLifts = []) : P.liftsFinal = false := by
  unfold Program.liftsFinal
  rw [hb,h]
  subst hc
  have e1 : ((("cut".toList) :: r).head? == some "carried".toList) = false := by rw [List.head?_cons]; decide +kernel
  have e2 : (List.contains ([] : List String) "finals") = false := rfl
  simp only [e1,e2,Bool.false_and,Bool.or_false]
theorem bare_eq : bareOf Tryz.prog = bareL.map String.ofList := by kernel_rfl
theorem bare_bytes : (bareOf Tryz.prog).map nameBytes = bareL.map fun cs => cs.flatMap String.utf8EncodeChar := by
  rw [bare_eq,List.map_map]
  congr 1
  funext cs
  exact nameBytes_ofList cs
theorem order_str : Tryz.prog.initOrder = String.ofList orderL := by kernel_rfl
theorem order_list : Tryz.prog.initOrder.toList = orderL := by rw [order_str,String.toList_ofList]
theorem order_words : wordsSigns orderL = orderW := by decide +kernel
theorem order_behind : behindMainWord (wordsSigns Tryz.prog.initOrder.toList) = orderW.drop 2 := by rw [order_list,order_words]; decide +kernel
theorem order_lifts : Tryz.prog.headLifts = [] := by unfold Program.headLifts; rw [order_behind]; decide +kernel
theorem order_strip : stripLifts liftWords (orderW.drop 2) = ([],orderW.drop 2) := by decide +kernel
theorem order_lays : Tryz.prog.laysLater = false := by kernel_rfl
theorem order_reflect : Tryz.prog.bearsReflect = false := by rw [reflect_eq,bare_bytes]; decide +kernel
theorem order_doors : Tryz.prog.doorRows = [] := by rw [doors_eq,bare_bytes]; decide +kernel
theorem order_fits : Tryz.prog.doorFits [] = true := by unfold Program.doorFits; rw [order_doors]; rfl
theorem order_cons : ∃ r, orderW.drop 2 = "cut".toList :: r := ⟨orderW.drop 3, by decide +kernel⟩
theorem order_three : Tryz.prog.mayEnter = true ∧ Tryz.prog.liftsFinal = false ∧ Tryz.prog.make = some .cut := by
  obtain ⟨r,e⟩ := order_cons
  have hs := order_strip
  have hb := order_behind
  rw [e] at hs hb
  exact ⟨enter_of _ _ _ hb rfl hs order_lays order_reflect order_fits,final_of _ _ _ hb rfl order_lifts,make_of _ _ _ hb rfl⟩
def restFacts : { R : Program → FuncId → Func → ChangeSpec → OpenClaim → Bool // ∀ P f fn s c,P.mayEnter = true → P.liftsFinal = c.lifted → P.make = some c.make → joinedFacts P f fn s c = R P f fn s c } := by
  refine Subtype.mk ?_ ?_
  rotate_left
  intro P f fn s c h1 h2 h3
  unfold joinedFacts
  rw [h1,h2,h3]
theorem facts_closed {f : FuncId} {fn : Func} {s : ChangeSpec} {c : OpenClaim} (h1 : c.lifted = false) (h2 : c.make = .cut) (h : restFacts.1 Tryz.prog f fn s c = true) : joinedFacts Tryz.prog f fn s c = true :=
  (restFacts.2 _ _ _ _ _ order_three.1 (order_three.2.1.trans h1.symm) (by rw [h2]; exact order_three.2.2)).trans h
end Go.Proofs.YtcdmhigmgpflbaaGreat.Pe
