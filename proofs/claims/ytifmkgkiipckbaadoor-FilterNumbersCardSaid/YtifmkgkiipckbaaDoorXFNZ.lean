/- FilterNumbers returns true, whatever the heap holds beside it, where the listed tables of the library (unicode/utf8's two) hold what their text lays. -/
import Derived.Test.YtifmkgkiipckbaaDoorXFN1
import Derived.WalkKit
import Derived.ProofKit
import Derived.OpenShut
import Derived.ShutString
import Derived.ChangeOld
import Derived.Below
import Derived.Lay
import Derived.Deep.SlicePairs
import Derived.Deep.DeepHandedRow
import Derived.Lib.SmallJoins
import Derived.MakeChecks
import Derived.Test.YtifmkgkiipckbaaDoorCards
import Derived.Test.YtifmkgkiipckbaaDoorTie
import Derived.Test.YtifmkgkiipckbaaDoorXFN10
namespace Go.Proofs.YtifmkgkiipckbaaDoor.rowB
open Go.ChangeShapes Go.WideShapes Go.ChangeAt Go.RowKit Go.Proofs.YtifmkgkiipckbaaDoor.P Go.Proofs.YtifmkgkiipckbaaDoorW.PrintWords
open Go.ChangeMaps (open_string shut_string)
set_option linter.unusedVariables false
theorem own : ownKnob Tryd.prog.godebug = none := by kernel_rfl
variable {H : Type} {enc : TypeId × Value → H} {W : World}
theorem bytes {v : Value} {d : DataW H × List MemPlace} {n : Nat} (hn : DataW.trod enc Tryd.prog W 0 (fun _ => true) true n 34 [v] = some d) :
  ∃ (a : Option Addr) (cap : Nat) (l : List Int), v = .slice a l.length cap ∧ l.length ≤ cap ∧ Kd.C (Kd.int .u8) W a l.length l ∧ ∀ x ∈ l, 0 ≤ x ∧ x ≤ 255 := by
 rcases open_ints Tryd.underlying34 Tryd.underlying5 (by kernel_rfl) hn with ⟨hcs, _⟩ | ⟨x, l, c, zs, hcs, _, hl, hm, hz, _, hcell, hwz⟩
 ·simp at hcs
  subst hcs
  exact ⟨none, 0, [], rfl, Nat.le_refl _, Kd.C_nil _ _, by simp⟩
 ·simp at hcs
  subst hcs
  have hz' : zs.length = c := by simpa using hz
  have hlen : (zs.take l).length = l := by rw [List.length_take]; omega
  refine ⟨some x, c, zs.take l, by rw [hlen], by rw [hlen]; exact hl, ?_, fun y hy => ?_⟩
  ·rw [hlen]
   refine Kd.C_of_reads (d := (0 : Int)) ⟨hlen, by unfold maxLen at hm; omega, fun hp => ⟨x, rfl, fun j hj => ?_⟩⟩
   rw [hcell j (by omega)]
   congr 2
   rw [List.getD_eq_getElem?_getD, List.getD_eq_getElem?_getD, List.getElem?_take, if_pos hj]
  ·have := hwz y (List.mem_of_mem_take hy)
   simpa [Lit.wf, IntKind.min, IntKind.max, IntKind.signed, IntKind.bits] using this
end Go.Proofs.YtifmkgkiipckbaaDoor.rowB
namespace Go.Proofs.YtifmkgkiipckbaaDoor.filterNumbers
open Go.ChangeShapes Go.WideShapes Go.ChangeAt Go.RowKit Go.Proofs.YtifmkgkiipckbaaDoor.P Go.Proofs.YtifmkgkiipckbaaDoor.rowB Go.Proofs.YtifmkgkiipckbaaDoorW.PrintWords
set_option linter.unusedVariables false
theorem pure_true : ostiarylaw20_FilterNumbers.f 300 = some true := by kernel_rfl
set_option maxRecDepth 100000 in
theorem lifted (os : Os) (started : os.Started) (H : Type) (enc : TypeId × Value → H) (F : Stop.Interp) :
  ReturnsInHanded {} Tryd.checked os 9 .any ((OpenSpec.ofChange Rows.filterNumbersSpec).preRow enc Tryd.prog Tryd.f9 Rows.filterNumbersRow.domain false Rows.filterNumbersRow.laid) (((OpenSpec.ofChange Rows.filterNumbersSpec).at F).post enc Tryd.prog Tryd.f9 false true false false) := by
 have hx : ∃ places, DataW.whole enc Tryd.prog ((World.laidAll Tryd.prog os Rows.filterNumbersRow.laid).forCall (fun _ _ => 0) ⟨#[], #[], []⟩).memory Tryd.f9.params.toList Rows.filterNumbersSpec.vars false (#[] : Array Value).toList 8 = some ([], [], places) := ⟨[], by kernel_rfl⟩
 obtain ⟨places, hx⟩ := hx
 refine returnsInHanded_of_row (C := Tryd.checked) (s := OpenSpec.ofChange Rows.filterNumbersSpec) own started (by kernel_rfl) Tryd.func9
  (witness_row_at (enc := enc) (C := Tryd.checked) false (World.laidAll Tryd.prog os Rows.filterNumbersRow.laid) #[] (World.laidAll_os _ _ _) (by kernel_rfl) (by kernel_rfl) (by kernel_rfl)
   (OpenSpec.preRow_of_cond 8 hx (by kernel_rfl) (fun k hk => by cases hk) (by kernel_rfl) (laidMet_laidAll _ (by kernel_rfl) (by kernel_rfl)))) ?_
 intro W base args ds gs before hval0 hW _ _ _ hL _ _
 have hW' := hW
 obtain ⟨p, q, hA0, hV, rfl, hfz, hnd⟩ := hW
 have hA : DataW.TrodAll enc Tryd.prog W 0 (fun _ => true) true Tryd.f9.params.toList args.toList ds p := hA0
 rw [Tryd.params9] at hA
 obtain ⟨hargs, rfl, rfl⟩ := trodAll_none hA
 obtain rfl : args = #[] := by cases args; simp_all
 obtain ⟨rfl, rfl⟩ := trodVars_none hV
 clear hA0 hval0
 refine (ostiarylaw20_FilterNumbers.calls 300 W pure_true).mono fun e W' ⟨he, bel⟩ => ?_
 subst he
 exact ⟨_, rfl, _, _, _, [], _, [], hW', trodAll_mk1 (shut_bool Tryd.underlying4 _), trodAll_mk0, rfl, bel.frame _, fun h => by cases h⟩
theorem said : Rows.FilterNumbersSaid :=
 OpenClaim.holds_of_cond 9 Tryd.f9 rfl rfl rfl rfl rfl rfl rfl ⟨rfl, rfl, rfl, rfl, rfl⟩ rfl rfl rfl rfl rfl (by kernel_rfl) Tryd.func9 (by kernel_rfl)
  (of_decide_eq_true (by kernel_rfl)) (by unfold Func.isWrapper; first | (rw [if_pos (by decide +kernel)]; kernel_rfl) | (rw [if_neg (by decide +kernel)]; exact ⟨rfl, rfl⟩))
  (fun os started H enc _ F => by rw [OpenClaim.pre_eq_preRow]; exact lifted os started H enc F)
theorem plain (f : FuncId) (fn : Func) (hf : Tryd.pinned.checked.prog.funcNamed "ostiary/ostiarylaw20.FilterNumbers" = some f) (hfn : Tryd.pinned.checked.prog.funcs[f]? = some fn) :
  false = Tryd.pinned.checked.prog.looks [] ∧ ∀ (j : Nat) t, fn.params[j]? = some t → Tryd.pinned.checked.prog.wantsStandIn t = false := by
 obtain rfl : f = 9 := Option.some.inj ((show Tryd.prog.funcNamed "ostiary/ostiarylaw20.FilterNumbers" = some 9 by kernel_rfl).symm.trans hf) |>.symm
 obtain rfl : fn = Tryd.f9 := (Option.some.inj (Tryd.func9.symm.trans hfn)).symm
 refine ⟨by kernel_rfl, fun j t ht => ?_⟩
 rw [Tryd.params9] at ht
 simp at ht
theorem card : Rows.FilterNumbersCardSaid :=
 Claim7.holds_tied_plain_at .later [] _ _ _ _ said (fun _ h => by cases h) (by kernel_rfl) (fun _ h => by cases h) filterNumbers_row_tie rfl ⟨rfl, rfl⟩ (by kernel_rfl) rfl plain (by kernel_rfl)
end Go.Proofs.YtifmkgkiipckbaaDoor.filterNumbers
namespace Go.Proofs.YtifmkgkiipckbaaDoor
theorem filterNumbers_card : Rows.FilterNumbersCardSaid := filterNumbers.card
#print axioms filterNumbers_card
end Go.Proofs.YtifmkgkiipckbaaDoor
