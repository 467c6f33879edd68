/- A part of the proof of FN: texts of walks and plain lemmas. -/
import Derived.Test.YtifmkgkiipckbaaDoorXFN1
import Derived.Test.YtifmkgkiipckbaaDoorXFN6
import Derived.Test.YtifmkgkiipckbaaDoorXFN7
namespace Go.Proofs.YtifmkgkiipckbaaDoor.P
open Go.RowKit Go.Proofs.YtifmkgkiipckbaaDoorW.PrintWords Go.Proofs.YtifmkgkiipckbaaDoorW.PrintLast Go.Proofs.YtifmkgkiipckbaaDoorW.PrintMore
attribute [local go_sem] max2_int min2_int max_two min_two max_three min_three max_four min_four
set_option linter.unusedVariables false
set_option linter.unusedSimpArgs false
def ostiarylaw20_known.f (k : Nat)  : Option (Bool) := (ostiarylaw20_h.f (⟨#[83, 101, 116, 45, 67, 111, 111, 107, 105, 101]⟩ : ByteArray) (⟨#[97]⟩ : ByteArray)).bind fun bt118 => ((ostiarylaw20_h.f (⟨#[88]⟩ : ByteArray) (⟨#[98]⟩ : ByteArray)).bind fun bt120 => ((filter_Own.f 200 (([(⟨bt118.1, bt118.2⟩ : S72), (⟨bt120.1, bt120.2⟩ : S72)] : List (S72))) ([] : List Int) (⟨#[117]⟩ : ByteArray)).bind fun bt125 => ((ostiarylaw20_h.f (⟨#[88]⟩ : ByteArray) (⟨#[98]⟩ : ByteArray)).bind fun bt135 => ((ostiarylaw20_h.f (⟨#[101, 120, 112, 105, 114, 101, 115]⟩ : ByteArray) (⟨#[99]⟩ : ByteArray)).bind fun bt137 => ((filter_Share.f 200 (([(⟨bt135.1, bt135.2⟩ : S72), (⟨bt137.1, bt137.2⟩ : S72)] : List (S72))) ([] : List Int) (⟨#[117]⟩ : ByteArray) false).bind fun bt142 => ((ostiarylaw20_h.f (⟨#[88]⟩ : ByteArray) (⟨#[98]⟩ : ByteArray)).bind fun bt152 => ((ostiarykeep_SameResponse.f k bt125.1 bt125.2.1 bt125.2.2.1 bt125.2.2.2.1 bt125.2.2.2.2 2 200 (([(⟨bt152.1, bt152.2⟩ : S72)] : List (S72))) ([] : List Int) (⟨#[117]⟩ : ByteArray)).bind fun t157 => (if t157 = true then ((ostiarylaw20_h.f (⟨#[101, 120, 112, 105, 114, 101, 115]⟩ : ByteArray) (⟨#[99]⟩ : ByteArray)).bind fun bt158 => ((ostiarykeep_SameResponse.f k bt142.1 bt142.2.1 bt142.2.2.1 bt142.2.2.2.1 bt142.2.2.2.2 3 200 (([(⟨bt158.1, bt158.2⟩ : S72)] : List (S72))) ([] : List Int) (⟨#[117]⟩ : ByteArray)).bind fun t163 => (some t163))) else (some false)))))))))
theorem ostiarylaw20_known.mono : ∀ k, LeO (ostiarylaw20_known.f k ) (ostiarylaw20_known.f (k + 1) ) := by
 intro  k
 unfold ostiarylaw20_known.f
 repeat' first
   | (with_reducible exact ostiarykeep_SameResponse.mono _ _ _ _ _ _ _ _ _ _ _)
   | (with_reducible exact LeO.refl _)
   | (with_reducible exact LeO.none _)
   | (with_reducible refine LeO.ite ?_ ?_)
   | (with_reducible refine LeO.bind ?_ (fun _ => ?_))
   | exact ostiarykeep_SameResponse.mono _ _ _ _ _ _ _ _ _ _ _
   | exact LeO.none _
   | refine LeO.ite ?_ ?_
   | refine LeO.bind ?_ (fun _ => ?_)
def ostiarylaw20_known.T3 : Bool × List (List Nat × List Nat) := (true, [([], []), ([], []), ([1], [1]), ([2], [2]), ([0, 3, 1], [0, 3]), ([4, 4], [4]), ([5], [5]), ([5, 5], [5]), ([7, 5], [5, 7]), ([8, 5], [5, 8]), ([6, 9, 7, 5], [5, 6, 9]), ([5, 10], [5, 10]), ([11, 10, 0, 1, 2, 3, 4, 5, 6, 7, 8, 9, 10, 11], [11])])
def ostiarylaw20_known.B3 : List Nat := [0, 0, 2, 6, 15, 31, 63, 63, 191, 447, 1023, 2047, 4095]
theorem ostiarylaw20_known.tab3 : rtab .any (opsOf Tryd.f36 3) = ostiarylaw20_known.T3 := by kernel_rfl
theorem ostiarylaw20_known.bits3 : waitsOk ostiarylaw20_known.T3.2 ostiarylaw20_known.B3 = true := by kernel_rfl
set_option maxHeartbeats 8000000 in
set_option maxRecDepth 100000 in
theorem ostiarylaw20_known.calls (k : Nat)  (w : World) (h : ostiarylaw20_known.f k  = some true) :
  Calls Tryd.prog 36 #[] w fun e w' => e = .returned (.bool true) ∧ Below w.heap.size w w' := by
 have hu63 := Tryd.underlying63
 have hu66 := Tryd.underlying66
 have HB := Aside0.mk (Below.refl w.heap.size w)
 have H : ((ostiarylaw20_h.f (⟨#[83, 101, 116, 45, 67, 111, 111, 107, 105, 101]⟩ : ByteArray) (⟨#[97]⟩ : ByteArray)).bind fun bt118 => ((ostiarylaw20_h.f (⟨#[88]⟩ : ByteArray) (⟨#[98]⟩ : ByteArray)).bind fun bt120 => ((filter_Own.f 200 (([(⟨bt118.1, bt118.2⟩ : S72), (⟨bt120.1, bt120.2⟩ : S72)] : List (S72))) ([] : List Int) (⟨#[117]⟩ : ByteArray)).bind fun bt125 => ((ostiarylaw20_h.f (⟨#[88]⟩ : ByteArray) (⟨#[98]⟩ : ByteArray)).bind fun bt135 => ((ostiarylaw20_h.f (⟨#[101, 120, 112, 105, 114, 101, 115]⟩ : ByteArray) (⟨#[99]⟩ : ByteArray)).bind fun bt137 => ((filter_Share.f 200 (([(⟨bt135.1, bt135.2⟩ : S72), (⟨bt137.1, bt137.2⟩ : S72)] : List (S72))) ([] : List Int) (⟨#[117]⟩ : ByteArray) false).bind fun bt142 => ((ostiarylaw20_h.f (⟨#[88]⟩ : ByteArray) (⟨#[98]⟩ : ByteArray)).bind fun bt152 => ((ostiarykeep_SameResponse.f k bt125.1 bt125.2.1 bt125.2.2.1 bt125.2.2.2.1 bt125.2.2.2.2 2 200 (([(⟨bt152.1, bt152.2⟩ : S72)] : List (S72))) ([] : List Int) (⟨#[117]⟩ : ByteArray)).bind fun t157 => (if t157 = true then ((ostiarylaw20_h.f (⟨#[101, 120, 112, 105, 114, 101, 115]⟩ : ByteArray) (⟨#[99]⟩ : ByteArray)).bind fun bt158 => ((ostiarykeep_SameResponse.f k bt142.1 bt142.2.1 bt142.2.2.1 bt142.2.2.2.1 bt142.2.2.2.2 3 200 (([(⟨bt158.1, bt158.2⟩ : S72)] : List (S72))) ([] : List Int) (⟨#[117]⟩ : ByteArray)).bind fun t163 => (some t163))) else (some false)))))))))) = some true := h
 clear h
 replace H := Option.bind_eq_some_iff.mp H
 obtain ⟨⟨t118, t119⟩, A10, H⟩ := H
 replace H : ((ostiarylaw20_h.f (⟨#[88]⟩ : ByteArray) (⟨#[98]⟩ : ByteArray)).bind fun bt120 => ((filter_Own.f 200 (([(⟨t118, t119⟩ : S72), (⟨bt120.1, bt120.2⟩ : S72)] : List (S72))) ([] : List Int) (⟨#[117]⟩ : ByteArray)).bind fun bt125 => ((ostiarylaw20_h.f (⟨#[88]⟩ : ByteArray) (⟨#[98]⟩ : ByteArray)).bind fun bt135 => ((ostiarylaw20_h.f (⟨#[101, 120, 112, 105, 114, 101, 115]⟩ : ByteArray) (⟨#[99]⟩ : ByteArray)).bind fun bt137 => ((filter_Share.f 200 (([(⟨bt135.1, bt135.2⟩ : S72), (⟨bt137.1, bt137.2⟩ : S72)] : List (S72))) ([] : List Int) (⟨#[117]⟩ : ByteArray) false).bind fun bt142 => ((ostiarylaw20_h.f (⟨#[88]⟩ : ByteArray) (⟨#[98]⟩ : ByteArray)).bind fun bt152 => ((ostiarykeep_SameResponse.f k bt125.1 bt125.2.1 bt125.2.2.1 bt125.2.2.2.1 bt125.2.2.2.2 2 200 (([(⟨bt152.1, bt152.2⟩ : S72)] : List (S72))) ([] : List Int) (⟨#[117]⟩ : ByteArray)).bind fun t157 => (if t157 = true then ((ostiarylaw20_h.f (⟨#[101, 120, 112, 105, 114, 101, 115]⟩ : ByteArray) (⟨#[99]⟩ : ByteArray)).bind fun bt158 => ((ostiarykeep_SameResponse.f k bt142.1 bt142.2.1 bt142.2.2.1 bt142.2.2.2.1 bt142.2.2.2.2 3 200 (([(⟨bt158.1, bt158.2⟩ : S72)] : List (S72))) ([] : List Int) (⟨#[117]⟩ : ByteArray)).bind fun t163 => (some t163))) else (some false))))))))) = some true := H
 have A1 := Aside0.mk A10
 clear A10
 replace H := Option.bind_eq_some_iff.mp H
 obtain ⟨⟨t120, t121⟩, A20, H⟩ := H
 replace H : ((filter_Own.f 200 (([(⟨t118, t119⟩ : S72), (⟨t120, t121⟩ : S72)] : List (S72))) ([] : List Int) (⟨#[117]⟩ : ByteArray)).bind fun bt125 => ((ostiarylaw20_h.f (⟨#[88]⟩ : ByteArray) (⟨#[98]⟩ : ByteArray)).bind fun bt135 => ((ostiarylaw20_h.f (⟨#[101, 120, 112, 105, 114, 101, 115]⟩ : ByteArray) (⟨#[99]⟩ : ByteArray)).bind fun bt137 => ((filter_Share.f 200 (([(⟨bt135.1, bt135.2⟩ : S72), (⟨bt137.1, bt137.2⟩ : S72)] : List (S72))) ([] : List Int) (⟨#[117]⟩ : ByteArray) false).bind fun bt142 => ((ostiarylaw20_h.f (⟨#[88]⟩ : ByteArray) (⟨#[98]⟩ : ByteArray)).bind fun bt152 => ((ostiarykeep_SameResponse.f k bt125.1 bt125.2.1 bt125.2.2.1 bt125.2.2.2.1 bt125.2.2.2.2 2 200 (([(⟨bt152.1, bt152.2⟩ : S72)] : List (S72))) ([] : List Int) (⟨#[117]⟩ : ByteArray)).bind fun t157 => (if t157 = true then ((ostiarylaw20_h.f (⟨#[101, 120, 112, 105, 114, 101, 115]⟩ : ByteArray) (⟨#[99]⟩ : ByteArray)).bind fun bt158 => ((ostiarykeep_SameResponse.f k bt142.1 bt142.2.1 bt142.2.2.1 bt142.2.2.2.1 bt142.2.2.2.2 3 200 (([(⟨bt158.1, bt158.2⟩ : S72)] : List (S72))) ([] : List Int) (⟨#[117]⟩ : ByteArray)).bind fun t163 => (some t163))) else (some false)))))))) = some true := H
 have A2 := Aside0.mk A20
 clear A20
 obtain ⟨y122, hy122⟩ : ∃ y_ : List (S72), y_ = (([(⟨t118, t119⟩ : S72), (⟨t120, t121⟩ : S72)] : List (S72))) := ⟨_, rfl⟩
 replace H : ((filter_Own.f 200 y122 ([] : List Int) (⟨#[117]⟩ : ByteArray)).bind fun bt125 => ((ostiarylaw20_h.f (⟨#[88]⟩ : ByteArray) (⟨#[98]⟩ : ByteArray)).bind fun bt135 => ((ostiarylaw20_h.f (⟨#[101, 120, 112, 105, 114, 101, 115]⟩ : ByteArray) (⟨#[99]⟩ : ByteArray)).bind fun bt137 => ((filter_Share.f 200 (([(⟨bt135.1, bt135.2⟩ : S72), (⟨bt137.1, bt137.2⟩ : S72)] : List (S72))) ([] : List Int) (⟨#[117]⟩ : ByteArray) false).bind fun bt142 => ((ostiarylaw20_h.f (⟨#[88]⟩ : ByteArray) (⟨#[98]⟩ : ByteArray)).bind fun bt152 => ((ostiarykeep_SameResponse.f k bt125.1 bt125.2.1 bt125.2.2.1 bt125.2.2.2.1 bt125.2.2.2.2 2 200 (([(⟨bt152.1, bt152.2⟩ : S72)] : List (S72))) ([] : List Int) (⟨#[117]⟩ : ByteArray)).bind fun t157 => (if t157 = true then ((ostiarylaw20_h.f (⟨#[101, 120, 112, 105, 114, 101, 115]⟩ : ByteArray) (⟨#[99]⟩ : ByteArray)).bind fun bt158 => ((ostiarykeep_SameResponse.f k bt142.1 bt142.2.1 bt142.2.2.1 bt142.2.2.2.1 bt142.2.2.2.2 3 200 (([(⟨bt158.1, bt158.2⟩ : S72)] : List (S72))) ([] : List Int) (⟨#[117]⟩ : ByteArray)).bind fun t163 => (some t163))) else (some false)))))))) = some true := by first | (rw [hy122]; with_reducible exact H) | (have H2_ := (Option.bind_some _ _).symm.trans H; rw [hy122]; with_reducible exact H2_) | (have H2_ := (Option.bind_some _ _).symm.trans H; with_reducible exact H2_) | with_reducible exact H | (rw [hy122]; exact H) | exact H
 have Ny122 := Aside0.mk hy122
 clear hy122
 replace H := Option.bind_eq_some_iff.mp H
 obtain ⟨⟨t125, t126, t127, t130, t133⟩, A30, H⟩ := H
 replace H : ((ostiarylaw20_h.f (⟨#[88]⟩ : ByteArray) (⟨#[98]⟩ : ByteArray)).bind fun bt135 => ((ostiarylaw20_h.f (⟨#[101, 120, 112, 105, 114, 101, 115]⟩ : ByteArray) (⟨#[99]⟩ : ByteArray)).bind fun bt137 => ((filter_Share.f 200 (([(⟨bt135.1, bt135.2⟩ : S72), (⟨bt137.1, bt137.2⟩ : S72)] : List (S72))) ([] : List Int) (⟨#[117]⟩ : ByteArray) false).bind fun bt142 => ((ostiarylaw20_h.f (⟨#[88]⟩ : ByteArray) (⟨#[98]⟩ : ByteArray)).bind fun bt152 => ((ostiarykeep_SameResponse.f k t125 t126 t127 t130 t133 2 200 (([(⟨bt152.1, bt152.2⟩ : S72)] : List (S72))) ([] : List Int) (⟨#[117]⟩ : ByteArray)).bind fun t157 => (if t157 = true then ((ostiarylaw20_h.f (⟨#[101, 120, 112, 105, 114, 101, 115]⟩ : ByteArray) (⟨#[99]⟩ : ByteArray)).bind fun bt158 => ((ostiarykeep_SameResponse.f k bt142.1 bt142.2.1 bt142.2.2.1 bt142.2.2.2.1 bt142.2.2.2.2 3 200 (([(⟨bt158.1, bt158.2⟩ : S72)] : List (S72))) ([] : List Int) (⟨#[117]⟩ : ByteArray)).bind fun t163 => (some t163))) else (some false))))))) = some true := H
 have A3 := Aside0.mk A30
 clear A30
 replace H := Option.bind_eq_some_iff.mp H
 obtain ⟨⟨t135, t136⟩, A40, H⟩ := H
 replace H : ((ostiarylaw20_h.f (⟨#[101, 120, 112, 105, 114, 101, 115]⟩ : ByteArray) (⟨#[99]⟩ : ByteArray)).bind fun bt137 => ((filter_Share.f 200 (([(⟨t135, t136⟩ : S72), (⟨bt137.1, bt137.2⟩ : S72)] : List (S72))) ([] : List Int) (⟨#[117]⟩ : ByteArray) false).bind fun bt142 => ((ostiarylaw20_h.f (⟨#[88]⟩ : ByteArray) (⟨#[98]⟩ : ByteArray)).bind fun bt152 => ((ostiarykeep_SameResponse.f k t125 t126 t127 t130 t133 2 200 (([(⟨bt152.1, bt152.2⟩ : S72)] : List (S72))) ([] : List Int) (⟨#[117]⟩ : ByteArray)).bind fun t157 => (if t157 = true then ((ostiarylaw20_h.f (⟨#[101, 120, 112, 105, 114, 101, 115]⟩ : ByteArray) (⟨#[99]⟩ : ByteArray)).bind fun bt158 => ((ostiarykeep_SameResponse.f k bt142.1 bt142.2.1 bt142.2.2.1 bt142.2.2.2.1 bt142.2.2.2.2 3 200 (([(⟨bt158.1, bt158.2⟩ : S72)] : List (S72))) ([] : List Int) (⟨#[117]⟩ : ByteArray)).bind fun t163 => (some t163))) else (some false)))))) = some true := H
 have A4 := Aside0.mk A40
 clear A40
 replace H := Option.bind_eq_some_iff.mp H
 obtain ⟨⟨t137, t138⟩, A50, H⟩ := H
 replace H : ((filter_Share.f 200 (([(⟨t135, t136⟩ : S72), (⟨t137, t138⟩ : S72)] : List (S72))) ([] : List Int) (⟨#[117]⟩ : ByteArray) false).bind fun bt142 => ((ostiarylaw20_h.f (⟨#[88]⟩ : ByteArray) (⟨#[98]⟩ : ByteArray)).bind fun bt152 => ((ostiarykeep_SameResponse.f k t125 t126 t127 t130 t133 2 200 (([(⟨bt152.1, bt152.2⟩ : S72)] : List (S72))) ([] : List Int) (⟨#[117]⟩ : ByteArray)).bind fun t157 => (if t157 = true then ((ostiarylaw20_h.f (⟨#[101, 120, 112, 105, 114, 101, 115]⟩ : ByteArray) (⟨#[99]⟩ : ByteArray)).bind fun bt158 => ((ostiarykeep_SameResponse.f k bt142.1 bt142.2.1 bt142.2.2.1 bt142.2.2.2.1 bt142.2.2.2.2 3 200 (([(⟨bt158.1, bt158.2⟩ : S72)] : List (S72))) ([] : List Int) (⟨#[117]⟩ : ByteArray)).bind fun t163 => (some t163))) else (some false))))) = some true := H
 have A5 := Aside0.mk A50
 clear A50
 obtain ⟨y139, hy139⟩ : ∃ y_ : List (S72), y_ = (([(⟨t135, t136⟩ : S72), (⟨t137, t138⟩ : S72)] : List (S72))) := ⟨_, rfl⟩
 replace H : ((filter_Share.f 200 y139 ([] : List Int) (⟨#[117]⟩ : ByteArray) false).bind fun bt142 => ((ostiarylaw20_h.f (⟨#[88]⟩ : ByteArray) (⟨#[98]⟩ : ByteArray)).bind fun bt152 => ((ostiarykeep_SameResponse.f k t125 t126 t127 t130 t133 2 200 (([(⟨bt152.1, bt152.2⟩ : S72)] : List (S72))) ([] : List Int) (⟨#[117]⟩ : ByteArray)).bind fun t157 => (if t157 = true then ((ostiarylaw20_h.f (⟨#[101, 120, 112, 105, 114, 101, 115]⟩ : ByteArray) (⟨#[99]⟩ : ByteArray)).bind fun bt158 => ((ostiarykeep_SameResponse.f k bt142.1 bt142.2.1 bt142.2.2.1 bt142.2.2.2.1 bt142.2.2.2.2 3 200 (([(⟨bt158.1, bt158.2⟩ : S72)] : List (S72))) ([] : List Int) (⟨#[117]⟩ : ByteArray)).bind fun t163 => (some t163))) else (some false))))) = some true := by first | (rw [hy139]; with_reducible exact H) | (have H2_ := (Option.bind_some _ _).symm.trans H; rw [hy139]; with_reducible exact H2_) | (have H2_ := (Option.bind_some _ _).symm.trans H; with_reducible exact H2_) | with_reducible exact H | (rw [hy139]; exact H) | exact H
 have Ny139 := Aside0.mk hy139
 clear hy139
 replace H := Option.bind_eq_some_iff.mp H
 obtain ⟨⟨t142, t143, t144, t147, t150⟩, A60, H⟩ := H
 replace H : ((ostiarylaw20_h.f (⟨#[88]⟩ : ByteArray) (⟨#[98]⟩ : ByteArray)).bind fun bt152 => ((ostiarykeep_SameResponse.f k t125 t126 t127 t130 t133 2 200 (([(⟨bt152.1, bt152.2⟩ : S72)] : List (S72))) ([] : List Int) (⟨#[117]⟩ : ByteArray)).bind fun t157 => (if t157 = true then ((ostiarylaw20_h.f (⟨#[101, 120, 112, 105, 114, 101, 115]⟩ : ByteArray) (⟨#[99]⟩ : ByteArray)).bind fun bt158 => ((ostiarykeep_SameResponse.f k t142 t143 t144 t147 t150 3 200 (([(⟨bt158.1, bt158.2⟩ : S72)] : List (S72))) ([] : List Int) (⟨#[117]⟩ : ByteArray)).bind fun t163 => (some t163))) else (some false)))) = some true := H
 have A6 := Aside0.mk A60
 clear A60
 replace H := Option.bind_eq_some_iff.mp H
 obtain ⟨⟨t152, t153⟩, A70, H⟩ := H
 replace H : ((ostiarykeep_SameResponse.f k t125 t126 t127 t130 t133 2 200 (([(⟨t152, t153⟩ : S72)] : List (S72))) ([] : List Int) (⟨#[117]⟩ : ByteArray)).bind fun t157 => (if t157 = true then ((ostiarylaw20_h.f (⟨#[101, 120, 112, 105, 114, 101, 115]⟩ : ByteArray) (⟨#[99]⟩ : ByteArray)).bind fun bt158 => ((ostiarykeep_SameResponse.f k t142 t143 t144 t147 t150 3 200 (([(⟨bt158.1, bt158.2⟩ : S72)] : List (S72))) ([] : List Int) (⟨#[117]⟩ : ByteArray)).bind fun t163 => (some t163))) else (some false))) = some true := H
 have A7 := Aside0.mk A70
 clear A70
 obtain ⟨y154, hy154⟩ : ∃ y_ : List (S72), y_ = (([(⟨t152, t153⟩ : S72)] : List (S72))) := ⟨_, rfl⟩
 replace H : ((ostiarykeep_SameResponse.f k t125 t126 t127 t130 t133 2 200 y154 ([] : List Int) (⟨#[117]⟩ : ByteArray)).bind fun t157 => (if t157 = true then ((ostiarylaw20_h.f (⟨#[101, 120, 112, 105, 114, 101, 115]⟩ : ByteArray) (⟨#[99]⟩ : ByteArray)).bind fun bt158 => ((ostiarykeep_SameResponse.f k t142 t143 t144 t147 t150 3 200 (([(⟨bt158.1, bt158.2⟩ : S72)] : List (S72))) ([] : List Int) (⟨#[117]⟩ : ByteArray)).bind fun t163 => (some t163))) else (some false))) = some true := by first | (rw [hy154]; with_reducible exact H) | (have H2_ := (Option.bind_some _ _).symm.trans H; rw [hy154]; with_reducible exact H2_) | (have H2_ := (Option.bind_some _ _).symm.trans H; with_reducible exact H2_) | with_reducible exact H | (rw [hy154]; exact H) | exact H
 have Ny154 := Aside0.mk hy154
 clear hy154
 replace H := Option.bind_eq_some_iff.mp H
 obtain ⟨t157, A80, H⟩ := H
 replace H : (if t157 = true then ((ostiarylaw20_h.f (⟨#[101, 120, 112, 105, 114, 101, 115]⟩ : ByteArray) (⟨#[99]⟩ : ByteArray)).bind fun bt158 => ((ostiarykeep_SameResponse.f k t142 t143 t144 t147 t150 3 200 (([(⟨bt158.1, bt158.2⟩ : S72)] : List (S72))) ([] : List Int) (⟨#[117]⟩ : ByteArray)).bind fun t163 => (some t163))) else (some false)) = some true := H
 have A8 := Aside0.mk A80
 clear A80
 by_cases c9 : t157 = true
 ·subst c9
  have H1 : ((ostiarylaw20_h.f (⟨#[101, 120, 112, 105, 114, 101, 115]⟩ : ByteArray) (⟨#[99]⟩ : ByteArray)).bind fun bt158 => ((ostiarykeep_SameResponse.f k t142 t143 t144 t147 t150 3 200 (([(⟨bt158.1, bt158.2⟩ : S72)] : List (S72))) ([] : List Int) (⟨#[117]⟩ : ByteArray)).bind fun t163 => (some t163))) = some true := by rw [if_pos rfl] at H; exact H
  clear H
  have H := H1
  clear H1
  replace H := Option.bind_eq_some_iff.mp H
  obtain ⟨⟨t158, t159⟩, A100, H⟩ := H
  replace H : ((ostiarykeep_SameResponse.f k t142 t143 t144 t147 t150 3 200 (([(⟨t158, t159⟩ : S72)] : List (S72))) ([] : List Int) (⟨#[117]⟩ : ByteArray)).bind fun t163 => (some t163)) = some true := H
  have A10 := Aside0.mk A100
  clear A100
  obtain ⟨y160, hy160⟩ : ∃ y_ : List (S72), y_ = (([(⟨t158, t159⟩ : S72)] : List (S72))) := ⟨_, rfl⟩
  replace H : ((ostiarykeep_SameResponse.f k t142 t143 t144 t147 t150 3 200 y160 ([] : List Int) (⟨#[117]⟩ : ByteArray)).bind fun t163 => (some t163)) = some true := by first | (rw [hy160]; with_reducible exact H) | (have H2_ := (Option.bind_some _ _).symm.trans H; rw [hy160]; with_reducible exact H2_) | (have H2_ := (Option.bind_some _ _).symm.trans H; with_reducible exact H2_) | with_reducible exact H | (rw [hy160]; exact H) | exact H
  have Ny160 := Aside0.mk hy160
  clear hy160
  replace H := Option.bind_eq_some_iff.mp H
  obtain ⟨t163, A110, H⟩ := H
  replace H : (some t163) = some true := H
  have A11 := Aside0.mk A110
  clear A110
  obtain rfl := Option.some.inj H
  go_enter Tryd.func36, Tryd.ntmps36
  try go_wp2_with (first | ((with_reducible refine gate_callee (f := 37) rfl ?_); refine goesL_ (some 3) rfl rfl Tryd.func37 q20_ rfl #[.string (⟨#[83, 101, 116, 45, 67, 111, 111, 107, 105, 101]⟩ : ByteArray), .string (⟨#[97]⟩ : ByteArray)] rfl tS ?_; (with_reducible refine (ostiarylaw20_h.calls (⟨#[83, 101, 116, 45, 67, 111, 111, 107, 105, 101]⟩ : ByteArray) (⟨#[97]⟩ : ByteArray) t118 t119 _ A1.out).mono ?_); rintro e w12 ⟨rfl, hb⟩; refine ⟨_, rfl, ?_⟩; have n0_ := Aside0.mk (below_step hB hb); clear HB; have HB := n0_; clear n0_; (try clear hb); (try clear hb2); (try clear hk); (try clear hi)) | ((with_reducible refine gate_callee (f := 37) rfl ?_); refine goesL_ (some 4) rfl rfl Tryd.func37 q20_ rfl #[.string (⟨#[88]⟩ : ByteArray), .string (⟨#[98]⟩ : ByteArray)] rfl tS ?_; (with_reducible refine (ostiarylaw20_h.calls (⟨#[88]⟩ : ByteArray) (⟨#[98]⟩ : ByteArray) t120 t121 _ A2.out).mono ?_); rintro e w13 ⟨rfl, hb⟩; refine ⟨_, rfl, ?_⟩; have n0_ := Aside0.mk (below_step hB hb); clear HB; have HB := n0_; clear n0_; (try clear hb); (try clear hb2); (try clear hk); (try clear hi)) | ((with_reducible refine gate_dst (N := 5) rfl ?_); (try (refine gate_guard (by rfl) ?_; dsimp only)); refine Kd.R_lit k72 _ 72 ?hg (N := 5) ?hd (xs := ([(⟨t118, t119⟩ : S72), (⟨t120, t121⟩ : S72)] : List (S72))) (inner := [.string t118, .string t119, .string t120, .string t121]) (ok := fun _ => True) (okp := fun _ => True) ?hr ?hp (fun _ hk => hk) trivial (Below.refl _ _) (Nat.le_refl _) (by simp) ?_; (case hd => rfl); (case hg => rfl); (case hr => first | (go_simp; done) | (go_simp; rfl)); (case hp => exact (Reps.c2 (show Kd.M k72 _ _ _ (⟨t118, t119⟩ : S72) [.string t118, .string t119] from (k72_mkM _ _ _ (⟨t118, t119⟩ : S72) )) (Reps.c2 (show Kd.M k72 _ _ _ (⟨t120, t121⟩ : S72) [.string t120, .string t121] from (k72_mkM _ _ _ (⟨t120, t121⟩ : S72) )) (Reps.none _ _)))); intro v123 w14 ho15 hb hg_ hnew_; clear hg_ hnew_; (first | rw [← Ny122.out] at ho15 | (simp only [Int.reduceToNat] at ho15; rw [← Ny122.out] at ho15)); have n0_ := Aside0.mk (Kd.R_lower ho15 (below_size hB)); have n1_ := Aside0.mk (below_step hB hb); clear HB; have HO124 := n0_; have HB := n1_; clear n0_ n1_; clear hb ho15; obtain ⟨Ao16, co16, eo16⟩ := Kd.R_slice HO124.out; subst eo16) | ((with_reducible refine gate_callee (f := 33) rfl ?_); refine goesL_ (some 7) rfl rfl Tryd.func33 q20_ rfl #[.agg #[.int .i64 200, .slice Ao16 y122.length co16, .slice none 0 0], .string (⟨#[117]⟩ : ByteArray)] rfl tS ?_; (refine (filter_Own.calls 200 _ _ y122 _ _ ([] : List Int) (⟨#[117]⟩ : ByteArray) t125 t126 t127 t130 t133 _ ?side1 ?side2 ?side3 ?side4 A3.out).mono ?_); (case side1 => repeat (first | exact (Kd.R_reads' HO124.out).2.2 | (with_reducible refine Kd.C_alloc ?_ _) | (with_reducible refine Kd.C_drewN ?_ _) | (with_reducible refine Kd.C_drew ?_))); (case side2 => exact (Kd.R_reads' HO124.out).2.1); (case side3 => exact Kd.C_nil _ _); (case side4 => exact Nat.le_refl _); rintro e w17 ⟨v128, v131, rfl, ho0, ho1, hb⟩; refine ⟨_, rfl, ?_⟩; have n0_ := Aside0.mk (Kd.R_elder' q16_ (Kd.R_base ho0) hb); have n1_ := Aside0.mk (Kd.R_lower (Kd.R_new' ho0 (Kd.R_lt q16_)) (below_size hB)); have n2_ := Aside0.mk (Kd.R_lower ho1 (below_size hB)); have n3_ := Aside0.mk (below_step hB hb); clear HO124; clear HB; have HO124 := n0_; have HO129 := n1_; have HO132 := n2_; have HB := n3_; clear n0_ n1_ n2_ n3_; (try clear hb); (try clear hb2); (try clear hk); (try clear hi); (try clear ho0); (try clear ho1)) | ((with_reducible refine gate_dst (N := 1) rfl ?_); (try (refine gate_guard (by rfl) ?_; dsimp only)); refine box_event ?hg (N := 1) ?hd (cs := #[.int .i64 0, .int .i64 0, .slice none 0 0, .slice none 0 0, .string (⟨#[]⟩ : ByteArray)]) (t := 66) ?hr ?_; (case hd => rfl); (case hg => rfl); (case hr => first | (go_simp; done) | (go_simp; rfl)); intro gb134 hg w18 hbox hb; have n0_ := Aside0.mk (Kd.R_below q16_ hb); have n1_ := Aside0.mk (Kd.R_below q21_ hb); have n2_ := Aside0.mk (Kd.R_below q28_ hb); have n3_ := Aside0.mk (below_step hB hb); have n4_ := Aside0.mk (hbox); have n5_ := Aside0.mk ((by rw [hg]; exact (below_size hB) : w.heap.size ≤ gb134)); have n6_ := Aside0.mk ((by rw [hg]; exact (below_size hB) : w.heap.size ≤ gb134)); clear HO124; clear HO129; clear HO132; clear HB; have HO124 := n0_; have HO129 := n1_; have HO132 := n2_; have HB := n3_; have BK134 := n4_; have GW134 := n5_; have GE134 := n6_; clear n0_ n1_ n2_ n3_ n4_ n5_ n6_; clear hb hbox hg; have hcz19_0 : w18.cell? ⟨gb134, 0, none⟩ = some (.int .i64 0) := (blk_cell BK134.out 0).trans rfl; have hcz19_1 : w18.cell? ⟨gb134, 1, none⟩ = some (.int .i64 0) := (blk_cell BK134.out 1).trans rfl; have hcz19_2 : w18.cell? ⟨gb134, 2, none⟩ = some (.slice none 0 0) := (blk_cell BK134.out 2).trans rfl; have hcz19_3 : w18.cell? ⟨gb134, 3, none⟩ = some (.slice none 0 0) := (blk_cell BK134.out 3).trans rfl; have hcz19_4 : w18.cell? ⟨gb134, 4, none⟩ = some (.string (⟨#[]⟩ : ByteArray)) := (blk_cell BK134.out 4).trans rfl; have hfz19_0 := blk_frozen BK134.out 0; have hfz19_1 := blk_frozen BK134.out 1; have hfz19_2 := blk_frozen BK134.out 2; have hfz19_3 := blk_frozen BK134.out 3; have hfz19_4 := blk_frozen BK134.out 4; obtain ⟨Ao20, co20, eo20⟩ := Kd.R_slice HO129.out; subst eo20; obtain ⟨Ao21, co21, eo21⟩ := Kd.R_slice HO132.out; subst eo21) | ((with_reducible refine gate_callee (f := 37) rfl ?_); refine goesL_ (some 8) rfl rfl Tryd.func37 q20_ rfl #[.string (⟨#[88]⟩ : ByteArray), .string (⟨#[98]⟩ : ByteArray)] rfl tS ?_; (with_reducible refine (ostiarylaw20_h.calls (⟨#[88]⟩ : ByteArray) (⟨#[98]⟩ : ByteArray) t135 t136 _ A4.out).mono ?_); rintro e w22 ⟨rfl, hb⟩; refine ⟨_, rfl, ?_⟩; have n0_ := Aside0.mk (Kd.R_below (by (with_reducible repeat (first | apply Kd.R_alloc | apply Kd.R_drewN | apply Kd.R_drew)); exact (Kd.R_mono (Kd.R_far (p := ⟨gb134, 4, none⟩) (Kd.R_far (p := ⟨gb134, 3, none⟩) (Kd.R_far (p := ⟨gb134, 2, none⟩) (Kd.R_far (p := ⟨gb134, 1, none⟩) (Kd.R_far (p := ⟨gb134, 0, none⟩) (Kd.R_types HO124.out BK134.out (by decide)) (fun _ hk => hk.2) (.int .i64 t125)) (fun _ hk => hk.2) (.int .i64 t126)) (fun _ hk => hk.2) (.slice Ao20 t127.length co20)) (fun _ hk => hk.2) (.slice Ao21 t130.length co21)) (fun _ hk => hk.2) (.string t133)) (fun _ h_ => h_.1))) hb); have n1_ := Aside0.mk (Kd.R_below (by (with_reducible repeat (first | apply Kd.R_alloc | apply Kd.R_drewN | apply Kd.R_drew)); exact (Kd.R_mono (Kd.R_far (p := ⟨gb134, 4, none⟩) (Kd.R_far (p := ⟨gb134, 3, none⟩) (Kd.R_far (p := ⟨gb134, 2, none⟩) (Kd.R_far (p := ⟨gb134, 1, none⟩) (Kd.R_far (p := ⟨gb134, 0, none⟩) (Kd.R_types HO129.out BK134.out (by decide)) (fun _ hk => hk.2) (.int .i64 t125)) (fun _ hk => hk.2) (.int .i64 t126)) (fun _ hk => hk.2) (.slice Ao20 t127.length co20)) (fun _ hk => hk.2) (.slice Ao21 t130.length co21)) (fun _ hk => hk.2) (.string t133)) (fun _ h_ => h_.1))) hb); have n2_ := Aside0.mk (Kd.R_below (by (with_reducible repeat (first | apply Kd.R_alloc | apply Kd.R_drewN | apply Kd.R_drew)); exact (Kd.R_mono (Kd.R_far (p := ⟨gb134, 4, none⟩) (Kd.R_far (p := ⟨gb134, 3, none⟩) (Kd.R_far (p := ⟨gb134, 2, none⟩) (Kd.R_far (p := ⟨gb134, 1, none⟩) (Kd.R_far (p := ⟨gb134, 0, none⟩) (Kd.R_types HO132.out BK134.out (by decide)) (fun _ hk => hk.2) (.int .i64 t125)) (fun _ hk => hk.2) (.int .i64 t126)) (fun _ hk => hk.2) (.slice Ao20 t127.length co20)) (fun _ hk => hk.2) (.slice Ao21 t130.length co21)) (fun _ hk => hk.2) (.string t133)) (fun _ h_ => h_.1))) hb); have n3_ := Aside0.mk (blk_below (g := gb134) (o := .cells #[.int .i64 t125, .int .i64 t126, .slice Ao20 t127.length co20, .slice Ao21 t130.length co21, .string t133] 66 (0, 0)) (by (with_reducible repeat (first | refine blk_drewN ?_ _ | refine blk_drew ?_ | refine blk_alloc ?_ _)); refine blk_put (cs := #[.int .i64 t125, .int .i64 t126, .slice Ao20 t127.length co20, .slice Ao21 t130.length co21, .string (⟨#[]⟩ : ByteArray)]) ?_ 4 _ rfl; (with_reducible repeat (first | refine blk_drewN ?_ _ | refine blk_drew ?_ | refine blk_alloc ?_ _)); refine blk_put (cs := #[.int .i64 t125, .int .i64 t126, .slice Ao20 t127.length co20, .slice none 0 0, .string (⟨#[]⟩ : ByteArray)]) ?_ 3 _ rfl; (with_reducible repeat (first | refine blk_drewN ?_ _ | refine blk_drew ?_ | refine blk_alloc ?_ _)); refine blk_put (cs := #[.int .i64 t125, .int .i64 t126, .slice none 0 0, .slice none 0 0, .string (⟨#[]⟩ : ByteArray)]) ?_ 2 _ rfl; (with_reducible repeat (first | refine blk_drewN ?_ _ | refine blk_drew ?_ | refine blk_alloc ?_ _)); refine blk_put (cs := #[.int .i64 t125, .int .i64 0, .slice none 0 0, .slice none 0 0, .string (⟨#[]⟩ : ByteArray)]) ?_ 1 _ rfl; (with_reducible repeat (first | refine blk_drewN ?_ _ | refine blk_drew ?_ | refine blk_alloc ?_ _)); refine blk_put (cs := #[.int .i64 0, .int .i64 0, .slice none 0 0, .slice none 0 0, .string (⟨#[]⟩ : ByteArray)]) ?_ 0 _ rfl; (with_reducible repeat (first | refine blk_drewN ?_ _ | refine blk_drew ?_ | refine blk_alloc ?_ _)); exact BK134.out) hb); have n4_ := Aside0.mk (below_step q19_ hb); clear HO124; clear HO129; clear HO132; clear BK134; clear HB; have HO124 := n0_; have HO129 := n1_; have HO132 := n2_; have BK134 := n3_; have HB := n4_; clear n0_ n1_ n2_ n3_ n4_; (try clear hb); (try clear hb2); (try clear hk); (try clear hi)) | ((with_reducible refine gate_callee (f := 37) rfl ?_); refine goesL_ (some 9) rfl rfl Tryd.func37 q20_ rfl #[.string (⟨#[101, 120, 112, 105, 114, 101, 115]⟩ : ByteArray), .string (⟨#[99]⟩ : ByteArray)] rfl tS ?_; (with_reducible refine (ostiarylaw20_h.calls (⟨#[101, 120, 112, 105, 114, 101, 115]⟩ : ByteArray) (⟨#[99]⟩ : ByteArray) t137 t138 _ A5.out).mono ?_); rintro e w23 ⟨rfl, hb⟩; refine ⟨_, rfl, ?_⟩; have n0_ := Aside0.mk (Kd.R_below q16_ hb); have n1_ := Aside0.mk (Kd.R_below q21_ hb); have n2_ := Aside0.mk (Kd.R_below q28_ hb); have n3_ := Aside0.mk (blk_below (g := gb134) (o := .cells #[.int .i64 t125, .int .i64 t126, .slice Ao20 t127.length co20, .slice Ao21 t130.length co21, .string t133] 66 (0, 0)) q26_ hb); have n4_ := Aside0.mk (below_step q19_ hb); clear HO124; clear HO129; clear HO132; clear BK134; clear HB; have HO124 := n0_; have HO129 := n1_; have HO132 := n2_; have BK134 := n3_; have HB := n4_; clear n0_ n1_ n2_ n3_ n4_; (try clear hb); (try clear hb2); (try clear hk); (try clear hi)) | ((with_reducible refine gate_dst (N := 10) rfl ?_); (try (refine gate_guard (by rfl) ?_; dsimp only)); refine Kd.R_lit k72 _ 72 ?hg (N := 10) ?hd (xs := ([(⟨t135, t136⟩ : S72), (⟨t137, t138⟩ : S72)] : List (S72))) (inner := [.string t135, .string t136, .string t137, .string t138]) (ok := fun _ => True) (okp := fun _ => True) ?hr ?hp (fun _ hk => hk) trivial (Below.refl _ _) (Nat.le_refl _) (by simp) ?_; (case hd => rfl); (case hg => rfl); (case hr => first | (go_simp; done) | (go_simp; rfl)); (case hp => exact (Reps.c2 (show Kd.M k72 _ _ _ (⟨t135, t136⟩ : S72) [.string t135, .string t136] from (k72_mkM _ _ _ (⟨t135, t136⟩ : S72) )) (Reps.c2 (show Kd.M k72 _ _ _ (⟨t137, t138⟩ : S72) [.string t137, .string t138] from (k72_mkM _ _ _ (⟨t137, t138⟩ : S72) )) (Reps.none _ _)))); intro v140 w24 ho25 hb hg_ hnew_; clear hg_ hnew_; (first | rw [← Ny139.out] at ho25 | (simp only [Int.reduceToNat] at ho25; rw [← Ny139.out] at ho25)); have n0_ := Aside0.mk (Kd.R_elder' q16_ (Kd.R_base ho25) hb); have n1_ := Aside0.mk (Kd.R_elder' q21_ (Kd.R_base ho25) hb); have n2_ := Aside0.mk (Kd.R_below q28_ hb); have n3_ := Aside0.mk (Kd.R_lower (Kd.R_new' (Kd.R_new' ho25 (Kd.R_lt q16_)) (Kd.R_lt q21_)) (below_size q19_)); have n4_ := Aside0.mk (blk_below (g := gb134) (o := .cells #[.int .i64 t125, .int .i64 t126, .slice Ao20 t127.length co20, .slice Ao21 t130.length co21, .string t133] 66 (0, 0)) q26_ hb); have n5_ := Aside0.mk (below_step q19_ hb); clear HO124; clear HO129; clear HO132; clear BK134; clear HB; have HO124 := n0_; have HO129 := n1_; have HO132 := n2_; have HO141 := n3_; have BK134 := n4_; have HB := n5_; clear n0_ n1_ n2_ n3_ n4_ n5_; clear hb ho25; obtain ⟨Ao26, co26, eo26⟩ := Kd.R_slice HO141.out; subst eo26) | ((with_reducible refine gate_callee (f := 34) rfl ?_); refine goesL_ (some 12) rfl rfl Tryd.func34 q20_ rfl #[.agg #[.int .i64 200, .slice Ao26 y139.length co26, .slice none 0 0], .string (⟨#[117]⟩ : ByteArray), .bool false] rfl tS ?_; (refine (filter_Share.calls 200 _ _ y139 _ _ ([] : List Int) (⟨#[117]⟩ : ByteArray) false t142 t143 t144 t147 t150 _ ?side1 ?side2 ?side3 ?side4 A6.out).mono ?_); (case side1 => repeat (first | exact (Kd.R_reads' HO141.out).2.2 | (with_reducible refine Kd.C_alloc ?_ _) | (with_reducible refine Kd.C_drewN ?_ _) | (with_reducible refine Kd.C_drew ?_))); (case side2 => exact (Kd.R_reads' HO141.out).2.1); (case side3 => exact Kd.C_nil _ _); (case side4 => exact Nat.le_refl _); rintro e w27 ⟨v145, v148, rfl, ho0, ho1, hb⟩; refine ⟨_, rfl, ?_⟩; have n0_ := Aside0.mk (Kd.R_elder' q16_ (Kd.R_base ho0) hb); have n1_ := Aside0.mk (Kd.R_elder' q21_ (Kd.R_base ho0) hb); have n2_ := Aside0.mk (Kd.R_elder' q28_ (Kd.R_base ho1) hb); have n3_ := Aside0.mk (Kd.R_elder' q29_ (Kd.R_base ho0) hb); have n4_ := Aside0.mk (Kd.R_lower (Kd.R_new' (Kd.R_new' (Kd.R_new' ho0 (Kd.R_lt q16_)) (Kd.R_lt q21_)) (Kd.R_lt q29_)) (below_size q19_)); have n5_ := Aside0.mk (Kd.R_lower (Kd.R_new' ho1 (Kd.R_lt q28_)) (below_size q19_)); have n6_ := Aside0.mk (blk_below (g := gb134) (o := .cells #[.int .i64 t125, .int .i64 t126, .slice Ao20 t127.length co20, .slice Ao21 t130.length co21, .string t133] 66 (0, 0)) q26_ hb); have n7_ := Aside0.mk (below_step q19_ hb); clear HO124; clear HO129; clear HO132; clear HO141; clear BK134; clear HB; have HO124 := n0_; have HO129 := n1_; have HO132 := n2_; have HO141 := n3_; have HO146 := n4_; have HO149 := n5_; have BK134 := n6_; have HB := n7_; clear n0_ n1_ n2_ n3_ n4_ n5_ n6_ n7_; (try clear hb); (try clear hb2); (try clear hk); (try clear hi); (try clear ho0); (try clear ho1)) | ((with_reducible refine gate_dst (N := 2) rfl ?_); (try (refine gate_guard (by rfl) ?_; dsimp only)); refine box_event ?hg (N := 2) ?hd (cs := #[.int .i64 0, .int .i64 0, .slice none 0 0, .slice none 0 0, .string (⟨#[]⟩ : ByteArray)]) (t := 66) ?hr ?_; (case hd => rfl); (case hg => rfl); (case hr => first | (go_simp; done) | (go_simp; rfl)); intro gb151 hg w28 hbox hb; have n0_ := Aside0.mk (Kd.R_below q16_ hb); have n1_ := Aside0.mk (Kd.R_below q21_ hb); have n2_ := Aside0.mk (Kd.R_below q28_ hb); have n3_ := Aside0.mk (Kd.R_below q29_ hb); have n4_ := Aside0.mk (Kd.R_below q33_ hb); have n5_ := Aside0.mk (Kd.R_below (by (with_reducible repeat (first | apply Kd.R_alloc | apply Kd.R_drewN | apply Kd.R_drew)); exact HO149.out) hb); have n6_ := Aside0.mk (blk_below (g := gb134) (o := .cells #[.int .i64 t125, .int .i64 t126, .slice Ao20 t127.length co20, .slice Ao21 t130.length co21, .string t133] 66 (0, 0)) q26_ hb); have n7_ := Aside0.mk (below_step q19_ hb); have n8_ := Aside0.mk (hbox); have n9_ := Aside0.mk ((by rw [hg]; exact (below_size q19_) : w.heap.size ≤ gb151)); have n10_ := Aside0.mk ((by rw [hg]; exact (below_size q19_) : w.heap.size ≤ gb151)); have n11_ := Aside0.mk ((by rw [hg]; exact Nat.ne_of_lt (blk_lt (g := gb134) (o := .cells #[.int .i64 t125, .int .i64 t126, .slice Ao20 t127.length co20, .slice Ao21 t130.length co21, .string t133] 66 (0, 0)) q26_) : gb134 ≠ gb151)); have n12_ := Aside0.mk ((by rw [hg]; exact Nat.ne_of_gt (blk_lt (g := gb134) (o := .cells #[.int .i64 t125, .int .i64 t126, .slice Ao20 t127.length co20, .slice Ao21 t130.length co21, .string t133] 66 (0, 0)) q26_) : gb151 ≠ gb134)); clear HO124; clear HO129; clear HO132; clear HO141; clear HO146; clear HO149; clear BK134; clear HB; have HO124 := n0_; have HO129 := n1_; have HO132 := n2_; have HO141 := n3_; have HO146 := n4_; have HO149 := n5_; have BK134 := n6_; have HB := n7_; have BK151 := n8_; have GW151 := n9_; have GE151 := n10_; have NB134_151 := n11_; have NB151_134 := n12_; clear n0_ n1_ n2_ n3_ n4_ n5_ n6_ n7_ n8_ n9_ n10_ n11_ n12_; clear hb hbox hg; have hnb29 := NB151_134.out; have hnc29 := NB134_151.out; have hcz30_0 : w28.cell? ⟨gb151, 0, none⟩ = some (.int .i64 0) := (blk_cell BK151.out 0).trans rfl; have hcz30_1 : w28.cell? ⟨gb151, 1, none⟩ = some (.int .i64 0) := (blk_cell BK151.out 1).trans rfl; have hcz30_2 : w28.cell? ⟨gb151, 2, none⟩ = some (.slice none 0 0) := (blk_cell BK151.out 2).trans rfl; have hcz30_3 : w28.cell? ⟨gb151, 3, none⟩ = some (.slice none 0 0) := (blk_cell BK151.out 3).trans rfl; have hcz30_4 : w28.cell? ⟨gb151, 4, none⟩ = some (.string (⟨#[]⟩ : ByteArray)) := (blk_cell BK151.out 4).trans rfl; have hfz30_0 := blk_frozen BK151.out 0; have hfz30_1 := blk_frozen BK151.out 1; have hfz30_2 := blk_frozen BK151.out 2; have hfz30_3 := blk_frozen BK151.out 3; have hfz30_4 := blk_frozen BK151.out 4; obtain ⟨Ao31, co31, eo31⟩ := Kd.R_slice HO146.out; subst eo31; obtain ⟨Ao32, co32, eo32⟩ := Kd.R_slice HO149.out; subst eo32))
  have n0_ : Aside0 (Kd.R k72 72 (((((w28.setCell ⟨gb151, 0, none⟩ (.int .i64 t142)).setCell ⟨gb151, 1, none⟩ (.int .i64 t143)).setCell ⟨gb151, 2, none⟩ (.slice Ao31 t144.length co31)).setCell ⟨gb151, 3, none⟩ (.slice Ao32 t147.length co32)).setCell ⟨gb151, 4, none⟩ (.string t150)) w.heap.size (fun k_ => some k_ ≠ (.slice Ao20 t127.length co20 : Value).ownBlock ∧ some k_ ≠ (.slice Ao26 y139.length co26 : Value).ownBlock ∧ some k_ ≠ (.slice Ao31 t144.length co31 : Value).ownBlock) (.slice Ao16 y122.length co16) y122) := ⟨by (with_reducible repeat (first | apply Kd.R_alloc | apply Kd.R_drewN | apply Kd.R_drew)); exact Kd.R_mono (Kd.R_far (p := ⟨gb151, 4, none⟩) (Kd.R_far (p := ⟨gb151, 3, none⟩) (Kd.R_far (p := ⟨gb151, 2, none⟩) (Kd.R_far (p := ⟨gb151, 1, none⟩) (Kd.R_far (p := ⟨gb151, 0, none⟩) (Kd.R_types HO124.out BK151.out (by decide)) (fun _ hk => hk.2) (.int .i64 t142)) (fun _ hk => hk.2) (.int .i64 t143)) (fun _ hk => hk.2) (.slice Ao31 t144.length co31)) (fun _ hk => hk.2) (.slice Ao32 t147.length co32)) (fun _ hk => hk.2) (.string t150)) (fun _ hk => ⟨hk.1.1.1.2, ⟨hk.1.1.2, hk.1.2⟩⟩)⟩
  have n1_ : Aside0 (Kd.R k72 72 (((((w28.setCell ⟨gb151, 0, none⟩ (.int .i64 t142)).setCell ⟨gb151, 1, none⟩ (.int .i64 t143)).setCell ⟨gb151, 2, none⟩ (.slice Ao31 t144.length co31)).setCell ⟨gb151, 3, none⟩ (.slice Ao32 t147.length co32)).setCell ⟨gb151, 4, none⟩ (.string t150)) w.heap.size (fun k_ => some k_ ≠ (.slice Ao16 y122.length co16 : Value).ownBlock ∧ some k_ ≠ (.slice Ao26 y139.length co26 : Value).ownBlock ∧ some k_ ≠ (.slice Ao31 t144.length co31 : Value).ownBlock) (.slice Ao20 t127.length co20) t127) := ⟨by (with_reducible repeat (first | apply Kd.R_alloc | apply Kd.R_drewN | apply Kd.R_drew)); exact Kd.R_mono (Kd.R_far (p := ⟨gb151, 4, none⟩) (Kd.R_far (p := ⟨gb151, 3, none⟩) (Kd.R_far (p := ⟨gb151, 2, none⟩) (Kd.R_far (p := ⟨gb151, 1, none⟩) (Kd.R_far (p := ⟨gb151, 0, none⟩) (Kd.R_types HO129.out BK151.out (by decide)) (fun _ hk => hk.2) (.int .i64 t142)) (fun _ hk => hk.2) (.int .i64 t143)) (fun _ hk => hk.2) (.slice Ao31 t144.length co31)) (fun _ hk => hk.2) (.slice Ao32 t147.length co32)) (fun _ hk => hk.2) (.string t150)) (fun _ hk => ⟨hk.1.1.1.2, ⟨hk.1.1.2, hk.1.2⟩⟩)⟩
  have n2_ : Aside0 (Kd.R (Kd.int .u8) 5 (((((w28.setCell ⟨gb151, 0, none⟩ (.int .i64 t142)).setCell ⟨gb151, 1, none⟩ (.int .i64 t143)).setCell ⟨gb151, 2, none⟩ (.slice Ao31 t144.length co31)).setCell ⟨gb151, 3, none⟩ (.slice Ao32 t147.length co32)).setCell ⟨gb151, 4, none⟩ (.string t150)) w.heap.size (fun k_ => some k_ ≠ (.slice Ao32 t147.length co32 : Value).ownBlock) (.slice Ao21 t130.length co21) t130) := ⟨by (with_reducible repeat (first | apply Kd.R_alloc | apply Kd.R_drewN | apply Kd.R_drew)); exact Kd.R_mono (Kd.R_far (p := ⟨gb151, 4, none⟩) (Kd.R_far (p := ⟨gb151, 3, none⟩) (Kd.R_far (p := ⟨gb151, 2, none⟩) (Kd.R_far (p := ⟨gb151, 1, none⟩) (Kd.R_far (p := ⟨gb151, 0, none⟩) (Kd.R_types HO132.out BK151.out (by decide)) (fun _ hk => hk.2) (.int .i64 t142)) (fun _ hk => hk.2) (.int .i64 t143)) (fun _ hk => hk.2) (.slice Ao31 t144.length co31)) (fun _ hk => hk.2) (.slice Ao32 t147.length co32)) (fun _ hk => hk.2) (.string t150)) (fun _ hk => hk.1.2)⟩
  have n3_ : Aside0 (Kd.R k72 72 (((((w28.setCell ⟨gb151, 0, none⟩ (.int .i64 t142)).setCell ⟨gb151, 1, none⟩ (.int .i64 t143)).setCell ⟨gb151, 2, none⟩ (.slice Ao31 t144.length co31)).setCell ⟨gb151, 3, none⟩ (.slice Ao32 t147.length co32)).setCell ⟨gb151, 4, none⟩ (.string t150)) w.heap.size (fun k_ => some k_ ≠ (.slice Ao16 y122.length co16 : Value).ownBlock ∧ some k_ ≠ (.slice Ao20 t127.length co20 : Value).ownBlock ∧ some k_ ≠ (.slice Ao31 t144.length co31 : Value).ownBlock) (.slice Ao26 y139.length co26) y139) := ⟨by (with_reducible repeat (first | apply Kd.R_alloc | apply Kd.R_drewN | apply Kd.R_drew)); exact Kd.R_mono (Kd.R_far (p := ⟨gb151, 4, none⟩) (Kd.R_far (p := ⟨gb151, 3, none⟩) (Kd.R_far (p := ⟨gb151, 2, none⟩) (Kd.R_far (p := ⟨gb151, 1, none⟩) (Kd.R_far (p := ⟨gb151, 0, none⟩) (Kd.R_types HO141.out BK151.out (by decide)) (fun _ hk => hk.2) (.int .i64 t142)) (fun _ hk => hk.2) (.int .i64 t143)) (fun _ hk => hk.2) (.slice Ao31 t144.length co31)) (fun _ hk => hk.2) (.slice Ao32 t147.length co32)) (fun _ hk => hk.2) (.string t150)) (fun _ hk => ⟨hk.1.1.1.2, ⟨hk.1.1.2, hk.1.2⟩⟩)⟩
  have n4_ : Aside0 (Kd.R k72 72 (((((w28.setCell ⟨gb151, 0, none⟩ (.int .i64 t142)).setCell ⟨gb151, 1, none⟩ (.int .i64 t143)).setCell ⟨gb151, 2, none⟩ (.slice Ao31 t144.length co31)).setCell ⟨gb151, 3, none⟩ (.slice Ao32 t147.length co32)).setCell ⟨gb151, 4, none⟩ (.string t150)) w.heap.size (fun k_ => some k_ ≠ (.slice Ao16 y122.length co16 : Value).ownBlock ∧ some k_ ≠ (.slice Ao20 t127.length co20 : Value).ownBlock ∧ some k_ ≠ (.slice Ao26 y139.length co26 : Value).ownBlock) (.slice Ao31 t144.length co31) t144) := ⟨by (with_reducible repeat (first | apply Kd.R_alloc | apply Kd.R_drewN | apply Kd.R_drew)); exact Kd.R_mono (Kd.R_far (p := ⟨gb151, 4, none⟩) (Kd.R_far (p := ⟨gb151, 3, none⟩) (Kd.R_far (p := ⟨gb151, 2, none⟩) (Kd.R_far (p := ⟨gb151, 1, none⟩) (Kd.R_far (p := ⟨gb151, 0, none⟩) (Kd.R_types HO146.out BK151.out (by decide)) (fun _ hk => hk.2) (.int .i64 t142)) (fun _ hk => hk.2) (.int .i64 t143)) (fun _ hk => hk.2) (.slice Ao31 t144.length co31)) (fun _ hk => hk.2) (.slice Ao32 t147.length co32)) (fun _ hk => hk.2) (.string t150)) (fun _ hk => ⟨hk.1.1.1.2, ⟨hk.1.1.2, hk.1.2⟩⟩)⟩
  have n5_ : Aside0 (Kd.R (Kd.int .u8) 5 (((((w28.setCell ⟨gb151, 0, none⟩ (.int .i64 t142)).setCell ⟨gb151, 1, none⟩ (.int .i64 t143)).setCell ⟨gb151, 2, none⟩ (.slice Ao31 t144.length co31)).setCell ⟨gb151, 3, none⟩ (.slice Ao32 t147.length co32)).setCell ⟨gb151, 4, none⟩ (.string t150)) w.heap.size (fun k_ => some k_ ≠ (.slice Ao21 t130.length co21 : Value).ownBlock) (.slice Ao32 t147.length co32) t147) := ⟨by (with_reducible repeat (first | apply Kd.R_alloc | apply Kd.R_drewN | apply Kd.R_drew)); exact Kd.R_mono (Kd.R_far (p := ⟨gb151, 4, none⟩) (Kd.R_far (p := ⟨gb151, 3, none⟩) (Kd.R_far (p := ⟨gb151, 2, none⟩) (Kd.R_far (p := ⟨gb151, 1, none⟩) (Kd.R_far (p := ⟨gb151, 0, none⟩) (Kd.R_types HO149.out BK151.out (by decide)) (fun _ hk => hk.2) (.int .i64 t142)) (fun _ hk => hk.2) (.int .i64 t143)) (fun _ hk => hk.2) (.slice Ao31 t144.length co31)) (fun _ hk => hk.2) (.slice Ao32 t147.length co32)) (fun _ hk => hk.2) (.string t150)) (fun _ hk => hk.1.2)⟩
  have n6_ : Aside0 ((((((w28.setCell ⟨gb151, 0, none⟩ (.int .i64 t142)).setCell ⟨gb151, 1, none⟩ (.int .i64 t143)).setCell ⟨gb151, 2, none⟩ (.slice Ao31 t144.length co31)).setCell ⟨gb151, 3, none⟩ (.slice Ao32 t147.length co32)).setCell ⟨gb151, 4, none⟩ (.string t150)).heap[gb134]? = some (.cells #[.int .i64 t125, .int .i64 t126, .slice Ao20 t127.length co20, .slice Ao21 t130.length co21, .string t133] 66 (0, 0))) := ⟨by (with_reducible repeat (first | refine blk_drewN ?_ _ | refine blk_drew ?_ | refine blk_alloc ?_ _)); refine blk_far ?_ NB134_151.out _; (with_reducible repeat (first | refine blk_drewN ?_ _ | refine blk_drew ?_ | refine blk_alloc ?_ _)); refine blk_far ?_ NB134_151.out _; (with_reducible repeat (first | refine blk_drewN ?_ _ | refine blk_drew ?_ | refine blk_alloc ?_ _)); refine blk_far ?_ NB134_151.out _; (with_reducible repeat (first | refine blk_drewN ?_ _ | refine blk_drew ?_ | refine blk_alloc ?_ _)); refine blk_far ?_ NB134_151.out _; (with_reducible repeat (first | refine blk_drewN ?_ _ | refine blk_drew ?_ | refine blk_alloc ?_ _)); refine blk_far ?_ NB134_151.out _; (with_reducible repeat (first | refine blk_drewN ?_ _ | refine blk_drew ?_ | refine blk_alloc ?_ _)); exact BK134.out⟩
  have n7_ : Aside0 ((((((w28.setCell ⟨gb151, 0, none⟩ (.int .i64 t142)).setCell ⟨gb151, 1, none⟩ (.int .i64 t143)).setCell ⟨gb151, 2, none⟩ (.slice Ao31 t144.length co31)).setCell ⟨gb151, 3, none⟩ (.slice Ao32 t147.length co32)).setCell ⟨gb151, 4, none⟩ (.string t150)).heap[gb151]? = some (.cells #[.int .i64 t142, .int .i64 t143, .slice Ao31 t144.length co31, .slice Ao32 t147.length co32, .string t150] 66 (0, 0))) := ⟨by (with_reducible repeat (first | refine blk_drewN ?_ _ | refine blk_drew ?_ | refine blk_alloc ?_ _)); refine blk_put (cs := #[.int .i64 t142, .int .i64 t143, .slice Ao31 t144.length co31, .slice Ao32 t147.length co32, .string (⟨#[]⟩ : ByteArray)]) ?_ 4 _ rfl; (with_reducible repeat (first | refine blk_drewN ?_ _ | refine blk_drew ?_ | refine blk_alloc ?_ _)); refine blk_put (cs := #[.int .i64 t142, .int .i64 t143, .slice Ao31 t144.length co31, .slice none 0 0, .string (⟨#[]⟩ : ByteArray)]) ?_ 3 _ rfl; (with_reducible repeat (first | refine blk_drewN ?_ _ | refine blk_drew ?_ | refine blk_alloc ?_ _)); refine blk_put (cs := #[.int .i64 t142, .int .i64 t143, .slice none 0 0, .slice none 0 0, .string (⟨#[]⟩ : ByteArray)]) ?_ 2 _ rfl; (with_reducible repeat (first | refine blk_drewN ?_ _ | refine blk_drew ?_ | refine blk_alloc ?_ _)); refine blk_put (cs := #[.int .i64 t142, .int .i64 0, .slice none 0 0, .slice none 0 0, .string (⟨#[]⟩ : ByteArray)]) ?_ 1 _ rfl; (with_reducible repeat (first | refine blk_drewN ?_ _ | refine blk_drew ?_ | refine blk_alloc ?_ _)); refine blk_put (cs := #[.int .i64 0, .int .i64 0, .slice none 0 0, .slice none 0 0, .string (⟨#[]⟩ : ByteArray)]) ?_ 0 _ rfl; (with_reducible repeat (first | refine blk_drewN ?_ _ | refine blk_drew ?_ | refine blk_alloc ?_ _)); exact BK151.out⟩
  have n8_ : Aside0 (Below w.heap.size w (((((w28.setCell ⟨gb151, 0, none⟩ (.int .i64 t142)).setCell ⟨gb151, 1, none⟩ (.int .i64 t143)).setCell ⟨gb151, 2, none⟩ (.slice Ao31 t144.length co31)).setCell ⟨gb151, 3, none⟩ (.slice Ao32 t147.length co32)).setCell ⟨gb151, 4, none⟩ (.string t150))) := ⟨by repeat (first | (with_reducible first | exact HB.out | apply below_alloc | apply pw_below_drewN | apply below_drew1 | refine below_set ?_ GE134.out | refine below_set ?_ GE151.out) | exact HB.out)⟩
  (try clear HO124)
  (try clear HO129)
  (try clear HO132)
  (try clear HO141)
  (try clear HO146)
  (try clear HO149)
  (try clear BK134)
  (try clear BK151)
  (try clear HB)
  generalize (((((w28.setCell ⟨gb151, 0, none⟩ (.int .i64 t142)).setCell ⟨gb151, 1, none⟩ (.int .i64 t143)).setCell ⟨gb151, 2, none⟩ (.slice Ao31 t144.length co31)).setCell ⟨gb151, 3, none⟩ (.slice Ao32 t147.length co32)).setCell ⟨gb151, 4, none⟩ (.string t150)) = w33 at n0_ n1_ n2_ n3_ n4_ n5_ n6_ n7_ n8_ ⊢
  have HO124 := n0_
  have HO129 := n1_
  have HO132 := n2_
  have HO141 := n3_
  have HO146 := n4_
  have HO149 := n5_
  have BK134 := n6_
  have BK151 := n7_
  have HB := n8_
  clear n0_ n1_ n2_ n3_ n4_ n5_ n6_ n7_ n8_
  have n0_ := Aside0.mk (Kd.R_drew HO124.out)
  have n1_ := Aside0.mk (Kd.R_drew HO129.out)
  have n2_ := Aside0.mk (Kd.R_drew HO132.out)
  have n3_ := Aside0.mk (Kd.R_drew HO141.out)
  have n4_ := Aside0.mk (Kd.R_drew HO146.out)
  have n5_ := Aside0.mk (Kd.R_drew HO149.out)
  have n6_ := Aside0.mk (blk_drew BK134.out)
  have n7_ := Aside0.mk (blk_drew BK151.out)
  have n8_ := Aside0.mk (below_drew1 HB.out)
  clear HO124
  clear HO129
  clear HO132
  clear HO141
  clear HO146
  clear HO149
  clear BK134
  clear BK151
  clear HB
  have HO124 := n0_
  have HO129 := n1_
  have HO132 := n2_
  have HO141 := n3_
  have HO146 := n4_
  have HO149 := n5_
  have BK134 := n6_
  have BK151 := n7_
  have HB := n8_
  clear n0_ n1_ n2_ n3_ n4_ n5_ n6_ n7_ n8_
  refine start_ (n := 13) (S := fun w' => w'.cell? ⟨gb134, 0, none⟩ = some (.int .i64 t125) ∧ w'.cell? ⟨gb134, 1, none⟩ = some (.int .i64 t126) ∧ w'.cell? ⟨gb134, 2, none⟩ = some (.slice Ao20 t127.length co20) ∧ w'.cell? ⟨gb134, 3, none⟩ = some (.slice Ao21 t130.length co21) ∧ w'.cell? ⟨gb134, 4, none⟩ = some (.string t133) ∧ w'.cell? ⟨gb151, 0, none⟩ = some (.int .i64 t142) ∧ w'.cell? ⟨gb151, 1, none⟩ = some (.int .i64 t143) ∧ w'.cell? ⟨gb151, 2, none⟩ = some (.slice Ao31 t144.length co31) ∧ w'.cell? ⟨gb151, 3, none⟩ = some (.slice Ao32 t147.length co32) ∧ w'.cell? ⟨gb151, 4, none⟩ = some (.string t150)) (ds := []) #[false, false, false, false, false, false, false, false, false, false, false, false, false] q20_ rfl rfl ⟨(blk_cell BK134.out 0).trans rfl, (blk_cell BK134.out 1).trans rfl, (blk_cell BK134.out 2).trans rfl, (blk_cell BK134.out 3).trans rfl, (blk_cell BK134.out 4).trans rfl, (blk_cell BK151.out 0).trans rfl, (blk_cell BK151.out 1).trans rfl, (blk_cell BK151.out 2).trans rfl, (blk_cell BK151.out 3).trans rfl, (blk_cell BK151.out 4).trans rfl⟩ (fun hHeld => ?_); refine with_tabW ostiarylaw20_known.tab3 ostiarylaw20_known.bits3 (fun HT_ HW_ => ?_)
  generalize w33.drew = w34 at HO124 HO129 HO132 HO141 HO146 HO149 BK134 BK151 HB hHeld ⊢
  refine take_ (i := 0) (N := some 13) (v := ?_) (a' := ?_) #[true, false, false, false, false, false, false, false, false, false, false, false, false] rfl rfl (take_ofW HT_.out HW_.out q20_) (fun _ _ _ h => h) (Or.inl ⟨by rfl, ?_⟩) hHeld ?_ ?_
  rotate_left
  ·rintro w' ⟨s0, s1, s2, s3, s4, s5, s6, s7, s8, s9⟩
   go_simp
   with_reducible rfl
  rotate_left
  ·simp only [Act.put, List.setIfInBounds_toArray, List.set_cons_zero, List.set_cons_succ, i64_w, i32_w]
   rfl
  refine one_ (i := 1) (N := some 14) #[true, true, false, false, false, false, false, false, false, false, false, false, false] rfl rfl (one_of HT_.out q20_) (by decide) (fun K hK => ?_)
  refine goes_ Tryd.func37 q20_ rfl #[.string (⟨#[88]⟩ : ByteArray), .string (⟨#[98]⟩ : ByteArray)] (by rfl) rfl rfl tS ?_
  with_reducible refine (ostiarylaw20_h.calls (⟨#[88]⟩ : ByteArray) (⟨#[98]⟩ : ByteArray) t152 t153 _ A7.out).mono ?_
  rintro e w35 ⟨rfl, hb⟩
  refine ⟨_, rfl, ?_⟩
  have n0_ := Aside0.mk (Kd.R_below q16_ hb)
  have n1_ := Aside0.mk (Kd.R_below q21_ hb)
  have n2_ := Aside0.mk (Kd.R_below q28_ hb)
  have n3_ := Aside0.mk (Kd.R_below q29_ hb)
  have n4_ := Aside0.mk (Kd.R_below q33_ hb)
  have n5_ := Aside0.mk (Kd.R_below (by (with_reducible repeat (first | apply Kd.R_alloc | apply Kd.R_drewN | apply Kd.R_drew)); exact HO149.out) hb)
  have n6_ := Aside0.mk (blk_below (g := gb134) (o := .cells #[.int .i64 t125, .int .i64 t126, .slice Ao20 t127.length co20, .slice Ao21 t130.length co21, .string t133] 66 (0, 0)) q26_ hb)
  have n7_ := Aside0.mk (blk_below (g := gb151) (o := .cells #[.int .i64 t142, .int .i64 t143, .slice Ao31 t144.length co31, .slice Ao32 t147.length co32, .string t150] 66 (0, 0)) (by (with_reducible repeat (first | refine blk_drewN ?_ _ | refine blk_drew ?_ | refine blk_alloc ?_ _)); exact BK151.out) hb)
  have n8_ := Aside0.mk (below_step q24_ hb)
  clear HO124
  clear HO129
  clear HO132
  clear HO141
  clear HO146
  clear HO149
  clear BK134
  clear BK151
  clear HB
  have HO124 := n0_
  have HO129 := n1_
  have HO132 := n2_
  have HO141 := n3_
  have HO146 := n4_
  have HO149 := n5_
  have BK134 := n6_
  have BK151 := n7_
  have HB := n8_
  clear n0_ n1_ n2_ n3_ n4_ n5_ n6_ n7_ n8_
  (try clear hb)
  (try clear hb2)
  (try clear hk)
  (try clear hi)
  refine hK.out _ _ ⟨(blk_cell BK134.out 0).trans rfl, (blk_cell BK134.out 1).trans rfl, (blk_cell BK134.out 2).trans rfl, (blk_cell BK134.out 3).trans rfl, (blk_cell BK134.out 4).trans rfl, (blk_cell BK151.out 0).trans rfl, (blk_cell BK151.out 1).trans rfl, (blk_cell BK151.out 2).trans rfl, (blk_cell BK151.out 3).trans rfl, (blk_cell BK151.out 4).trans rfl⟩ (fun hHeld => ?_)
  clear hK K
  refine norm_ (a' := ?_) ?_ ?_
  rotate_left
  ·show Act.put _ (some 14) _ = _
   simp only [Act.put, List.setIfInBounds_toArray, List.set_cons_zero, List.set_cons_succ, i64_w, i32_w]
   rfl
  refine one_ (i := 2) (N := some 15) #[true, true, true, false, false, false, false, false, false, false, false, false, false] rfl rfl (one_of HT_.out q20_) (by decide) (fun K hK => ?_)
  refine Kd.R_lit_step k72 _ 72 ?hg (N := 15) ?hd (xs := ([(⟨t152, t153⟩ : S72)] : List (S72))) (inner := [.string t152, .string t153]) (ok := fun _ => True) (okp := fun _ => True) ?hr ?hp (fun _ hk => hk) trivial (Below.refl _ _) (Nat.le_refl _) (by simp) ?_; (case hd => rfl); (case hg => rfl); (case hr => first | (go_simp; done) | (go_simp; rfl)); (case hp => exact (Reps.c2 (show Kd.M k72 _ _ _ (⟨t152, t153⟩ : S72) [.string t152, .string t153] from (k72_mkM _ _ _ (⟨t152, t153⟩ : S72) )) (Reps.none _ _)))
  intro v155 w36 ho37 hb hg_ hnew_
  clear hg_ hnew_
  (first | rw [← Ny154.out] at ho37 | (simp only [Int.reduceToNat] at ho37; rw [← Ny154.out] at ho37))
  have n0_ := Aside0.mk (Kd.R_elder' q16_ (Kd.R_base ho37) hb)
  have n1_ := Aside0.mk (Kd.R_elder' q21_ (Kd.R_base ho37) hb)
  have n2_ := Aside0.mk (Kd.R_below q28_ hb)
  have n3_ := Aside0.mk (Kd.R_elder' q29_ (Kd.R_base ho37) hb)
  have n4_ := Aside0.mk (Kd.R_elder' q33_ (Kd.R_base ho37) hb)
  have n5_ := Aside0.mk (Kd.R_below (by (with_reducible repeat (first | apply Kd.R_alloc | apply Kd.R_drewN | apply Kd.R_drew)); exact HO149.out) hb)
  have n6_ := Aside0.mk (Kd.R_lower (Kd.R_new' (Kd.R_new' (Kd.R_new' (Kd.R_new' ho37 (Kd.R_lt q16_)) (Kd.R_lt q21_)) (Kd.R_lt q29_)) (Kd.R_lt q33_)) (below_size q24_))
  have n7_ := Aside0.mk (blk_below (g := gb134) (o := .cells #[.int .i64 t125, .int .i64 t126, .slice Ao20 t127.length co20, .slice Ao21 t130.length co21, .string t133] 66 (0, 0)) q26_ hb)
  have n8_ := Aside0.mk (blk_below (g := gb151) (o := .cells #[.int .i64 t142, .int .i64 t143, .slice Ao31 t144.length co31, .slice Ao32 t147.length co32, .string t150] 66 (0, 0)) (by (with_reducible repeat (first | refine blk_drewN ?_ _ | refine blk_drew ?_ | refine blk_alloc ?_ _)); exact BK151.out) hb)
  have n9_ := Aside0.mk (below_step q24_ hb)
  clear HO124
  clear HO129
  clear HO132
  clear HO141
  clear HO146
  clear HO149
  clear BK134
  clear BK151
  clear HB
  have HO124 := n0_
  have HO129 := n1_
  have HO132 := n2_
  have HO141 := n3_
  have HO146 := n4_
  have HO149 := n5_
  have HO156 := n6_
  have BK134 := n7_
  have BK151 := n8_
  have HB := n9_
  clear n0_ n1_ n2_ n3_ n4_ n5_ n6_ n7_ n8_ n9_
  clear hb ho37
  obtain ⟨Ao38, co38, eo38⟩ := Kd.R_slice HO156.out
  (first | subst eo38 | (injection eo38 with f1_ f2_ f3_; have f4_ := f1_.symm; have f5_ := f3_.symm; clear f1_ f2_ f3_; subst f4_; subst f5_))
  refine hK.out _ _ ⟨(blk_cell BK134.out 0).trans rfl, (blk_cell BK134.out 1).trans rfl, (blk_cell BK134.out 2).trans rfl, (blk_cell BK134.out 3).trans rfl, (blk_cell BK134.out 4).trans rfl, (blk_cell BK151.out 0).trans rfl, (blk_cell BK151.out 1).trans rfl, (blk_cell BK151.out 2).trans rfl, (blk_cell BK151.out 3).trans rfl, (blk_cell BK151.out 4).trans rfl⟩ (fun hHeld => ?_)
  clear hK K
  refine norm_ (a' := ?_) ?_ ?_
  rotate_left
  ·show Act.put _ (some 15) _ = _
   simp only [Act.put, List.setIfInBounds_toArray, List.set_cons_zero, List.set_cons_succ, i64_w, i32_w]
   rfl
  refine pure_ (i := 3) (N := some 16) (v := ?_) (a' := ?_) #[true, true, true, true, false, false, false, false, false, false, false, false, false] rfl rfl (any_of HT_.out q20_) (fun _ _ _ h => h) (Or.inl ⟨by rfl, ?_⟩) ?_ ?_
  rotate_left
  ·intro w'
   go_simp
   with_reducible rfl
  rotate_left
  ·simp only [Act.put, List.setIfInBounds_toArray, List.set_cons_zero, List.set_cons_succ, i64_w, i32_w]
   rfl
  refine one_ (i := 4) (N := some 17) #[true, true, true, true, true, false, false, false, false, false, false, false, false] rfl rfl (one_of HT_.out q20_) (by decide) (fun K hK => ?_)
  refine goes_ Tryd.func41 q20_ rfl #[.agg #[.int .i64 t125, .int .i64 t126, .slice Ao20 t127.length co20, .slice Ao21 t130.length co21, .string t133], .agg #[.int .i64 2, .int .i64 200, .slice Ao38 y154.length co38, .slice none 0 0, .string (⟨#[117]⟩ : ByteArray)]] (by rfl) rfl rfl tS ?_
  refine (ostiarykeep_SameResponse.calls k t125 t126 _ _ t127 _ _ t130 t133 2 200 _ _ y154 _ _ ([] : List Int) (⟨#[117]⟩ : ByteArray) true _ ?side1 ?side2 ?side3 ?side4 ?side5 ?side6 ?side7 ?side8 A8.out).mono ?_
  (case side1 => repeat (first | exact (Kd.R_reads' HO129.out).2.2 | (with_reducible refine Kd.C_alloc ?_ _) | (with_reducible refine Kd.C_drewN ?_ _) | (with_reducible refine Kd.C_drew ?_)))
  (case side2 => exact (Kd.R_reads' HO129.out).2.1)
  (case side3 => repeat (first | exact (Kd.R_reads' HO132.out).2.2 | (with_reducible refine Kd.C_alloc ?_ _) | (with_reducible refine Kd.C_drewN ?_ _) | (with_reducible refine Kd.C_drew ?_)))
  (case side4 => exact (Kd.R_reads' HO132.out).2.1)
  (case side5 => repeat (first | exact (Kd.R_reads' HO156.out).2.2 | (with_reducible refine Kd.C_alloc ?_ _) | (with_reducible refine Kd.C_drewN ?_ _) | (with_reducible refine Kd.C_drew ?_)))
  (case side6 => exact (Kd.R_reads' HO156.out).2.1)
  (case side7 => exact Kd.C_nil _ _)
  (case side8 => exact Nat.le_refl _)
  rintro e w39 ⟨rfl, hb⟩
  refine ⟨_, rfl, ?_⟩
  have n0_ := Aside0.mk (Kd.R_below q16_ hb)
  have n1_ := Aside0.mk (Kd.R_below q21_ hb)
  have n2_ := Aside0.mk (Kd.R_below q28_ hb)
  have n3_ := Aside0.mk (Kd.R_below q29_ hb)
  have n4_ := Aside0.mk (Kd.R_below q33_ hb)
  have n5_ := Aside0.mk (Kd.R_below (by (with_reducible repeat (first | apply Kd.R_alloc | apply Kd.R_drewN | apply Kd.R_drew)); exact HO149.out) hb)
  have n6_ := Aside0.mk (Kd.R_below (by (with_reducible repeat (first | apply Kd.R_alloc | apply Kd.R_drewN | apply Kd.R_drew)); exact HO156.out) hb)
  have n7_ := Aside0.mk (blk_below (g := gb134) (o := .cells #[.int .i64 t125, .int .i64 t126, .slice Ao20 t127.length co20, .slice Ao21 t130.length co21, .string t133] 66 (0, 0)) q26_ hb)
  have n8_ := Aside0.mk (blk_below (g := gb151) (o := .cells #[.int .i64 t142, .int .i64 t143, .slice Ao31 t144.length co31, .slice Ao32 t147.length co32, .string t150] 66 (0, 0)) (by (with_reducible repeat (first | refine blk_drewN ?_ _ | refine blk_drew ?_ | refine blk_alloc ?_ _)); exact BK151.out) hb)
  have n9_ := Aside0.mk (below_step q24_ hb)
  clear HO124
  clear HO129
  clear HO132
  clear HO141
  clear HO146
  clear HO149
  clear HO156
  clear BK134
  clear BK151
  clear HB
  have HO124 := n0_
  have HO129 := n1_
  have HO132 := n2_
  have HO141 := n3_
  have HO146 := n4_
  have HO149 := n5_
  have HO156 := n6_
  have BK134 := n7_
  have BK151 := n8_
  have HB := n9_
  clear n0_ n1_ n2_ n3_ n4_ n5_ n6_ n7_ n8_ n9_
  (try clear hb)
  (try clear hb2)
  (try clear hk)
  (try clear hi)
  refine hK.out _ _ ⟨(blk_cell BK134.out 0).trans rfl, (blk_cell BK134.out 1).trans rfl, (blk_cell BK134.out 2).trans rfl, (blk_cell BK134.out 3).trans rfl, (blk_cell BK134.out 4).trans rfl, (blk_cell BK151.out 0).trans rfl, (blk_cell BK151.out 1).trans rfl, (blk_cell BK151.out 2).trans rfl, (blk_cell BK151.out 3).trans rfl, (blk_cell BK151.out 4).trans rfl⟩ (fun hHeld => ?_)
  clear hK K
  refine norm_ (a' := ?_) ?_ ?_
  rotate_left
  ·show Act.put _ (some 17) _ = _
   simp only [Act.put, List.setIfInBounds_toArray, List.set_cons_zero, List.set_cons_succ, i64_w, i32_w]
   rfl
  refine pure_ (i := 5) (N := some 18) (v := ?_) (a' := ?_) #[true, true, true, true, true, true, false, false, false, false, false, false, false] rfl rfl (any_of HT_.out q20_) (fun _ _ _ h => h) (Or.inl ⟨by rfl, ?_⟩) ?_ ?_
  rotate_left
  ·intro w'
   go_simp
   with_reducible rfl
  rotate_left
  ·simp only [Act.put, List.setIfInBounds_toArray, List.set_cons_zero, List.set_cons_succ, i64_w, i32_w]
   rfl
  refine take_ (i := 6) (N := some 19) (v := ?_) (a' := ?_) #[true, true, true, true, true, true, true, false, false, false, false, false, false] rfl rfl (take_ofW HT_.out HW_.out q20_) (fun _ _ _ h => h) (Or.inl ⟨by rfl, ?_⟩) hHeld ?_ ?_
  rotate_left
  ·rintro w' ⟨s0, s1, s2, s3, s4, s5, s6, s7, s8, s9⟩
   go_simp
   with_reducible rfl
  rotate_left
  ·simp only [Act.put, List.setIfInBounds_toArray, List.set_cons_zero, List.set_cons_succ, i64_w, i32_w]
   rfl
  refine one_ (i := 7) (N := some 20) #[true, true, true, true, true, true, true, true, false, false, false, false, false] rfl rfl (one_of HT_.out q20_) (by decide) (fun K hK => ?_)
  refine goes_ Tryd.func37 q20_ rfl #[.string (⟨#[101, 120, 112, 105, 114, 101, 115]⟩ : ByteArray), .string (⟨#[99]⟩ : ByteArray)] (by rfl) rfl rfl tS ?_
  with_reducible refine (ostiarylaw20_h.calls (⟨#[101, 120, 112, 105, 114, 101, 115]⟩ : ByteArray) (⟨#[99]⟩ : ByteArray) t158 t159 _ A10.out).mono ?_
  rintro e w40 ⟨rfl, hb⟩
  refine ⟨_, rfl, ?_⟩
  have n0_ := Aside0.mk (Kd.R_below q16_ hb)
  have n1_ := Aside0.mk (Kd.R_below q21_ hb)
  have n2_ := Aside0.mk (Kd.R_below q28_ hb)
  have n3_ := Aside0.mk (Kd.R_below q29_ hb)
  have n4_ := Aside0.mk (Kd.R_below q33_ hb)
  have n5_ := Aside0.mk (Kd.R_below (by (with_reducible repeat (first | apply Kd.R_alloc | apply Kd.R_drewN | apply Kd.R_drew)); exact HO149.out) hb)
  have n6_ := Aside0.mk (Kd.R_below (by (with_reducible repeat (first | apply Kd.R_alloc | apply Kd.R_drewN | apply Kd.R_drew)); exact HO156.out) hb)
  have n7_ := Aside0.mk (blk_below (g := gb134) (o := .cells #[.int .i64 t125, .int .i64 t126, .slice Ao20 t127.length co20, .slice Ao21 t130.length co21, .string t133] 66 (0, 0)) q26_ hb)
  have n8_ := Aside0.mk (blk_below (g := gb151) (o := .cells #[.int .i64 t142, .int .i64 t143, .slice Ao31 t144.length co31, .slice Ao32 t147.length co32, .string t150] 66 (0, 0)) (by (with_reducible repeat (first | refine blk_drewN ?_ _ | refine blk_drew ?_ | refine blk_alloc ?_ _)); exact BK151.out) hb)
  have n9_ := Aside0.mk (below_step q24_ hb)
  clear HO124
  clear HO129
  clear HO132
  clear HO141
  clear HO146
  clear HO149
  clear HO156
  clear BK134
  clear BK151
  clear HB
  have HO124 := n0_
  have HO129 := n1_
  have HO132 := n2_
  have HO141 := n3_
  have HO146 := n4_
  have HO149 := n5_
  have HO156 := n6_
  have BK134 := n7_
  have BK151 := n8_
  have HB := n9_
  clear n0_ n1_ n2_ n3_ n4_ n5_ n6_ n7_ n8_ n9_
  (try clear hb)
  (try clear hb2)
  (try clear hk)
  (try clear hi)
  refine hK.out _ _ ⟨(blk_cell BK134.out 0).trans rfl, (blk_cell BK134.out 1).trans rfl, (blk_cell BK134.out 2).trans rfl, (blk_cell BK134.out 3).trans rfl, (blk_cell BK134.out 4).trans rfl, (blk_cell BK151.out 0).trans rfl, (blk_cell BK151.out 1).trans rfl, (blk_cell BK151.out 2).trans rfl, (blk_cell BK151.out 3).trans rfl, (blk_cell BK151.out 4).trans rfl⟩ (fun hHeld => ?_)
  clear hK K
  refine norm_ (a' := ?_) ?_ ?_
  rotate_left
  ·show Act.put _ (some 20) _ = _
   simp only [Act.put, List.setIfInBounds_toArray, List.set_cons_zero, List.set_cons_succ, i64_w, i32_w]
   rfl
  refine one_ (i := 8) (N := some 21) #[true, true, true, true, true, true, true, true, true, false, false, false, false] rfl rfl (one_of HT_.out q20_) (by decide) (fun K hK => ?_)
  refine Kd.R_lit_step k72 _ 72 ?hg (N := 21) ?hd (xs := ([(⟨t158, t159⟩ : S72)] : List (S72))) (inner := [.string t158, .string t159]) (ok := fun _ => True) (okp := fun _ => True) ?hr ?hp (fun _ hk => hk) trivial (Below.refl _ _) (Nat.le_refl _) (by simp) ?_; (case hd => rfl); (case hg => rfl); (case hr => first | (go_simp; done) | (go_simp; rfl)); (case hp => exact (Reps.c2 (show Kd.M k72 _ _ _ (⟨t158, t159⟩ : S72) [.string t158, .string t159] from (k72_mkM _ _ _ (⟨t158, t159⟩ : S72) )) (Reps.none _ _)))
  intro v161 w41 ho42 hb hg_ hnew_
  clear hg_ hnew_
  (first | rw [← Ny160.out] at ho42 | (simp only [Int.reduceToNat] at ho42; rw [← Ny160.out] at ho42))
  have n0_ := Aside0.mk (Kd.R_elder' q16_ (Kd.R_base ho42) hb)
  have n1_ := Aside0.mk (Kd.R_elder' q21_ (Kd.R_base ho42) hb)
  have n2_ := Aside0.mk (Kd.R_below q28_ hb)
  have n3_ := Aside0.mk (Kd.R_elder' q29_ (Kd.R_base ho42) hb)
  have n4_ := Aside0.mk (Kd.R_elder' q33_ (Kd.R_base ho42) hb)
  have n5_ := Aside0.mk (Kd.R_below (by (with_reducible repeat (first | apply Kd.R_alloc | apply Kd.R_drewN | apply Kd.R_drew)); exact HO149.out) hb)
  have n6_ := Aside0.mk (Kd.R_elder' (by (with_reducible repeat (first | apply Kd.R_alloc | apply Kd.R_drewN | apply Kd.R_drew)); exact HO156.out) (Kd.R_base ho42) hb)
  have n7_ := Aside0.mk (Kd.R_lower (Kd.R_new' (Kd.R_new' (Kd.R_new' (Kd.R_new' (Kd.R_new' ho42 (Kd.R_lt q16_)) (Kd.R_lt q21_)) (Kd.R_lt q29_)) (Kd.R_lt q33_)) (Kd.R_lt (by (with_reducible repeat (first | apply Kd.R_alloc | apply Kd.R_drewN | apply Kd.R_drew)); exact HO156.out))) (below_size q24_))
  have n8_ := Aside0.mk (blk_below (g := gb134) (o := .cells #[.int .i64 t125, .int .i64 t126, .slice Ao20 t127.length co20, .slice Ao21 t130.length co21, .string t133] 66 (0, 0)) q26_ hb)
  have n9_ := Aside0.mk (blk_below (g := gb151) (o := .cells #[.int .i64 t142, .int .i64 t143, .slice Ao31 t144.length co31, .slice Ao32 t147.length co32, .string t150] 66 (0, 0)) (by (with_reducible repeat (first | refine blk_drewN ?_ _ | refine blk_drew ?_ | refine blk_alloc ?_ _)); exact BK151.out) hb)
  have n10_ := Aside0.mk (below_step q24_ hb)
  clear HO124
  clear HO129
  clear HO132
  clear HO141
  clear HO146
  clear HO149
  clear HO156
  clear BK134
  clear BK151
  clear HB
  have HO124 := n0_
  have HO129 := n1_
  have HO132 := n2_
  have HO141 := n3_
  have HO146 := n4_
  have HO149 := n5_
  have HO156 := n6_
  have HO162 := n7_
  have BK134 := n8_
  have BK151 := n9_
  have HB := n10_
  clear n0_ n1_ n2_ n3_ n4_ n5_ n6_ n7_ n8_ n9_ n10_
  clear hb ho42
  obtain ⟨Ao43, co43, eo43⟩ := Kd.R_slice HO162.out
  (first | subst eo43 | (injection eo43 with f1_ f2_ f3_; have f4_ := f1_.symm; have f5_ := f3_.symm; clear f1_ f2_ f3_; subst f4_; subst f5_))
  refine hK.out _ _ ⟨(blk_cell BK134.out 0).trans rfl, (blk_cell BK134.out 1).trans rfl, (blk_cell BK134.out 2).trans rfl, (blk_cell BK134.out 3).trans rfl, (blk_cell BK134.out 4).trans rfl, (blk_cell BK151.out 0).trans rfl, (blk_cell BK151.out 1).trans rfl, (blk_cell BK151.out 2).trans rfl, (blk_cell BK151.out 3).trans rfl, (blk_cell BK151.out 4).trans rfl⟩ (fun hHeld => ?_)
  clear hK K
  refine norm_ (a' := ?_) ?_ ?_
  rotate_left
  ·show Act.put _ (some 21) _ = _
   simp only [Act.put, List.setIfInBounds_toArray, List.set_cons_zero, List.set_cons_succ, i64_w, i32_w]
   rfl
  refine pure_ (i := 9) (N := some 22) (v := ?_) (a' := ?_) #[true, true, true, true, true, true, true, true, true, true, false, false, false] rfl rfl (any_of HT_.out q20_) (fun _ _ _ h => h) (Or.inl ⟨by rfl, ?_⟩) ?_ ?_
  rotate_left
  ·intro w'
   go_simp
   with_reducible rfl
  rotate_left
  ·simp only [Act.put, List.setIfInBounds_toArray, List.set_cons_zero, List.set_cons_succ, i64_w, i32_w]
   rfl
  refine one_ (i := 10) (N := some 23) #[true, true, true, true, true, true, true, true, true, true, true, false, false] rfl rfl (one_of HT_.out q20_) (by decide) (fun K hK => ?_)
  refine goes_ Tryd.func41 q20_ rfl #[.agg #[.int .i64 t142, .int .i64 t143, .slice Ao31 t144.length co31, .slice Ao32 t147.length co32, .string t150], .agg #[.int .i64 3, .int .i64 200, .slice Ao43 y160.length co43, .slice none 0 0, .string (⟨#[117]⟩ : ByteArray)]] (by rfl) rfl rfl tS ?_
  refine (ostiarykeep_SameResponse.calls k t142 t143 _ _ t144 _ _ t147 t150 3 200 _ _ y160 _ _ ([] : List Int) (⟨#[117]⟩ : ByteArray) true _ ?side1 ?side2 ?side3 ?side4 ?side5 ?side6 ?side7 ?side8 A11.out).mono ?_
  (case side1 => repeat (first | exact (Kd.R_reads' HO146.out).2.2 | (with_reducible refine Kd.C_alloc ?_ _) | (with_reducible refine Kd.C_drewN ?_ _) | (with_reducible refine Kd.C_drew ?_)))
  (case side2 => exact (Kd.R_reads' HO146.out).2.1)
  (case side3 => repeat (first | exact (Kd.R_reads' HO149.out).2.2 | (with_reducible refine Kd.C_alloc ?_ _) | (with_reducible refine Kd.C_drewN ?_ _) | (with_reducible refine Kd.C_drew ?_)))
  (case side4 => exact (Kd.R_reads' HO149.out).2.1)
  (case side5 => repeat (first | exact (Kd.R_reads' HO162.out).2.2 | (with_reducible refine Kd.C_alloc ?_ _) | (with_reducible refine Kd.C_drewN ?_ _) | (with_reducible refine Kd.C_drew ?_)))
  (case side6 => exact (Kd.R_reads' HO162.out).2.1)
  (case side7 => exact Kd.C_nil _ _)
  (case side8 => exact Nat.le_refl _)
  rintro e w44 ⟨rfl, hb⟩
  refine ⟨_, rfl, ?_⟩
  have n0_ := Aside0.mk (Kd.R_below q16_ hb)
  have n1_ := Aside0.mk (Kd.R_below q21_ hb)
  have n2_ := Aside0.mk (Kd.R_below q28_ hb)
  have n3_ := Aside0.mk (Kd.R_below q29_ hb)
  have n4_ := Aside0.mk (Kd.R_below q33_ hb)
  have n5_ := Aside0.mk (Kd.R_below (by (with_reducible repeat (first | apply Kd.R_alloc | apply Kd.R_drewN | apply Kd.R_drew)); exact HO149.out) hb)
  have n6_ := Aside0.mk (Kd.R_below (by (with_reducible repeat (first | apply Kd.R_alloc | apply Kd.R_drewN | apply Kd.R_drew)); exact HO156.out) hb)
  have n7_ := Aside0.mk (Kd.R_below (by (with_reducible repeat (first | apply Kd.R_alloc | apply Kd.R_drewN | apply Kd.R_drew)); exact HO162.out) hb)
  have n8_ := Aside0.mk (blk_below (g := gb134) (o := .cells #[.int .i64 t125, .int .i64 t126, .slice Ao20 t127.length co20, .slice Ao21 t130.length co21, .string t133] 66 (0, 0)) q26_ hb)
  have n9_ := Aside0.mk (blk_below (g := gb151) (o := .cells #[.int .i64 t142, .int .i64 t143, .slice Ao31 t144.length co31, .slice Ao32 t147.length co32, .string t150] 66 (0, 0)) (by (with_reducible repeat (first | refine blk_drewN ?_ _ | refine blk_drew ?_ | refine blk_alloc ?_ _)); exact BK151.out) hb)
  have n10_ := Aside0.mk (below_step q24_ hb)
  clear HO124
  clear HO129
  clear HO132
  clear HO141
  clear HO146
  clear HO149
  clear HO156
  clear HO162
  clear BK134
  clear BK151
  clear HB
  have HO124 := n0_
  have HO129 := n1_
  have HO132 := n2_
  have HO141 := n3_
  have HO146 := n4_
  have HO149 := n5_
  have HO156 := n6_
  have HO162 := n7_
  have BK134 := n8_
  have BK151 := n9_
  have HB := n10_
  clear n0_ n1_ n2_ n3_ n4_ n5_ n6_ n7_ n8_ n9_ n10_
  (try clear hb)
  (try clear hb2)
  (try clear hk)
  (try clear hi)
  refine hK.out _ _ ⟨(blk_cell BK134.out 0).trans rfl, (blk_cell BK134.out 1).trans rfl, (blk_cell BK134.out 2).trans rfl, (blk_cell BK134.out 3).trans rfl, (blk_cell BK134.out 4).trans rfl, (blk_cell BK151.out 0).trans rfl, (blk_cell BK151.out 1).trans rfl, (blk_cell BK151.out 2).trans rfl, (blk_cell BK151.out 3).trans rfl, (blk_cell BK151.out 4).trans rfl⟩ (fun hHeld => ?_)
  clear hK K
  refine norm_ (a' := ?_) ?_ ?_
  rotate_left
  ·show Act.put _ (some 23) _ = _
   simp only [Act.put, List.setIfInBounds_toArray, List.set_cons_zero, List.set_cons_succ, i64_w, i32_w]
   rfl
  refine pure_ (i := 11) (N := some 24) (v := ?_) (a' := ?_) #[true, true, true, true, true, true, true, true, true, true, true, true, false] rfl rfl (any_of HT_.out q20_) (fun _ _ _ h => h) (Or.inl ⟨by rfl, ?_⟩) ?_ ?_
  rotate_left
  ·intro w'
   go_simp
   with_reducible rfl
  rotate_left
  ·simp only [Act.put, List.setIfInBounds_toArray, List.set_cons_zero, List.set_cons_succ, i64_w, i32_w]
   rfl
  refine pure_ (i := 12) (N := some 0) (v := ?_) (a' := ?_) #[true, true, true, true, true, true, true, true, true, true, true, true, true] rfl rfl (any_of HT_.out q20_) (fun _ _ _ h => h) (Or.inl ⟨by rfl, ?_⟩) ?_ ?_
  rotate_left
  ·intro w'
   go_simp
   with_reducible rfl
  rotate_left
  ·simp only [Act.put, List.setIfInBounds_toArray, List.set_cons_zero, List.set_cons_succ, i64_w, i32_w]
   rfl
  refine done_ (done_of HT_.out q20_) ?_
  try go_wp2
  go_ret
  exact ⟨by first | rfl | (simp [errW_none, errW_some] <;> rfl) | (simp [*, errW_none, errW_some] <;> rfl), by repeat (first | (with_reducible first | exact HB.out | apply below_alloc | apply pw_below_drewN | apply below_drew1 | refine below_set ?_ GE134.out | refine below_set ?_ GE151.out) | exact HB.out)⟩
 ·replace c9 := Bool.eq_false_iff.mpr c9
  subst c9
  have H1 : (some false) = some true := by rw [if_neg (show ¬ (false = true) by decide)] at H; exact H
  clear H
  have H := H1
  clear H1
  cases H
end Go.Proofs.YtifmkgkiipckbaaDoor.P
