/- A part of the proof of FS: texts of walks and plain lemmas. -/
import Derived.Test.YtifmkgkiipckbaaGreatDoorXFS1
import Derived.Test.YtifmkgkiipckbaaGreatDoorXFS6
import Derived.Test.YtifmkgkiipckbaaGreatDoorXFS14
namespace Go.Proofs.YtifmkgkiipckbaaGreatDoor.P
open Go.RowKit Go.Proofs.YtifmkgkiipckbaaGreatDoorW.PrintWords Go.Proofs.YtifmkgkiipckbaaGreatDoorW.PrintLast Go.Proofs.YtifmkgkiipckbaaGreatDoorW.PrintMore
attribute [local go_sem] max2_int min2_int max_two min_two max_three min_three max_four min_four
set_option linter.unusedVariables false
set_option linter.unusedSimpArgs false
def ostiarylaw20_known.f (k : Nat)  : Option (Bool) := (ostiarylaw20_h.f (⟨#[83, 101, 116, 45, 67, 111, 111, 107, 105, 101]⟩ : ByteArray) (⟨#[97]⟩ : ByteArray)).bind fun bt212 => ((ostiarylaw20_h.f (⟨#[88]⟩ : ByteArray) (⟨#[98]⟩ : ByteArray)).bind fun bt214 => ((filter_Own.f 200 (([(⟨bt212.1, bt212.2⟩ : S30), (⟨bt214.1, bt214.2⟩ : S30)] : List (S30))) ([] : List Int) (⟨#[117]⟩ : ByteArray)).bind fun bt219 => ((ostiarylaw20_h.f (⟨#[88]⟩ : ByteArray) (⟨#[98]⟩ : ByteArray)).bind fun bt229 => ((ostiarylaw20_h.f (⟨#[101, 120, 112, 105, 114, 101, 115]⟩ : ByteArray) (⟨#[99]⟩ : ByteArray)).bind fun bt231 => ((filter_Share.f 200 (([(⟨bt229.1, bt229.2⟩ : S30), (⟨bt231.1, bt231.2⟩ : S30)] : List (S30))) ([] : List Int) (⟨#[117]⟩ : ByteArray) false).bind fun bt236 => ((ostiarylaw20_h.f (⟨#[88]⟩ : ByteArray) (⟨#[98]⟩ : ByteArray)).bind fun bt246 => ((ostiarykeep_SameResponse.f k bt219.1 bt219.2.1 bt219.2.2.1 bt219.2.2.2.1 bt219.2.2.2.2 2 200 (([(⟨bt246.1, bt246.2⟩ : S30)] : List (S30))) ([] : List Int) (⟨#[117]⟩ : ByteArray)).bind fun t251 => (if t251 = true then ((ostiarylaw20_h.f (⟨#[101, 120, 112, 105, 114, 101, 115]⟩ : ByteArray) (⟨#[99]⟩ : ByteArray)).bind fun bt252 => ((ostiarykeep_SameResponse.f k bt236.1 bt236.2.1 bt236.2.2.1 bt236.2.2.2.1 bt236.2.2.2.2 3 200 (([(⟨bt252.1, bt252.2⟩ : S30)] : List (S30))) ([] : List Int) (⟨#[117]⟩ : ByteArray)).bind fun t257 => (some t257))) else (some false)))))))))
theorem ostiarylaw20_known.mono : ∀ k, LeO (ostiarylaw20_known.f k ) (ostiarylaw20_known.f (k + 1) ) := by
 intro  k
 unfold ostiarylaw20_known.f
 repeat' first
   | (with_reducible exact ostiarykeep_SameResponse.mono _ _ _ _ _ _ _ _ _ _ _)
   | (with_reducible exact LeO.refl _)
   | (with_reducible exact LeO.none _)
   | (with_reducible refine LeO.ite ?_ ?_)
   | (with_reducible refine LeO.bind ?_ (fun _ => ?_))
   | exact ostiarykeep_SameResponse.mono _ _ _ _ _ _ _ _ _ _ _
   | exact LeO.none _
   | refine LeO.ite ?_ ?_
   | refine LeO.bind ?_ (fun _ => ?_)
def ostiarylaw20_known.T3 : Bool × List (List Nat × List Nat) := (true, [([], []), ([], []), ([1], [1]), ([2], [2]), ([0, 3, 1], [0, 3]), ([4, 4], [4]), ([5], [5]), ([5, 5], [5]), ([7, 5], [5, 7]), ([8, 5], [5, 8]), ([6, 9, 7, 5], [5, 6, 9]), ([5, 10], [5, 10]), ([11, 10, 0, 1, 2, 3, 4, 5, 6, 7, 8, 9, 10, 11], [11])])
def ostiarylaw20_known.B3 : List Nat := [0, 0, 2, 6, 15, 31, 63, 63, 191, 447, 1023, 2047, 4095]
theorem ostiarylaw20_known.tab3 : rtab .any (opsOf Tryz.f60 3) = ostiarylaw20_known.T3 := by kernel_rfl
theorem ostiarylaw20_known.bits3 : waitsOk ostiarylaw20_known.T3.2 ostiarylaw20_known.B3 = true := by kernel_rfl
set_option maxHeartbeats 8000000 in
set_option maxRecDepth 100000 in
theorem ostiarylaw20_known.calls (k : Nat)  (w : World) (h : ostiarylaw20_known.f k  = some true) :
  Calls Tryz.prog 60 #[] w fun e w' => e = .returned (.bool true) ∧ Below w.heap.size w w' := by
 have hu28 := Tryz.underlying28
 have hu93 := Tryz.underlying93
 have HB := Aside0.mk (Below.refl w.heap.size w)
 have H : ((ostiarylaw20_h.f (⟨#[83, 101, 116, 45, 67, 111, 111, 107, 105, 101]⟩ : ByteArray) (⟨#[97]⟩ : ByteArray)).bind fun bt212 => ((ostiarylaw20_h.f (⟨#[88]⟩ : ByteArray) (⟨#[98]⟩ : ByteArray)).bind fun bt214 => ((filter_Own.f 200 (([(⟨bt212.1, bt212.2⟩ : S30), (⟨bt214.1, bt214.2⟩ : S30)] : List (S30))) ([] : List Int) (⟨#[117]⟩ : ByteArray)).bind fun bt219 => ((ostiarylaw20_h.f (⟨#[88]⟩ : ByteArray) (⟨#[98]⟩ : ByteArray)).bind fun bt229 => ((ostiarylaw20_h.f (⟨#[101, 120, 112, 105, 114, 101, 115]⟩ : ByteArray) (⟨#[99]⟩ : ByteArray)).bind fun bt231 => ((filter_Share.f 200 (([(⟨bt229.1, bt229.2⟩ : S30), (⟨bt231.1, bt231.2⟩ : S30)] : List (S30))) ([] : List Int) (⟨#[117]⟩ : ByteArray) false).bind fun bt236 => ((ostiarylaw20_h.f (⟨#[88]⟩ : ByteArray) (⟨#[98]⟩ : ByteArray)).bind fun bt246 => ((ostiarykeep_SameResponse.f k bt219.1 bt219.2.1 bt219.2.2.1 bt219.2.2.2.1 bt219.2.2.2.2 2 200 (([(⟨bt246.1, bt246.2⟩ : S30)] : List (S30))) ([] : List Int) (⟨#[117]⟩ : ByteArray)).bind fun t251 => (if t251 = true then ((ostiarylaw20_h.f (⟨#[101, 120, 112, 105, 114, 101, 115]⟩ : ByteArray) (⟨#[99]⟩ : ByteArray)).bind fun bt252 => ((ostiarykeep_SameResponse.f k bt236.1 bt236.2.1 bt236.2.2.1 bt236.2.2.2.1 bt236.2.2.2.2 3 200 (([(⟨bt252.1, bt252.2⟩ : S30)] : List (S30))) ([] : List Int) (⟨#[117]⟩ : ByteArray)).bind fun t257 => (some t257))) else (some false)))))))))) = some true := h
 clear h
 replace H := Option.bind_eq_some_iff.mp H
 obtain ⟨⟨t212, t213⟩, A10, H⟩ := H
 replace H : ((ostiarylaw20_h.f (⟨#[88]⟩ : ByteArray) (⟨#[98]⟩ : ByteArray)).bind fun bt214 => ((filter_Own.f 200 (([(⟨t212, t213⟩ : S30), (⟨bt214.1, bt214.2⟩ : S30)] : List (S30))) ([] : List Int) (⟨#[117]⟩ : ByteArray)).bind fun bt219 => ((ostiarylaw20_h.f (⟨#[88]⟩ : ByteArray) (⟨#[98]⟩ : ByteArray)).bind fun bt229 => ((ostiarylaw20_h.f (⟨#[101, 120, 112, 105, 114, 101, 115]⟩ : ByteArray) (⟨#[99]⟩ : ByteArray)).bind fun bt231 => ((filter_Share.f 200 (([(⟨bt229.1, bt229.2⟩ : S30), (⟨bt231.1, bt231.2⟩ : S30)] : List (S30))) ([] : List Int) (⟨#[117]⟩ : ByteArray) false).bind fun bt236 => ((ostiarylaw20_h.f (⟨#[88]⟩ : ByteArray) (⟨#[98]⟩ : ByteArray)).bind fun bt246 => ((ostiarykeep_SameResponse.f k bt219.1 bt219.2.1 bt219.2.2.1 bt219.2.2.2.1 bt219.2.2.2.2 2 200 (([(⟨bt246.1, bt246.2⟩ : S30)] : List (S30))) ([] : List Int) (⟨#[117]⟩ : ByteArray)).bind fun t251 => (if t251 = true then ((ostiarylaw20_h.f (⟨#[101, 120, 112, 105, 114, 101, 115]⟩ : ByteArray) (⟨#[99]⟩ : ByteArray)).bind fun bt252 => ((ostiarykeep_SameResponse.f k bt236.1 bt236.2.1 bt236.2.2.1 bt236.2.2.2.1 bt236.2.2.2.2 3 200 (([(⟨bt252.1, bt252.2⟩ : S30)] : List (S30))) ([] : List Int) (⟨#[117]⟩ : ByteArray)).bind fun t257 => (some t257))) else (some false))))))))) = some true := H
 have A1 := Aside0.mk A10
 clear A10
 replace H := Option.bind_eq_some_iff.mp H
 obtain ⟨⟨t214, t215⟩, A20, H⟩ := H
 replace H : ((filter_Own.f 200 (([(⟨t212, t213⟩ : S30), (⟨t214, t215⟩ : S30)] : List (S30))) ([] : List Int) (⟨#[117]⟩ : ByteArray)).bind fun bt219 => ((ostiarylaw20_h.f (⟨#[88]⟩ : ByteArray) (⟨#[98]⟩ : ByteArray)).bind fun bt229 => ((ostiarylaw20_h.f (⟨#[101, 120, 112, 105, 114, 101, 115]⟩ : ByteArray) (⟨#[99]⟩ : ByteArray)).bind fun bt231 => ((filter_Share.f 200 (([(⟨bt229.1, bt229.2⟩ : S30), (⟨bt231.1, bt231.2⟩ : S30)] : List (S30))) ([] : List Int) (⟨#[117]⟩ : ByteArray) false).bind fun bt236 => ((ostiarylaw20_h.f (⟨#[88]⟩ : ByteArray) (⟨#[98]⟩ : ByteArray)).bind fun bt246 => ((ostiarykeep_SameResponse.f k bt219.1 bt219.2.1 bt219.2.2.1 bt219.2.2.2.1 bt219.2.2.2.2 2 200 (([(⟨bt246.1, bt246.2⟩ : S30)] : List (S30))) ([] : List Int) (⟨#[117]⟩ : ByteArray)).bind fun t251 => (if t251 = true then ((ostiarylaw20_h.f (⟨#[101, 120, 112, 105, 114, 101, 115]⟩ : ByteArray) (⟨#[99]⟩ : ByteArray)).bind fun bt252 => ((ostiarykeep_SameResponse.f k bt236.1 bt236.2.1 bt236.2.2.1 bt236.2.2.2.1 bt236.2.2.2.2 3 200 (([(⟨bt252.1, bt252.2⟩ : S30)] : List (S30))) ([] : List Int) (⟨#[117]⟩ : ByteArray)).bind fun t257 => (some t257))) else (some false)))))))) = some true := H
 have A2 := Aside0.mk A20
 clear A20
 obtain ⟨y216, hy216⟩ : ∃ y_ : List (S30), y_ = (([(⟨t212, t213⟩ : S30), (⟨t214, t215⟩ : S30)] : List (S30))) := ⟨_, rfl⟩
 replace H : ((filter_Own.f 200 y216 ([] : List Int) (⟨#[117]⟩ : ByteArray)).bind fun bt219 => ((ostiarylaw20_h.f (⟨#[88]⟩ : ByteArray) (⟨#[98]⟩ : ByteArray)).bind fun bt229 => ((ostiarylaw20_h.f (⟨#[101, 120, 112, 105, 114, 101, 115]⟩ : ByteArray) (⟨#[99]⟩ : ByteArray)).bind fun bt231 => ((filter_Share.f 200 (([(⟨bt229.1, bt229.2⟩ : S30), (⟨bt231.1, bt231.2⟩ : S30)] : List (S30))) ([] : List Int) (⟨#[117]⟩ : ByteArray) false).bind fun bt236 => ((ostiarylaw20_h.f (⟨#[88]⟩ : ByteArray) (⟨#[98]⟩ : ByteArray)).bind fun bt246 => ((ostiarykeep_SameResponse.f k bt219.1 bt219.2.1 bt219.2.2.1 bt219.2.2.2.1 bt219.2.2.2.2 2 200 (([(⟨bt246.1, bt246.2⟩ : S30)] : List (S30))) ([] : List Int) (⟨#[117]⟩ : ByteArray)).bind fun t251 => (if t251 = true then ((ostiarylaw20_h.f (⟨#[101, 120, 112, 105, 114, 101, 115]⟩ : ByteArray) (⟨#[99]⟩ : ByteArray)).bind fun bt252 => ((ostiarykeep_SameResponse.f k bt236.1 bt236.2.1 bt236.2.2.1 bt236.2.2.2.1 bt236.2.2.2.2 3 200 (([(⟨bt252.1, bt252.2⟩ : S30)] : List (S30))) ([] : List Int) (⟨#[117]⟩ : ByteArray)).bind fun t257 => (some t257))) else (some false)))))))) = some true := by first | (rw [hy216]; with_reducible exact H) | (have H2_ := (Option.bind_some _ _).symm.trans H; rw [hy216]; with_reducible exact H2_) | (have H2_ := (Option.bind_some _ _).symm.trans H; with_reducible exact H2_) | with_reducible exact H | (rw [hy216]; exact H) | exact H
 have Ny216 := Aside0.mk hy216
 clear hy216
 replace H := Option.bind_eq_some_iff.mp H
 obtain ⟨⟨t219, t220, t221, t224, t227⟩, A30, H⟩ := H
 replace H : ((ostiarylaw20_h.f (⟨#[88]⟩ : ByteArray) (⟨#[98]⟩ : ByteArray)).bind fun bt229 => ((ostiarylaw20_h.f (⟨#[101, 120, 112, 105, 114, 101, 115]⟩ : ByteArray) (⟨#[99]⟩ : ByteArray)).bind fun bt231 => ((filter_Share.f 200 (([(⟨bt229.1, bt229.2⟩ : S30), (⟨bt231.1, bt231.2⟩ : S30)] : List (S30))) ([] : List Int) (⟨#[117]⟩ : ByteArray) false).bind fun bt236 => ((ostiarylaw20_h.f (⟨#[88]⟩ : ByteArray) (⟨#[98]⟩ : ByteArray)).bind fun bt246 => ((ostiarykeep_SameResponse.f k t219 t220 t221 t224 t227 2 200 (([(⟨bt246.1, bt246.2⟩ : S30)] : List (S30))) ([] : List Int) (⟨#[117]⟩ : ByteArray)).bind fun t251 => (if t251 = true then ((ostiarylaw20_h.f (⟨#[101, 120, 112, 105, 114, 101, 115]⟩ : ByteArray) (⟨#[99]⟩ : ByteArray)).bind fun bt252 => ((ostiarykeep_SameResponse.f k bt236.1 bt236.2.1 bt236.2.2.1 bt236.2.2.2.1 bt236.2.2.2.2 3 200 (([(⟨bt252.1, bt252.2⟩ : S30)] : List (S30))) ([] : List Int) (⟨#[117]⟩ : ByteArray)).bind fun t257 => (some t257))) else (some false))))))) = some true := H
 have A3 := Aside0.mk A30
 clear A30
 replace H := Option.bind_eq_some_iff.mp H
 obtain ⟨⟨t229, t230⟩, A40, H⟩ := H
 replace H : ((ostiarylaw20_h.f (⟨#[101, 120, 112, 105, 114, 101, 115]⟩ : ByteArray) (⟨#[99]⟩ : ByteArray)).bind fun bt231 => ((filter_Share.f 200 (([(⟨t229, t230⟩ : S30), (⟨bt231.1, bt231.2⟩ : S30)] : List (S30))) ([] : List Int) (⟨#[117]⟩ : ByteArray) false).bind fun bt236 => ((ostiarylaw20_h.f (⟨#[88]⟩ : ByteArray) (⟨#[98]⟩ : ByteArray)).bind fun bt246 => ((ostiarykeep_SameResponse.f k t219 t220 t221 t224 t227 2 200 (([(⟨bt246.1, bt246.2⟩ : S30)] : List (S30))) ([] : List Int) (⟨#[117]⟩ : ByteArray)).bind fun t251 => (if t251 = true then ((ostiarylaw20_h.f (⟨#[101, 120, 112, 105, 114, 101, 115]⟩ : ByteArray) (⟨#[99]⟩ : ByteArray)).bind fun bt252 => ((ostiarykeep_SameResponse.f k bt236.1 bt236.2.1 bt236.2.2.1 bt236.2.2.2.1 bt236.2.2.2.2 3 200 (([(⟨bt252.1, bt252.2⟩ : S30)] : List (S30))) ([] : List Int) (⟨#[117]⟩ : ByteArray)).bind fun t257 => (some t257))) else (some false)))))) = some true := H
 have A4 := Aside0.mk A40
 clear A40
 replace H := Option.bind_eq_some_iff.mp H
 obtain ⟨⟨t231, t232⟩, A50, H⟩ := H
 replace H : ((filter_Share.f 200 (([(⟨t229, t230⟩ : S30), (⟨t231, t232⟩ : S30)] : List (S30))) ([] : List Int) (⟨#[117]⟩ : ByteArray) false).bind fun bt236 => ((ostiarylaw20_h.f (⟨#[88]⟩ : ByteArray) (⟨#[98]⟩ : ByteArray)).bind fun bt246 => ((ostiarykeep_SameResponse.f k t219 t220 t221 t224 t227 2 200 (([(⟨bt246.1, bt246.2⟩ : S30)] : List (S30))) ([] : List Int) (⟨#[117]⟩ : ByteArray)).bind fun t251 => (if t251 = true then ((ostiarylaw20_h.f (⟨#[101, 120, 112, 105, 114, 101, 115]⟩ : ByteArray) (⟨#[99]⟩ : ByteArray)).bind fun bt252 => ((ostiarykeep_SameResponse.f k bt236.1 bt236.2.1 bt236.2.2.1 bt236.2.2.2.1 bt236.2.2.2.2 3 200 (([(⟨bt252.1, bt252.2⟩ : S30)] : List (S30))) ([] : List Int) (⟨#[117]⟩ : ByteArray)).bind fun t257 => (some t257))) else (some false))))) = some true := H
 have A5 := Aside0.mk A50
 clear A50
 obtain ⟨y233, hy233⟩ : ∃ y_ : List (S30), y_ = (([(⟨t229, t230⟩ : S30), (⟨t231, t232⟩ : S30)] : List (S30))) := ⟨_, rfl⟩
 replace H : ((filter_Share.f 200 y233 ([] : List Int) (⟨#[117]⟩ : ByteArray) false).bind fun bt236 => ((ostiarylaw20_h.f (⟨#[88]⟩ : ByteArray) (⟨#[98]⟩ : ByteArray)).bind fun bt246 => ((ostiarykeep_SameResponse.f k t219 t220 t221 t224 t227 2 200 (([(⟨bt246.1, bt246.2⟩ : S30)] : List (S30))) ([] : List Int) (⟨#[117]⟩ : ByteArray)).bind fun t251 => (if t251 = true then ((ostiarylaw20_h.f (⟨#[101, 120, 112, 105, 114, 101, 115]⟩ : ByteArray) (⟨#[99]⟩ : ByteArray)).bind fun bt252 => ((ostiarykeep_SameResponse.f k bt236.1 bt236.2.1 bt236.2.2.1 bt236.2.2.2.1 bt236.2.2.2.2 3 200 (([(⟨bt252.1, bt252.2⟩ : S30)] : List (S30))) ([] : List Int) (⟨#[117]⟩ : ByteArray)).bind fun t257 => (some t257))) else (some false))))) = some true := by first | (rw [hy233]; with_reducible exact H) | (have H2_ := (Option.bind_some _ _).symm.trans H; rw [hy233]; with_reducible exact H2_) | (have H2_ := (Option.bind_some _ _).symm.trans H; with_reducible exact H2_) | with_reducible exact H | (rw [hy233]; exact H) | exact H
 have Ny233 := Aside0.mk hy233
 clear hy233
 replace H := Option.bind_eq_some_iff.mp H
 obtain ⟨⟨t236, t237, t238, t241, t244⟩, A60, H⟩ := H
 replace H : ((ostiarylaw20_h.f (⟨#[88]⟩ : ByteArray) (⟨#[98]⟩ : ByteArray)).bind fun bt246 => ((ostiarykeep_SameResponse.f k t219 t220 t221 t224 t227 2 200 (([(⟨bt246.1, bt246.2⟩ : S30)] : List (S30))) ([] : List Int) (⟨#[117]⟩ : ByteArray)).bind fun t251 => (if t251 = true then ((ostiarylaw20_h.f (⟨#[101, 120, 112, 105, 114, 101, 115]⟩ : ByteArray) (⟨#[99]⟩ : ByteArray)).bind fun bt252 => ((ostiarykeep_SameResponse.f k t236 t237 t238 t241 t244 3 200 (([(⟨bt252.1, bt252.2⟩ : S30)] : List (S30))) ([] : List Int) (⟨#[117]⟩ : ByteArray)).bind fun t257 => (some t257))) else (some false)))) = some true := H
 have A6 := Aside0.mk A60
 clear A60
 replace H := Option.bind_eq_some_iff.mp H
 obtain ⟨⟨t246, t247⟩, A70, H⟩ := H
 replace H : ((ostiarykeep_SameResponse.f k t219 t220 t221 t224 t227 2 200 (([(⟨t246, t247⟩ : S30)] : List (S30))) ([] : List Int) (⟨#[117]⟩ : ByteArray)).bind fun t251 => (if t251 = true then ((ostiarylaw20_h.f (⟨#[101, 120, 112, 105, 114, 101, 115]⟩ : ByteArray) (⟨#[99]⟩ : ByteArray)).bind fun bt252 => ((ostiarykeep_SameResponse.f k t236 t237 t238 t241 t244 3 200 (([(⟨bt252.1, bt252.2⟩ : S30)] : List (S30))) ([] : List Int) (⟨#[117]⟩ : ByteArray)).bind fun t257 => (some t257))) else (some false))) = some true := H
 have A7 := Aside0.mk A70
 clear A70
 obtain ⟨y248, hy248⟩ : ∃ y_ : List (S30), y_ = (([(⟨t246, t247⟩ : S30)] : List (S30))) := ⟨_, rfl⟩
 replace H : ((ostiarykeep_SameResponse.f k t219 t220 t221 t224 t227 2 200 y248 ([] : List Int) (⟨#[117]⟩ : ByteArray)).bind fun t251 => (if t251 = true then ((ostiarylaw20_h.f (⟨#[101, 120, 112, 105, 114, 101, 115]⟩ : ByteArray) (⟨#[99]⟩ : ByteArray)).bind fun bt252 => ((ostiarykeep_SameResponse.f k t236 t237 t238 t241 t244 3 200 (([(⟨bt252.1, bt252.2⟩ : S30)] : List (S30))) ([] : List Int) (⟨#[117]⟩ : ByteArray)).bind fun t257 => (some t257))) else (some false))) = some true := by first | (rw [hy248]; with_reducible exact H) | (have H2_ := (Option.bind_some _ _).symm.trans H; rw [hy248]; with_reducible exact H2_) | (have H2_ := (Option.bind_some _ _).symm.trans H; with_reducible exact H2_) | with_reducible exact H | (rw [hy248]; exact H) | exact H
 have Ny248 := Aside0.mk hy248
 clear hy248
 replace H := Option.bind_eq_some_iff.mp H
 obtain ⟨t251, A80, H⟩ := H
 replace H : (if t251 = true then ((ostiarylaw20_h.f (⟨#[101, 120, 112, 105, 114, 101, 115]⟩ : ByteArray) (⟨#[99]⟩ : ByteArray)).bind fun bt252 => ((ostiarykeep_SameResponse.f k t236 t237 t238 t241 t244 3 200 (([(⟨bt252.1, bt252.2⟩ : S30)] : List (S30))) ([] : List Int) (⟨#[117]⟩ : ByteArray)).bind fun t257 => (some t257))) else (some false)) = some true := H
 have A8 := Aside0.mk A80
 clear A80
 by_cases c9 : t251 = true
 ·subst c9
  have H1 : ((ostiarylaw20_h.f (⟨#[101, 120, 112, 105, 114, 101, 115]⟩ : ByteArray) (⟨#[99]⟩ : ByteArray)).bind fun bt252 => ((ostiarykeep_SameResponse.f k t236 t237 t238 t241 t244 3 200 (([(⟨bt252.1, bt252.2⟩ : S30)] : List (S30))) ([] : List Int) (⟨#[117]⟩ : ByteArray)).bind fun t257 => (some t257))) = some true := by rw [if_pos rfl] at H; exact H
  clear H
  have H := H1
  clear H1
  replace H := Option.bind_eq_some_iff.mp H
  obtain ⟨⟨t252, t253⟩, A100, H⟩ := H
  replace H : ((ostiarykeep_SameResponse.f k t236 t237 t238 t241 t244 3 200 (([(⟨t252, t253⟩ : S30)] : List (S30))) ([] : List Int) (⟨#[117]⟩ : ByteArray)).bind fun t257 => (some t257)) = some true := H
  have A10 := Aside0.mk A100
  clear A100
  obtain ⟨y254, hy254⟩ : ∃ y_ : List (S30), y_ = (([(⟨t252, t253⟩ : S30)] : List (S30))) := ⟨_, rfl⟩
  replace H : ((ostiarykeep_SameResponse.f k t236 t237 t238 t241 t244 3 200 y254 ([] : List Int) (⟨#[117]⟩ : ByteArray)).bind fun t257 => (some t257)) = some true := by first | (rw [hy254]; with_reducible exact H) | (have H2_ := (Option.bind_some _ _).symm.trans H; rw [hy254]; with_reducible exact H2_) | (have H2_ := (Option.bind_some _ _).symm.trans H; with_reducible exact H2_) | with_reducible exact H | (rw [hy254]; exact H) | exact H
  have Ny254 := Aside0.mk hy254
  clear hy254
  replace H := Option.bind_eq_some_iff.mp H
  obtain ⟨t257, A110, H⟩ := H
  replace H : (some t257) = some true := H
  have A11 := Aside0.mk A110
  clear A110
  obtain rfl := Option.some.inj H
  go_enter Tryz.func60, Tryz.ntmps60
  try go_wp2_with (first | ((with_reducible refine gate_callee (f := 116) rfl ?_); refine goesL_ (some 3) rfl rfl Tryz.func116 q9_ rfl #[.string (⟨#[83, 101, 116, 45, 67, 111, 111, 107, 105, 101]⟩ : ByteArray), .string (⟨#[97]⟩ : ByteArray)] rfl tS ?_; (with_reducible refine (ostiarylaw20_h.calls (⟨#[83, 101, 116, 45, 67, 111, 111, 107, 105, 101]⟩ : ByteArray) (⟨#[97]⟩ : ByteArray) t212 t213 _ A1.out).mono ?_); rintro e w12 ⟨rfl, hb⟩; refine ⟨_, rfl, ?_⟩; have n0_ := Aside0.mk (below_step hB hb); clear HB; have HB := n0_; clear n0_; (try clear hb); (try clear hb2); (try clear hk); (try clear hi)) | ((with_reducible refine gate_callee (f := 116) rfl ?_); refine goesL_ (some 4) rfl rfl Tryz.func116 q9_ rfl #[.string (⟨#[88]⟩ : ByteArray), .string (⟨#[98]⟩ : ByteArray)] rfl tS ?_; (with_reducible refine (ostiarylaw20_h.calls (⟨#[88]⟩ : ByteArray) (⟨#[98]⟩ : ByteArray) t214 t215 _ A2.out).mono ?_); rintro e w13 ⟨rfl, hb⟩; refine ⟨_, rfl, ?_⟩; have n0_ := Aside0.mk (below_step hB hb); clear HB; have HB := n0_; clear n0_; (try clear hb); (try clear hb2); (try clear hk); (try clear hi)) | ((with_reducible refine gate_dst (N := 5) rfl ?_); (try (refine gate_guard (by rfl) ?_; dsimp only)); refine Kd.R_lit k30 _ 30 ?hg (N := 5) ?hd (xs := ([(⟨t212, t213⟩ : S30), (⟨t214, t215⟩ : S30)] : List (S30))) (inner := [.string t212, .string t213, .string t214, .string t215]) (ok := fun _ => True) (okp := fun _ => True) ?hr ?hp (fun _ hk => hk) trivial (Below.refl _ _) (Nat.le_refl _) (by simp) ?_; (case hd => rfl); (case hg => rfl); (case hr => first | (go_simp; done) | (go_simp; rfl)); (case hp => exact (Reps.c2 (show Kd.M k30 _ _ _ (⟨t212, t213⟩ : S30) [.string t212, .string t213] from (k30_mkM _ _ _ (⟨t212, t213⟩ : S30) )) (Reps.c2 (show Kd.M k30 _ _ _ (⟨t214, t215⟩ : S30) [.string t214, .string t215] from (k30_mkM _ _ _ (⟨t214, t215⟩ : S30) )) (Reps.none _ _)))); intro v217 w14 ho15 hb hg_ hnew_; clear hg_ hnew_; (first | rw [← Ny216.out] at ho15 | (simp only [Int.reduceToNat] at ho15; rw [← Ny216.out] at ho15)); have n0_ := Aside0.mk (Kd.R_lower ho15 (below_size hB)); have n1_ := Aside0.mk (below_step hB hb); clear HB; have HO218 := n0_; have HB := n1_; clear n0_ n1_; clear hb ho15; obtain ⟨Ao16, co16, eo16⟩ := Kd.R_slice HO218.out; subst eo16) | ((with_reducible refine gate_callee (f := 55) rfl ?_); refine goesL_ (some 7) rfl rfl Tryz.func55 q9_ rfl #[.agg #[.int .i64 200, .slice Ao16 y216.length co16, .slice none 0 0], .string (⟨#[117]⟩ : ByteArray)] rfl tS ?_; (refine (filter_Own.calls 200 _ _ y216 _ _ ([] : List Int) (⟨#[117]⟩ : ByteArray) t219 t220 t221 t224 t227 _ ?side1 ?side2 ?side3 ?side4 A3.out).mono ?_); (case side1 => repeat (first | exact (Kd.R_reads' HO218.out).2.2 | (with_reducible refine Kd.C_alloc ?_ _) | (with_reducible refine Kd.C_drewN ?_ _) | (with_reducible refine Kd.C_drew ?_))); (case side2 => exact (Kd.R_reads' HO218.out).2.1); (case side3 => exact Kd.C_nil _ _); (case side4 => exact Nat.le_refl _); rintro e w17 ⟨v222, v225, rfl, ho0, ho1, hb⟩; refine ⟨_, rfl, ?_⟩; have n0_ := Aside0.mk (Kd.R_elder' q20_ (Kd.R_base ho0) hb); have n1_ := Aside0.mk (Kd.R_lower (Kd.R_new' ho0 (Kd.R_lt q20_)) (below_size hB)); have n2_ := Aside0.mk (Kd.R_lower ho1 (below_size hB)); have n3_ := Aside0.mk (below_step hB hb); clear HO218; clear HB; have HO218 := n0_; have HO223 := n1_; have HO226 := n2_; have HB := n3_; clear n0_ n1_ n2_ n3_; (try clear hb); (try clear hb2); (try clear hk); (try clear hi); (try clear ho0); (try clear ho1)) | ((with_reducible refine gate_dst (N := 1) rfl ?_); (try (refine gate_guard (by rfl) ?_; dsimp only)); refine box_event ?hg (N := 1) ?hd (cs := #[.int .i64 0, .int .i64 0, .slice none 0 0, .slice none 0 0, .string (⟨#[]⟩ : ByteArray)]) (t := 93) ?hr ?_; (case hd => rfl); (case hg => rfl); (case hr => first | (go_simp; done) | (go_simp; rfl)); intro gb228 hg w18 hbox hb; have n0_ := Aside0.mk (Kd.R_below q20_ hb); have n1_ := Aside0.mk (Kd.R_below q29_ hb); have n2_ := Aside0.mk (Kd.R_below (by (with_reducible repeat (first | apply Kd.R_alloc | apply Kd.R_drewN | apply Kd.R_drew)); exact HO226.out) hb); have n3_ := Aside0.mk (below_step hB hb); have n4_ := Aside0.mk (hbox); have n5_ := Aside0.mk ((by rw [hg]; exact (below_size hB) : w.heap.size ≤ gb228)); have n6_ := Aside0.mk ((by rw [hg]; exact (below_size hB) : w.heap.size ≤ gb228)); clear HO218; clear HO223; clear HO226; clear HB; have HO218 := n0_; have HO223 := n1_; have HO226 := n2_; have HB := n3_; have BK228 := n4_; have GW228 := n5_; have GE228 := n6_; clear n0_ n1_ n2_ n3_ n4_ n5_ n6_; clear hb hbox hg; have hcz19_0 : w18.cell? ⟨gb228, 0, none⟩ = some (.int .i64 0) := (blk_cell BK228.out 0).trans rfl; have hcz19_1 : w18.cell? ⟨gb228, 1, none⟩ = some (.int .i64 0) := (blk_cell BK228.out 1).trans rfl; have hcz19_2 : w18.cell? ⟨gb228, 2, none⟩ = some (.slice none 0 0) := (blk_cell BK228.out 2).trans rfl; have hcz19_3 : w18.cell? ⟨gb228, 3, none⟩ = some (.slice none 0 0) := (blk_cell BK228.out 3).trans rfl; have hcz19_4 : w18.cell? ⟨gb228, 4, none⟩ = some (.string (⟨#[]⟩ : ByteArray)) := (blk_cell BK228.out 4).trans rfl; have hfz19_0 := blk_frozen BK228.out 0; have hfz19_1 := blk_frozen BK228.out 1; have hfz19_2 := blk_frozen BK228.out 2; have hfz19_3 := blk_frozen BK228.out 3; have hfz19_4 := blk_frozen BK228.out 4; obtain ⟨Ao20, co20, eo20⟩ := Kd.R_slice HO223.out; subst eo20; obtain ⟨Ao21, co21, eo21⟩ := Kd.R_slice HO226.out; subst eo21) | ((with_reducible refine gate_callee (f := 116) rfl ?_); refine goesL_ (some 8) rfl rfl Tryz.func116 q9_ rfl #[.string (⟨#[88]⟩ : ByteArray), .string (⟨#[98]⟩ : ByteArray)] rfl tS ?_; (with_reducible refine (ostiarylaw20_h.calls (⟨#[88]⟩ : ByteArray) (⟨#[98]⟩ : ByteArray) t229 t230 _ A4.out).mono ?_); rintro e w22 ⟨rfl, hb⟩; refine ⟨_, rfl, ?_⟩; have n0_ := Aside0.mk (Kd.R_below (by (with_reducible repeat (first | apply Kd.R_alloc | apply Kd.R_drewN | apply Kd.R_drew)); exact (Kd.R_mono (Kd.R_far (p := ⟨gb228, 4, none⟩) (Kd.R_far (p := ⟨gb228, 3, none⟩) (Kd.R_far (p := ⟨gb228, 2, none⟩) (Kd.R_far (p := ⟨gb228, 1, none⟩) (Kd.R_far (p := ⟨gb228, 0, none⟩) (Kd.R_types HO218.out BK228.out (by decide)) (fun _ hk => hk.2) (.int .i64 t219)) (fun _ hk => hk.2) (.int .i64 t220)) (fun _ hk => hk.2) (.slice Ao20 t221.length co20)) (fun _ hk => hk.2) (.slice Ao21 t224.length co21)) (fun _ hk => hk.2) (.string t227)) (fun _ h_ => h_.1))) hb); have n1_ := Aside0.mk (Kd.R_below (by (with_reducible repeat (first | apply Kd.R_alloc | apply Kd.R_drewN | apply Kd.R_drew)); exact (Kd.R_mono (Kd.R_far (p := ⟨gb228, 4, none⟩) (Kd.R_far (p := ⟨gb228, 3, none⟩) (Kd.R_far (p := ⟨gb228, 2, none⟩) (Kd.R_far (p := ⟨gb228, 1, none⟩) (Kd.R_far (p := ⟨gb228, 0, none⟩) (Kd.R_types HO223.out BK228.out (by decide)) (fun _ hk => hk.2) (.int .i64 t219)) (fun _ hk => hk.2) (.int .i64 t220)) (fun _ hk => hk.2) (.slice Ao20 t221.length co20)) (fun _ hk => hk.2) (.slice Ao21 t224.length co21)) (fun _ hk => hk.2) (.string t227)) (fun _ h_ => h_.1))) hb); have n2_ := Aside0.mk (Kd.R_below (by (with_reducible repeat (first | apply Kd.R_alloc | apply Kd.R_drewN | apply Kd.R_drew)); exact (Kd.R_mono (Kd.R_far (p := ⟨gb228, 4, none⟩) (Kd.R_far (p := ⟨gb228, 3, none⟩) (Kd.R_far (p := ⟨gb228, 2, none⟩) (Kd.R_far (p := ⟨gb228, 1, none⟩) (Kd.R_far (p := ⟨gb228, 0, none⟩) (Kd.R_types HO226.out BK228.out (by decide)) (fun _ hk => hk.2) (.int .i64 t219)) (fun _ hk => hk.2) (.int .i64 t220)) (fun _ hk => hk.2) (.slice Ao20 t221.length co20)) (fun _ hk => hk.2) (.slice Ao21 t224.length co21)) (fun _ hk => hk.2) (.string t227)) (fun _ h_ => h_.1))) hb); have n3_ := Aside0.mk (blk_below (g := gb228) (o := .cells #[.int .i64 t219, .int .i64 t220, .slice Ao20 t221.length co20, .slice Ao21 t224.length co21, .string t227] 93 (0, 0)) (by (with_reducible repeat (first | refine blk_drewN ?_ _ | refine blk_drew ?_ | refine blk_alloc ?_ _)); refine blk_put (cs := #[.int .i64 t219, .int .i64 t220, .slice Ao20 t221.length co20, .slice Ao21 t224.length co21, .string (⟨#[]⟩ : ByteArray)]) ?_ 4 _ rfl; (with_reducible repeat (first | refine blk_drewN ?_ _ | refine blk_drew ?_ | refine blk_alloc ?_ _)); refine blk_put (cs := #[.int .i64 t219, .int .i64 t220, .slice Ao20 t221.length co20, .slice none 0 0, .string (⟨#[]⟩ : ByteArray)]) ?_ 3 _ rfl; (with_reducible repeat (first | refine blk_drewN ?_ _ | refine blk_drew ?_ | refine blk_alloc ?_ _)); refine blk_put (cs := #[.int .i64 t219, .int .i64 t220, .slice none 0 0, .slice none 0 0, .string (⟨#[]⟩ : ByteArray)]) ?_ 2 _ rfl; (with_reducible repeat (first | refine blk_drewN ?_ _ | refine blk_drew ?_ | refine blk_alloc ?_ _)); refine blk_put (cs := #[.int .i64 t219, .int .i64 0, .slice none 0 0, .slice none 0 0, .string (⟨#[]⟩ : ByteArray)]) ?_ 1 _ rfl; (with_reducible repeat (first | refine blk_drewN ?_ _ | refine blk_drew ?_ | refine blk_alloc ?_ _)); refine blk_put (cs := #[.int .i64 0, .int .i64 0, .slice none 0 0, .slice none 0 0, .string (⟨#[]⟩ : ByteArray)]) ?_ 0 _ rfl; (with_reducible repeat (first | refine blk_drewN ?_ _ | refine blk_drew ?_ | refine blk_alloc ?_ _)); exact BK228.out) hb); have n4_ := Aside0.mk (below_step q28_ hb); clear HO218; clear HO223; clear HO226; clear BK228; clear HB; have HO218 := n0_; have HO223 := n1_; have HO226 := n2_; have BK228 := n3_; have HB := n4_; clear n0_ n1_ n2_ n3_ n4_; (try clear hb); (try clear hb2); (try clear hk); (try clear hi)) | ((with_reducible refine gate_callee (f := 116) rfl ?_); refine goesL_ (some 9) rfl rfl Tryz.func116 q9_ rfl #[.string (⟨#[101, 120, 112, 105, 114, 101, 115]⟩ : ByteArray), .string (⟨#[99]⟩ : ByteArray)] rfl tS ?_; (with_reducible refine (ostiarylaw20_h.calls (⟨#[101, 120, 112, 105, 114, 101, 115]⟩ : ByteArray) (⟨#[99]⟩ : ByteArray) t231 t232 _ A5.out).mono ?_); rintro e w23 ⟨rfl, hb⟩; refine ⟨_, rfl, ?_⟩; have n0_ := Aside0.mk (Kd.R_below q20_ hb); have n1_ := Aside0.mk (Kd.R_below q29_ hb); have n2_ := Aside0.mk (Kd.R_below (by (with_reducible repeat (first | apply Kd.R_alloc | apply Kd.R_drewN | apply Kd.R_drew)); exact HO226.out) hb); have n3_ := Aside0.mk (blk_below (g := gb228) (o := .cells #[.int .i64 t219, .int .i64 t220, .slice Ao20 t221.length co20, .slice Ao21 t224.length co21, .string t227] 93 (0, 0)) q37_ hb); have n4_ := Aside0.mk (below_step q28_ hb); clear HO218; clear HO223; clear HO226; clear BK228; clear HB; have HO218 := n0_; have HO223 := n1_; have HO226 := n2_; have BK228 := n3_; have HB := n4_; clear n0_ n1_ n2_ n3_ n4_; (try clear hb); (try clear hb2); (try clear hk); (try clear hi)) | ((with_reducible refine gate_dst (N := 10) rfl ?_); (try (refine gate_guard (by rfl) ?_; dsimp only)); refine Kd.R_lit k30 _ 30 ?hg (N := 10) ?hd (xs := ([(⟨t229, t230⟩ : S30), (⟨t231, t232⟩ : S30)] : List (S30))) (inner := [.string t229, .string t230, .string t231, .string t232]) (ok := fun _ => True) (okp := fun _ => True) ?hr ?hp (fun _ hk => hk) trivial (Below.refl _ _) (Nat.le_refl _) (by simp) ?_; (case hd => rfl); (case hg => rfl); (case hr => first | (go_simp; done) | (go_simp; rfl)); (case hp => exact (Reps.c2 (show Kd.M k30 _ _ _ (⟨t229, t230⟩ : S30) [.string t229, .string t230] from (k30_mkM _ _ _ (⟨t229, t230⟩ : S30) )) (Reps.c2 (show Kd.M k30 _ _ _ (⟨t231, t232⟩ : S30) [.string t231, .string t232] from (k30_mkM _ _ _ (⟨t231, t232⟩ : S30) )) (Reps.none _ _)))); intro v234 w24 ho25 hb hg_ hnew_; clear hg_ hnew_; (first | rw [← Ny233.out] at ho25 | (simp only [Int.reduceToNat] at ho25; rw [← Ny233.out] at ho25)); have n0_ := Aside0.mk (Kd.R_elder' q20_ (Kd.R_base ho25) hb); have n1_ := Aside0.mk (Kd.R_elder' q29_ (Kd.R_base ho25) hb); have n2_ := Aside0.mk (Kd.R_below (by (with_reducible repeat (first | apply Kd.R_alloc | apply Kd.R_drewN | apply Kd.R_drew)); exact HO226.out) hb); have n3_ := Aside0.mk (Kd.R_lower (Kd.R_new' (Kd.R_new' ho25 (Kd.R_lt q20_)) (Kd.R_lt q29_)) (below_size q28_)); have n4_ := Aside0.mk (blk_below (g := gb228) (o := .cells #[.int .i64 t219, .int .i64 t220, .slice Ao20 t221.length co20, .slice Ao21 t224.length co21, .string t227] 93 (0, 0)) q37_ hb); have n5_ := Aside0.mk (below_step q28_ hb); clear HO218; clear HO223; clear HO226; clear BK228; clear HB; have HO218 := n0_; have HO223 := n1_; have HO226 := n2_; have HO235 := n3_; have BK228 := n4_; have HB := n5_; clear n0_ n1_ n2_ n3_ n4_ n5_; clear hb ho25; obtain ⟨Ao26, co26, eo26⟩ := Kd.R_slice HO235.out; subst eo26) | ((with_reducible refine gate_callee (f := 57) rfl ?_); refine goesL_ (some 12) rfl rfl Tryz.func57 q9_ rfl #[.agg #[.int .i64 200, .slice Ao26 y233.length co26, .slice none 0 0], .string (⟨#[117]⟩ : ByteArray), .bool false] rfl tS ?_; (refine (filter_Share.calls 200 _ _ y233 _ _ ([] : List Int) (⟨#[117]⟩ : ByteArray) false t236 t237 t238 t241 t244 _ ?side1 ?side2 ?side3 ?side4 A6.out).mono ?_); (case side1 => repeat (first | exact (Kd.R_reads' HO235.out).2.2 | (with_reducible refine Kd.C_alloc ?_ _) | (with_reducible refine Kd.C_drewN ?_ _) | (with_reducible refine Kd.C_drew ?_))); (case side2 => exact (Kd.R_reads' HO235.out).2.1); (case side3 => exact Kd.C_nil _ _); (case side4 => exact Nat.le_refl _); rintro e w27 ⟨v239, v242, rfl, ho0, ho1, hb⟩; refine ⟨_, rfl, ?_⟩; have n0_ := Aside0.mk (Kd.R_elder' q20_ (Kd.R_base ho0) hb); have n1_ := Aside0.mk (Kd.R_elder' q29_ (Kd.R_base ho0) hb); have n2_ := Aside0.mk (Kd.R_elder' (by (with_reducible repeat (first | apply Kd.R_alloc | apply Kd.R_drewN | apply Kd.R_drew)); exact HO226.out) (Kd.R_base ho1) hb); have n3_ := Aside0.mk (Kd.R_elder' (by (with_reducible repeat (first | apply Kd.R_alloc | apply Kd.R_drewN | apply Kd.R_drew)); exact HO235.out) (Kd.R_base ho0) hb); have n4_ := Aside0.mk (Kd.R_lower (Kd.R_new' (Kd.R_new' (Kd.R_new' ho0 (Kd.R_lt q20_)) (Kd.R_lt q29_)) (Kd.R_lt (by (with_reducible repeat (first | apply Kd.R_alloc | apply Kd.R_drewN | apply Kd.R_drew)); exact HO235.out))) (below_size q28_)); have n5_ := Aside0.mk (Kd.R_lower (Kd.R_new' ho1 (Kd.R_lt (by (with_reducible repeat (first | apply Kd.R_alloc | apply Kd.R_drewN | apply Kd.R_drew)); exact HO226.out))) (below_size q28_)); have n6_ := Aside0.mk (blk_below (g := gb228) (o := .cells #[.int .i64 t219, .int .i64 t220, .slice Ao20 t221.length co20, .slice Ao21 t224.length co21, .string t227] 93 (0, 0)) q37_ hb); have n7_ := Aside0.mk (below_step q28_ hb); clear HO218; clear HO223; clear HO226; clear HO235; clear BK228; clear HB; have HO218 := n0_; have HO223 := n1_; have HO226 := n2_; have HO235 := n3_; have HO240 := n4_; have HO243 := n5_; have BK228 := n6_; have HB := n7_; clear n0_ n1_ n2_ n3_ n4_ n5_ n6_ n7_; (try clear hb); (try clear hb2); (try clear hk); (try clear hi); (try clear ho0); (try clear ho1)) | ((with_reducible refine gate_dst (N := 2) rfl ?_); (try (refine gate_guard (by rfl) ?_; dsimp only)); refine box_event ?hg (N := 2) ?hd (cs := #[.int .i64 0, .int .i64 0, .slice none 0 0, .slice none 0 0, .string (⟨#[]⟩ : ByteArray)]) (t := 93) ?hr ?_; (case hd => rfl); (case hg => rfl); (case hr => first | (go_simp; done) | (go_simp; rfl)); intro gb245 hg w28 hbox hb; have n0_ := Aside0.mk (Kd.R_below q20_ hb); have n1_ := Aside0.mk (Kd.R_below q29_ hb); have n2_ := Aside0.mk (Kd.R_below (by (with_reducible repeat (first | apply Kd.R_alloc | apply Kd.R_drewN | apply Kd.R_drew)); exact HO226.out) hb); have n3_ := Aside0.mk (Kd.R_below (by (with_reducible repeat (first | apply Kd.R_alloc | apply Kd.R_drewN | apply Kd.R_drew)); exact HO235.out) hb); have n4_ := Aside0.mk (Kd.R_below (by (with_reducible repeat (first | apply Kd.R_alloc | apply Kd.R_drewN | apply Kd.R_drew)); exact HO240.out) hb); have n5_ := Aside0.mk (Kd.R_below (by (with_reducible repeat (first | apply Kd.R_alloc | apply Kd.R_drewN | apply Kd.R_drew)); exact HO243.out) hb); have n6_ := Aside0.mk (blk_below (g := gb228) (o := .cells #[.int .i64 t219, .int .i64 t220, .slice Ao20 t221.length co20, .slice Ao21 t224.length co21, .string t227] 93 (0, 0)) q37_ hb); have n7_ := Aside0.mk (below_step q28_ hb); have n8_ := Aside0.mk (hbox); have n9_ := Aside0.mk ((by rw [hg]; exact (below_size q28_) : w.heap.size ≤ gb245)); have n10_ := Aside0.mk ((by rw [hg]; exact (below_size q28_) : w.heap.size ≤ gb245)); have n11_ := Aside0.mk ((by rw [hg]; exact Nat.ne_of_lt (blk_lt (g := gb228) (o := .cells #[.int .i64 t219, .int .i64 t220, .slice Ao20 t221.length co20, .slice Ao21 t224.length co21, .string t227] 93 (0, 0)) q37_) : gb228 ≠ gb245)); have n12_ := Aside0.mk ((by rw [hg]; exact Nat.ne_of_gt (blk_lt (g := gb228) (o := .cells #[.int .i64 t219, .int .i64 t220, .slice Ao20 t221.length co20, .slice Ao21 t224.length co21, .string t227] 93 (0, 0)) q37_) : gb245 ≠ gb228)); clear HO218; clear HO223; clear HO226; clear HO235; clear HO240; clear HO243; clear BK228; clear HB; have HO218 := n0_; have HO223 := n1_; have HO226 := n2_; have HO235 := n3_; have HO240 := n4_; have HO243 := n5_; have BK228 := n6_; have HB := n7_; have BK245 := n8_; have GW245 := n9_; have GE245 := n10_; have NB228_245 := n11_; have NB245_228 := n12_; clear n0_ n1_ n2_ n3_ n4_ n5_ n6_ n7_ n8_ n9_ n10_ n11_ n12_; clear hb hbox hg; have hnb29 := NB245_228.out; have hnc29 := NB228_245.out; have hcz30_0 : w28.cell? ⟨gb245, 0, none⟩ = some (.int .i64 0) := (blk_cell BK245.out 0).trans rfl; have hcz30_1 : w28.cell? ⟨gb245, 1, none⟩ = some (.int .i64 0) := (blk_cell BK245.out 1).trans rfl; have hcz30_2 : w28.cell? ⟨gb245, 2, none⟩ = some (.slice none 0 0) := (blk_cell BK245.out 2).trans rfl; have hcz30_3 : w28.cell? ⟨gb245, 3, none⟩ = some (.slice none 0 0) := (blk_cell BK245.out 3).trans rfl; have hcz30_4 : w28.cell? ⟨gb245, 4, none⟩ = some (.string (⟨#[]⟩ : ByteArray)) := (blk_cell BK245.out 4).trans rfl; have hfz30_0 := blk_frozen BK245.out 0; have hfz30_1 := blk_frozen BK245.out 1; have hfz30_2 := blk_frozen BK245.out 2; have hfz30_3 := blk_frozen BK245.out 3; have hfz30_4 := blk_frozen BK245.out 4; obtain ⟨Ao31, co31, eo31⟩ := Kd.R_slice HO240.out; subst eo31; obtain ⟨Ao32, co32, eo32⟩ := Kd.R_slice HO243.out; subst eo32))
  have n0_ : Aside0 (Kd.R k30 30 (((((w28.setCell ⟨gb245, 0, none⟩ (.int .i64 t236)).setCell ⟨gb245, 1, none⟩ (.int .i64 t237)).setCell ⟨gb245, 2, none⟩ (.slice Ao31 t238.length co31)).setCell ⟨gb245, 3, none⟩ (.slice Ao32 t241.length co32)).setCell ⟨gb245, 4, none⟩ (.string t244)) w.heap.size (fun k_ => some k_ ≠ (.slice Ao20 t221.length co20 : Value).ownBlock ∧ some k_ ≠ (.slice Ao26 y233.length co26 : Value).ownBlock ∧ some k_ ≠ (.slice Ao31 t238.length co31 : Value).ownBlock) (.slice Ao16 y216.length co16) y216) := ⟨by (with_reducible repeat (first | apply Kd.R_alloc | apply Kd.R_drewN | apply Kd.R_drew)); exact Kd.R_mono (Kd.R_far (p := ⟨gb245, 4, none⟩) (Kd.R_far (p := ⟨gb245, 3, none⟩) (Kd.R_far (p := ⟨gb245, 2, none⟩) (Kd.R_far (p := ⟨gb245, 1, none⟩) (Kd.R_far (p := ⟨gb245, 0, none⟩) (Kd.R_types HO218.out BK245.out (by decide)) (fun _ hk => hk.2) (.int .i64 t236)) (fun _ hk => hk.2) (.int .i64 t237)) (fun _ hk => hk.2) (.slice Ao31 t238.length co31)) (fun _ hk => hk.2) (.slice Ao32 t241.length co32)) (fun _ hk => hk.2) (.string t244)) (fun _ hk => ⟨hk.1.1.1.2, ⟨hk.1.1.2, hk.1.2⟩⟩)⟩
  have n1_ : Aside0 (Kd.R k30 30 (((((w28.setCell ⟨gb245, 0, none⟩ (.int .i64 t236)).setCell ⟨gb245, 1, none⟩ (.int .i64 t237)).setCell ⟨gb245, 2, none⟩ (.slice Ao31 t238.length co31)).setCell ⟨gb245, 3, none⟩ (.slice Ao32 t241.length co32)).setCell ⟨gb245, 4, none⟩ (.string t244)) w.heap.size (fun k_ => some k_ ≠ (.slice Ao16 y216.length co16 : Value).ownBlock ∧ some k_ ≠ (.slice Ao26 y233.length co26 : Value).ownBlock ∧ some k_ ≠ (.slice Ao31 t238.length co31 : Value).ownBlock) (.slice Ao20 t221.length co20) t221) := ⟨by (with_reducible repeat (first | apply Kd.R_alloc | apply Kd.R_drewN | apply Kd.R_drew)); exact Kd.R_mono (Kd.R_far (p := ⟨gb245, 4, none⟩) (Kd.R_far (p := ⟨gb245, 3, none⟩) (Kd.R_far (p := ⟨gb245, 2, none⟩) (Kd.R_far (p := ⟨gb245, 1, none⟩) (Kd.R_far (p := ⟨gb245, 0, none⟩) (Kd.R_types HO223.out BK245.out (by decide)) (fun _ hk => hk.2) (.int .i64 t236)) (fun _ hk => hk.2) (.int .i64 t237)) (fun _ hk => hk.2) (.slice Ao31 t238.length co31)) (fun _ hk => hk.2) (.slice Ao32 t241.length co32)) (fun _ hk => hk.2) (.string t244)) (fun _ hk => ⟨hk.1.1.1.2, ⟨hk.1.1.2, hk.1.2⟩⟩)⟩
  have n2_ : Aside0 (Kd.R (Kd.int .u8) 5 (((((w28.setCell ⟨gb245, 0, none⟩ (.int .i64 t236)).setCell ⟨gb245, 1, none⟩ (.int .i64 t237)).setCell ⟨gb245, 2, none⟩ (.slice Ao31 t238.length co31)).setCell ⟨gb245, 3, none⟩ (.slice Ao32 t241.length co32)).setCell ⟨gb245, 4, none⟩ (.string t244)) w.heap.size (fun k_ => some k_ ≠ (.slice Ao32 t241.length co32 : Value).ownBlock) (.slice Ao21 t224.length co21) t224) := ⟨by (with_reducible repeat (first | apply Kd.R_alloc | apply Kd.R_drewN | apply Kd.R_drew)); exact Kd.R_mono (Kd.R_far (p := ⟨gb245, 4, none⟩) (Kd.R_far (p := ⟨gb245, 3, none⟩) (Kd.R_far (p := ⟨gb245, 2, none⟩) (Kd.R_far (p := ⟨gb245, 1, none⟩) (Kd.R_far (p := ⟨gb245, 0, none⟩) (Kd.R_types HO226.out BK245.out (by decide)) (fun _ hk => hk.2) (.int .i64 t236)) (fun _ hk => hk.2) (.int .i64 t237)) (fun _ hk => hk.2) (.slice Ao31 t238.length co31)) (fun _ hk => hk.2) (.slice Ao32 t241.length co32)) (fun _ hk => hk.2) (.string t244)) (fun _ hk => hk.1.2)⟩
  have n3_ : Aside0 (Kd.R k30 30 (((((w28.setCell ⟨gb245, 0, none⟩ (.int .i64 t236)).setCell ⟨gb245, 1, none⟩ (.int .i64 t237)).setCell ⟨gb245, 2, none⟩ (.slice Ao31 t238.length co31)).setCell ⟨gb245, 3, none⟩ (.slice Ao32 t241.length co32)).setCell ⟨gb245, 4, none⟩ (.string t244)) w.heap.size (fun k_ => some k_ ≠ (.slice Ao16 y216.length co16 : Value).ownBlock ∧ some k_ ≠ (.slice Ao20 t221.length co20 : Value).ownBlock ∧ some k_ ≠ (.slice Ao31 t238.length co31 : Value).ownBlock) (.slice Ao26 y233.length co26) y233) := ⟨by (with_reducible repeat (first | apply Kd.R_alloc | apply Kd.R_drewN | apply Kd.R_drew)); exact Kd.R_mono (Kd.R_far (p := ⟨gb245, 4, none⟩) (Kd.R_far (p := ⟨gb245, 3, none⟩) (Kd.R_far (p := ⟨gb245, 2, none⟩) (Kd.R_far (p := ⟨gb245, 1, none⟩) (Kd.R_far (p := ⟨gb245, 0, none⟩) (Kd.R_types HO235.out BK245.out (by decide)) (fun _ hk => hk.2) (.int .i64 t236)) (fun _ hk => hk.2) (.int .i64 t237)) (fun _ hk => hk.2) (.slice Ao31 t238.length co31)) (fun _ hk => hk.2) (.slice Ao32 t241.length co32)) (fun _ hk => hk.2) (.string t244)) (fun _ hk => ⟨hk.1.1.1.2, ⟨hk.1.1.2, hk.1.2⟩⟩)⟩
  have n4_ : Aside0 (Kd.R k30 30 (((((w28.setCell ⟨gb245, 0, none⟩ (.int .i64 t236)).setCell ⟨gb245, 1, none⟩ (.int .i64 t237)).setCell ⟨gb245, 2, none⟩ (.slice Ao31 t238.length co31)).setCell ⟨gb245, 3, none⟩ (.slice Ao32 t241.length co32)).setCell ⟨gb245, 4, none⟩ (.string t244)) w.heap.size (fun k_ => some k_ ≠ (.slice Ao16 y216.length co16 : Value).ownBlock ∧ some k_ ≠ (.slice Ao20 t221.length co20 : Value).ownBlock ∧ some k_ ≠ (.slice Ao26 y233.length co26 : Value).ownBlock) (.slice Ao31 t238.length co31) t238) := ⟨by (with_reducible repeat (first | apply Kd.R_alloc | apply Kd.R_drewN | apply Kd.R_drew)); exact Kd.R_mono (Kd.R_far (p := ⟨gb245, 4, none⟩) (Kd.R_far (p := ⟨gb245, 3, none⟩) (Kd.R_far (p := ⟨gb245, 2, none⟩) (Kd.R_far (p := ⟨gb245, 1, none⟩) (Kd.R_far (p := ⟨gb245, 0, none⟩) (Kd.R_types HO240.out BK245.out (by decide)) (fun _ hk => hk.2) (.int .i64 t236)) (fun _ hk => hk.2) (.int .i64 t237)) (fun _ hk => hk.2) (.slice Ao31 t238.length co31)) (fun _ hk => hk.2) (.slice Ao32 t241.length co32)) (fun _ hk => hk.2) (.string t244)) (fun _ hk => ⟨hk.1.1.1.2, ⟨hk.1.1.2, hk.1.2⟩⟩)⟩
  have n5_ : Aside0 (Kd.R (Kd.int .u8) 5 (((((w28.setCell ⟨gb245, 0, none⟩ (.int .i64 t236)).setCell ⟨gb245, 1, none⟩ (.int .i64 t237)).setCell ⟨gb245, 2, none⟩ (.slice Ao31 t238.length co31)).setCell ⟨gb245, 3, none⟩ (.slice Ao32 t241.length co32)).setCell ⟨gb245, 4, none⟩ (.string t244)) w.heap.size (fun k_ => some k_ ≠ (.slice Ao21 t224.length co21 : Value).ownBlock) (.slice Ao32 t241.length co32) t241) := ⟨by (with_reducible repeat (first | apply Kd.R_alloc | apply Kd.R_drewN | apply Kd.R_drew)); exact Kd.R_mono (Kd.R_far (p := ⟨gb245, 4, none⟩) (Kd.R_far (p := ⟨gb245, 3, none⟩) (Kd.R_far (p := ⟨gb245, 2, none⟩) (Kd.R_far (p := ⟨gb245, 1, none⟩) (Kd.R_far (p := ⟨gb245, 0, none⟩) (Kd.R_types HO243.out BK245.out (by decide)) (fun _ hk => hk.2) (.int .i64 t236)) (fun _ hk => hk.2) (.int .i64 t237)) (fun _ hk => hk.2) (.slice Ao31 t238.length co31)) (fun _ hk => hk.2) (.slice Ao32 t241.length co32)) (fun _ hk => hk.2) (.string t244)) (fun _ hk => hk.1.2)⟩
  have n6_ : Aside0 ((((((w28.setCell ⟨gb245, 0, none⟩ (.int .i64 t236)).setCell ⟨gb245, 1, none⟩ (.int .i64 t237)).setCell ⟨gb245, 2, none⟩ (.slice Ao31 t238.length co31)).setCell ⟨gb245, 3, none⟩ (.slice Ao32 t241.length co32)).setCell ⟨gb245, 4, none⟩ (.string t244)).heap[gb228]? = some (.cells #[.int .i64 t219, .int .i64 t220, .slice Ao20 t221.length co20, .slice Ao21 t224.length co21, .string t227] 93 (0, 0))) := ⟨by (with_reducible repeat (first | refine blk_drewN ?_ _ | refine blk_drew ?_ | refine blk_alloc ?_ _)); refine blk_far ?_ NB228_245.out _; (with_reducible repeat (first | refine blk_drewN ?_ _ | refine blk_drew ?_ | refine blk_alloc ?_ _)); refine blk_far ?_ NB228_245.out _; (with_reducible repeat (first | refine blk_drewN ?_ _ | refine blk_drew ?_ | refine blk_alloc ?_ _)); refine blk_far ?_ NB228_245.out _; (with_reducible repeat (first | refine blk_drewN ?_ _ | refine blk_drew ?_ | refine blk_alloc ?_ _)); refine blk_far ?_ NB228_245.out _; (with_reducible repeat (first | refine blk_drewN ?_ _ | refine blk_drew ?_ | refine blk_alloc ?_ _)); refine blk_far ?_ NB228_245.out _; (with_reducible repeat (first | refine blk_drewN ?_ _ | refine blk_drew ?_ | refine blk_alloc ?_ _)); exact BK228.out⟩
  have n7_ : Aside0 ((((((w28.setCell ⟨gb245, 0, none⟩ (.int .i64 t236)).setCell ⟨gb245, 1, none⟩ (.int .i64 t237)).setCell ⟨gb245, 2, none⟩ (.slice Ao31 t238.length co31)).setCell ⟨gb245, 3, none⟩ (.slice Ao32 t241.length co32)).setCell ⟨gb245, 4, none⟩ (.string t244)).heap[gb245]? = some (.cells #[.int .i64 t236, .int .i64 t237, .slice Ao31 t238.length co31, .slice Ao32 t241.length co32, .string t244] 93 (0, 0))) := ⟨by (with_reducible repeat (first | refine blk_drewN ?_ _ | refine blk_drew ?_ | refine blk_alloc ?_ _)); refine blk_put (cs := #[.int .i64 t236, .int .i64 t237, .slice Ao31 t238.length co31, .slice Ao32 t241.length co32, .string (⟨#[]⟩ : ByteArray)]) ?_ 4 _ rfl; (with_reducible repeat (first | refine blk_drewN ?_ _ | refine blk_drew ?_ | refine blk_alloc ?_ _)); refine blk_put (cs := #[.int .i64 t236, .int .i64 t237, .slice Ao31 t238.length co31, .slice none 0 0, .string (⟨#[]⟩ : ByteArray)]) ?_ 3 _ rfl; (with_reducible repeat (first | refine blk_drewN ?_ _ | refine blk_drew ?_ | refine blk_alloc ?_ _)); refine blk_put (cs := #[.int .i64 t236, .int .i64 t237, .slice none 0 0, .slice none 0 0, .string (⟨#[]⟩ : ByteArray)]) ?_ 2 _ rfl; (with_reducible repeat (first | refine blk_drewN ?_ _ | refine blk_drew ?_ | refine blk_alloc ?_ _)); refine blk_put (cs := #[.int .i64 t236, .int .i64 0, .slice none 0 0, .slice none 0 0, .string (⟨#[]⟩ : ByteArray)]) ?_ 1 _ rfl; (with_reducible repeat (first | refine blk_drewN ?_ _ | refine blk_drew ?_ | refine blk_alloc ?_ _)); refine blk_put (cs := #[.int .i64 0, .int .i64 0, .slice none 0 0, .slice none 0 0, .string (⟨#[]⟩ : ByteArray)]) ?_ 0 _ rfl; (with_reducible repeat (first | refine blk_drewN ?_ _ | refine blk_drew ?_ | refine blk_alloc ?_ _)); exact BK245.out⟩
  have n8_ : Aside0 (Below w.heap.size w (((((w28.setCell ⟨gb245, 0, none⟩ (.int .i64 t236)).setCell ⟨gb245, 1, none⟩ (.int .i64 t237)).setCell ⟨gb245, 2, none⟩ (.slice Ao31 t238.length co31)).setCell ⟨gb245, 3, none⟩ (.slice Ao32 t241.length co32)).setCell ⟨gb245, 4, none⟩ (.string t244))) := ⟨by repeat (first | (with_reducible first | exact HB.out | apply below_alloc | apply pw_below_drewN | apply below_drew1 | refine below_set ?_ GE228.out | refine below_set ?_ GE245.out) | exact HB.out)⟩
  (try clear HO218)
  (try clear HO223)
  (try clear HO226)
  (try clear HO235)
  (try clear HO240)
  (try clear HO243)
  (try clear BK228)
  (try clear BK245)
  (try clear HB)
  generalize (((((w28.setCell ⟨gb245, 0, none⟩ (.int .i64 t236)).setCell ⟨gb245, 1, none⟩ (.int .i64 t237)).setCell ⟨gb245, 2, none⟩ (.slice Ao31 t238.length co31)).setCell ⟨gb245, 3, none⟩ (.slice Ao32 t241.length co32)).setCell ⟨gb245, 4, none⟩ (.string t244)) = w33 at n0_ n1_ n2_ n3_ n4_ n5_ n6_ n7_ n8_ ⊢
  have HO218 := n0_
  have HO223 := n1_
  have HO226 := n2_
  have HO235 := n3_
  have HO240 := n4_
  have HO243 := n5_
  have BK228 := n6_
  have BK245 := n7_
  have HB := n8_
  clear n0_ n1_ n2_ n3_ n4_ n5_ n6_ n7_ n8_
  have n0_ := Aside0.mk (Kd.R_drew HO218.out)
  have n1_ := Aside0.mk (Kd.R_drew HO223.out)
  have n2_ := Aside0.mk (Kd.R_drew HO226.out)
  have n3_ := Aside0.mk (Kd.R_drew HO235.out)
  have n4_ := Aside0.mk (Kd.R_drew HO240.out)
  have n5_ := Aside0.mk (Kd.R_drew HO243.out)
  have n6_ := Aside0.mk (blk_drew BK228.out)
  have n7_ := Aside0.mk (blk_drew BK245.out)
  have n8_ := Aside0.mk (below_drew1 HB.out)
  clear HO218
  clear HO223
  clear HO226
  clear HO235
  clear HO240
  clear HO243
  clear BK228
  clear BK245
  clear HB
  have HO218 := n0_
  have HO223 := n1_
  have HO226 := n2_
  have HO235 := n3_
  have HO240 := n4_
  have HO243 := n5_
  have BK228 := n6_
  have BK245 := n7_
  have HB := n8_
  clear n0_ n1_ n2_ n3_ n4_ n5_ n6_ n7_ n8_
  refine start_ (n := 13) (S := fun w' => w'.cell? ⟨gb228, 0, none⟩ = some (.int .i64 t219) ∧ w'.cell? ⟨gb228, 1, none⟩ = some (.int .i64 t220) ∧ w'.cell? ⟨gb228, 2, none⟩ = some (.slice Ao20 t221.length co20) ∧ w'.cell? ⟨gb228, 3, none⟩ = some (.slice Ao21 t224.length co21) ∧ w'.cell? ⟨gb228, 4, none⟩ = some (.string t227) ∧ w'.cell? ⟨gb245, 0, none⟩ = some (.int .i64 t236) ∧ w'.cell? ⟨gb245, 1, none⟩ = some (.int .i64 t237) ∧ w'.cell? ⟨gb245, 2, none⟩ = some (.slice Ao31 t238.length co31) ∧ w'.cell? ⟨gb245, 3, none⟩ = some (.slice Ao32 t241.length co32) ∧ w'.cell? ⟨gb245, 4, none⟩ = some (.string t244)) (ds := []) #[false, false, false, false, false, false, false, false, false, false, false, false, false] q9_ rfl rfl ⟨(blk_cell BK228.out 0).trans rfl, (blk_cell BK228.out 1).trans rfl, (blk_cell BK228.out 2).trans rfl, (blk_cell BK228.out 3).trans rfl, (blk_cell BK228.out 4).trans rfl, (blk_cell BK245.out 0).trans rfl, (blk_cell BK245.out 1).trans rfl, (blk_cell BK245.out 2).trans rfl, (blk_cell BK245.out 3).trans rfl, (blk_cell BK245.out 4).trans rfl⟩ (fun hHeld => ?_); refine with_tabW ostiarylaw20_known.tab3 ostiarylaw20_known.bits3 (fun HT_ HW_ => ?_)
  generalize w33.drew = w34 at HO218 HO223 HO226 HO235 HO240 HO243 BK228 BK245 HB hHeld ⊢
  refine take_ (i := 0) (N := some 13) (v := ?_) (a' := ?_) #[true, false, false, false, false, false, false, false, false, false, false, false, false] rfl rfl (take_ofW HT_.out HW_.out q9_) (fun _ _ _ h => h) (Or.inl ⟨by rfl, ?_⟩) hHeld ?_ ?_
  rotate_left
  ·rintro w' ⟨s0, s1, s2, s3, s4, s5, s6, s7, s8, s9⟩
   go_simp
   with_reducible rfl
  rotate_left
  ·simp only [Act.put, List.setIfInBounds_toArray, List.set_cons_zero, List.set_cons_succ, i64_w, i32_w]
   rfl
  refine one_ (i := 1) (N := some 14) #[true, true, false, false, false, false, false, false, false, false, false, false, false] rfl rfl (one_of HT_.out q9_) (by decide) (fun K hK => ?_)
  refine goes_ Tryz.func116 q9_ rfl #[.string (⟨#[88]⟩ : ByteArray), .string (⟨#[98]⟩ : ByteArray)] (by rfl) rfl rfl tS ?_
  with_reducible refine (ostiarylaw20_h.calls (⟨#[88]⟩ : ByteArray) (⟨#[98]⟩ : ByteArray) t246 t247 _ A7.out).mono ?_
  rintro e w35 ⟨rfl, hb⟩
  refine ⟨_, rfl, ?_⟩
  have n0_ := Aside0.mk (Kd.R_below q20_ hb)
  have n1_ := Aside0.mk (Kd.R_below q29_ hb)
  have n2_ := Aside0.mk (Kd.R_below (by (with_reducible repeat (first | apply Kd.R_alloc | apply Kd.R_drewN | apply Kd.R_drew)); exact HO226.out) hb)
  have n3_ := Aside0.mk (Kd.R_below (by (with_reducible repeat (first | apply Kd.R_alloc | apply Kd.R_drewN | apply Kd.R_drew)); exact HO235.out) hb)
  have n4_ := Aside0.mk (Kd.R_below (by (with_reducible repeat (first | apply Kd.R_alloc | apply Kd.R_drewN | apply Kd.R_drew)); exact HO240.out) hb)
  have n5_ := Aside0.mk (Kd.R_below (by (with_reducible repeat (first | apply Kd.R_alloc | apply Kd.R_drewN | apply Kd.R_drew)); exact HO243.out) hb)
  have n6_ := Aside0.mk (blk_below (g := gb228) (o := .cells #[.int .i64 t219, .int .i64 t220, .slice Ao20 t221.length co20, .slice Ao21 t224.length co21, .string t227] 93 (0, 0)) q37_ hb)
  have n7_ := Aside0.mk (blk_below (g := gb245) (o := .cells #[.int .i64 t236, .int .i64 t237, .slice Ao31 t238.length co31, .slice Ao32 t241.length co32, .string t244] 93 (0, 0)) (by (with_reducible repeat (first | refine blk_drewN ?_ _ | refine blk_drew ?_ | refine blk_alloc ?_ _)); exact BK245.out) hb)
  have n8_ := Aside0.mk (below_step q32_ hb)
  clear HO218
  clear HO223
  clear HO226
  clear HO235
  clear HO240
  clear HO243
  clear BK228
  clear BK245
  clear HB
  have HO218 := n0_
  have HO223 := n1_
  have HO226 := n2_
  have HO235 := n3_
  have HO240 := n4_
  have HO243 := n5_
  have BK228 := n6_
  have BK245 := n7_
  have HB := n8_
  clear n0_ n1_ n2_ n3_ n4_ n5_ n6_ n7_ n8_
  (try clear hb)
  (try clear hb2)
  (try clear hk)
  (try clear hi)
  refine hK.out _ _ ⟨(blk_cell BK228.out 0).trans rfl, (blk_cell BK228.out 1).trans rfl, (blk_cell BK228.out 2).trans rfl, (blk_cell BK228.out 3).trans rfl, (blk_cell BK228.out 4).trans rfl, (blk_cell BK245.out 0).trans rfl, (blk_cell BK245.out 1).trans rfl, (blk_cell BK245.out 2).trans rfl, (blk_cell BK245.out 3).trans rfl, (blk_cell BK245.out 4).trans rfl⟩ (fun hHeld => ?_)
  clear hK K
  refine norm_ (a' := ?_) ?_ ?_
  rotate_left
  ·show Act.put _ (some 14) _ = _
   simp only [Act.put, List.setIfInBounds_toArray, List.set_cons_zero, List.set_cons_succ, i64_w, i32_w]
   rfl
  refine one_ (i := 2) (N := some 15) #[true, true, true, false, false, false, false, false, false, false, false, false, false] rfl rfl (one_of HT_.out q9_) (by decide) (fun K hK => ?_)
  refine Kd.R_lit_step k30 _ 30 ?hg (N := 15) ?hd (xs := ([(⟨t246, t247⟩ : S30)] : List (S30))) (inner := [.string t246, .string t247]) (ok := fun _ => True) (okp := fun _ => True) ?hr ?hp (fun _ hk => hk) trivial (Below.refl _ _) (Nat.le_refl _) (by simp) ?_; (case hd => rfl); (case hg => rfl); (case hr => first | (go_simp; done) | (go_simp; rfl)); (case hp => exact (Reps.c2 (show Kd.M k30 _ _ _ (⟨t246, t247⟩ : S30) [.string t246, .string t247] from (k30_mkM _ _ _ (⟨t246, t247⟩ : S30) )) (Reps.none _ _)))
  intro v249 w36 ho37 hb hg_ hnew_
  clear hg_ hnew_
  (first | rw [← Ny248.out] at ho37 | (simp only [Int.reduceToNat] at ho37; rw [← Ny248.out] at ho37))
  have n0_ := Aside0.mk (Kd.R_elder' q20_ (Kd.R_base ho37) hb)
  have n1_ := Aside0.mk (Kd.R_elder' q29_ (Kd.R_base ho37) hb)
  have n2_ := Aside0.mk (Kd.R_below (by (with_reducible repeat (first | apply Kd.R_alloc | apply Kd.R_drewN | apply Kd.R_drew)); exact HO226.out) hb)
  have n3_ := Aside0.mk (Kd.R_elder' (by (with_reducible repeat (first | apply Kd.R_alloc | apply Kd.R_drewN | apply Kd.R_drew)); exact HO235.out) (Kd.R_base ho37) hb)
  have n4_ := Aside0.mk (Kd.R_elder' (by (with_reducible repeat (first | apply Kd.R_alloc | apply Kd.R_drewN | apply Kd.R_drew)); exact HO240.out) (Kd.R_base ho37) hb)
  have n5_ := Aside0.mk (Kd.R_below (by (with_reducible repeat (first | apply Kd.R_alloc | apply Kd.R_drewN | apply Kd.R_drew)); exact HO243.out) hb)
  have n6_ := Aside0.mk (Kd.R_lower (Kd.R_new' (Kd.R_new' (Kd.R_new' (Kd.R_new' ho37 (Kd.R_lt q20_)) (Kd.R_lt q29_)) (Kd.R_lt (by (with_reducible repeat (first | apply Kd.R_alloc | apply Kd.R_drewN | apply Kd.R_drew)); exact HO235.out))) (Kd.R_lt (by (with_reducible repeat (first | apply Kd.R_alloc | apply Kd.R_drewN | apply Kd.R_drew)); exact HO240.out))) (below_size q32_))
  have n7_ := Aside0.mk (blk_below (g := gb228) (o := .cells #[.int .i64 t219, .int .i64 t220, .slice Ao20 t221.length co20, .slice Ao21 t224.length co21, .string t227] 93 (0, 0)) q37_ hb)
  have n8_ := Aside0.mk (blk_below (g := gb245) (o := .cells #[.int .i64 t236, .int .i64 t237, .slice Ao31 t238.length co31, .slice Ao32 t241.length co32, .string t244] 93 (0, 0)) (by (with_reducible repeat (first | refine blk_drewN ?_ _ | refine blk_drew ?_ | refine blk_alloc ?_ _)); exact BK245.out) hb)
  have n9_ := Aside0.mk (below_step q32_ hb)
  clear HO218
  clear HO223
  clear HO226
  clear HO235
  clear HO240
  clear HO243
  clear BK228
  clear BK245
  clear HB
  have HO218 := n0_
  have HO223 := n1_
  have HO226 := n2_
  have HO235 := n3_
  have HO240 := n4_
  have HO243 := n5_
  have HO250 := n6_
  have BK228 := n7_
  have BK245 := n8_
  have HB := n9_
  clear n0_ n1_ n2_ n3_ n4_ n5_ n6_ n7_ n8_ n9_
  clear hb ho37
  obtain ⟨Ao38, co38, eo38⟩ := Kd.R_slice HO250.out
  (first | subst eo38 | (injection eo38 with f1_ f2_ f3_; have f4_ := f1_.symm; have f5_ := f3_.symm; clear f1_ f2_ f3_; subst f4_; subst f5_))
  refine hK.out _ _ ⟨(blk_cell BK228.out 0).trans rfl, (blk_cell BK228.out 1).trans rfl, (blk_cell BK228.out 2).trans rfl, (blk_cell BK228.out 3).trans rfl, (blk_cell BK228.out 4).trans rfl, (blk_cell BK245.out 0).trans rfl, (blk_cell BK245.out 1).trans rfl, (blk_cell BK245.out 2).trans rfl, (blk_cell BK245.out 3).trans rfl, (blk_cell BK245.out 4).trans rfl⟩ (fun hHeld => ?_)
  clear hK K
  refine norm_ (a' := ?_) ?_ ?_
  rotate_left
  ·show Act.put _ (some 15) _ = _
   simp only [Act.put, List.setIfInBounds_toArray, List.set_cons_zero, List.set_cons_succ, i64_w, i32_w]
   rfl
  refine pure_ (i := 3) (N := some 16) (v := ?_) (a' := ?_) #[true, true, true, true, false, false, false, false, false, false, false, false, false] rfl rfl (any_of HT_.out q9_) (fun _ _ _ h => h) (Or.inl ⟨by rfl, ?_⟩) ?_ ?_
  rotate_left
  ·intro w'
   go_simp
   with_reducible rfl
  rotate_left
  ·simp only [Act.put, List.setIfInBounds_toArray, List.set_cons_zero, List.set_cons_succ, i64_w, i32_w]
   rfl
  refine one_ (i := 4) (N := some 17) #[true, true, true, true, true, false, false, false, false, false, false, false, false] rfl rfl (one_of HT_.out q9_) (by decide) (fun K hK => ?_)
  refine goes_ Tryz.func54 q9_ rfl #[.agg #[.int .i64 t219, .int .i64 t220, .slice Ao20 t221.length co20, .slice Ao21 t224.length co21, .string t227], .agg #[.int .i64 2, .int .i64 200, .slice Ao38 y248.length co38, .slice none 0 0, .string (⟨#[117]⟩ : ByteArray)]] (by rfl) rfl rfl tS ?_
  refine (ostiarykeep_SameResponse.calls k t219 t220 _ _ t221 _ _ t224 t227 2 200 _ _ y248 _ _ ([] : List Int) (⟨#[117]⟩ : ByteArray) true _ ?side1 ?side2 ?side3 ?side4 ?side5 ?side6 ?side7 ?side8 A8.out).mono ?_
  (case side1 => repeat (first | exact (Kd.R_reads' HO223.out).2.2 | (with_reducible refine Kd.C_alloc ?_ _) | (with_reducible refine Kd.C_drewN ?_ _) | (with_reducible refine Kd.C_drew ?_)))
  (case side2 => exact (Kd.R_reads' HO223.out).2.1)
  (case side3 => repeat (first | exact (Kd.R_reads' HO226.out).2.2 | (with_reducible refine Kd.C_alloc ?_ _) | (with_reducible refine Kd.C_drewN ?_ _) | (with_reducible refine Kd.C_drew ?_)))
  (case side4 => exact (Kd.R_reads' HO226.out).2.1)
  (case side5 => repeat (first | exact (Kd.R_reads' HO250.out).2.2 | (with_reducible refine Kd.C_alloc ?_ _) | (with_reducible refine Kd.C_drewN ?_ _) | (with_reducible refine Kd.C_drew ?_)))
  (case side6 => exact (Kd.R_reads' HO250.out).2.1)
  (case side7 => exact Kd.C_nil _ _)
  (case side8 => exact Nat.le_refl _)
  rintro e w39 ⟨rfl, hb⟩
  refine ⟨_, rfl, ?_⟩
  have n0_ := Aside0.mk (Kd.R_below q20_ hb)
  have n1_ := Aside0.mk (Kd.R_below q29_ hb)
  have n2_ := Aside0.mk (Kd.R_below (by (with_reducible repeat (first | apply Kd.R_alloc | apply Kd.R_drewN | apply Kd.R_drew)); exact HO226.out) hb)
  have n3_ := Aside0.mk (Kd.R_below (by (with_reducible repeat (first | apply Kd.R_alloc | apply Kd.R_drewN | apply Kd.R_drew)); exact HO235.out) hb)
  have n4_ := Aside0.mk (Kd.R_below (by (with_reducible repeat (first | apply Kd.R_alloc | apply Kd.R_drewN | apply Kd.R_drew)); exact HO240.out) hb)
  have n5_ := Aside0.mk (Kd.R_below (by (with_reducible repeat (first | apply Kd.R_alloc | apply Kd.R_drewN | apply Kd.R_drew)); exact HO243.out) hb)
  have n6_ := Aside0.mk (Kd.R_below (by (with_reducible repeat (first | apply Kd.R_alloc | apply Kd.R_drewN | apply Kd.R_drew)); exact HO250.out) hb)
  have n7_ := Aside0.mk (blk_below (g := gb228) (o := .cells #[.int .i64 t219, .int .i64 t220, .slice Ao20 t221.length co20, .slice Ao21 t224.length co21, .string t227] 93 (0, 0)) q37_ hb)
  have n8_ := Aside0.mk (blk_below (g := gb245) (o := .cells #[.int .i64 t236, .int .i64 t237, .slice Ao31 t238.length co31, .slice Ao32 t241.length co32, .string t244] 93 (0, 0)) (by (with_reducible repeat (first | refine blk_drewN ?_ _ | refine blk_drew ?_ | refine blk_alloc ?_ _)); exact BK245.out) hb)
  have n9_ := Aside0.mk (below_step q32_ hb)
  clear HO218
  clear HO223
  clear HO226
  clear HO235
  clear HO240
  clear HO243
  clear HO250
  clear BK228
  clear BK245
  clear HB
  have HO218 := n0_
  have HO223 := n1_
  have HO226 := n2_
  have HO235 := n3_
  have HO240 := n4_
  have HO243 := n5_
  have HO250 := n6_
  have BK228 := n7_
  have BK245 := n8_
  have HB := n9_
  clear n0_ n1_ n2_ n3_ n4_ n5_ n6_ n7_ n8_ n9_
  (try clear hb)
  (try clear hb2)
  (try clear hk)
  (try clear hi)
  refine hK.out _ _ ⟨(blk_cell BK228.out 0).trans rfl, (blk_cell BK228.out 1).trans rfl, (blk_cell BK228.out 2).trans rfl, (blk_cell BK228.out 3).trans rfl, (blk_cell BK228.out 4).trans rfl, (blk_cell BK245.out 0).trans rfl, (blk_cell BK245.out 1).trans rfl, (blk_cell BK245.out 2).trans rfl, (blk_cell BK245.out 3).trans rfl, (blk_cell BK245.out 4).trans rfl⟩ (fun hHeld => ?_)
  clear hK K
  refine norm_ (a' := ?_) ?_ ?_
  rotate_left
  ·show Act.put _ (some 17) _ = _
   simp only [Act.put, List.setIfInBounds_toArray, List.set_cons_zero, List.set_cons_succ, i64_w, i32_w]
   rfl
  refine pure_ (i := 5) (N := some 18) (v := ?_) (a' := ?_) #[true, true, true, true, true, true, false, false, false, false, false, false, false] rfl rfl (any_of HT_.out q9_) (fun _ _ _ h => h) (Or.inl ⟨by rfl, ?_⟩) ?_ ?_
  rotate_left
  ·intro w'
   go_simp
   with_reducible rfl
  rotate_left
  ·simp only [Act.put, List.setIfInBounds_toArray, List.set_cons_zero, List.set_cons_succ, i64_w, i32_w]
   rfl
  refine take_ (i := 6) (N := some 19) (v := ?_) (a' := ?_) #[true, true, true, true, true, true, true, false, false, false, false, false, false] rfl rfl (take_ofW HT_.out HW_.out q9_) (fun _ _ _ h => h) (Or.inl ⟨by rfl, ?_⟩) hHeld ?_ ?_
  rotate_left
  ·rintro w' ⟨s0, s1, s2, s3, s4, s5, s6, s7, s8, s9⟩
   go_simp
   with_reducible rfl
  rotate_left
  ·simp only [Act.put, List.setIfInBounds_toArray, List.set_cons_zero, List.set_cons_succ, i64_w, i32_w]
   rfl
  refine one_ (i := 7) (N := some 20) #[true, true, true, true, true, true, true, true, false, false, false, false, false] rfl rfl (one_of HT_.out q9_) (by decide) (fun K hK => ?_)
  refine goes_ Tryz.func116 q9_ rfl #[.string (⟨#[101, 120, 112, 105, 114, 101, 115]⟩ : ByteArray), .string (⟨#[99]⟩ : ByteArray)] (by rfl) rfl rfl tS ?_
  with_reducible refine (ostiarylaw20_h.calls (⟨#[101, 120, 112, 105, 114, 101, 115]⟩ : ByteArray) (⟨#[99]⟩ : ByteArray) t252 t253 _ A10.out).mono ?_
  rintro e w40 ⟨rfl, hb⟩
  refine ⟨_, rfl, ?_⟩
  have n0_ := Aside0.mk (Kd.R_below q20_ hb)
  have n1_ := Aside0.mk (Kd.R_below q29_ hb)
  have n2_ := Aside0.mk (Kd.R_below (by (with_reducible repeat (first | apply Kd.R_alloc | apply Kd.R_drewN | apply Kd.R_drew)); exact HO226.out) hb)
  have n3_ := Aside0.mk (Kd.R_below (by (with_reducible repeat (first | apply Kd.R_alloc | apply Kd.R_drewN | apply Kd.R_drew)); exact HO235.out) hb)
  have n4_ := Aside0.mk (Kd.R_below (by (with_reducible repeat (first | apply Kd.R_alloc | apply Kd.R_drewN | apply Kd.R_drew)); exact HO240.out) hb)
  have n5_ := Aside0.mk (Kd.R_below (by (with_reducible repeat (first | apply Kd.R_alloc | apply Kd.R_drewN | apply Kd.R_drew)); exact HO243.out) hb)
  have n6_ := Aside0.mk (Kd.R_below (by (with_reducible repeat (first | apply Kd.R_alloc | apply Kd.R_drewN | apply Kd.R_drew)); exact HO250.out) hb)
  have n7_ := Aside0.mk (blk_below (g := gb228) (o := .cells #[.int .i64 t219, .int .i64 t220, .slice Ao20 t221.length co20, .slice Ao21 t224.length co21, .string t227] 93 (0, 0)) q37_ hb)
  have n8_ := Aside0.mk (blk_below (g := gb245) (o := .cells #[.int .i64 t236, .int .i64 t237, .slice Ao31 t238.length co31, .slice Ao32 t241.length co32, .string t244] 93 (0, 0)) (by (with_reducible repeat (first | refine blk_drewN ?_ _ | refine blk_drew ?_ | refine blk_alloc ?_ _)); exact BK245.out) hb)
  have n9_ := Aside0.mk (below_step q32_ hb)
  clear HO218
  clear HO223
  clear HO226
  clear HO235
  clear HO240
  clear HO243
  clear HO250
  clear BK228
  clear BK245
  clear HB
  have HO218 := n0_
  have HO223 := n1_
  have HO226 := n2_
  have HO235 := n3_
  have HO240 := n4_
  have HO243 := n5_
  have HO250 := n6_
  have BK228 := n7_
  have BK245 := n8_
  have HB := n9_
  clear n0_ n1_ n2_ n3_ n4_ n5_ n6_ n7_ n8_ n9_
  (try clear hb)
  (try clear hb2)
  (try clear hk)
  (try clear hi)
  refine hK.out _ _ ⟨(blk_cell BK228.out 0).trans rfl, (blk_cell BK228.out 1).trans rfl, (blk_cell BK228.out 2).trans rfl, (blk_cell BK228.out 3).trans rfl, (blk_cell BK228.out 4).trans rfl, (blk_cell BK245.out 0).trans rfl, (blk_cell BK245.out 1).trans rfl, (blk_cell BK245.out 2).trans rfl, (blk_cell BK245.out 3).trans rfl, (blk_cell BK245.out 4).trans rfl⟩ (fun hHeld => ?_)
  clear hK K
  refine norm_ (a' := ?_) ?_ ?_
  rotate_left
  ·show Act.put _ (some 20) _ = _
   simp only [Act.put, List.setIfInBounds_toArray, List.set_cons_zero, List.set_cons_succ, i64_w, i32_w]
   rfl
  refine one_ (i := 8) (N := some 21) #[true, true, true, true, true, true, true, true, true, false, false, false, false] rfl rfl (one_of HT_.out q9_) (by decide) (fun K hK => ?_)
  refine Kd.R_lit_step k30 _ 30 ?hg (N := 21) ?hd (xs := ([(⟨t252, t253⟩ : S30)] : List (S30))) (inner := [.string t252, .string t253]) (ok := fun _ => True) (okp := fun _ => True) ?hr ?hp (fun _ hk => hk) trivial (Below.refl _ _) (Nat.le_refl _) (by simp) ?_; (case hd => rfl); (case hg => rfl); (case hr => first | (go_simp; done) | (go_simp; rfl)); (case hp => exact (Reps.c2 (show Kd.M k30 _ _ _ (⟨t252, t253⟩ : S30) [.string t252, .string t253] from (k30_mkM _ _ _ (⟨t252, t253⟩ : S30) )) (Reps.none _ _)))
  intro v255 w41 ho42 hb hg_ hnew_
  clear hg_ hnew_
  (first | rw [← Ny254.out] at ho42 | (simp only [Int.reduceToNat] at ho42; rw [← Ny254.out] at ho42))
  have n0_ := Aside0.mk (Kd.R_elder' q20_ (Kd.R_base ho42) hb)
  have n1_ := Aside0.mk (Kd.R_elder' q29_ (Kd.R_base ho42) hb)
  have n2_ := Aside0.mk (Kd.R_below (by (with_reducible repeat (first | apply Kd.R_alloc | apply Kd.R_drewN | apply Kd.R_drew)); exact HO226.out) hb)
  have n3_ := Aside0.mk (Kd.R_elder' (by (with_reducible repeat (first | apply Kd.R_alloc | apply Kd.R_drewN | apply Kd.R_drew)); exact HO235.out) (Kd.R_base ho42) hb)
  have n4_ := Aside0.mk (Kd.R_elder' (by (with_reducible repeat (first | apply Kd.R_alloc | apply Kd.R_drewN | apply Kd.R_drew)); exact HO240.out) (Kd.R_base ho42) hb)
  have n5_ := Aside0.mk (Kd.R_below (by (with_reducible repeat (first | apply Kd.R_alloc | apply Kd.R_drewN | apply Kd.R_drew)); exact HO243.out) hb)
  have n6_ := Aside0.mk (Kd.R_elder' (by (with_reducible repeat (first | apply Kd.R_alloc | apply Kd.R_drewN | apply Kd.R_drew)); exact HO250.out) (Kd.R_base ho42) hb)
  have n7_ := Aside0.mk (Kd.R_lower (Kd.R_new' (Kd.R_new' (Kd.R_new' (Kd.R_new' (Kd.R_new' ho42 (Kd.R_lt q20_)) (Kd.R_lt q29_)) (Kd.R_lt (by (with_reducible repeat (first | apply Kd.R_alloc | apply Kd.R_drewN | apply Kd.R_drew)); exact HO235.out))) (Kd.R_lt (by (with_reducible repeat (first | apply Kd.R_alloc | apply Kd.R_drewN | apply Kd.R_drew)); exact HO240.out))) (Kd.R_lt (by (with_reducible repeat (first | apply Kd.R_alloc | apply Kd.R_drewN | apply Kd.R_drew)); exact HO250.out))) (below_size q32_))
  have n8_ := Aside0.mk (blk_below (g := gb228) (o := .cells #[.int .i64 t219, .int .i64 t220, .slice Ao20 t221.length co20, .slice Ao21 t224.length co21, .string t227] 93 (0, 0)) q37_ hb)
  have n9_ := Aside0.mk (blk_below (g := gb245) (o := .cells #[.int .i64 t236, .int .i64 t237, .slice Ao31 t238.length co31, .slice Ao32 t241.length co32, .string t244] 93 (0, 0)) (by (with_reducible repeat (first | refine blk_drewN ?_ _ | refine blk_drew ?_ | refine blk_alloc ?_ _)); exact BK245.out) hb)
  have n10_ := Aside0.mk (below_step q32_ hb)
  clear HO218
  clear HO223
  clear HO226
  clear HO235
  clear HO240
  clear HO243
  clear HO250
  clear BK228
  clear BK245
  clear HB
  have HO218 := n0_
  have HO223 := n1_
  have HO226 := n2_
  have HO235 := n3_
  have HO240 := n4_
  have HO243 := n5_
  have HO250 := n6_
  have HO256 := n7_
  have BK228 := n8_
  have BK245 := n9_
  have HB := n10_
  clear n0_ n1_ n2_ n3_ n4_ n5_ n6_ n7_ n8_ n9_ n10_
  clear hb ho42
  obtain ⟨Ao43, co43, eo43⟩ := Kd.R_slice HO256.out
  (first | subst eo43 | (injection eo43 with f1_ f2_ f3_; have f4_ := f1_.symm; have f5_ := f3_.symm; clear f1_ f2_ f3_; subst f4_; subst f5_))
  refine hK.out _ _ ⟨(blk_cell BK228.out 0).trans rfl, (blk_cell BK228.out 1).trans rfl, (blk_cell BK228.out 2).trans rfl, (blk_cell BK228.out 3).trans rfl, (blk_cell BK228.out 4).trans rfl, (blk_cell BK245.out 0).trans rfl, (blk_cell BK245.out 1).trans rfl, (blk_cell BK245.out 2).trans rfl, (blk_cell BK245.out 3).trans rfl, (blk_cell BK245.out 4).trans rfl⟩ (fun hHeld => ?_)
  clear hK K
  refine norm_ (a' := ?_) ?_ ?_
  rotate_left
  ·show Act.put _ (some 21) _ = _
   simp only [Act.put, List.setIfInBounds_toArray, List.set_cons_zero, List.set_cons_succ, i64_w, i32_w]
   rfl
  refine pure_ (i := 9) (N := some 22) (v := ?_) (a' := ?_) #[true, true, true, true, true, true, true, true, true, true, false, false, false] rfl rfl (any_of HT_.out q9_) (fun _ _ _ h => h) (Or.inl ⟨by rfl, ?_⟩) ?_ ?_
  rotate_left
  ·intro w'
   go_simp
   with_reducible rfl
  rotate_left
  ·simp only [Act.put, List.setIfInBounds_toArray, List.set_cons_zero, List.set_cons_succ, i64_w, i32_w]
   rfl
  refine one_ (i := 10) (N := some 23) #[true, true, true, true, true, true, true, true, true, true, true, false, false] rfl rfl (one_of HT_.out q9_) (by decide) (fun K hK => ?_)
  refine goes_ Tryz.func54 q9_ rfl #[.agg #[.int .i64 t236, .int .i64 t237, .slice Ao31 t238.length co31, .slice Ao32 t241.length co32, .string t244], .agg #[.int .i64 3, .int .i64 200, .slice Ao43 y254.length co43, .slice none 0 0, .string (⟨#[117]⟩ : ByteArray)]] (by rfl) rfl rfl tS ?_
  refine (ostiarykeep_SameResponse.calls k t236 t237 _ _ t238 _ _ t241 t244 3 200 _ _ y254 _ _ ([] : List Int) (⟨#[117]⟩ : ByteArray) true _ ?side1 ?side2 ?side3 ?side4 ?side5 ?side6 ?side7 ?side8 A11.out).mono ?_
  (case side1 => repeat (first | exact (Kd.R_reads' HO240.out).2.2 | (with_reducible refine Kd.C_alloc ?_ _) | (with_reducible refine Kd.C_drewN ?_ _) | (with_reducible refine Kd.C_drew ?_)))
  (case side2 => exact (Kd.R_reads' HO240.out).2.1)
  (case side3 => repeat (first | exact (Kd.R_reads' HO243.out).2.2 | (with_reducible refine Kd.C_alloc ?_ _) | (with_reducible refine Kd.C_drewN ?_ _) | (with_reducible refine Kd.C_drew ?_)))
  (case side4 => exact (Kd.R_reads' HO243.out).2.1)
  (case side5 => repeat (first | exact (Kd.R_reads' HO256.out).2.2 | (with_reducible refine Kd.C_alloc ?_ _) | (with_reducible refine Kd.C_drewN ?_ _) | (with_reducible refine Kd.C_drew ?_)))
  (case side6 => exact (Kd.R_reads' HO256.out).2.1)
  (case side7 => exact Kd.C_nil _ _)
  (case side8 => exact Nat.le_refl _)
  rintro e w44 ⟨rfl, hb⟩
  refine ⟨_, rfl, ?_⟩
  have n0_ := Aside0.mk (Kd.R_below q20_ hb)
  have n1_ := Aside0.mk (Kd.R_below q29_ hb)
  have n2_ := Aside0.mk (Kd.R_below (by (with_reducible repeat (first | apply Kd.R_alloc | apply Kd.R_drewN | apply Kd.R_drew)); exact HO226.out) hb)
  have n3_ := Aside0.mk (Kd.R_below (by (with_reducible repeat (first | apply Kd.R_alloc | apply Kd.R_drewN | apply Kd.R_drew)); exact HO235.out) hb)
  have n4_ := Aside0.mk (Kd.R_below (by (with_reducible repeat (first | apply Kd.R_alloc | apply Kd.R_drewN | apply Kd.R_drew)); exact HO240.out) hb)
  have n5_ := Aside0.mk (Kd.R_below (by (with_reducible repeat (first | apply Kd.R_alloc | apply Kd.R_drewN | apply Kd.R_drew)); exact HO243.out) hb)
  have n6_ := Aside0.mk (Kd.R_below (by (with_reducible repeat (first | apply Kd.R_alloc | apply Kd.R_drewN | apply Kd.R_drew)); exact HO250.out) hb)
  have n7_ := Aside0.mk (Kd.R_below (by (with_reducible repeat (first | apply Kd.R_alloc | apply Kd.R_drewN | apply Kd.R_drew)); exact HO256.out) hb)
  have n8_ := Aside0.mk (blk_below (g := gb228) (o := .cells #[.int .i64 t219, .int .i64 t220, .slice Ao20 t221.length co20, .slice Ao21 t224.length co21, .string t227] 93 (0, 0)) q37_ hb)
  have n9_ := Aside0.mk (blk_below (g := gb245) (o := .cells #[.int .i64 t236, .int .i64 t237, .slice Ao31 t238.length co31, .slice Ao32 t241.length co32, .string t244] 93 (0, 0)) (by (with_reducible repeat (first | refine blk_drewN ?_ _ | refine blk_drew ?_ | refine blk_alloc ?_ _)); exact BK245.out) hb)
  have n10_ := Aside0.mk (below_step q32_ hb)
  clear HO218
  clear HO223
  clear HO226
  clear HO235
  clear HO240
  clear HO243
  clear HO250
  clear HO256
  clear BK228
  clear BK245
  clear HB
  have HO218 := n0_
  have HO223 := n1_
  have HO226 := n2_
  have HO235 := n3_
  have HO240 := n4_
  have HO243 := n5_
  have HO250 := n6_
  have HO256 := n7_
  have BK228 := n8_
  have BK245 := n9_
  have HB := n10_
  clear n0_ n1_ n2_ n3_ n4_ n5_ n6_ n7_ n8_ n9_ n10_
  (try clear hb)
  (try clear hb2)
  (try clear hk)
  (try clear hi)
  refine hK.out _ _ ⟨(blk_cell BK228.out 0).trans rfl, (blk_cell BK228.out 1).trans rfl, (blk_cell BK228.out 2).trans rfl, (blk_cell BK228.out 3).trans rfl, (blk_cell BK228.out 4).trans rfl, (blk_cell BK245.out 0).trans rfl, (blk_cell BK245.out 1).trans rfl, (blk_cell BK245.out 2).trans rfl, (blk_cell BK245.out 3).trans rfl, (blk_cell BK245.out 4).trans rfl⟩ (fun hHeld => ?_)
  clear hK K
  refine norm_ (a' := ?_) ?_ ?_
  rotate_left
  ·show Act.put _ (some 23) _ = _
   simp only [Act.put, List.setIfInBounds_toArray, List.set_cons_zero, List.set_cons_succ, i64_w, i32_w]
   rfl
  refine pure_ (i := 11) (N := some 24) (v := ?_) (a' := ?_) #[true, true, true, true, true, true, true, true, true, true, true, true, false] rfl rfl (any_of HT_.out q9_) (fun _ _ _ h => h) (Or.inl ⟨by rfl, ?_⟩) ?_ ?_
  rotate_left
  ·intro w'
   go_simp
   with_reducible rfl
  rotate_left
  ·simp only [Act.put, List.setIfInBounds_toArray, List.set_cons_zero, List.set_cons_succ, i64_w, i32_w]
   rfl
  refine pure_ (i := 12) (N := some 0) (v := ?_) (a' := ?_) #[true, true, true, true, true, true, true, true, true, true, true, true, true] rfl rfl (any_of HT_.out q9_) (fun _ _ _ h => h) (Or.inl ⟨by rfl, ?_⟩) ?_ ?_
  rotate_left
  ·intro w'
   go_simp
   with_reducible rfl
  rotate_left
  ·simp only [Act.put, List.setIfInBounds_toArray, List.set_cons_zero, List.set_cons_succ, i64_w, i32_w]
   rfl
  refine done_ (done_of HT_.out q9_) ?_
  try go_wp2
  go_ret
  exact ⟨by first | rfl | (simp [errW_none, errW_some] <;> rfl) | (simp [*, errW_none, errW_some] <;> rfl), by repeat (first | (with_reducible first | exact HB.out | apply below_alloc | apply pw_below_drewN | apply below_drew1 | refine below_set ?_ GE228.out | refine below_set ?_ GE245.out) | exact HB.out)⟩
 ·replace c9 := Bool.eq_false_iff.mpr c9
  subst c9
  have H1 : (some false) = some true := by rw [if_neg (show ¬ (false = true) by decide)] at H; exact H
  clear H
  have H := H1
  clear H1
  cases H
end Go.Proofs.YtifmkgkiipckbaaGreatDoor.P
