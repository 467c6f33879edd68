/- A part of the proof of FN: texts of walks and plain lemmas. -/
import Derived.Test.YtifmkgkiipckbaaDoorXFN1
import Derived.Test.YtifmkgkiipckbaaDoorXFN6
import Derived.Test.YtifmkgkiipckbaaDoorXFN8
import Derived.Test.YtifmkgkiipckbaaDoorXFN7
import Derived.Test.YtifmkgkiipckbaaDoorXFN9
namespace Go.Proofs.YtifmkgkiipckbaaDoor.P
open Go.RowKit Go.Proofs.YtifmkgkiipckbaaDoorW.PrintWords Go.Proofs.YtifmkgkiipckbaaDoorW.PrintLast Go.Proofs.YtifmkgkiipckbaaDoorW.PrintMore
attribute [local go_sem] max2_int min2_int max_two min_two max_three min_three max_four min_four
set_option linter.unusedVariables false
set_option linter.unusedSimpArgs false
def ostiarylaw20_FilterNumbers.f (k : Nat)  : Option (Bool) := (ostiarylaw20_h.f (⟨#[120]⟩ : ByteArray) (⟨#[98]⟩ : ByteArray)).bind fun bt159 => ((ostiarylaw20_h.f (⟨#[65, 99, 99, 101, 115, 115, 45, 67, 111, 110, 116, 114, 111, 108, 45, 69, 120, 112, 111, 115, 101, 45, 72, 101, 97, 100, 101, 114, 115]⟩ : ByteArray) (⟨#[88]⟩ : ByteArray)).bind fun bt161 => ((ostiarylaw20_h.f (⟨#[121]⟩ : ByteArray) (⟨#[99]⟩ : ByteArray)).bind fun bt163 => ((filter_Share.f 0 (([(⟨bt159.1, bt159.2⟩ : S72), (⟨bt161.1, bt161.2⟩ : S72), (⟨bt163.1, bt163.2⟩ : S72)] : List (S72))) ([] : List Int) (⟨#[]⟩ : ByteArray) true).bind fun bt168 => ((ostiarylaw20_h.f (⟨#[120]⟩ : ByteArray) (⟨#[98]⟩ : ByteArray)).bind fun bt178 => ((ostiarylaw20_h.f (⟨#[115, 101, 116, 45, 99, 111, 111, 107, 105, 101, 50]⟩ : ByteArray) (⟨#[99]⟩ : ByteArray)).bind fun bt180 => ((ostiarylaw20_h.f (⟨#[65, 99, 99, 101, 115, 115, 45, 67, 111, 110, 116, 114, 111, 108, 45, 69, 120, 112, 111, 115, 101, 45, 72, 101, 97, 100, 101, 114, 115]⟩ : ByteArray) (⟨#[42, 44, 32, 115, 101, 116, 45, 99, 111, 111, 107, 105, 101, 50]⟩ : ByteArray)).bind fun bt182 => ((filter_Share.f 0 (([(⟨bt178.1, bt178.2⟩ : S72), (⟨bt180.1, bt180.2⟩ : S72), (⟨bt182.1, bt182.2⟩ : S72)] : List (S72))) ([] : List Int) (⟨#[]⟩ : ByteArray) false).bind fun bt187 => ((filter_Fail.f).bind fun bt197 => ((ostiarykeep_SameResponse.f k bt197.1 bt197.2.1 bt197.2.2.1 bt197.2.2.2.1 bt197.2.2.2.2 1 0 ([] : List (S72)) ([] : List Int) (⟨#[]⟩ : ByteArray)).bind fun t206 => (if t206 = true then ((filter_Hide.f).bind fun bt207 => ((ostiarykeep_SameResponse.f k bt207.1 bt207.2.1 bt207.2.2.1 bt207.2.2.2.1 bt207.2.2.2.2 4 0 ([] : List (S72)) ([] : List Int) (⟨#[]⟩ : ByteArray)).bind fun t216 => (if t216 = true then ((filter_HideRedirect.f (⟨#[118]⟩ : ByteArray)).bind fun bt217 => ((ostiarykeep_SameResponse.f k bt217.1 bt217.2.1 bt217.2.2.1 bt217.2.2.2.1 bt217.2.2.2.2 5 0 ([] : List (S72)) ([] : List Int) (⟨#[118]⟩ : ByteArray)).bind fun t226 => (if t226 = true then ((ostiarylaw20_h.f (⟨#[120]⟩ : ByteArray) (⟨#[98]⟩ : ByteArray)).bind fun bt227 => ((api_Header.f k bt168.2.2.1 (([(⟨bt227.1, bt227.2⟩ : S72)] : List (S72)))).bind fun t232 => (if t232 = true then (if (bt187.2.2.1.length : Int) = 2 then ((ostiarylaw20_known.f k).bind fun t233 => (some t233)) else (some false)) else (some false)))) else (some false)))) else (some false)))) else (some false)))))))))))
theorem ostiarylaw20_FilterNumbers.mono : ∀ k, LeO (ostiarylaw20_FilterNumbers.f k ) (ostiarylaw20_FilterNumbers.f (k + 1) ) := by
 intro  k
 unfold ostiarylaw20_FilterNumbers.f
 repeat' first
   | (with_reducible exact api_Header.mono _ _ _)
   | (with_reducible exact ostiarykeep_SameResponse.mono _ _ _ _ _ _ _ _ _ _ _)
   | (with_reducible exact ostiarylaw20_known.mono _)
   | (with_reducible exact LeO.refl _)
   | (with_reducible exact LeO.none _)
   | (with_reducible refine LeO.ite ?_ ?_)
   | (with_reducible refine LeO.bind ?_ (fun _ => ?_))
   | exact api_Header.mono _ _ _
   | exact ostiarykeep_SameResponse.mono _ _ _ _ _ _ _ _ _ _ _
   | exact ostiarylaw20_known.mono _
   | exact LeO.none _
   | refine LeO.ite ?_ ?_
   | refine LeO.bind ?_ (fun _ => ?_)
def ostiarylaw20_FilterNumbers.T3 : Bool × List (List Nat × List Nat) := (true, [([], []), ([], []), ([0, 1, 0], [0, 1]), ([2, 2], [2]), ([3, 3], [3]), ([3], [3]), ([4, 5, 4, 3], [3, 4, 5]), ([3, 6], [3, 6]), ([7, 6], [7]), ([8, 8], [8]), ([8], [8]), ([9, 10, 9, 8], [8, 9, 10]), ([8, 11], [8, 11]), ([12, 11], [12]), ([13], [13]), ([14, 13], [13, 14]), ([13, 13], [13]), ([16, 13], [13, 16]), ([15, 17, 16, 13], [13, 15, 17]), ([13, 18], [13, 18]), ([19, 18], [19]), ([20], [20]), ([21, 20], [20, 21]), ([22, 20], [20, 22]), ([23, 20], [20, 23]), ([20, 24], [20, 24]), ([25, 20], [25]), ([26, 26], [26]), ([26, 27], [26, 27]), ([28, 27, 0, 1, 2, 3, 4, 5, 6, 7, 8, 9, 10, 11, 12, 13, 14, 15, 16, 17, 18, 19, 20, 21, 22, 23, 24, 25, 26, 27, 28], [28])])
def ostiarylaw20_FilterNumbers.B3 : List Nat := [0, 0, 3, 7, 15, 15, 63, 127, 255, 511, 511, 2047, 4095, 8191, 16383, 32767, 16383, 81919, 262143, 524287, 1048575, 2097151, 4194303, 8388607, 16777215, 33554431, 67108863, 134217727, 268435455, 536870911]
theorem ostiarylaw20_FilterNumbers.tab3 : rtab .any (opsOf Tryd.f9 3) = ostiarylaw20_FilterNumbers.T3 := by kernel_rfl
theorem ostiarylaw20_FilterNumbers.bits3 : waitsOk ostiarylaw20_FilterNumbers.T3.2 ostiarylaw20_FilterNumbers.B3 = true := by kernel_rfl
set_option maxHeartbeats 8000000 in
set_option maxRecDepth 100000 in
theorem ostiarylaw20_FilterNumbers.calls (k : Nat)  (w : World) (h : ostiarylaw20_FilterNumbers.f k  = some true) :
  Calls Tryd.prog 9 #[] w fun e w' => e = .returned (.bool true) ∧ Below w.heap.size w w' := by
 have hu63 := Tryd.underlying63
 have hu66 := Tryd.underlying66
 have HB := Aside0.mk (Below.refl w.heap.size w)
 have H : ((ostiarylaw20_h.f (⟨#[120]⟩ : ByteArray) (⟨#[98]⟩ : ByteArray)).bind fun bt159 => ((ostiarylaw20_h.f (⟨#[65, 99, 99, 101, 115, 115, 45, 67, 111, 110, 116, 114, 111, 108, 45, 69, 120, 112, 111, 115, 101, 45, 72, 101, 97, 100, 101, 114, 115]⟩ : ByteArray) (⟨#[88]⟩ : ByteArray)).bind fun bt161 => ((ostiarylaw20_h.f (⟨#[121]⟩ : ByteArray) (⟨#[99]⟩ : ByteArray)).bind fun bt163 => ((filter_Share.f 0 (([(⟨bt159.1, bt159.2⟩ : S72), (⟨bt161.1, bt161.2⟩ : S72), (⟨bt163.1, bt163.2⟩ : S72)] : List (S72))) ([] : List Int) (⟨#[]⟩ : ByteArray) true).bind fun bt168 => ((ostiarylaw20_h.f (⟨#[120]⟩ : ByteArray) (⟨#[98]⟩ : ByteArray)).bind fun bt178 => ((ostiarylaw20_h.f (⟨#[115, 101, 116, 45, 99, 111, 111, 107, 105, 101, 50]⟩ : ByteArray) (⟨#[99]⟩ : ByteArray)).bind fun bt180 => ((ostiarylaw20_h.f (⟨#[65, 99, 99, 101, 115, 115, 45, 67, 111, 110, 116, 114, 111, 108, 45, 69, 120, 112, 111, 115, 101, 45, 72, 101, 97, 100, 101, 114, 115]⟩ : ByteArray) (⟨#[42, 44, 32, 115, 101, 116, 45, 99, 111, 111, 107, 105, 101, 50]⟩ : ByteArray)).bind fun bt182 => ((filter_Share.f 0 (([(⟨bt178.1, bt178.2⟩ : S72), (⟨bt180.1, bt180.2⟩ : S72), (⟨bt182.1, bt182.2⟩ : S72)] : List (S72))) ([] : List Int) (⟨#[]⟩ : ByteArray) false).bind fun bt187 => ((filter_Fail.f).bind fun bt197 => ((ostiarykeep_SameResponse.f k bt197.1 bt197.2.1 bt197.2.2.1 bt197.2.2.2.1 bt197.2.2.2.2 1 0 ([] : List (S72)) ([] : List Int) (⟨#[]⟩ : ByteArray)).bind fun t206 => (if t206 = true then ((filter_Hide.f).bind fun bt207 => ((ostiarykeep_SameResponse.f k bt207.1 bt207.2.1 bt207.2.2.1 bt207.2.2.2.1 bt207.2.2.2.2 4 0 ([] : List (S72)) ([] : List Int) (⟨#[]⟩ : ByteArray)).bind fun t216 => (if t216 = true then ((filter_HideRedirect.f (⟨#[118]⟩ : ByteArray)).bind fun bt217 => ((ostiarykeep_SameResponse.f k bt217.1 bt217.2.1 bt217.2.2.1 bt217.2.2.2.1 bt217.2.2.2.2 5 0 ([] : List (S72)) ([] : List Int) (⟨#[118]⟩ : ByteArray)).bind fun t226 => (if t226 = true then ((ostiarylaw20_h.f (⟨#[120]⟩ : ByteArray) (⟨#[98]⟩ : ByteArray)).bind fun bt227 => ((api_Header.f k bt168.2.2.1 (([(⟨bt227.1, bt227.2⟩ : S72)] : List (S72)))).bind fun t232 => (if t232 = true then (if (bt187.2.2.1.length : Int) = 2 then ((ostiarylaw20_known.f k).bind fun t233 => (some t233)) else (some false)) else (some false)))) else (some false)))) else (some false)))) else (some false)))))))))))) = some true := h
 clear h
 replace H := Option.bind_eq_some_iff.mp H
 obtain ⟨⟨t159, t160⟩, A10, H⟩ := H
 replace H : ((ostiarylaw20_h.f (⟨#[65, 99, 99, 101, 115, 115, 45, 67, 111, 110, 116, 114, 111, 108, 45, 69, 120, 112, 111, 115, 101, 45, 72, 101, 97, 100, 101, 114, 115]⟩ : ByteArray) (⟨#[88]⟩ : ByteArray)).bind fun bt161 => ((ostiarylaw20_h.f (⟨#[121]⟩ : ByteArray) (⟨#[99]⟩ : ByteArray)).bind fun bt163 => ((filter_Share.f 0 (([(⟨t159, t160⟩ : S72), (⟨bt161.1, bt161.2⟩ : S72), (⟨bt163.1, bt163.2⟩ : S72)] : List (S72))) ([] : List Int) (⟨#[]⟩ : ByteArray) true).bind fun bt168 => ((ostiarylaw20_h.f (⟨#[120]⟩ : ByteArray) (⟨#[98]⟩ : ByteArray)).bind fun bt178 => ((ostiarylaw20_h.f (⟨#[115, 101, 116, 45, 99, 111, 111, 107, 105, 101, 50]⟩ : ByteArray) (⟨#[99]⟩ : ByteArray)).bind fun bt180 => ((ostiarylaw20_h.f (⟨#[65, 99, 99, 101, 115, 115, 45, 67, 111, 110, 116, 114, 111, 108, 45, 69, 120, 112, 111, 115, 101, 45, 72, 101, 97, 100, 101, 114, 115]⟩ : ByteArray) (⟨#[42, 44, 32, 115, 101, 116, 45, 99, 111, 111, 107, 105, 101, 50]⟩ : ByteArray)).bind fun bt182 => ((filter_Share.f 0 (([(⟨bt178.1, bt178.2⟩ : S72), (⟨bt180.1, bt180.2⟩ : S72), (⟨bt182.1, bt182.2⟩ : S72)] : List (S72))) ([] : List Int) (⟨#[]⟩ : ByteArray) false).bind fun bt187 => ((filter_Fail.f).bind fun bt197 => ((ostiarykeep_SameResponse.f k bt197.1 bt197.2.1 bt197.2.2.1 bt197.2.2.2.1 bt197.2.2.2.2 1 0 ([] : List (S72)) ([] : List Int) (⟨#[]⟩ : ByteArray)).bind fun t206 => (if t206 = true then ((filter_Hide.f).bind fun bt207 => ((ostiarykeep_SameResponse.f k bt207.1 bt207.2.1 bt207.2.2.1 bt207.2.2.2.1 bt207.2.2.2.2 4 0 ([] : List (S72)) ([] : List Int) (⟨#[]⟩ : ByteArray)).bind fun t216 => (if t216 = true then ((filter_HideRedirect.f (⟨#[118]⟩ : ByteArray)).bind fun bt217 => ((ostiarykeep_SameResponse.f k bt217.1 bt217.2.1 bt217.2.2.1 bt217.2.2.2.1 bt217.2.2.2.2 5 0 ([] : List (S72)) ([] : List Int) (⟨#[118]⟩ : ByteArray)).bind fun t226 => (if t226 = true then ((ostiarylaw20_h.f (⟨#[120]⟩ : ByteArray) (⟨#[98]⟩ : ByteArray)).bind fun bt227 => ((api_Header.f k bt168.2.2.1 (([(⟨bt227.1, bt227.2⟩ : S72)] : List (S72)))).bind fun t232 => (if t232 = true then (if (bt187.2.2.1.length : Int) = 2 then ((ostiarylaw20_known.f k).bind fun t233 => (some t233)) else (some false)) else (some false)))) else (some false)))) else (some false)))) else (some false))))))))))) = some true := H
 have A1 := Aside0.mk A10
 clear A10
 replace H := Option.bind_eq_some_iff.mp H
 obtain ⟨⟨t161, t162⟩, A20, H⟩ := H
 replace H : ((ostiarylaw20_h.f (⟨#[121]⟩ : ByteArray) (⟨#[99]⟩ : ByteArray)).bind fun bt163 => ((filter_Share.f 0 (([(⟨t159, t160⟩ : S72), (⟨t161, t162⟩ : S72), (⟨bt163.1, bt163.2⟩ : S72)] : List (S72))) ([] : List Int) (⟨#[]⟩ : ByteArray) true).bind fun bt168 => ((ostiarylaw20_h.f (⟨#[120]⟩ : ByteArray) (⟨#[98]⟩ : ByteArray)).bind fun bt178 => ((ostiarylaw20_h.f (⟨#[115, 101, 116, 45, 99, 111, 111, 107, 105, 101, 50]⟩ : ByteArray) (⟨#[99]⟩ : ByteArray)).bind fun bt180 => ((ostiarylaw20_h.f (⟨#[65, 99, 99, 101, 115, 115, 45, 67, 111, 110, 116, 114, 111, 108, 45, 69, 120, 112, 111, 115, 101, 45, 72, 101, 97, 100, 101, 114, 115]⟩ : ByteArray) (⟨#[42, 44, 32, 115, 101, 116, 45, 99, 111, 111, 107, 105, 101, 50]⟩ : ByteArray)).bind fun bt182 => ((filter_Share.f 0 (([(⟨bt178.1, bt178.2⟩ : S72), (⟨bt180.1, bt180.2⟩ : S72), (⟨bt182.1, bt182.2⟩ : S72)] : List (S72))) ([] : List Int) (⟨#[]⟩ : ByteArray) false).bind fun bt187 => ((filter_Fail.f).bind fun bt197 => ((ostiarykeep_SameResponse.f k bt197.1 bt197.2.1 bt197.2.2.1 bt197.2.2.2.1 bt197.2.2.2.2 1 0 ([] : List (S72)) ([] : List Int) (⟨#[]⟩ : ByteArray)).bind fun t206 => (if t206 = true then ((filter_Hide.f).bind fun bt207 => ((ostiarykeep_SameResponse.f k bt207.1 bt207.2.1 bt207.2.2.1 bt207.2.2.2.1 bt207.2.2.2.2 4 0 ([] : List (S72)) ([] : List Int) (⟨#[]⟩ : ByteArray)).bind fun t216 => (if t216 = true then ((filter_HideRedirect.f (⟨#[118]⟩ : ByteArray)).bind fun bt217 => ((ostiarykeep_SameResponse.f k bt217.1 bt217.2.1 bt217.2.2.1 bt217.2.2.2.1 bt217.2.2.2.2 5 0 ([] : List (S72)) ([] : List Int) (⟨#[118]⟩ : ByteArray)).bind fun t226 => (if t226 = true then ((ostiarylaw20_h.f (⟨#[120]⟩ : ByteArray) (⟨#[98]⟩ : ByteArray)).bind fun bt227 => ((api_Header.f k bt168.2.2.1 (([(⟨bt227.1, bt227.2⟩ : S72)] : List (S72)))).bind fun t232 => (if t232 = true then (if (bt187.2.2.1.length : Int) = 2 then ((ostiarylaw20_known.f k).bind fun t233 => (some t233)) else (some false)) else (some false)))) else (some false)))) else (some false)))) else (some false)))))))))) = some true := H
 have A2 := Aside0.mk A20
 clear A20
 replace H := Option.bind_eq_some_iff.mp H
 obtain ⟨⟨t163, t164⟩, A30, H⟩ := H
 replace H : ((filter_Share.f 0 (([(⟨t159, t160⟩ : S72), (⟨t161, t162⟩ : S72), (⟨t163, t164⟩ : S72)] : List (S72))) ([] : List Int) (⟨#[]⟩ : ByteArray) true).bind fun bt168 => ((ostiarylaw20_h.f (⟨#[120]⟩ : ByteArray) (⟨#[98]⟩ : ByteArray)).bind fun bt178 => ((ostiarylaw20_h.f (⟨#[115, 101, 116, 45, 99, 111, 111, 107, 105, 101, 50]⟩ : ByteArray) (⟨#[99]⟩ : ByteArray)).bind fun bt180 => ((ostiarylaw20_h.f (⟨#[65, 99, 99, 101, 115, 115, 45, 67, 111, 110, 116, 114, 111, 108, 45, 69, 120, 112, 111, 115, 101, 45, 72, 101, 97, 100, 101, 114, 115]⟩ : ByteArray) (⟨#[42, 44, 32, 115, 101, 116, 45, 99, 111, 111, 107, 105, 101, 50]⟩ : ByteArray)).bind fun bt182 => ((filter_Share.f 0 (([(⟨bt178.1, bt178.2⟩ : S72), (⟨bt180.1, bt180.2⟩ : S72), (⟨bt182.1, bt182.2⟩ : S72)] : List (S72))) ([] : List Int) (⟨#[]⟩ : ByteArray) false).bind fun bt187 => ((filter_Fail.f).bind fun bt197 => ((ostiarykeep_SameResponse.f k bt197.1 bt197.2.1 bt197.2.2.1 bt197.2.2.2.1 bt197.2.2.2.2 1 0 ([] : List (S72)) ([] : List Int) (⟨#[]⟩ : ByteArray)).bind fun t206 => (if t206 = true then ((filter_Hide.f).bind fun bt207 => ((ostiarykeep_SameResponse.f k bt207.1 bt207.2.1 bt207.2.2.1 bt207.2.2.2.1 bt207.2.2.2.2 4 0 ([] : List (S72)) ([] : List Int) (⟨#[]⟩ : ByteArray)).bind fun t216 => (if t216 = true then ((filter_HideRedirect.f (⟨#[118]⟩ : ByteArray)).bind fun bt217 => ((ostiarykeep_SameResponse.f k bt217.1 bt217.2.1 bt217.2.2.1 bt217.2.2.2.1 bt217.2.2.2.2 5 0 ([] : List (S72)) ([] : List Int) (⟨#[118]⟩ : ByteArray)).bind fun t226 => (if t226 = true then ((ostiarylaw20_h.f (⟨#[120]⟩ : ByteArray) (⟨#[98]⟩ : ByteArray)).bind fun bt227 => ((api_Header.f k bt168.2.2.1 (([(⟨bt227.1, bt227.2⟩ : S72)] : List (S72)))).bind fun t232 => (if t232 = true then (if (bt187.2.2.1.length : Int) = 2 then ((ostiarylaw20_known.f k).bind fun t233 => (some t233)) else (some false)) else (some false)))) else (some false)))) else (some false)))) else (some false))))))))) = some true := H
 have A3 := Aside0.mk A30
 clear A30
 obtain ⟨y165, hy165⟩ : ∃ y_ : List (S72), y_ = (([(⟨t159, t160⟩ : S72), (⟨t161, t162⟩ : S72), (⟨t163, t164⟩ : S72)] : List (S72))) := ⟨_, rfl⟩
 replace H : ((filter_Share.f 0 y165 ([] : List Int) (⟨#[]⟩ : ByteArray) true).bind fun bt168 => ((ostiarylaw20_h.f (⟨#[120]⟩ : ByteArray) (⟨#[98]⟩ : ByteArray)).bind fun bt178 => ((ostiarylaw20_h.f (⟨#[115, 101, 116, 45, 99, 111, 111, 107, 105, 101, 50]⟩ : ByteArray) (⟨#[99]⟩ : ByteArray)).bind fun bt180 => ((ostiarylaw20_h.f (⟨#[65, 99, 99, 101, 115, 115, 45, 67, 111, 110, 116, 114, 111, 108, 45, 69, 120, 112, 111, 115, 101, 45, 72, 101, 97, 100, 101, 114, 115]⟩ : ByteArray) (⟨#[42, 44, 32, 115, 101, 116, 45, 99, 111, 111, 107, 105, 101, 50]⟩ : ByteArray)).bind fun bt182 => ((filter_Share.f 0 (([(⟨bt178.1, bt178.2⟩ : S72), (⟨bt180.1, bt180.2⟩ : S72), (⟨bt182.1, bt182.2⟩ : S72)] : List (S72))) ([] : List Int) (⟨#[]⟩ : ByteArray) false).bind fun bt187 => ((filter_Fail.f).bind fun bt197 => ((ostiarykeep_SameResponse.f k bt197.1 bt197.2.1 bt197.2.2.1 bt197.2.2.2.1 bt197.2.2.2.2 1 0 ([] : List (S72)) ([] : List Int) (⟨#[]⟩ : ByteArray)).bind fun t206 => (if t206 = true then ((filter_Hide.f).bind fun bt207 => ((ostiarykeep_SameResponse.f k bt207.1 bt207.2.1 bt207.2.2.1 bt207.2.2.2.1 bt207.2.2.2.2 4 0 ([] : List (S72)) ([] : List Int) (⟨#[]⟩ : ByteArray)).bind fun t216 => (if t216 = true then ((filter_HideRedirect.f (⟨#[118]⟩ : ByteArray)).bind fun bt217 => ((ostiarykeep_SameResponse.f k bt217.1 bt217.2.1 bt217.2.2.1 bt217.2.2.2.1 bt217.2.2.2.2 5 0 ([] : List (S72)) ([] : List Int) (⟨#[118]⟩ : ByteArray)).bind fun t226 => (if t226 = true then ((ostiarylaw20_h.f (⟨#[120]⟩ : ByteArray) (⟨#[98]⟩ : ByteArray)).bind fun bt227 => ((api_Header.f k bt168.2.2.1 (([(⟨bt227.1, bt227.2⟩ : S72)] : List (S72)))).bind fun t232 => (if t232 = true then (if (bt187.2.2.1.length : Int) = 2 then ((ostiarylaw20_known.f k).bind fun t233 => (some t233)) else (some false)) else (some false)))) else (some false)))) else (some false)))) else (some false))))))))) = some true := by first | (rw [hy165]; with_reducible exact H) | (have H2_ := (Option.bind_some _ _).symm.trans H; rw [hy165]; with_reducible exact H2_) | (have H2_ := (Option.bind_some _ _).symm.trans H; with_reducible exact H2_) | with_reducible exact H | (rw [hy165]; exact H) | exact H
 have Ny165 := Aside0.mk hy165
 clear hy165
 replace H := Option.bind_eq_some_iff.mp H
 obtain ⟨⟨t168, t169, t170, t173, t176⟩, A40, H⟩ := H
 replace H : ((ostiarylaw20_h.f (⟨#[120]⟩ : ByteArray) (⟨#[98]⟩ : ByteArray)).bind fun bt178 => ((ostiarylaw20_h.f (⟨#[115, 101, 116, 45, 99, 111, 111, 107, 105, 101, 50]⟩ : ByteArray) (⟨#[99]⟩ : ByteArray)).bind fun bt180 => ((ostiarylaw20_h.f (⟨#[65, 99, 99, 101, 115, 115, 45, 67, 111, 110, 116, 114, 111, 108, 45, 69, 120, 112, 111, 115, 101, 45, 72, 101, 97, 100, 101, 114, 115]⟩ : ByteArray) (⟨#[42, 44, 32, 115, 101, 116, 45, 99, 111, 111, 107, 105, 101, 50]⟩ : ByteArray)).bind fun bt182 => ((filter_Share.f 0 (([(⟨bt178.1, bt178.2⟩ : S72), (⟨bt180.1, bt180.2⟩ : S72), (⟨bt182.1, bt182.2⟩ : S72)] : List (S72))) ([] : List Int) (⟨#[]⟩ : ByteArray) false).bind fun bt187 => ((filter_Fail.f).bind fun bt197 => ((ostiarykeep_SameResponse.f k bt197.1 bt197.2.1 bt197.2.2.1 bt197.2.2.2.1 bt197.2.2.2.2 1 0 ([] : List (S72)) ([] : List Int) (⟨#[]⟩ : ByteArray)).bind fun t206 => (if t206 = true then ((filter_Hide.f).bind fun bt207 => ((ostiarykeep_SameResponse.f k bt207.1 bt207.2.1 bt207.2.2.1 bt207.2.2.2.1 bt207.2.2.2.2 4 0 ([] : List (S72)) ([] : List Int) (⟨#[]⟩ : ByteArray)).bind fun t216 => (if t216 = true then ((filter_HideRedirect.f (⟨#[118]⟩ : ByteArray)).bind fun bt217 => ((ostiarykeep_SameResponse.f k bt217.1 bt217.2.1 bt217.2.2.1 bt217.2.2.2.1 bt217.2.2.2.2 5 0 ([] : List (S72)) ([] : List Int) (⟨#[118]⟩ : ByteArray)).bind fun t226 => (if t226 = true then ((ostiarylaw20_h.f (⟨#[120]⟩ : ByteArray) (⟨#[98]⟩ : ByteArray)).bind fun bt227 => ((api_Header.f k t170 (([(⟨bt227.1, bt227.2⟩ : S72)] : List (S72)))).bind fun t232 => (if t232 = true then (if (bt187.2.2.1.length : Int) = 2 then ((ostiarylaw20_known.f k).bind fun t233 => (some t233)) else (some false)) else (some false)))) else (some false)))) else (some false)))) else (some false)))))))) = some true := H
 have A4 := Aside0.mk A40
 clear A40
 replace H := Option.bind_eq_some_iff.mp H
 obtain ⟨⟨t178, t179⟩, A50, H⟩ := H
 replace H : ((ostiarylaw20_h.f (⟨#[115, 101, 116, 45, 99, 111, 111, 107, 105, 101, 50]⟩ : ByteArray) (⟨#[99]⟩ : ByteArray)).bind fun bt180 => ((ostiarylaw20_h.f (⟨#[65, 99, 99, 101, 115, 115, 45, 67, 111, 110, 116, 114, 111, 108, 45, 69, 120, 112, 111, 115, 101, 45, 72, 101, 97, 100, 101, 114, 115]⟩ : ByteArray) (⟨#[42, 44, 32, 115, 101, 116, 45, 99, 111, 111, 107, 105, 101, 50]⟩ : ByteArray)).bind fun bt182 => ((filter_Share.f 0 (([(⟨t178, t179⟩ : S72), (⟨bt180.1, bt180.2⟩ : S72), (⟨bt182.1, bt182.2⟩ : S72)] : List (S72))) ([] : List Int) (⟨#[]⟩ : ByteArray) false).bind fun bt187 => ((filter_Fail.f).bind fun bt197 => ((ostiarykeep_SameResponse.f k bt197.1 bt197.2.1 bt197.2.2.1 bt197.2.2.2.1 bt197.2.2.2.2 1 0 ([] : List (S72)) ([] : List Int) (⟨#[]⟩ : ByteArray)).bind fun t206 => (if t206 = true then ((filter_Hide.f).bind fun bt207 => ((ostiarykeep_SameResponse.f k bt207.1 bt207.2.1 bt207.2.2.1 bt207.2.2.2.1 bt207.2.2.2.2 4 0 ([] : List (S72)) ([] : List Int) (⟨#[]⟩ : ByteArray)).bind fun t216 => (if t216 = true then ((filter_HideRedirect.f (⟨#[118]⟩ : ByteArray)).bind fun bt217 => ((ostiarykeep_SameResponse.f k bt217.1 bt217.2.1 bt217.2.2.1 bt217.2.2.2.1 bt217.2.2.2.2 5 0 ([] : List (S72)) ([] : List Int) (⟨#[118]⟩ : ByteArray)).bind fun t226 => (if t226 = true then ((ostiarylaw20_h.f (⟨#[120]⟩ : ByteArray) (⟨#[98]⟩ : ByteArray)).bind fun bt227 => ((api_Header.f k t170 (([(⟨bt227.1, bt227.2⟩ : S72)] : List (S72)))).bind fun t232 => (if t232 = true then (if (bt187.2.2.1.length : Int) = 2 then ((ostiarylaw20_known.f k).bind fun t233 => (some t233)) else (some false)) else (some false)))) else (some false)))) else (some false)))) else (some false))))))) = some true := H
 have A5 := Aside0.mk A50
 clear A50
 replace H := Option.bind_eq_some_iff.mp H
 obtain ⟨⟨t180, t181⟩, A60, H⟩ := H
 replace H : ((ostiarylaw20_h.f (⟨#[65, 99, 99, 101, 115, 115, 45, 67, 111, 110, 116, 114, 111, 108, 45, 69, 120, 112, 111, 115, 101, 45, 72, 101, 97, 100, 101, 114, 115]⟩ : ByteArray) (⟨#[42, 44, 32, 115, 101, 116, 45, 99, 111, 111, 107, 105, 101, 50]⟩ : ByteArray)).bind fun bt182 => ((filter_Share.f 0 (([(⟨t178, t179⟩ : S72), (⟨t180, t181⟩ : S72), (⟨bt182.1, bt182.2⟩ : S72)] : List (S72))) ([] : List Int) (⟨#[]⟩ : ByteArray) false).bind fun bt187 => ((filter_Fail.f).bind fun bt197 => ((ostiarykeep_SameResponse.f k bt197.1 bt197.2.1 bt197.2.2.1 bt197.2.2.2.1 bt197.2.2.2.2 1 0 ([] : List (S72)) ([] : List Int) (⟨#[]⟩ : ByteArray)).bind fun t206 => (if t206 = true then ((filter_Hide.f).bind fun bt207 => ((ostiarykeep_SameResponse.f k bt207.1 bt207.2.1 bt207.2.2.1 bt207.2.2.2.1 bt207.2.2.2.2 4 0 ([] : List (S72)) ([] : List Int) (⟨#[]⟩ : ByteArray)).bind fun t216 => (if t216 = true then ((filter_HideRedirect.f (⟨#[118]⟩ : ByteArray)).bind fun bt217 => ((ostiarykeep_SameResponse.f k bt217.1 bt217.2.1 bt217.2.2.1 bt217.2.2.2.1 bt217.2.2.2.2 5 0 ([] : List (S72)) ([] : List Int) (⟨#[118]⟩ : ByteArray)).bind fun t226 => (if t226 = true then ((ostiarylaw20_h.f (⟨#[120]⟩ : ByteArray) (⟨#[98]⟩ : ByteArray)).bind fun bt227 => ((api_Header.f k t170 (([(⟨bt227.1, bt227.2⟩ : S72)] : List (S72)))).bind fun t232 => (if t232 = true then (if (bt187.2.2.1.length : Int) = 2 then ((ostiarylaw20_known.f k).bind fun t233 => (some t233)) else (some false)) else (some false)))) else (some false)))) else (some false)))) else (some false)))))) = some true := H
 have A6 := Aside0.mk A60
 clear A60
 replace H := Option.bind_eq_some_iff.mp H
 obtain ⟨⟨t182, t183⟩, A70, H⟩ := H
 replace H : ((filter_Share.f 0 (([(⟨t178, t179⟩ : S72), (⟨t180, t181⟩ : S72), (⟨t182, t183⟩ : S72)] : List (S72))) ([] : List Int) (⟨#[]⟩ : ByteArray) false).bind fun bt187 => ((filter_Fail.f).bind fun bt197 => ((ostiarykeep_SameResponse.f k bt197.1 bt197.2.1 bt197.2.2.1 bt197.2.2.2.1 bt197.2.2.2.2 1 0 ([] : List (S72)) ([] : List Int) (⟨#[]⟩ : ByteArray)).bind fun t206 => (if t206 = true then ((filter_Hide.f).bind fun bt207 => ((ostiarykeep_SameResponse.f k bt207.1 bt207.2.1 bt207.2.2.1 bt207.2.2.2.1 bt207.2.2.2.2 4 0 ([] : List (S72)) ([] : List Int) (⟨#[]⟩ : ByteArray)).bind fun t216 => (if t216 = true then ((filter_HideRedirect.f (⟨#[118]⟩ : ByteArray)).bind fun bt217 => ((ostiarykeep_SameResponse.f k bt217.1 bt217.2.1 bt217.2.2.1 bt217.2.2.2.1 bt217.2.2.2.2 5 0 ([] : List (S72)) ([] : List Int) (⟨#[118]⟩ : ByteArray)).bind fun t226 => (if t226 = true then ((ostiarylaw20_h.f (⟨#[120]⟩ : ByteArray) (⟨#[98]⟩ : ByteArray)).bind fun bt227 => ((api_Header.f k t170 (([(⟨bt227.1, bt227.2⟩ : S72)] : List (S72)))).bind fun t232 => (if t232 = true then (if (bt187.2.2.1.length : Int) = 2 then ((ostiarylaw20_known.f k).bind fun t233 => (some t233)) else (some false)) else (some false)))) else (some false)))) else (some false)))) else (some false))))) = some true := H
 have A7 := Aside0.mk A70
 clear A70
 obtain ⟨y184, hy184⟩ : ∃ y_ : List (S72), y_ = (([(⟨t178, t179⟩ : S72), (⟨t180, t181⟩ : S72), (⟨t182, t183⟩ : S72)] : List (S72))) := ⟨_, rfl⟩
 replace H : ((filter_Share.f 0 y184 ([] : List Int) (⟨#[]⟩ : ByteArray) false).bind fun bt187 => ((filter_Fail.f).bind fun bt197 => ((ostiarykeep_SameResponse.f k bt197.1 bt197.2.1 bt197.2.2.1 bt197.2.2.2.1 bt197.2.2.2.2 1 0 ([] : List (S72)) ([] : List Int) (⟨#[]⟩ : ByteArray)).bind fun t206 => (if t206 = true then ((filter_Hide.f).bind fun bt207 => ((ostiarykeep_SameResponse.f k bt207.1 bt207.2.1 bt207.2.2.1 bt207.2.2.2.1 bt207.2.2.2.2 4 0 ([] : List (S72)) ([] : List Int) (⟨#[]⟩ : ByteArray)).bind fun t216 => (if t216 = true then ((filter_HideRedirect.f (⟨#[118]⟩ : ByteArray)).bind fun bt217 => ((ostiarykeep_SameResponse.f k bt217.1 bt217.2.1 bt217.2.2.1 bt217.2.2.2.1 bt217.2.2.2.2 5 0 ([] : List (S72)) ([] : List Int) (⟨#[118]⟩ : ByteArray)).bind fun t226 => (if t226 = true then ((ostiarylaw20_h.f (⟨#[120]⟩ : ByteArray) (⟨#[98]⟩ : ByteArray)).bind fun bt227 => ((api_Header.f k t170 (([(⟨bt227.1, bt227.2⟩ : S72)] : List (S72)))).bind fun t232 => (if t232 = true then (if (bt187.2.2.1.length : Int) = 2 then ((ostiarylaw20_known.f k).bind fun t233 => (some t233)) else (some false)) else (some false)))) else (some false)))) else (some false)))) else (some false))))) = some true := by first | (rw [hy184]; with_reducible exact H) | (have H2_ := (Option.bind_some _ _).symm.trans H; rw [hy184]; with_reducible exact H2_) | (have H2_ := (Option.bind_some _ _).symm.trans H; with_reducible exact H2_) | with_reducible exact H | (rw [hy184]; exact H) | exact H
 have Ny184 := Aside0.mk hy184
 clear hy184
 replace H := Option.bind_eq_some_iff.mp H
 obtain ⟨⟨t187, t188, t189, t192, t195⟩, A80, H⟩ := H
 replace H : ((filter_Fail.f).bind fun bt197 => ((ostiarykeep_SameResponse.f k bt197.1 bt197.2.1 bt197.2.2.1 bt197.2.2.2.1 bt197.2.2.2.2 1 0 ([] : List (S72)) ([] : List Int) (⟨#[]⟩ : ByteArray)).bind fun t206 => (if t206 = true then ((filter_Hide.f).bind fun bt207 => ((ostiarykeep_SameResponse.f k bt207.1 bt207.2.1 bt207.2.2.1 bt207.2.2.2.1 bt207.2.2.2.2 4 0 ([] : List (S72)) ([] : List Int) (⟨#[]⟩ : ByteArray)).bind fun t216 => (if t216 = true then ((filter_HideRedirect.f (⟨#[118]⟩ : ByteArray)).bind fun bt217 => ((ostiarykeep_SameResponse.f k bt217.1 bt217.2.1 bt217.2.2.1 bt217.2.2.2.1 bt217.2.2.2.2 5 0 ([] : List (S72)) ([] : List Int) (⟨#[118]⟩ : ByteArray)).bind fun t226 => (if t226 = true then ((ostiarylaw20_h.f (⟨#[120]⟩ : ByteArray) (⟨#[98]⟩ : ByteArray)).bind fun bt227 => ((api_Header.f k t170 (([(⟨bt227.1, bt227.2⟩ : S72)] : List (S72)))).bind fun t232 => (if t232 = true then (if (t189.length : Int) = 2 then ((ostiarylaw20_known.f k).bind fun t233 => (some t233)) else (some false)) else (some false)))) else (some false)))) else (some false)))) else (some false)))) = some true := H
 have A8 := Aside0.mk A80
 clear A80
 replace H := Option.bind_eq_some_iff.mp H
 obtain ⟨⟨t197, t198, t199, t202, t205⟩, A90, H⟩ := H
 replace H : ((ostiarykeep_SameResponse.f k t197 t198 t199 t202 t205 1 0 ([] : List (S72)) ([] : List Int) (⟨#[]⟩ : ByteArray)).bind fun t206 => (if t206 = true then ((filter_Hide.f).bind fun bt207 => ((ostiarykeep_SameResponse.f k bt207.1 bt207.2.1 bt207.2.2.1 bt207.2.2.2.1 bt207.2.2.2.2 4 0 ([] : List (S72)) ([] : List Int) (⟨#[]⟩ : ByteArray)).bind fun t216 => (if t216 = true then ((filter_HideRedirect.f (⟨#[118]⟩ : ByteArray)).bind fun bt217 => ((ostiarykeep_SameResponse.f k bt217.1 bt217.2.1 bt217.2.2.1 bt217.2.2.2.1 bt217.2.2.2.2 5 0 ([] : List (S72)) ([] : List Int) (⟨#[118]⟩ : ByteArray)).bind fun t226 => (if t226 = true then ((ostiarylaw20_h.f (⟨#[120]⟩ : ByteArray) (⟨#[98]⟩ : ByteArray)).bind fun bt227 => ((api_Header.f k t170 (([(⟨bt227.1, bt227.2⟩ : S72)] : List (S72)))).bind fun t232 => (if t232 = true then (if (t189.length : Int) = 2 then ((ostiarylaw20_known.f k).bind fun t233 => (some t233)) else (some false)) else (some false)))) else (some false)))) else (some false)))) else (some false))) = some true := H
 have A9 := Aside0.mk A90
 clear A90
 replace H := Option.bind_eq_some_iff.mp H
 obtain ⟨t206, A100, H⟩ := H
 replace H : (if t206 = true then ((filter_Hide.f).bind fun bt207 => ((ostiarykeep_SameResponse.f k bt207.1 bt207.2.1 bt207.2.2.1 bt207.2.2.2.1 bt207.2.2.2.2 4 0 ([] : List (S72)) ([] : List Int) (⟨#[]⟩ : ByteArray)).bind fun t216 => (if t216 = true then ((filter_HideRedirect.f (⟨#[118]⟩ : ByteArray)).bind fun bt217 => ((ostiarykeep_SameResponse.f k bt217.1 bt217.2.1 bt217.2.2.1 bt217.2.2.2.1 bt217.2.2.2.2 5 0 ([] : List (S72)) ([] : List Int) (⟨#[118]⟩ : ByteArray)).bind fun t226 => (if t226 = true then ((ostiarylaw20_h.f (⟨#[120]⟩ : ByteArray) (⟨#[98]⟩ : ByteArray)).bind fun bt227 => ((api_Header.f k t170 (([(⟨bt227.1, bt227.2⟩ : S72)] : List (S72)))).bind fun t232 => (if t232 = true then (if (t189.length : Int) = 2 then ((ostiarylaw20_known.f k).bind fun t233 => (some t233)) else (some false)) else (some false)))) else (some false)))) else (some false)))) else (some false)) = some true := H
 have A10 := Aside0.mk A100
 clear A100
 by_cases c11 : t206 = true
 ·subst c11
  have H1 : ((filter_Hide.f).bind fun bt207 => ((ostiarykeep_SameResponse.f k bt207.1 bt207.2.1 bt207.2.2.1 bt207.2.2.2.1 bt207.2.2.2.2 4 0 ([] : List (S72)) ([] : List Int) (⟨#[]⟩ : ByteArray)).bind fun t216 => (if t216 = true then ((filter_HideRedirect.f (⟨#[118]⟩ : ByteArray)).bind fun bt217 => ((ostiarykeep_SameResponse.f k bt217.1 bt217.2.1 bt217.2.2.1 bt217.2.2.2.1 bt217.2.2.2.2 5 0 ([] : List (S72)) ([] : List Int) (⟨#[118]⟩ : ByteArray)).bind fun t226 => (if t226 = true then ((ostiarylaw20_h.f (⟨#[120]⟩ : ByteArray) (⟨#[98]⟩ : ByteArray)).bind fun bt227 => ((api_Header.f k t170 (([(⟨bt227.1, bt227.2⟩ : S72)] : List (S72)))).bind fun t232 => (if t232 = true then (if (t189.length : Int) = 2 then ((ostiarylaw20_known.f k).bind fun t233 => (some t233)) else (some false)) else (some false)))) else (some false)))) else (some false)))) = some true := by rw [if_pos rfl] at H; exact H
  clear H
  have H := H1
  clear H1
  replace H := Option.bind_eq_some_iff.mp H
  obtain ⟨⟨t207, t208, t209, t212, t215⟩, A120, H⟩ := H
  replace H : ((ostiarykeep_SameResponse.f k t207 t208 t209 t212 t215 4 0 ([] : List (S72)) ([] : List Int) (⟨#[]⟩ : ByteArray)).bind fun t216 => (if t216 = true then ((filter_HideRedirect.f (⟨#[118]⟩ : ByteArray)).bind fun bt217 => ((ostiarykeep_SameResponse.f k bt217.1 bt217.2.1 bt217.2.2.1 bt217.2.2.2.1 bt217.2.2.2.2 5 0 ([] : List (S72)) ([] : List Int) (⟨#[118]⟩ : ByteArray)).bind fun t226 => (if t226 = true then ((ostiarylaw20_h.f (⟨#[120]⟩ : ByteArray) (⟨#[98]⟩ : ByteArray)).bind fun bt227 => ((api_Header.f k t170 (([(⟨bt227.1, bt227.2⟩ : S72)] : List (S72)))).bind fun t232 => (if t232 = true then (if (t189.length : Int) = 2 then ((ostiarylaw20_known.f k).bind fun t233 => (some t233)) else (some false)) else (some false)))) else (some false)))) else (some false))) = some true := H
  have A12 := Aside0.mk A120
  clear A120
  replace H := Option.bind_eq_some_iff.mp H
  obtain ⟨t216, A130, H⟩ := H
  replace H : (if t216 = true then ((filter_HideRedirect.f (⟨#[118]⟩ : ByteArray)).bind fun bt217 => ((ostiarykeep_SameResponse.f k bt217.1 bt217.2.1 bt217.2.2.1 bt217.2.2.2.1 bt217.2.2.2.2 5 0 ([] : List (S72)) ([] : List Int) (⟨#[118]⟩ : ByteArray)).bind fun t226 => (if t226 = true then ((ostiarylaw20_h.f (⟨#[120]⟩ : ByteArray) (⟨#[98]⟩ : ByteArray)).bind fun bt227 => ((api_Header.f k t170 (([(⟨bt227.1, bt227.2⟩ : S72)] : List (S72)))).bind fun t232 => (if t232 = true then (if (t189.length : Int) = 2 then ((ostiarylaw20_known.f k).bind fun t233 => (some t233)) else (some false)) else (some false)))) else (some false)))) else (some false)) = some true := H
  have A13 := Aside0.mk A130
  clear A130
  by_cases c14 : t216 = true
  ·subst c14
   have H1 : ((filter_HideRedirect.f (⟨#[118]⟩ : ByteArray)).bind fun bt217 => ((ostiarykeep_SameResponse.f k bt217.1 bt217.2.1 bt217.2.2.1 bt217.2.2.2.1 bt217.2.2.2.2 5 0 ([] : List (S72)) ([] : List Int) (⟨#[118]⟩ : ByteArray)).bind fun t226 => (if t226 = true then ((ostiarylaw20_h.f (⟨#[120]⟩ : ByteArray) (⟨#[98]⟩ : ByteArray)).bind fun bt227 => ((api_Header.f k t170 (([(⟨bt227.1, bt227.2⟩ : S72)] : List (S72)))).bind fun t232 => (if t232 = true then (if (t189.length : Int) = 2 then ((ostiarylaw20_known.f k).bind fun t233 => (some t233)) else (some false)) else (some false)))) else (some false)))) = some true := by rw [if_pos rfl] at H; exact H
   clear H
   have H := H1
   clear H1
   replace H := Option.bind_eq_some_iff.mp H
   obtain ⟨⟨t217, t218, t219, t222, t225⟩, A150, H⟩ := H
   replace H : ((ostiarykeep_SameResponse.f k t217 t218 t219 t222 t225 5 0 ([] : List (S72)) ([] : List Int) (⟨#[118]⟩ : ByteArray)).bind fun t226 => (if t226 = true then ((ostiarylaw20_h.f (⟨#[120]⟩ : ByteArray) (⟨#[98]⟩ : ByteArray)).bind fun bt227 => ((api_Header.f k t170 (([(⟨bt227.1, bt227.2⟩ : S72)] : List (S72)))).bind fun t232 => (if t232 = true then (if (t189.length : Int) = 2 then ((ostiarylaw20_known.f k).bind fun t233 => (some t233)) else (some false)) else (some false)))) else (some false))) = some true := H
   have A15 := Aside0.mk A150
   clear A150
   replace H := Option.bind_eq_some_iff.mp H
   obtain ⟨t226, A160, H⟩ := H
   replace H : (if t226 = true then ((ostiarylaw20_h.f (⟨#[120]⟩ : ByteArray) (⟨#[98]⟩ : ByteArray)).bind fun bt227 => ((api_Header.f k t170 (([(⟨bt227.1, bt227.2⟩ : S72)] : List (S72)))).bind fun t232 => (if t232 = true then (if (t189.length : Int) = 2 then ((ostiarylaw20_known.f k).bind fun t233 => (some t233)) else (some false)) else (some false)))) else (some false)) = some true := H
   have A16 := Aside0.mk A160
   clear A160
   by_cases c17 : t226 = true
   ·subst c17
    have H1 : ((ostiarylaw20_h.f (⟨#[120]⟩ : ByteArray) (⟨#[98]⟩ : ByteArray)).bind fun bt227 => ((api_Header.f k t170 (([(⟨bt227.1, bt227.2⟩ : S72)] : List (S72)))).bind fun t232 => (if t232 = true then (if (t189.length : Int) = 2 then ((ostiarylaw20_known.f k).bind fun t233 => (some t233)) else (some false)) else (some false)))) = some true := by rw [if_pos rfl] at H; exact H
    clear H
    have H := H1
    clear H1
    replace H := Option.bind_eq_some_iff.mp H
    obtain ⟨⟨t227, t228⟩, A180, H⟩ := H
    replace H : ((api_Header.f k t170 (([(⟨t227, t228⟩ : S72)] : List (S72)))).bind fun t232 => (if t232 = true then (if (t189.length : Int) = 2 then ((ostiarylaw20_known.f k).bind fun t233 => (some t233)) else (some false)) else (some false))) = some true := H
    have A18 := Aside0.mk A180
    clear A180
    obtain ⟨y229, hy229⟩ : ∃ y_ : List (S72), y_ = (([(⟨t227, t228⟩ : S72)] : List (S72))) := ⟨_, rfl⟩
    replace H : ((api_Header.f k t170 y229).bind fun t232 => (if t232 = true then (if (t189.length : Int) = 2 then ((ostiarylaw20_known.f k).bind fun t233 => (some t233)) else (some false)) else (some false))) = some true := by first | (rw [hy229]; with_reducible exact H) | (have H2_ := (Option.bind_some _ _).symm.trans H; rw [hy229]; with_reducible exact H2_) | (have H2_ := (Option.bind_some _ _).symm.trans H; with_reducible exact H2_) | with_reducible exact H | (rw [hy229]; exact H) | exact H
    have Ny229 := Aside0.mk hy229
    clear hy229
    replace H := Option.bind_eq_some_iff.mp H
    obtain ⟨t232, A190, H⟩ := H
    replace H : (if t232 = true then (if (t189.length : Int) = 2 then ((ostiarylaw20_known.f k).bind fun t233 => (some t233)) else (some false)) else (some false)) = some true := H
    have A19 := Aside0.mk A190
    clear A190
    by_cases c20 : t232 = true
    ·subst c20
     have H1 : (if (t189.length : Int) = 2 then ((ostiarylaw20_known.f k).bind fun t233 => (some t233)) else (some false)) = some true := by rw [if_pos rfl] at H; exact H
     clear H
     have H := H1
     clear H1
     by_cases c21 : (t189.length : Int) = 2
     ·rw [if_pos c21] at H
      have c21b0 : ((t189.length : Int) == 2) = true := beq_iff_eq.mpr c21
      have c21b1 : ((t189.length : Int) != 2) = false := bne_eq_false_iff_eq.mpr c21
      clear c21
      replace H := Option.bind_eq_some_iff.mp H
      obtain ⟨t233, A220, H⟩ := H
      replace H : (some t233) = some true := H
      have A22 := Aside0.mk A220
      clear A220
      obtain rfl := Option.some.inj H
      go_enter Tryd.func9, Tryd.ntmps9
      try go_wp2_with (first | ((with_reducible refine gate_callee (f := 37) rfl ?_); refine goesL_ (some 3) rfl rfl Tryd.func37 q20_ rfl #[.string (⟨#[120]⟩ : ByteArray), .string (⟨#[98]⟩ : ByteArray)] rfl tS ?_; (with_reducible refine (ostiarylaw20_h.calls (⟨#[120]⟩ : ByteArray) (⟨#[98]⟩ : ByteArray) t159 t160 _ A1.out).mono ?_); rintro e w23 ⟨rfl, hb⟩; refine ⟨_, rfl, ?_⟩; have n0_ := Aside0.mk (below_step hB hb); clear HB; have HB := n0_; clear n0_; (try clear hb); (try clear hb2); (try clear hk); (try clear hi)) | ((with_reducible refine gate_callee (f := 37) rfl ?_); refine goesL_ (some 4) rfl rfl Tryd.func37 q20_ rfl #[.string (⟨#[65, 99, 99, 101, 115, 115, 45, 67, 111, 110, 116, 114, 111, 108, 45, 69, 120, 112, 111, 115, 101, 45, 72, 101, 97, 100, 101, 114, 115]⟩ : ByteArray), .string (⟨#[88]⟩ : ByteArray)] rfl tS ?_; (with_reducible refine (ostiarylaw20_h.calls (⟨#[65, 99, 99, 101, 115, 115, 45, 67, 111, 110, 116, 114, 111, 108, 45, 69, 120, 112, 111, 115, 101, 45, 72, 101, 97, 100, 101, 114, 115]⟩ : ByteArray) (⟨#[88]⟩ : ByteArray) t161 t162 _ A2.out).mono ?_); rintro e w24 ⟨rfl, hb⟩; refine ⟨_, rfl, ?_⟩; have n0_ := Aside0.mk (below_step hB hb); clear HB; have HB := n0_; clear n0_; (try clear hb); (try clear hb2); (try clear hk); (try clear hi)) | ((with_reducible refine gate_callee (f := 37) rfl ?_); refine goesL_ (some 5) rfl rfl Tryd.func37 q20_ rfl #[.string (⟨#[121]⟩ : ByteArray), .string (⟨#[99]⟩ : ByteArray)] rfl tS ?_; (with_reducible refine (ostiarylaw20_h.calls (⟨#[121]⟩ : ByteArray) (⟨#[99]⟩ : ByteArray) t163 t164 _ A3.out).mono ?_); rintro e w25 ⟨rfl, hb⟩; refine ⟨_, rfl, ?_⟩; have n0_ := Aside0.mk (below_step hB hb); clear HB; have HB := n0_; clear n0_; (try clear hb); (try clear hb2); (try clear hk); (try clear hi)) | ((with_reducible refine gate_dst (N := 6) rfl ?_); (try (refine gate_guard (by rfl) ?_; dsimp only)); refine Kd.R_lit k72 _ 72 ?hg (N := 6) ?hd (xs := ([(⟨t159, t160⟩ : S72), (⟨t161, t162⟩ : S72), (⟨t163, t164⟩ : S72)] : List (S72))) (inner := [.string t159, .string t160, .string t161, .string t162, .string t163, .string t164]) (ok := fun _ => True) (okp := fun _ => True) ?hr ?hp (fun _ hk => hk) trivial (Below.refl _ _) (Nat.le_refl _) (by simp) ?_; (case hd => rfl); (case hg => rfl); (case hr => first | (go_simp; done) | (go_simp; rfl)); (case hp => exact (Reps.c2 (show Kd.M k72 _ _ _ (⟨t159, t160⟩ : S72) [.string t159, .string t160] from (k72_mkM _ _ _ (⟨t159, t160⟩ : S72) )) (Reps.c2 (show Kd.M k72 _ _ _ (⟨t161, t162⟩ : S72) [.string t161, .string t162] from (k72_mkM _ _ _ (⟨t161, t162⟩ : S72) )) (Reps.c2 (show Kd.M k72 _ _ _ (⟨t163, t164⟩ : S72) [.string t163, .string t164] from (k72_mkM _ _ _ (⟨t163, t164⟩ : S72) )) (Reps.none _ _))))); intro v166 w26 ho27 hb hg_ hnew_; clear hg_ hnew_; (first | rw [← Ny165.out] at ho27 | (simp only [Int.reduceToNat] at ho27; rw [← Ny165.out] at ho27)); have n0_ := Aside0.mk (Kd.R_lower ho27 (below_size hB)); have n1_ := Aside0.mk (below_step hB hb); clear HB; have HO167 := n0_; have HB := n1_; clear n0_ n1_; clear hb ho27; obtain ⟨Ao28, co28, eo28⟩ := Kd.R_slice HO167.out; subst eo28) | ((with_reducible refine gate_callee (f := 34) rfl ?_); refine goesL_ (some 8) rfl rfl Tryd.func34 q20_ rfl #[.agg #[.int .i64 0, .slice Ao28 y165.length co28, .slice none 0 0], .string (⟨#[]⟩ : ByteArray), .bool true] rfl tS ?_; (refine (filter_Share.calls 0 _ _ y165 _ _ ([] : List Int) (⟨#[]⟩ : ByteArray) true t168 t169 t170 t173 t176 _ ?side1 ?side2 ?side3 ?side4 A4.out).mono ?_); (case side1 => repeat (first | exact (Kd.R_reads' HO167.out).2.2 | (with_reducible refine Kd.C_alloc ?_ _) | (with_reducible refine Kd.C_drewN ?_ _) | (with_reducible refine Kd.C_drew ?_))); (case side2 => exact (Kd.R_reads' HO167.out).2.1); (case side3 => exact Kd.C_nil _ _); (case side4 => exact Nat.le_refl _); rintro e w29 ⟨v171, v174, rfl, ho0, ho1, hb⟩; refine ⟨_, rfl, ?_⟩; have n0_ := Aside0.mk (Kd.R_elder' q12_ (Kd.R_base ho0) hb); have n1_ := Aside0.mk (Kd.R_lower (Kd.R_new' ho0 (Kd.R_lt q12_)) (below_size hB)); have n2_ := Aside0.mk (Kd.R_lower ho1 (below_size hB)); have n3_ := Aside0.mk (below_step hB hb); clear HO167; clear HB; have HO167 := n0_; have HO172 := n1_; have HO175 := n2_; have HB := n3_; clear n0_ n1_ n2_ n3_; (try clear hb); (try clear hb2); (try clear hk); (try clear hi); (try clear ho0); (try clear ho1)) | ((with_reducible refine gate_dst (N := 1) rfl ?_); (try (refine gate_guard (by rfl) ?_; dsimp only)); refine box_event ?hg (N := 1) ?hd (cs := #[.int .i64 0, .int .i64 0, .slice none 0 0, .slice none 0 0, .string (⟨#[]⟩ : ByteArray)]) (t := 66) ?hr ?_; (case hd => rfl); (case hg => rfl); (case hr => first | (go_simp; done) | (go_simp; rfl)); intro gb177 hg w30 hbox hb; have n0_ := Aside0.mk (Kd.R_below q12_ hb); have n1_ := Aside0.mk (Kd.R_below q13_ hb); have n2_ := Aside0.mk (Kd.R_below q14_ hb); have n3_ := Aside0.mk (below_step hB hb); have n4_ := Aside0.mk (hbox); have n5_ := Aside0.mk ((by rw [hg]; exact (below_size hB) : w.heap.size ≤ gb177)); have n6_ := Aside0.mk ((by rw [hg]; exact (below_size hB) : w.heap.size ≤ gb177)); clear HO167; clear HO172; clear HO175; clear HB; have HO167 := n0_; have HO172 := n1_; have HO175 := n2_; have HB := n3_; have BK177 := n4_; have GW177 := n5_; have GE177 := n6_; clear n0_ n1_ n2_ n3_ n4_ n5_ n6_; clear hb hbox hg; have hcz31_0 : w30.cell? ⟨gb177, 0, none⟩ = some (.int .i64 0) := (blk_cell BK177.out 0).trans rfl; have hcz31_1 : w30.cell? ⟨gb177, 1, none⟩ = some (.int .i64 0) := (blk_cell BK177.out 1).trans rfl; have hcz31_2 : w30.cell? ⟨gb177, 2, none⟩ = some (.slice none 0 0) := (blk_cell BK177.out 2).trans rfl; have hcz31_3 : w30.cell? ⟨gb177, 3, none⟩ = some (.slice none 0 0) := (blk_cell BK177.out 3).trans rfl; have hcz31_4 : w30.cell? ⟨gb177, 4, none⟩ = some (.string (⟨#[]⟩ : ByteArray)) := (blk_cell BK177.out 4).trans rfl; have hfz31_0 := blk_frozen BK177.out 0; have hfz31_1 := blk_frozen BK177.out 1; have hfz31_2 := blk_frozen BK177.out 2; have hfz31_3 := blk_frozen BK177.out 3; have hfz31_4 := blk_frozen BK177.out 4; obtain ⟨Ao32, co32, eo32⟩ := Kd.R_slice HO172.out; subst eo32; obtain ⟨Ao33, co33, eo33⟩ := Kd.R_slice HO175.out; subst eo33) | ((with_reducible refine gate_callee (f := 37) rfl ?_); refine goesL_ (some 9) rfl rfl Tryd.func37 q20_ rfl #[.string (⟨#[120]⟩ : ByteArray), .string (⟨#[98]⟩ : ByteArray)] rfl tS ?_; (with_reducible refine (ostiarylaw20_h.calls (⟨#[120]⟩ : ByteArray) (⟨#[98]⟩ : ByteArray) t178 t179 _ A5.out).mono ?_); rintro e w34 ⟨rfl, hb⟩; refine ⟨_, rfl, ?_⟩; have n0_ := Aside0.mk (Kd.R_below (by (with_reducible repeat (first | apply Kd.R_alloc | apply Kd.R_drewN | apply Kd.R_drew)); exact (Kd.R_mono (Kd.R_far (p := ⟨gb177, 4, none⟩) (Kd.R_far (p := ⟨gb177, 3, none⟩) (Kd.R_far (p := ⟨gb177, 2, none⟩) (Kd.R_far (p := ⟨gb177, 1, none⟩) (Kd.R_far (p := ⟨gb177, 0, none⟩) (Kd.R_types HO167.out BK177.out (by decide)) (fun _ hk => hk.2) (.int .i64 t168)) (fun _ hk => hk.2) (.int .i64 t169)) (fun _ hk => hk.2) (.slice Ao32 t170.length co32)) (fun _ hk => hk.2) (.slice Ao33 t173.length co33)) (fun _ hk => hk.2) (.string t176)) (fun _ h_ => h_.1))) hb); have n1_ := Aside0.mk (Kd.R_below (by (with_reducible repeat (first | apply Kd.R_alloc | apply Kd.R_drewN | apply Kd.R_drew)); exact (Kd.R_mono (Kd.R_far (p := ⟨gb177, 4, none⟩) (Kd.R_far (p := ⟨gb177, 3, none⟩) (Kd.R_far (p := ⟨gb177, 2, none⟩) (Kd.R_far (p := ⟨gb177, 1, none⟩) (Kd.R_far (p := ⟨gb177, 0, none⟩) (Kd.R_types HO172.out BK177.out (by decide)) (fun _ hk => hk.2) (.int .i64 t168)) (fun _ hk => hk.2) (.int .i64 t169)) (fun _ hk => hk.2) (.slice Ao32 t170.length co32)) (fun _ hk => hk.2) (.slice Ao33 t173.length co33)) (fun _ hk => hk.2) (.string t176)) (fun _ h_ => h_.1))) hb); have n2_ := Aside0.mk (Kd.R_below (by (with_reducible repeat (first | apply Kd.R_alloc | apply Kd.R_drewN | apply Kd.R_drew)); exact (Kd.R_mono (Kd.R_far (p := ⟨gb177, 4, none⟩) (Kd.R_far (p := ⟨gb177, 3, none⟩) (Kd.R_far (p := ⟨gb177, 2, none⟩) (Kd.R_far (p := ⟨gb177, 1, none⟩) (Kd.R_far (p := ⟨gb177, 0, none⟩) (Kd.R_types HO175.out BK177.out (by decide)) (fun _ hk => hk.2) (.int .i64 t168)) (fun _ hk => hk.2) (.int .i64 t169)) (fun _ hk => hk.2) (.slice Ao32 t170.length co32)) (fun _ hk => hk.2) (.slice Ao33 t173.length co33)) (fun _ hk => hk.2) (.string t176)) (fun _ h_ => h_.1))) hb); have n3_ := Aside0.mk (blk_below (g := gb177) (o := .cells #[.int .i64 t168, .int .i64 t169, .slice Ao32 t170.length co32, .slice Ao33 t173.length co33, .string t176] 66 (0, 0)) (by (with_reducible repeat (first | refine blk_drewN ?_ _ | refine blk_drew ?_ | refine blk_alloc ?_ _)); refine blk_put (cs := #[.int .i64 t168, .int .i64 t169, .slice Ao32 t170.length co32, .slice Ao33 t173.length co33, .string (⟨#[]⟩ : ByteArray)]) ?_ 4 _ rfl; (with_reducible repeat (first | refine blk_drewN ?_ _ | refine blk_drew ?_ | refine blk_alloc ?_ _)); refine blk_put (cs := #[.int .i64 t168, .int .i64 t169, .slice Ao32 t170.length co32, .slice none 0 0, .string (⟨#[]⟩ : ByteArray)]) ?_ 3 _ rfl; (with_reducible repeat (first | refine blk_drewN ?_ _ | refine blk_drew ?_ | refine blk_alloc ?_ _)); refine blk_put (cs := #[.int .i64 t168, .int .i64 t169, .slice none 0 0, .slice none 0 0, .string (⟨#[]⟩ : ByteArray)]) ?_ 2 _ rfl; (with_reducible repeat (first | refine blk_drewN ?_ _ | refine blk_drew ?_ | refine blk_alloc ?_ _)); refine blk_put (cs := #[.int .i64 t168, .int .i64 0, .slice none 0 0, .slice none 0 0, .string (⟨#[]⟩ : ByteArray)]) ?_ 1 _ rfl; (with_reducible repeat (first | refine blk_drewN ?_ _ | refine blk_drew ?_ | refine blk_alloc ?_ _)); refine blk_put (cs := #[.int .i64 0, .int .i64 0, .slice none 0 0, .slice none 0 0, .string (⟨#[]⟩ : ByteArray)]) ?_ 0 _ rfl; (with_reducible repeat (first | refine blk_drewN ?_ _ | refine blk_drew ?_ | refine blk_alloc ?_ _)); exact BK177.out) hb); have n4_ := Aside0.mk (below_step q17_ hb); clear HO167; clear HO172; clear HO175; clear BK177; clear HB; have HO167 := n0_; have HO172 := n1_; have HO175 := n2_; have BK177 := n3_; have HB := n4_; clear n0_ n1_ n2_ n3_ n4_; (try clear hb); (try clear hb2); (try clear hk); (try clear hi)) | ((with_reducible refine gate_callee (f := 37) rfl ?_); refine goesL_ (some 10) rfl rfl Tryd.func37 q20_ rfl #[.string (⟨#[115, 101, 116, 45, 99, 111, 111, 107, 105, 101, 50]⟩ : ByteArray), .string (⟨#[99]⟩ : ByteArray)] rfl tS ?_; (with_reducible refine (ostiarylaw20_h.calls (⟨#[115, 101, 116, 45, 99, 111, 111, 107, 105, 101, 50]⟩ : ByteArray) (⟨#[99]⟩ : ByteArray) t180 t181 _ A6.out).mono ?_); rintro e w35 ⟨rfl, hb⟩; refine ⟨_, rfl, ?_⟩; have n0_ := Aside0.mk (Kd.R_below q12_ hb); have n1_ := Aside0.mk (Kd.R_below q13_ hb); have n2_ := Aside0.mk (Kd.R_below q14_ hb); have n3_ := Aside0.mk (blk_below (g := gb177) (o := .cells #[.int .i64 t168, .int .i64 t169, .slice Ao32 t170.length co32, .slice Ao33 t173.length co33, .string t176] 66 (0, 0)) q15_ hb); have n4_ := Aside0.mk (below_step q17_ hb); clear HO167; clear HO172; clear HO175; clear BK177; clear HB; have HO167 := n0_; have HO172 := n1_; have HO175 := n2_; have BK177 := n3_; have HB := n4_; clear n0_ n1_ n2_ n3_ n4_; (try clear hb); (try clear hb2); (try clear hk); (try clear hi)) | ((with_reducible refine gate_callee (f := 37) rfl ?_); refine goesL_ (some 11) rfl rfl Tryd.func37 q20_ rfl #[.string (⟨#[65, 99, 99, 101, 115, 115, 45, 67, 111, 110, 116, 114, 111, 108, 45, 69, 120, 112, 111, 115, 101, 45, 72, 101, 97, 100, 101, 114, 115]⟩ : ByteArray), .string (⟨#[42, 44, 32, 115, 101, 116, 45, 99, 111, 111, 107, 105, 101, 50]⟩ : ByteArray)] rfl tS ?_; (with_reducible refine (ostiarylaw20_h.calls (⟨#[65, 99, 99, 101, 115, 115, 45, 67, 111, 110, 116, 114, 111, 108, 45, 69, 120, 112, 111, 115, 101, 45, 72, 101, 97, 100, 101, 114, 115]⟩ : ByteArray) (⟨#[42, 44, 32, 115, 101, 116, 45, 99, 111, 111, 107, 105, 101, 50]⟩ : ByteArray) t182 t183 _ A7.out).mono ?_); rintro e w36 ⟨rfl, hb⟩; refine ⟨_, rfl, ?_⟩; have n0_ := Aside0.mk (Kd.R_below q12_ hb); have n1_ := Aside0.mk (Kd.R_below q13_ hb); have n2_ := Aside0.mk (Kd.R_below q14_ hb); have n3_ := Aside0.mk (blk_below (g := gb177) (o := .cells #[.int .i64 t168, .int .i64 t169, .slice Ao32 t170.length co32, .slice Ao33 t173.length co33, .string t176] 66 (0, 0)) q15_ hb); have n4_ := Aside0.mk (below_step q17_ hb); clear HO167; clear HO172; clear HO175; clear BK177; clear HB; have HO167 := n0_; have HO172 := n1_; have HO175 := n2_; have BK177 := n3_; have HB := n4_; clear n0_ n1_ n2_ n3_ n4_; (try clear hb); (try clear hb2); (try clear hk); (try clear hi)) | ((with_reducible refine gate_dst (N := 12) rfl ?_); (try (refine gate_guard (by rfl) ?_; dsimp only)); refine Kd.R_lit k72 _ 72 ?hg (N := 12) ?hd (xs := ([(⟨t178, t179⟩ : S72), (⟨t180, t181⟩ : S72), (⟨t182, t183⟩ : S72)] : List (S72))) (inner := [.string t178, .string t179, .string t180, .string t181, .string t182, .string t183]) (ok := fun _ => True) (okp := fun _ => True) ?hr ?hp (fun _ hk => hk) trivial (Below.refl _ _) (Nat.le_refl _) (by simp) ?_; (case hd => rfl); (case hg => rfl); (case hr => first | (go_simp; done) | (go_simp; rfl)); (case hp => exact (Reps.c2 (show Kd.M k72 _ _ _ (⟨t178, t179⟩ : S72) [.string t178, .string t179] from (k72_mkM _ _ _ (⟨t178, t179⟩ : S72) )) (Reps.c2 (show Kd.M k72 _ _ _ (⟨t180, t181⟩ : S72) [.string t180, .string t181] from (k72_mkM _ _ _ (⟨t180, t181⟩ : S72) )) (Reps.c2 (show Kd.M k72 _ _ _ (⟨t182, t183⟩ : S72) [.string t182, .string t183] from (k72_mkM _ _ _ (⟨t182, t183⟩ : S72) )) (Reps.none _ _))))); intro v185 w37 ho38 hb hg_ hnew_; clear hg_ hnew_; (first | rw [← Ny184.out] at ho38 | (simp only [Int.reduceToNat] at ho38; rw [← Ny184.out] at ho38)); have n0_ := Aside0.mk (Kd.R_elder' q12_ (Kd.R_base ho38) hb); have n1_ := Aside0.mk (Kd.R_elder' q13_ (Kd.R_base ho38) hb); have n2_ := Aside0.mk (Kd.R_below q14_ hb); have n3_ := Aside0.mk (Kd.R_lower (Kd.R_new' (Kd.R_new' ho38 (Kd.R_lt q12_)) (Kd.R_lt q13_)) (below_size q17_)); have n4_ := Aside0.mk (blk_below (g := gb177) (o := .cells #[.int .i64 t168, .int .i64 t169, .slice Ao32 t170.length co32, .slice Ao33 t173.length co33, .string t176] 66 (0, 0)) q15_ hb); have n5_ := Aside0.mk (below_step q17_ hb); clear HO167; clear HO172; clear HO175; clear BK177; clear HB; have HO167 := n0_; have HO172 := n1_; have HO175 := n2_; have HO186 := n3_; have BK177 := n4_; have HB := n5_; clear n0_ n1_ n2_ n3_ n4_ n5_; clear hb ho38; obtain ⟨Ao39, co39, eo39⟩ := Kd.R_slice HO186.out; subst eo39) | ((with_reducible refine gate_callee (f := 34) rfl ?_); refine goesL_ (some 14) rfl rfl Tryd.func34 q20_ rfl #[.agg #[.int .i64 0, .slice Ao39 y184.length co39, .slice none 0 0], .string (⟨#[]⟩ : ByteArray), .bool false] rfl tS ?_; (refine (filter_Share.calls 0 _ _ y184 _ _ ([] : List Int) (⟨#[]⟩ : ByteArray) false t187 t188 t189 t192 t195 _ ?side1 ?side2 ?side3 ?side4 A8.out).mono ?_); (case side1 => repeat (first | exact (Kd.R_reads' HO186.out).2.2 | (with_reducible refine Kd.C_alloc ?_ _) | (with_reducible refine Kd.C_drewN ?_ _) | (with_reducible refine Kd.C_drew ?_))); (case side2 => exact (Kd.R_reads' HO186.out).2.1); (case side3 => exact Kd.C_nil _ _); (case side4 => exact Nat.le_refl _); rintro e w40 ⟨v190, v193, rfl, ho0, ho1, hb⟩; refine ⟨_, rfl, ?_⟩; have n0_ := Aside0.mk (Kd.R_elder' q12_ (Kd.R_base ho0) hb); have n1_ := Aside0.mk (Kd.R_elder' q13_ (Kd.R_base ho0) hb); have n2_ := Aside0.mk (Kd.R_elder' q14_ (Kd.R_base ho1) hb); have n3_ := Aside0.mk (Kd.R_elder' q18_ (Kd.R_base ho0) hb); have n4_ := Aside0.mk (Kd.R_lower (Kd.R_new' (Kd.R_new' (Kd.R_new' ho0 (Kd.R_lt q12_)) (Kd.R_lt q13_)) (Kd.R_lt q18_)) (below_size q17_)); have n5_ := Aside0.mk (Kd.R_lower (Kd.R_new' ho1 (Kd.R_lt q14_)) (below_size q17_)); have n6_ := Aside0.mk (blk_below (g := gb177) (o := .cells #[.int .i64 t168, .int .i64 t169, .slice Ao32 t170.length co32, .slice Ao33 t173.length co33, .string t176] 66 (0, 0)) q15_ hb); have n7_ := Aside0.mk (below_step q17_ hb); clear HO167; clear HO172; clear HO175; clear HO186; clear BK177; clear HB; have HO167 := n0_; have HO172 := n1_; have HO175 := n2_; have HO186 := n3_; have HO191 := n4_; have HO194 := n5_; have BK177 := n6_; have HB := n7_; clear n0_ n1_ n2_ n3_ n4_ n5_ n6_ n7_; (try clear hb); (try clear hb2); (try clear hk); (try clear hi); (try clear ho0); (try clear ho1)) | ((with_reducible refine gate_dst (N := 2) rfl ?_); (try (refine gate_guard (by rfl) ?_; dsimp only)); refine box_event ?hg (N := 2) ?hd (cs := #[.int .i64 0, .int .i64 0, .slice none 0 0, .slice none 0 0, .string (⟨#[]⟩ : ByteArray)]) (t := 66) ?hr ?_; (case hd => rfl); (case hg => rfl); (case hr => first | (go_simp; done) | (go_simp; rfl)); intro gb196 hg w41 hbox hb; have n0_ := Aside0.mk (Kd.R_below q12_ hb); have n1_ := Aside0.mk (Kd.R_below q13_ hb); have n2_ := Aside0.mk (Kd.R_below q14_ hb); have n3_ := Aside0.mk (Kd.R_below q18_ hb); have n4_ := Aside0.mk (Kd.R_below q25_ hb); have n5_ := Aside0.mk (Kd.R_below q27_ hb); have n6_ := Aside0.mk (blk_below (g := gb177) (o := .cells #[.int .i64 t168, .int .i64 t169, .slice Ao32 t170.length co32, .slice Ao33 t173.length co33, .string t176] 66 (0, 0)) q15_ hb); have n7_ := Aside0.mk (below_step q17_ hb); have n8_ := Aside0.mk (hbox); have n9_ := Aside0.mk ((by rw [hg]; exact (below_size q17_) : w.heap.size ≤ gb196)); have n10_ := Aside0.mk ((by rw [hg]; exact (below_size q17_) : w.heap.size ≤ gb196)); have n11_ := Aside0.mk ((by rw [hg]; exact Nat.ne_of_lt (blk_lt (g := gb177) (o := .cells #[.int .i64 t168, .int .i64 t169, .slice Ao32 t170.length co32, .slice Ao33 t173.length co33, .string t176] 66 (0, 0)) q15_) : gb177 ≠ gb196)); have n12_ := Aside0.mk ((by rw [hg]; exact Nat.ne_of_gt (blk_lt (g := gb177) (o := .cells #[.int .i64 t168, .int .i64 t169, .slice Ao32 t170.length co32, .slice Ao33 t173.length co33, .string t176] 66 (0, 0)) q15_) : gb196 ≠ gb177)); clear HO167; clear HO172; clear HO175; clear HO186; clear HO191; clear HO194; clear BK177; clear HB; have HO167 := n0_; have HO172 := n1_; have HO175 := n2_; have HO186 := n3_; have HO191 := n4_; have HO194 := n5_; have BK177 := n6_; have HB := n7_; have BK196 := n8_; have GW196 := n9_; have GE196 := n10_; have NB177_196 := n11_; have NB196_177 := n12_; clear n0_ n1_ n2_ n3_ n4_ n5_ n6_ n7_ n8_ n9_ n10_ n11_ n12_; clear hb hbox hg; have hnb42 := NB196_177.out; have hnc42 := NB177_196.out; have hcz43_0 : w41.cell? ⟨gb196, 0, none⟩ = some (.int .i64 0) := (blk_cell BK196.out 0).trans rfl; have hcz43_1 : w41.cell? ⟨gb196, 1, none⟩ = some (.int .i64 0) := (blk_cell BK196.out 1).trans rfl; have hcz43_2 : w41.cell? ⟨gb196, 2, none⟩ = some (.slice none 0 0) := (blk_cell BK196.out 2).trans rfl; have hcz43_3 : w41.cell? ⟨gb196, 3, none⟩ = some (.slice none 0 0) := (blk_cell BK196.out 3).trans rfl; have hcz43_4 : w41.cell? ⟨gb196, 4, none⟩ = some (.string (⟨#[]⟩ : ByteArray)) := (blk_cell BK196.out 4).trans rfl; have hfz43_0 := blk_frozen BK196.out 0; have hfz43_1 := blk_frozen BK196.out 1; have hfz43_2 := blk_frozen BK196.out 2; have hfz43_3 := blk_frozen BK196.out 3; have hfz43_4 := blk_frozen BK196.out 4; obtain ⟨Ao44, co44, eo44⟩ := Kd.R_slice HO191.out; subst eo44; obtain ⟨Ao45, co45, eo45⟩ := Kd.R_slice HO194.out; subst eo45))
      have n0_ : Aside0 (Kd.R k72 72 (((((w41.setCell ⟨gb196, 0, none⟩ (.int .i64 t187)).setCell ⟨gb196, 1, none⟩ (.int .i64 t188)).setCell ⟨gb196, 2, none⟩ (.slice Ao44 t189.length co44)).setCell ⟨gb196, 3, none⟩ (.slice Ao45 t192.length co45)).setCell ⟨gb196, 4, none⟩ (.string t195)) w.heap.size (fun k_ => some k_ ≠ (.slice Ao32 t170.length co32 : Value).ownBlock ∧ some k_ ≠ (.slice Ao39 y184.length co39 : Value).ownBlock ∧ some k_ ≠ (.slice Ao44 t189.length co44 : Value).ownBlock) (.slice Ao28 y165.length co28) y165) := ⟨by (with_reducible repeat (first | apply Kd.R_alloc | apply Kd.R_drewN | apply Kd.R_drew)); exact Kd.R_mono (Kd.R_far (p := ⟨gb196, 4, none⟩) (Kd.R_far (p := ⟨gb196, 3, none⟩) (Kd.R_far (p := ⟨gb196, 2, none⟩) (Kd.R_far (p := ⟨gb196, 1, none⟩) (Kd.R_far (p := ⟨gb196, 0, none⟩) (Kd.R_types HO167.out BK196.out (by decide)) (fun _ hk => hk.2) (.int .i64 t187)) (fun _ hk => hk.2) (.int .i64 t188)) (fun _ hk => hk.2) (.slice Ao44 t189.length co44)) (fun _ hk => hk.2) (.slice Ao45 t192.length co45)) (fun _ hk => hk.2) (.string t195)) (fun _ hk => ⟨hk.1.1.1.2, ⟨hk.1.1.2, hk.1.2⟩⟩)⟩
      have n1_ : Aside0 (Kd.R k72 72 (((((w41.setCell ⟨gb196, 0, none⟩ (.int .i64 t187)).setCell ⟨gb196, 1, none⟩ (.int .i64 t188)).setCell ⟨gb196, 2, none⟩ (.slice Ao44 t189.length co44)).setCell ⟨gb196, 3, none⟩ (.slice Ao45 t192.length co45)).setCell ⟨gb196, 4, none⟩ (.string t195)) w.heap.size (fun k_ => some k_ ≠ (.slice Ao28 y165.length co28 : Value).ownBlock ∧ some k_ ≠ (.slice Ao39 y184.length co39 : Value).ownBlock ∧ some k_ ≠ (.slice Ao44 t189.length co44 : Value).ownBlock) (.slice Ao32 t170.length co32) t170) := ⟨by (with_reducible repeat (first | apply Kd.R_alloc | apply Kd.R_drewN | apply Kd.R_drew)); exact Kd.R_mono (Kd.R_far (p := ⟨gb196, 4, none⟩) (Kd.R_far (p := ⟨gb196, 3, none⟩) (Kd.R_far (p := ⟨gb196, 2, none⟩) (Kd.R_far (p := ⟨gb196, 1, none⟩) (Kd.R_far (p := ⟨gb196, 0, none⟩) (Kd.R_types HO172.out BK196.out (by decide)) (fun _ hk => hk.2) (.int .i64 t187)) (fun _ hk => hk.2) (.int .i64 t188)) (fun _ hk => hk.2) (.slice Ao44 t189.length co44)) (fun _ hk => hk.2) (.slice Ao45 t192.length co45)) (fun _ hk => hk.2) (.string t195)) (fun _ hk => ⟨hk.1.1.1.2, ⟨hk.1.1.2, hk.1.2⟩⟩)⟩
      have n2_ : Aside0 (Kd.R (Kd.int .u8) 5 (((((w41.setCell ⟨gb196, 0, none⟩ (.int .i64 t187)).setCell ⟨gb196, 1, none⟩ (.int .i64 t188)).setCell ⟨gb196, 2, none⟩ (.slice Ao44 t189.length co44)).setCell ⟨gb196, 3, none⟩ (.slice Ao45 t192.length co45)).setCell ⟨gb196, 4, none⟩ (.string t195)) w.heap.size (fun k_ => some k_ ≠ (.slice Ao45 t192.length co45 : Value).ownBlock) (.slice Ao33 t173.length co33) t173) := ⟨by (with_reducible repeat (first | apply Kd.R_alloc | apply Kd.R_drewN | apply Kd.R_drew)); exact Kd.R_mono (Kd.R_far (p := ⟨gb196, 4, none⟩) (Kd.R_far (p := ⟨gb196, 3, none⟩) (Kd.R_far (p := ⟨gb196, 2, none⟩) (Kd.R_far (p := ⟨gb196, 1, none⟩) (Kd.R_far (p := ⟨gb196, 0, none⟩) (Kd.R_types HO175.out BK196.out (by decide)) (fun _ hk => hk.2) (.int .i64 t187)) (fun _ hk => hk.2) (.int .i64 t188)) (fun _ hk => hk.2) (.slice Ao44 t189.length co44)) (fun _ hk => hk.2) (.slice Ao45 t192.length co45)) (fun _ hk => hk.2) (.string t195)) (fun _ hk => hk.1.2)⟩
      have n3_ : Aside0 (Kd.R k72 72 (((((w41.setCell ⟨gb196, 0, none⟩ (.int .i64 t187)).setCell ⟨gb196, 1, none⟩ (.int .i64 t188)).setCell ⟨gb196, 2, none⟩ (.slice Ao44 t189.length co44)).setCell ⟨gb196, 3, none⟩ (.slice Ao45 t192.length co45)).setCell ⟨gb196, 4, none⟩ (.string t195)) w.heap.size (fun k_ => some k_ ≠ (.slice Ao28 y165.length co28 : Value).ownBlock ∧ some k_ ≠ (.slice Ao32 t170.length co32 : Value).ownBlock ∧ some k_ ≠ (.slice Ao44 t189.length co44 : Value).ownBlock) (.slice Ao39 y184.length co39) y184) := ⟨by (with_reducible repeat (first | apply Kd.R_alloc | apply Kd.R_drewN | apply Kd.R_drew)); exact Kd.R_mono (Kd.R_far (p := ⟨gb196, 4, none⟩) (Kd.R_far (p := ⟨gb196, 3, none⟩) (Kd.R_far (p := ⟨gb196, 2, none⟩) (Kd.R_far (p := ⟨gb196, 1, none⟩) (Kd.R_far (p := ⟨gb196, 0, none⟩) (Kd.R_types HO186.out BK196.out (by decide)) (fun _ hk => hk.2) (.int .i64 t187)) (fun _ hk => hk.2) (.int .i64 t188)) (fun _ hk => hk.2) (.slice Ao44 t189.length co44)) (fun _ hk => hk.2) (.slice Ao45 t192.length co45)) (fun _ hk => hk.2) (.string t195)) (fun _ hk => ⟨hk.1.1.1.2, ⟨hk.1.1.2, hk.1.2⟩⟩)⟩
      have n4_ : Aside0 (Kd.R k72 72 (((((w41.setCell ⟨gb196, 0, none⟩ (.int .i64 t187)).setCell ⟨gb196, 1, none⟩ (.int .i64 t188)).setCell ⟨gb196, 2, none⟩ (.slice Ao44 t189.length co44)).setCell ⟨gb196, 3, none⟩ (.slice Ao45 t192.length co45)).setCell ⟨gb196, 4, none⟩ (.string t195)) w.heap.size (fun k_ => some k_ ≠ (.slice Ao28 y165.length co28 : Value).ownBlock ∧ some k_ ≠ (.slice Ao32 t170.length co32 : Value).ownBlock ∧ some k_ ≠ (.slice Ao39 y184.length co39 : Value).ownBlock) (.slice Ao44 t189.length co44) t189) := ⟨by (with_reducible repeat (first | apply Kd.R_alloc | apply Kd.R_drewN | apply Kd.R_drew)); exact Kd.R_mono (Kd.R_far (p := ⟨gb196, 4, none⟩) (Kd.R_far (p := ⟨gb196, 3, none⟩) (Kd.R_far (p := ⟨gb196, 2, none⟩) (Kd.R_far (p := ⟨gb196, 1, none⟩) (Kd.R_far (p := ⟨gb196, 0, none⟩) (Kd.R_types HO191.out BK196.out (by decide)) (fun _ hk => hk.2) (.int .i64 t187)) (fun _ hk => hk.2) (.int .i64 t188)) (fun _ hk => hk.2) (.slice Ao44 t189.length co44)) (fun _ hk => hk.2) (.slice Ao45 t192.length co45)) (fun _ hk => hk.2) (.string t195)) (fun _ hk => ⟨hk.1.1.1.2, ⟨hk.1.1.2, hk.1.2⟩⟩)⟩
      have n5_ : Aside0 (Kd.R (Kd.int .u8) 5 (((((w41.setCell ⟨gb196, 0, none⟩ (.int .i64 t187)).setCell ⟨gb196, 1, none⟩ (.int .i64 t188)).setCell ⟨gb196, 2, none⟩ (.slice Ao44 t189.length co44)).setCell ⟨gb196, 3, none⟩ (.slice Ao45 t192.length co45)).setCell ⟨gb196, 4, none⟩ (.string t195)) w.heap.size (fun k_ => some k_ ≠ (.slice Ao33 t173.length co33 : Value).ownBlock) (.slice Ao45 t192.length co45) t192) := ⟨by (with_reducible repeat (first | apply Kd.R_alloc | apply Kd.R_drewN | apply Kd.R_drew)); exact Kd.R_mono (Kd.R_far (p := ⟨gb196, 4, none⟩) (Kd.R_far (p := ⟨gb196, 3, none⟩) (Kd.R_far (p := ⟨gb196, 2, none⟩) (Kd.R_far (p := ⟨gb196, 1, none⟩) (Kd.R_far (p := ⟨gb196, 0, none⟩) (Kd.R_types HO194.out BK196.out (by decide)) (fun _ hk => hk.2) (.int .i64 t187)) (fun _ hk => hk.2) (.int .i64 t188)) (fun _ hk => hk.2) (.slice Ao44 t189.length co44)) (fun _ hk => hk.2) (.slice Ao45 t192.length co45)) (fun _ hk => hk.2) (.string t195)) (fun _ hk => hk.1.2)⟩
      have n6_ : Aside0 ((((((w41.setCell ⟨gb196, 0, none⟩ (.int .i64 t187)).setCell ⟨gb196, 1, none⟩ (.int .i64 t188)).setCell ⟨gb196, 2, none⟩ (.slice Ao44 t189.length co44)).setCell ⟨gb196, 3, none⟩ (.slice Ao45 t192.length co45)).setCell ⟨gb196, 4, none⟩ (.string t195)).heap[gb177]? = some (.cells #[.int .i64 t168, .int .i64 t169, .slice Ao32 t170.length co32, .slice Ao33 t173.length co33, .string t176] 66 (0, 0))) := ⟨by (with_reducible repeat (first | refine blk_drewN ?_ _ | refine blk_drew ?_ | refine blk_alloc ?_ _)); refine blk_far ?_ NB177_196.out _; (with_reducible repeat (first | refine blk_drewN ?_ _ | refine blk_drew ?_ | refine blk_alloc ?_ _)); refine blk_far ?_ NB177_196.out _; (with_reducible repeat (first | refine blk_drewN ?_ _ | refine blk_drew ?_ | refine blk_alloc ?_ _)); refine blk_far ?_ NB177_196.out _; (with_reducible repeat (first | refine blk_drewN ?_ _ | refine blk_drew ?_ | refine blk_alloc ?_ _)); refine blk_far ?_ NB177_196.out _; (with_reducible repeat (first | refine blk_drewN ?_ _ | refine blk_drew ?_ | refine blk_alloc ?_ _)); refine blk_far ?_ NB177_196.out _; (with_reducible repeat (first | refine blk_drewN ?_ _ | refine blk_drew ?_ | refine blk_alloc ?_ _)); exact BK177.out⟩
      have n7_ : Aside0 ((((((w41.setCell ⟨gb196, 0, none⟩ (.int .i64 t187)).setCell ⟨gb196, 1, none⟩ (.int .i64 t188)).setCell ⟨gb196, 2, none⟩ (.slice Ao44 t189.length co44)).setCell ⟨gb196, 3, none⟩ (.slice Ao45 t192.length co45)).setCell ⟨gb196, 4, none⟩ (.string t195)).heap[gb196]? = some (.cells #[.int .i64 t187, .int .i64 t188, .slice Ao44 t189.length co44, .slice Ao45 t192.length co45, .string t195] 66 (0, 0))) := ⟨by (with_reducible repeat (first | refine blk_drewN ?_ _ | refine blk_drew ?_ | refine blk_alloc ?_ _)); refine blk_put (cs := #[.int .i64 t187, .int .i64 t188, .slice Ao44 t189.length co44, .slice Ao45 t192.length co45, .string (⟨#[]⟩ : ByteArray)]) ?_ 4 _ rfl; (with_reducible repeat (first | refine blk_drewN ?_ _ | refine blk_drew ?_ | refine blk_alloc ?_ _)); refine blk_put (cs := #[.int .i64 t187, .int .i64 t188, .slice Ao44 t189.length co44, .slice none 0 0, .string (⟨#[]⟩ : ByteArray)]) ?_ 3 _ rfl; (with_reducible repeat (first | refine blk_drewN ?_ _ | refine blk_drew ?_ | refine blk_alloc ?_ _)); refine blk_put (cs := #[.int .i64 t187, .int .i64 t188, .slice none 0 0, .slice none 0 0, .string (⟨#[]⟩ : ByteArray)]) ?_ 2 _ rfl; (with_reducible repeat (first | refine blk_drewN ?_ _ | refine blk_drew ?_ | refine blk_alloc ?_ _)); refine blk_put (cs := #[.int .i64 t187, .int .i64 0, .slice none 0 0, .slice none 0 0, .string (⟨#[]⟩ : ByteArray)]) ?_ 1 _ rfl; (with_reducible repeat (first | refine blk_drewN ?_ _ | refine blk_drew ?_ | refine blk_alloc ?_ _)); refine blk_put (cs := #[.int .i64 0, .int .i64 0, .slice none 0 0, .slice none 0 0, .string (⟨#[]⟩ : ByteArray)]) ?_ 0 _ rfl; (with_reducible repeat (first | refine blk_drewN ?_ _ | refine blk_drew ?_ | refine blk_alloc ?_ _)); exact BK196.out⟩
      have n8_ : Aside0 (Below w.heap.size w (((((w41.setCell ⟨gb196, 0, none⟩ (.int .i64 t187)).setCell ⟨gb196, 1, none⟩ (.int .i64 t188)).setCell ⟨gb196, 2, none⟩ (.slice Ao44 t189.length co44)).setCell ⟨gb196, 3, none⟩ (.slice Ao45 t192.length co45)).setCell ⟨gb196, 4, none⟩ (.string t195))) := ⟨by repeat (first | (with_reducible first | exact HB.out | apply below_alloc | apply pw_below_drewN | apply below_drew1 | refine below_set ?_ GE177.out | refine below_set ?_ GE196.out) | exact HB.out)⟩
      (try clear HO167)
      (try clear HO172)
      (try clear HO175)
      (try clear HO186)
      (try clear HO191)
      (try clear HO194)
      (try clear BK177)
      (try clear BK196)
      (try clear HB)
      generalize (((((w41.setCell ⟨gb196, 0, none⟩ (.int .i64 t187)).setCell ⟨gb196, 1, none⟩ (.int .i64 t188)).setCell ⟨gb196, 2, none⟩ (.slice Ao44 t189.length co44)).setCell ⟨gb196, 3, none⟩ (.slice Ao45 t192.length co45)).setCell ⟨gb196, 4, none⟩ (.string t195)) = w46 at n0_ n1_ n2_ n3_ n4_ n5_ n6_ n7_ n8_ ⊢
      have HO167 := n0_
      have HO172 := n1_
      have HO175 := n2_
      have HO186 := n3_
      have HO191 := n4_
      have HO194 := n5_
      have BK177 := n6_
      have BK196 := n7_
      have HB := n8_
      clear n0_ n1_ n2_ n3_ n4_ n5_ n6_ n7_ n8_
      have n0_ := Aside0.mk (Kd.R_drew HO167.out)
      have n1_ := Aside0.mk (Kd.R_drew HO172.out)
      have n2_ := Aside0.mk (Kd.R_drew HO175.out)
      have n3_ := Aside0.mk (Kd.R_drew HO186.out)
      have n4_ := Aside0.mk (Kd.R_drew HO191.out)
      have n5_ := Aside0.mk (Kd.R_drew HO194.out)
      have n6_ := Aside0.mk (blk_drew BK177.out)
      have n7_ := Aside0.mk (blk_drew BK196.out)
      have n8_ := Aside0.mk (below_drew1 HB.out)
      clear HO167
      clear HO172
      clear HO175
      clear HO186
      clear HO191
      clear HO194
      clear BK177
      clear BK196
      clear HB
      have HO167 := n0_
      have HO172 := n1_
      have HO175 := n2_
      have HO186 := n3_
      have HO191 := n4_
      have HO194 := n5_
      have BK177 := n6_
      have BK196 := n7_
      have HB := n8_
      clear n0_ n1_ n2_ n3_ n4_ n5_ n6_ n7_ n8_
      refine start_ (n := 30) (S := fun w' => w'.cell? ⟨gb177, 0, none⟩ = some (.int .i64 t168) ∧ w'.cell? ⟨gb177, 1, none⟩ = some (.int .i64 t169) ∧ w'.cell? ⟨gb177, 2, none⟩ = some (.slice Ao32 t170.length co32) ∧ w'.cell? ⟨gb177, 3, none⟩ = some (.slice Ao33 t173.length co33) ∧ w'.cell? ⟨gb177, 4, none⟩ = some (.string t176) ∧ w'.cell? ⟨gb196, 0, none⟩ = some (.int .i64 t187) ∧ w'.cell? ⟨gb196, 1, none⟩ = some (.int .i64 t188) ∧ w'.cell? ⟨gb196, 2, none⟩ = some (.slice Ao44 t189.length co44) ∧ w'.cell? ⟨gb196, 3, none⟩ = some (.slice Ao45 t192.length co45) ∧ w'.cell? ⟨gb196, 4, none⟩ = some (.string t195)) (ds := []) #[false, false, false, false, false, false, false, false, false, false, false, false, false, false, false, false, false, false, false, false, false, false, false, false, false, false, false, false, false, false] q20_ rfl rfl ⟨(blk_cell BK177.out 0).trans rfl, (blk_cell BK177.out 1).trans rfl, (blk_cell BK177.out 2).trans rfl, (blk_cell BK177.out 3).trans rfl, (blk_cell BK177.out 4).trans rfl, (blk_cell BK196.out 0).trans rfl, (blk_cell BK196.out 1).trans rfl, (blk_cell BK196.out 2).trans rfl, (blk_cell BK196.out 3).trans rfl, (blk_cell BK196.out 4).trans rfl⟩ (fun hHeld => ?_); refine with_tabW ostiarylaw20_FilterNumbers.tab3 ostiarylaw20_FilterNumbers.bits3 (fun HT_ HW_ => ?_)
      generalize w46.drew = w47 at HO167 HO172 HO175 HO186 HO191 HO194 BK177 BK196 HB hHeld ⊢
      refine pure_ (i := 1) (N := some 16) (v := ?_) (a' := ?_) #[false, true, false, false, false, false, false, false, false, false, false, false, false, false, false, false, false, false, false, false, false, false, false, false, false, false, false, false, false, false] rfl rfl (any_of HT_.out q20_) (fun _ _ _ h => h) (Or.inl ⟨by rfl, ?_⟩) ?_ ?_
      rotate_left
      ·intro w'
       go_simp
       with_reducible rfl
      rotate_left
      ·simp only [Act.put, List.setIfInBounds_toArray, List.set_cons_zero, List.set_cons_succ, i64_w, i32_w]
       rfl
      refine one_ (i := 0) (N := some 15) #[true, true, false, false, false, false, false, false, false, false, false, false, false, false, false, false, false, false, false, false, false, false, false, false, false, false, false, false, false, false] rfl rfl (one_of HT_.out q20_) (by decide) (fun K hK => ?_)
      refine goes_ Tryd.func42 q20_ rfl #[] (by rfl) rfl rfl tS ?_
      with_reducible refine (filter_Fail.calls  t197 t198 t199 t202 t205 _ A9.out).mono ?_
      rintro e w48 ⟨v200, v203, rfl, ho0, ho1, hb⟩
      refine ⟨_, rfl, ?_⟩
      have n0_ := Aside0.mk (Kd.R_elder' q12_ (Kd.R_base ho0) hb)
      have n1_ := Aside0.mk (Kd.R_elder' q13_ (Kd.R_base ho0) hb)
      have n2_ := Aside0.mk (Kd.R_elder' q14_ (Kd.R_base ho1) hb)
      have n3_ := Aside0.mk (Kd.R_elder' q18_ (Kd.R_base ho0) hb)
      have n4_ := Aside0.mk (Kd.R_elder' q25_ (Kd.R_base ho0) hb)
      have n5_ := Aside0.mk (Kd.R_elder' q27_ (Kd.R_base ho1) hb)
      have n6_ := Aside0.mk (Kd.R_lower (Kd.R_new' (Kd.R_new' (Kd.R_new' (Kd.R_new' ho0 (Kd.R_lt q12_)) (Kd.R_lt q13_)) (Kd.R_lt q18_)) (Kd.R_lt q25_)) (below_size q6_))
      have n7_ := Aside0.mk (Kd.R_lower (Kd.R_new' (Kd.R_new' ho1 (Kd.R_lt q14_)) (Kd.R_lt q27_)) (below_size q6_))
      have n8_ := Aside0.mk (blk_below (g := gb177) (o := .cells #[.int .i64 t168, .int .i64 t169, .slice Ao32 t170.length co32, .slice Ao33 t173.length co33, .string t176] 66 (0, 0)) q15_ hb)
      have n9_ := Aside0.mk (blk_below (g := gb196) (o := .cells #[.int .i64 t187, .int .i64 t188, .slice Ao44 t189.length co44, .slice Ao45 t192.length co45, .string t195] 66 (0, 0)) q32_ hb)
      have n10_ := Aside0.mk (below_step q6_ hb)
      clear HO167
      clear HO172
      clear HO175
      clear HO186
      clear HO191
      clear HO194
      clear BK177
      clear BK196
      clear HB
      have HO167 := n0_
      have HO172 := n1_
      have HO175 := n2_
      have HO186 := n3_
      have HO191 := n4_
      have HO194 := n5_
      have HO201 := n6_
      have HO204 := n7_
      have BK177 := n8_
      have BK196 := n9_
      have HB := n10_
      clear n0_ n1_ n2_ n3_ n4_ n5_ n6_ n7_ n8_ n9_ n10_
      (try clear hb)
      (try clear hb2)
      (try clear hk)
      (try clear hi)
      (try clear ho0)
      (try clear ho1)
      obtain ⟨Ao49, co49, eo49⟩ := Kd.R_slice HO201.out
      (first | subst eo49 | (injection eo49 with f1_ f2_ f3_; have f4_ := f1_.symm; have f5_ := f3_.symm; clear f1_ f2_ f3_; subst f4_; subst f5_))
      obtain ⟨Ao50, co50, eo50⟩ := Kd.R_slice HO204.out
      (first | subst eo50 | (injection eo50 with f1_ f2_ f3_; have f4_ := f1_.symm; have f5_ := f3_.symm; clear f1_ f2_ f3_; subst f4_; subst f5_))
      refine hK.out _ _ ⟨(blk_cell BK177.out 0).trans rfl, (blk_cell BK177.out 1).trans rfl, (blk_cell BK177.out 2).trans rfl, (blk_cell BK177.out 3).trans rfl, (blk_cell BK177.out 4).trans rfl, (blk_cell BK196.out 0).trans rfl, (blk_cell BK196.out 1).trans rfl, (blk_cell BK196.out 2).trans rfl, (blk_cell BK196.out 3).trans rfl, (blk_cell BK196.out 4).trans rfl⟩ (fun hHeld => ?_)
      clear hK K
      refine norm_ (a' := ?_) ?_ ?_
      rotate_left
      ·show Act.put _ (some 15) _ = _
       simp only [Act.put, List.setIfInBounds_toArray, List.set_cons_zero, List.set_cons_succ, i64_w, i32_w]
       rfl
      refine one_ (i := 2) (N := some 17) #[true, true, true, false, false, false, false, false, false, false, false, false, false, false, false, false, false, false, false, false, false, false, false, false, false, false, false, false, false, false] rfl rfl (one_of HT_.out q20_) (by decide) (fun K hK => ?_)
      refine goes_ Tryd.func41 q20_ rfl #[.agg #[.int .i64 t197, .int .i64 t198, .slice Ao49 t199.length co49, .slice Ao50 t202.length co50, .string t205], .agg #[.int .i64 1, .int .i64 0, .slice none 0 0, .slice none 0 0, .string (⟨#[]⟩ : ByteArray)]] (by rfl) rfl rfl tS ?_
      refine (ostiarykeep_SameResponse.calls k t197 t198 _ _ t199 _ _ t202 t205 1 0 _ _ ([] : List (S72)) _ _ ([] : List Int) (⟨#[]⟩ : ByteArray) true _ ?side1 ?side2 ?side3 ?side4 ?side5 ?side6 ?side7 ?side8 A10.out).mono ?_
      (case side1 => repeat (first | exact (Kd.R_reads' HO201.out).2.2 | (with_reducible refine Kd.C_alloc ?_ _) | (with_reducible refine Kd.C_drewN ?_ _) | (with_reducible refine Kd.C_drew ?_)))
      (case side2 => exact (Kd.R_reads' HO201.out).2.1)
      (case side3 => repeat (first | exact (Kd.R_reads' HO204.out).2.2 | (with_reducible refine Kd.C_alloc ?_ _) | (with_reducible refine Kd.C_drewN ?_ _) | (with_reducible refine Kd.C_drew ?_)))
      (case side4 => exact (Kd.R_reads' HO204.out).2.1)
      (case side5 => exact Kd.C_nil _ _)
      (case side6 => exact Nat.le_refl _)
      (case side7 => exact Kd.C_nil _ _)
      (case side8 => exact Nat.le_refl _)
      rintro e w51 ⟨rfl, hb⟩
      refine ⟨_, rfl, ?_⟩
      have n0_ := Aside0.mk (Kd.R_below q12_ hb)
      have n1_ := Aside0.mk (Kd.R_below q13_ hb)
      have n2_ := Aside0.mk (Kd.R_below q14_ hb)
      have n3_ := Aside0.mk (Kd.R_below q18_ hb)
      have n4_ := Aside0.mk (Kd.R_below q25_ hb)
      have n5_ := Aside0.mk (Kd.R_below q27_ hb)
      have n6_ := Aside0.mk (Kd.R_below q30_ hb)
      have n7_ := Aside0.mk (Kd.R_below q31_ hb)
      have n8_ := Aside0.mk (blk_below (g := gb177) (o := .cells #[.int .i64 t168, .int .i64 t169, .slice Ao32 t170.length co32, .slice Ao33 t173.length co33, .string t176] 66 (0, 0)) q15_ hb)
      have n9_ := Aside0.mk (blk_below (g := gb196) (o := .cells #[.int .i64 t187, .int .i64 t188, .slice Ao44 t189.length co44, .slice Ao45 t192.length co45, .string t195] 66 (0, 0)) q32_ hb)
      have n10_ := Aside0.mk (below_step q6_ hb)
      clear HO167
      clear HO172
      clear HO175
      clear HO186
      clear HO191
      clear HO194
      clear HO201
      clear HO204
      clear BK177
      clear BK196
      clear HB
      have HO167 := n0_
      have HO172 := n1_
      have HO175 := n2_
      have HO186 := n3_
      have HO191 := n4_
      have HO194 := n5_
      have HO201 := n6_
      have HO204 := n7_
      have BK177 := n8_
      have BK196 := n9_
      have HB := n10_
      clear n0_ n1_ n2_ n3_ n4_ n5_ n6_ n7_ n8_ n9_ n10_
      (try clear hb)
      (try clear hb2)
      (try clear hk)
      (try clear hi)
      refine hK.out _ _ ⟨(blk_cell BK177.out 0).trans rfl, (blk_cell BK177.out 1).trans rfl, (blk_cell BK177.out 2).trans rfl, (blk_cell BK177.out 3).trans rfl, (blk_cell BK177.out 4).trans rfl, (blk_cell BK196.out 0).trans rfl, (blk_cell BK196.out 1).trans rfl, (blk_cell BK196.out 2).trans rfl, (blk_cell BK196.out 3).trans rfl, (blk_cell BK196.out 4).trans rfl⟩ (fun hHeld => ?_)
      clear hK K
      refine norm_ (a' := ?_) ?_ ?_
      rotate_left
      ·show Act.put _ (some 17) _ = _
       simp only [Act.put, List.setIfInBounds_toArray, List.set_cons_zero, List.set_cons_succ, i64_w, i32_w]
       rfl
      refine pure_ (i := 3) (N := some 18) (v := ?_) (a' := ?_) #[true, true, true, true, false, false, false, false, false, false, false, false, false, false, false, false, false, false, false, false, false, false, false, false, false, false, false, false, false, false] rfl rfl (any_of HT_.out q20_) (fun _ _ _ h => h) (Or.inl ⟨by rfl, ?_⟩) ?_ ?_
      rotate_left
      ·intro w'
       go_simp
       with_reducible rfl
      rotate_left
      ·simp only [Act.put, List.setIfInBounds_toArray, List.set_cons_zero, List.set_cons_succ, i64_w, i32_w]
       rfl
      refine pure_ (i := 5) (N := some 20) (v := ?_) (a' := ?_) #[true, true, true, true, false, true, false, false, false, false, false, false, false, false, false, false, false, false, false, false, false, false, false, false, false, false, false, false, false, false] rfl rfl (any_of HT_.out q20_) (fun _ _ _ h => h) (Or.inl ⟨by rfl, ?_⟩) ?_ ?_
      rotate_left
      ·intro w'
       go_simp
       with_reducible rfl
      rotate_left
      ·simp only [Act.put, List.setIfInBounds_toArray, List.set_cons_zero, List.set_cons_succ, i64_w, i32_w]
       rfl
      refine one_ (i := 4) (N := some 19) #[true, true, true, true, true, true, false, false, false, false, false, false, false, false, false, false, false, false, false, false, false, false, false, false, false, false, false, false, false, false] rfl rfl (one_of HT_.out q20_) (by decide) (fun K hK => ?_)
      refine goes_ Tryd.func43 q20_ rfl #[] (by rfl) rfl rfl tS ?_
      with_reducible refine (filter_Hide.calls  t207 t208 t209 t212 t215 _ A12.out).mono ?_
      rintro e w52 ⟨v210, v213, rfl, ho0, ho1, hb⟩
      refine ⟨_, rfl, ?_⟩
      have n0_ := Aside0.mk (Kd.R_elder' q12_ (Kd.R_base ho0) hb)
      have n1_ := Aside0.mk (Kd.R_elder' q13_ (Kd.R_base ho0) hb)
      have n2_ := Aside0.mk (Kd.R_elder' q14_ (Kd.R_base ho1) hb)
      have n3_ := Aside0.mk (Kd.R_elder' q18_ (Kd.R_base ho0) hb)
      have n4_ := Aside0.mk (Kd.R_elder' q25_ (Kd.R_base ho0) hb)
      have n5_ := Aside0.mk (Kd.R_elder' q27_ (Kd.R_base ho1) hb)
      have n6_ := Aside0.mk (Kd.R_elder' q30_ (Kd.R_base ho0) hb)
      have n7_ := Aside0.mk (Kd.R_elder' q31_ (Kd.R_base ho1) hb)
      have n8_ := Aside0.mk (Kd.R_lower (Kd.R_new' (Kd.R_new' (Kd.R_new' (Kd.R_new' (Kd.R_new' ho0 (Kd.R_lt q12_)) (Kd.R_lt q13_)) (Kd.R_lt q18_)) (Kd.R_lt q25_)) (Kd.R_lt q30_)) (below_size q6_))
      have n9_ := Aside0.mk (Kd.R_lower (Kd.R_new' (Kd.R_new' (Kd.R_new' ho1 (Kd.R_lt q14_)) (Kd.R_lt q27_)) (Kd.R_lt q31_)) (below_size q6_))
      have n10_ := Aside0.mk (blk_below (g := gb177) (o := .cells #[.int .i64 t168, .int .i64 t169, .slice Ao32 t170.length co32, .slice Ao33 t173.length co33, .string t176] 66 (0, 0)) q15_ hb)
      have n11_ := Aside0.mk (blk_below (g := gb196) (o := .cells #[.int .i64 t187, .int .i64 t188, .slice Ao44 t189.length co44, .slice Ao45 t192.length co45, .string t195] 66 (0, 0)) q32_ hb)
      have n12_ := Aside0.mk (below_step q6_ hb)
      clear HO167
      clear HO172
      clear HO175
      clear HO186
      clear HO191
      clear HO194
      clear HO201
      clear HO204
      clear BK177
      clear BK196
      clear HB
      have HO167 := n0_
      have HO172 := n1_
      have HO175 := n2_
      have HO186 := n3_
      have HO191 := n4_
      have HO194 := n5_
      have HO201 := n6_
      have HO204 := n7_
      have HO211 := n8_
      have HO214 := n9_
      have BK177 := n10_
      have BK196 := n11_
      have HB := n12_
      clear n0_ n1_ n2_ n3_ n4_ n5_ n6_ n7_ n8_ n9_ n10_ n11_ n12_
      (try clear hb)
      (try clear hb2)
      (try clear hk)
      (try clear hi)
      (try clear ho0)
      (try clear ho1)
      obtain ⟨Ao53, co53, eo53⟩ := Kd.R_slice HO211.out
      (first | subst eo53 | (injection eo53 with f1_ f2_ f3_; have f4_ := f1_.symm; have f5_ := f3_.symm; clear f1_ f2_ f3_; subst f4_; subst f5_))
      obtain ⟨Ao54, co54, eo54⟩ := Kd.R_slice HO214.out
      (first | subst eo54 | (injection eo54 with f1_ f2_ f3_; have f4_ := f1_.symm; have f5_ := f3_.symm; clear f1_ f2_ f3_; subst f4_; subst f5_))
      refine hK.out _ _ ⟨(blk_cell BK177.out 0).trans rfl, (blk_cell BK177.out 1).trans rfl, (blk_cell BK177.out 2).trans rfl, (blk_cell BK177.out 3).trans rfl, (blk_cell BK177.out 4).trans rfl, (blk_cell BK196.out 0).trans rfl, (blk_cell BK196.out 1).trans rfl, (blk_cell BK196.out 2).trans rfl, (blk_cell BK196.out 3).trans rfl, (blk_cell BK196.out 4).trans rfl⟩ (fun hHeld => ?_)
      clear hK K
      refine norm_ (a' := ?_) ?_ ?_
      rotate_left
      ·show Act.put _ (some 19) _ = _
       simp only [Act.put, List.setIfInBounds_toArray, List.set_cons_zero, List.set_cons_succ, i64_w, i32_w]
       rfl
      refine one_ (i := 6) (N := some 21) #[true, true, true, true, true, true, true, false, false, false, false, false, false, false, false, false, false, false, false, false, false, false, false, false, false, false, false, false, false, false] rfl rfl (one_of HT_.out q20_) (by decide) (fun K hK => ?_)
      refine goes_ Tryd.func41 q20_ rfl #[.agg #[.int .i64 t207, .int .i64 t208, .slice Ao53 t209.length co53, .slice Ao54 t212.length co54, .string t215], .agg #[.int .i64 4, .int .i64 0, .slice none 0 0, .slice none 0 0, .string (⟨#[]⟩ : ByteArray)]] (by rfl) rfl rfl tS ?_
      refine (ostiarykeep_SameResponse.calls k t207 t208 _ _ t209 _ _ t212 t215 4 0 _ _ ([] : List (S72)) _ _ ([] : List Int) (⟨#[]⟩ : ByteArray) true _ ?side1 ?side2 ?side3 ?side4 ?side5 ?side6 ?side7 ?side8 A13.out).mono ?_
      (case side1 => repeat (first | exact (Kd.R_reads' HO211.out).2.2 | (with_reducible refine Kd.C_alloc ?_ _) | (with_reducible refine Kd.C_drewN ?_ _) | (with_reducible refine Kd.C_drew ?_)))
      (case side2 => exact (Kd.R_reads' HO211.out).2.1)
      (case side3 => repeat (first | exact (Kd.R_reads' HO214.out).2.2 | (with_reducible refine Kd.C_alloc ?_ _) | (with_reducible refine Kd.C_drewN ?_ _) | (with_reducible refine Kd.C_drew ?_)))
      (case side4 => exact (Kd.R_reads' HO214.out).2.1)
      (case side5 => exact Kd.C_nil _ _)
      (case side6 => exact Nat.le_refl _)
      (case side7 => exact Kd.C_nil _ _)
      (case side8 => exact Nat.le_refl _)
      rintro e w55 ⟨rfl, hb⟩
      refine ⟨_, rfl, ?_⟩
      have n0_ := Aside0.mk (Kd.R_below q12_ hb)
      have n1_ := Aside0.mk (Kd.R_below q13_ hb)
      have n2_ := Aside0.mk (Kd.R_below q14_ hb)
      have n3_ := Aside0.mk (Kd.R_below q18_ hb)
      have n4_ := Aside0.mk (Kd.R_below q25_ hb)
      have n5_ := Aside0.mk (Kd.R_below q27_ hb)
      have n6_ := Aside0.mk (Kd.R_below q30_ hb)
      have n7_ := Aside0.mk (Kd.R_below q31_ hb)
      have n8_ := Aside0.mk (Kd.R_below q36_ hb)
      have n9_ := Aside0.mk (Kd.R_below (by (with_reducible repeat (first | apply Kd.R_alloc | apply Kd.R_drewN | apply Kd.R_drew)); exact HO214.out) hb)
      have n10_ := Aside0.mk (blk_below (g := gb177) (o := .cells #[.int .i64 t168, .int .i64 t169, .slice Ao32 t170.length co32, .slice Ao33 t173.length co33, .string t176] 66 (0, 0)) q15_ hb)
      have n11_ := Aside0.mk (blk_below (g := gb196) (o := .cells #[.int .i64 t187, .int .i64 t188, .slice Ao44 t189.length co44, .slice Ao45 t192.length co45, .string t195] 66 (0, 0)) q32_ hb)
      have n12_ := Aside0.mk (below_step q6_ hb)
      clear HO167
      clear HO172
      clear HO175
      clear HO186
      clear HO191
      clear HO194
      clear HO201
      clear HO204
      clear HO211
      clear HO214
      clear BK177
      clear BK196
      clear HB
      have HO167 := n0_
      have HO172 := n1_
      have HO175 := n2_
      have HO186 := n3_
      have HO191 := n4_
      have HO194 := n5_
      have HO201 := n6_
      have HO204 := n7_
      have HO211 := n8_
      have HO214 := n9_
      have BK177 := n10_
      have BK196 := n11_
      have HB := n12_
      clear n0_ n1_ n2_ n3_ n4_ n5_ n6_ n7_ n8_ n9_ n10_ n11_ n12_
      (try clear hb)
      (try clear hb2)
      (try clear hk)
      (try clear hi)
      refine hK.out _ _ ⟨(blk_cell BK177.out 0).trans rfl, (blk_cell BK177.out 1).trans rfl, (blk_cell BK177.out 2).trans rfl, (blk_cell BK177.out 3).trans rfl, (blk_cell BK177.out 4).trans rfl, (blk_cell BK196.out 0).trans rfl, (blk_cell BK196.out 1).trans rfl, (blk_cell BK196.out 2).trans rfl, (blk_cell BK196.out 3).trans rfl, (blk_cell BK196.out 4).trans rfl⟩ (fun hHeld => ?_)
      clear hK K
      refine norm_ (a' := ?_) ?_ ?_
      rotate_left
      ·show Act.put _ (some 21) _ = _
       simp only [Act.put, List.setIfInBounds_toArray, List.set_cons_zero, List.set_cons_succ, i64_w, i32_w]
       rfl
      refine pure_ (i := 7) (N := some 22) (v := ?_) (a' := ?_) #[true, true, true, true, true, true, true, true, false, false, false, false, false, false, false, false, false, false, false, false, false, false, false, false, false, false, false, false, false, false] rfl rfl (any_of HT_.out q20_) (fun _ _ _ h => h) (Or.inl ⟨by rfl, ?_⟩) ?_ ?_
      rotate_left
      ·intro w'
       go_simp
       with_reducible rfl
      rotate_left
      ·simp only [Act.put, List.setIfInBounds_toArray, List.set_cons_zero, List.set_cons_succ, i64_w, i32_w]
       rfl
      refine pure_ (i := 8) (N := some 23) (v := ?_) (a' := ?_) #[true, true, true, true, true, true, true, true, true, false, false, false, false, false, false, false, false, false, false, false, false, false, false, false, false, false, false, false, false, false] rfl rfl (any_of HT_.out q20_) (fun _ _ _ h => h) (Or.inl ⟨by rfl, ?_⟩) ?_ ?_
      rotate_left
      ·intro w'
       go_simp
       with_reducible rfl
      rotate_left
      ·simp only [Act.put, List.setIfInBounds_toArray, List.set_cons_zero, List.set_cons_succ, i64_w, i32_w]
       rfl
      refine pure_ (i := 10) (N := some 25) (v := ?_) (a' := ?_) #[true, true, true, true, true, true, true, true, true, false, true, false, false, false, false, false, false, false, false, false, false, false, false, false, false, false, false, false, false, false] rfl rfl (any_of HT_.out q20_) (fun _ _ _ h => h) (Or.inl ⟨by rfl, ?_⟩) ?_ ?_
      rotate_left
      ·intro w'
       go_simp
       with_reducible rfl
      rotate_left
      ·simp only [Act.put, List.setIfInBounds_toArray, List.set_cons_zero, List.set_cons_succ, i64_w, i32_w]
       rfl
      refine one_ (i := 9) (N := some 24) #[true, true, true, true, true, true, true, true, true, true, true, false, false, false, false, false, false, false, false, false, false, false, false, false, false, false, false, false, false, false] rfl rfl (one_of HT_.out q20_) (by decide) (fun K hK => ?_)
      refine goes_ Tryd.func44 q20_ rfl #[.string (⟨#[118]⟩ : ByteArray)] (by rfl) rfl rfl tS ?_
      with_reducible refine (filter_HideRedirect.calls (⟨#[118]⟩ : ByteArray) t217 t218 t219 t222 t225 _ A15.out).mono ?_
      rintro e w56 ⟨v220, v223, rfl, ho0, ho1, hb⟩
      refine ⟨_, rfl, ?_⟩
      have n0_ := Aside0.mk (Kd.R_elder' q12_ (Kd.R_base ho0) hb)
      have n1_ := Aside0.mk (Kd.R_elder' q13_ (Kd.R_base ho0) hb)
      have n2_ := Aside0.mk (Kd.R_elder' q14_ (Kd.R_base ho1) hb)
      have n3_ := Aside0.mk (Kd.R_elder' q18_ (Kd.R_base ho0) hb)
      have n4_ := Aside0.mk (Kd.R_elder' q25_ (Kd.R_base ho0) hb)
      have n5_ := Aside0.mk (Kd.R_elder' q27_ (Kd.R_base ho1) hb)
      have n6_ := Aside0.mk (Kd.R_elder' q30_ (Kd.R_base ho0) hb)
      have n7_ := Aside0.mk (Kd.R_elder' q31_ (Kd.R_base ho1) hb)
      have n8_ := Aside0.mk (Kd.R_elder' q36_ (Kd.R_base ho0) hb)
      have n9_ := Aside0.mk (Kd.R_elder' (by (with_reducible repeat (first | apply Kd.R_alloc | apply Kd.R_drewN | apply Kd.R_drew)); exact HO214.out) (Kd.R_base ho1) hb)
      have n10_ := Aside0.mk (Kd.R_lower (Kd.R_new' (Kd.R_new' (Kd.R_new' (Kd.R_new' (Kd.R_new' (Kd.R_new' ho0 (Kd.R_lt q12_)) (Kd.R_lt q13_)) (Kd.R_lt q18_)) (Kd.R_lt q25_)) (Kd.R_lt q30_)) (Kd.R_lt q36_)) (below_size q6_))
      have n11_ := Aside0.mk (Kd.R_lower (Kd.R_new' (Kd.R_new' (Kd.R_new' (Kd.R_new' ho1 (Kd.R_lt q14_)) (Kd.R_lt q27_)) (Kd.R_lt q31_)) (Kd.R_lt (by (with_reducible repeat (first | apply Kd.R_alloc | apply Kd.R_drewN | apply Kd.R_drew)); exact HO214.out))) (below_size q6_))
      have n12_ := Aside0.mk (blk_below (g := gb177) (o := .cells #[.int .i64 t168, .int .i64 t169, .slice Ao32 t170.length co32, .slice Ao33 t173.length co33, .string t176] 66 (0, 0)) q15_ hb)
      have n13_ := Aside0.mk (blk_below (g := gb196) (o := .cells #[.int .i64 t187, .int .i64 t188, .slice Ao44 t189.length co44, .slice Ao45 t192.length co45, .string t195] 66 (0, 0)) q32_ hb)
      have n14_ := Aside0.mk (below_step q6_ hb)
      clear HO167
      clear HO172
      clear HO175
      clear HO186
      clear HO191
      clear HO194
      clear HO201
      clear HO204
      clear HO211
      clear HO214
      clear BK177
      clear BK196
      clear HB
      have HO167 := n0_
      have HO172 := n1_
      have HO175 := n2_
      have HO186 := n3_
      have HO191 := n4_
      have HO194 := n5_
      have HO201 := n6_
      have HO204 := n7_
      have HO211 := n8_
      have HO214 := n9_
      have HO221 := n10_
      have HO224 := n11_
      have BK177 := n12_
      have BK196 := n13_
      have HB := n14_
      clear n0_ n1_ n2_ n3_ n4_ n5_ n6_ n7_ n8_ n9_ n10_ n11_ n12_ n13_ n14_
      (try clear hb)
      (try clear hb2)
      (try clear hk)
      (try clear hi)
      (try clear ho0)
      (try clear ho1)
      obtain ⟨Ao57, co57, eo57⟩ := Kd.R_slice HO221.out
      (first | subst eo57 | (injection eo57 with f1_ f2_ f3_; have f4_ := f1_.symm; have f5_ := f3_.symm; clear f1_ f2_ f3_; subst f4_; subst f5_))
      obtain ⟨Ao58, co58, eo58⟩ := Kd.R_slice HO224.out
      (first | subst eo58 | (injection eo58 with f1_ f2_ f3_; have f4_ := f1_.symm; have f5_ := f3_.symm; clear f1_ f2_ f3_; subst f4_; subst f5_))
      refine hK.out _ _ ⟨(blk_cell BK177.out 0).trans rfl, (blk_cell BK177.out 1).trans rfl, (blk_cell BK177.out 2).trans rfl, (blk_cell BK177.out 3).trans rfl, (blk_cell BK177.out 4).trans rfl, (blk_cell BK196.out 0).trans rfl, (blk_cell BK196.out 1).trans rfl, (blk_cell BK196.out 2).trans rfl, (blk_cell BK196.out 3).trans rfl, (blk_cell BK196.out 4).trans rfl⟩ (fun hHeld => ?_)
      clear hK K
      refine norm_ (a' := ?_) ?_ ?_
      rotate_left
      ·show Act.put _ (some 24) _ = _
       simp only [Act.put, List.setIfInBounds_toArray, List.set_cons_zero, List.set_cons_succ, i64_w, i32_w]
       rfl
      refine one_ (i := 11) (N := some 26) #[true, true, true, true, true, true, true, true, true, true, true, true, false, false, false, false, false, false, false, false, false, false, false, false, false, false, false, false, false, false] rfl rfl (one_of HT_.out q20_) (by decide) (fun K hK => ?_)
      refine goes_ Tryd.func41 q20_ rfl #[.agg #[.int .i64 t217, .int .i64 t218, .slice Ao57 t219.length co57, .slice Ao58 t222.length co58, .string t225], .agg #[.int .i64 5, .int .i64 0, .slice none 0 0, .slice none 0 0, .string (⟨#[118]⟩ : ByteArray)]] (by rfl) rfl rfl tS ?_
      refine (ostiarykeep_SameResponse.calls k t217 t218 _ _ t219 _ _ t222 t225 5 0 _ _ ([] : List (S72)) _ _ ([] : List Int) (⟨#[118]⟩ : ByteArray) true _ ?side1 ?side2 ?side3 ?side4 ?side5 ?side6 ?side7 ?side8 A16.out).mono ?_
      (case side1 => repeat (first | exact (Kd.R_reads' HO221.out).2.2 | (with_reducible refine Kd.C_alloc ?_ _) | (with_reducible refine Kd.C_drewN ?_ _) | (with_reducible refine Kd.C_drew ?_)))
      (case side2 => exact (Kd.R_reads' HO221.out).2.1)
      (case side3 => repeat (first | exact (Kd.R_reads' HO224.out).2.2 | (with_reducible refine Kd.C_alloc ?_ _) | (with_reducible refine Kd.C_drewN ?_ _) | (with_reducible refine Kd.C_drew ?_)))
      (case side4 => exact (Kd.R_reads' HO224.out).2.1)
      (case side5 => exact Kd.C_nil _ _)
      (case side6 => exact Nat.le_refl _)
      (case side7 => exact Kd.C_nil _ _)
      (case side8 => exact Nat.le_refl _)
      rintro e w59 ⟨rfl, hb⟩
      refine ⟨_, rfl, ?_⟩
      have n0_ := Aside0.mk (Kd.R_below q12_ hb)
      have n1_ := Aside0.mk (Kd.R_below q13_ hb)
      have n2_ := Aside0.mk (Kd.R_below q14_ hb)
      have n3_ := Aside0.mk (Kd.R_below q18_ hb)
      have n4_ := Aside0.mk (Kd.R_below q25_ hb)
      have n5_ := Aside0.mk (Kd.R_below q27_ hb)
      have n6_ := Aside0.mk (Kd.R_below q30_ hb)
      have n7_ := Aside0.mk (Kd.R_below q31_ hb)
      have n8_ := Aside0.mk (Kd.R_below q36_ hb)
      have n9_ := Aside0.mk (Kd.R_below (by (with_reducible repeat (first | apply Kd.R_alloc | apply Kd.R_drewN | apply Kd.R_drew)); exact HO214.out) hb)
      have n10_ := Aside0.mk (Kd.R_below (by (with_reducible repeat (first | apply Kd.R_alloc | apply Kd.R_drewN | apply Kd.R_drew)); exact HO221.out) hb)
      have n11_ := Aside0.mk (Kd.R_below (by (with_reducible repeat (first | apply Kd.R_alloc | apply Kd.R_drewN | apply Kd.R_drew)); exact HO224.out) hb)
      have n12_ := Aside0.mk (blk_below (g := gb177) (o := .cells #[.int .i64 t168, .int .i64 t169, .slice Ao32 t170.length co32, .slice Ao33 t173.length co33, .string t176] 66 (0, 0)) q15_ hb)
      have n13_ := Aside0.mk (blk_below (g := gb196) (o := .cells #[.int .i64 t187, .int .i64 t188, .slice Ao44 t189.length co44, .slice Ao45 t192.length co45, .string t195] 66 (0, 0)) q32_ hb)
      have n14_ := Aside0.mk (below_step q6_ hb)
      clear HO167
      clear HO172
      clear HO175
      clear HO186
      clear HO191
      clear HO194
      clear HO201
      clear HO204
      clear HO211
      clear HO214
      clear HO221
      clear HO224
      clear BK177
      clear BK196
      clear HB
      have HO167 := n0_
      have HO172 := n1_
      have HO175 := n2_
      have HO186 := n3_
      have HO191 := n4_
      have HO194 := n5_
      have HO201 := n6_
      have HO204 := n7_
      have HO211 := n8_
      have HO214 := n9_
      have HO221 := n10_
      have HO224 := n11_
      have BK177 := n12_
      have BK196 := n13_
      have HB := n14_
      clear n0_ n1_ n2_ n3_ n4_ n5_ n6_ n7_ n8_ n9_ n10_ n11_ n12_ n13_ n14_
      (try clear hb)
      (try clear hb2)
      (try clear hk)
      (try clear hi)
      refine hK.out _ _ ⟨(blk_cell BK177.out 0).trans rfl, (blk_cell BK177.out 1).trans rfl, (blk_cell BK177.out 2).trans rfl, (blk_cell BK177.out 3).trans rfl, (blk_cell BK177.out 4).trans rfl, (blk_cell BK196.out 0).trans rfl, (blk_cell BK196.out 1).trans rfl, (blk_cell BK196.out 2).trans rfl, (blk_cell BK196.out 3).trans rfl, (blk_cell BK196.out 4).trans rfl⟩ (fun hHeld => ?_)
      clear hK K
      refine norm_ (a' := ?_) ?_ ?_
      rotate_left
      ·show Act.put _ (some 26) _ = _
       simp only [Act.put, List.setIfInBounds_toArray, List.set_cons_zero, List.set_cons_succ, i64_w, i32_w]
       rfl
      refine pure_ (i := 12) (N := some 27) (v := ?_) (a' := ?_) #[true, true, true, true, true, true, true, true, true, true, true, true, true, false, false, false, false, false, false, false, false, false, false, false, false, false, false, false, false, false] rfl rfl (any_of HT_.out q20_) (fun _ _ _ h => h) (Or.inl ⟨by rfl, ?_⟩) ?_ ?_
      rotate_left
      ·intro w'
       go_simp
       with_reducible rfl
      rotate_left
      ·simp only [Act.put, List.setIfInBounds_toArray, List.set_cons_zero, List.set_cons_succ, i64_w, i32_w]
       rfl
      refine pure_ (i := 13) (N := some 28) (v := ?_) (a' := ?_) #[true, true, true, true, true, true, true, true, true, true, true, true, true, true, false, false, false, false, false, false, false, false, false, false, false, false, false, false, false, false] rfl rfl (any_of HT_.out q20_) (fun _ _ _ h => h) (Or.inl ⟨by rfl, ?_⟩) ?_ ?_
      rotate_left
      ·intro w'
       go_simp
       with_reducible rfl
      rotate_left
      ·simp only [Act.put, List.setIfInBounds_toArray, List.set_cons_zero, List.set_cons_succ, i64_w, i32_w]
       rfl
      refine pure_ (i := 14) (N := some 29) (v := ?_) (a' := ?_) #[true, true, true, true, true, true, true, true, true, true, true, true, true, true, true, false, false, false, false, false, false, false, false, false, false, false, false, false, false, false] rfl rfl (any_of HT_.out q20_) (fun _ _ _ h => h) (Or.inl ⟨by rfl, ?_⟩) ?_ ?_
      rotate_left
      ·intro w'
       go_simp
       with_reducible rfl
      rotate_left
      ·simp only [Act.put, List.setIfInBounds_toArray, List.set_cons_zero, List.set_cons_succ, i64_w, i32_w]
       rfl
      refine take_ (i := 15) (N := some 30) (v := ?_) (a' := ?_) #[true, true, true, true, true, true, true, true, true, true, true, true, true, true, true, true, false, false, false, false, false, false, false, false, false, false, false, false, false, false] rfl rfl (take_ofW HT_.out HW_.out q20_) (fun _ _ _ h => h) (Or.inl ⟨by rfl, ?_⟩) hHeld ?_ ?_
      rotate_left
      ·rintro w' ⟨s0, s1, s2, s3, s4, s5, s6, s7, s8, s9⟩
       go_simp
       with_reducible rfl
      rotate_left
      ·simp only [Act.put, List.setIfInBounds_toArray, List.set_cons_zero, List.set_cons_succ, i64_w, i32_w]
       rfl
      refine one_ (i := 16) (N := some 31) #[true, true, true, true, true, true, true, true, true, true, true, true, true, true, true, true, true, false, false, false, false, false, false, false, false, false, false, false, false, false] rfl rfl (one_of HT_.out q20_) (by decide) (fun K hK => ?_)
      refine goes_ Tryd.func37 q20_ rfl #[.string (⟨#[120]⟩ : ByteArray), .string (⟨#[98]⟩ : ByteArray)] (by rfl) rfl rfl tS ?_
      with_reducible refine (ostiarylaw20_h.calls (⟨#[120]⟩ : ByteArray) (⟨#[98]⟩ : ByteArray) t227 t228 _ A18.out).mono ?_
      rintro e w60 ⟨rfl, hb⟩
      refine ⟨_, rfl, ?_⟩
      have n0_ := Aside0.mk (Kd.R_below q12_ hb)
      have n1_ := Aside0.mk (Kd.R_below q13_ hb)
      have n2_ := Aside0.mk (Kd.R_below q14_ hb)
      have n3_ := Aside0.mk (Kd.R_below q18_ hb)
      have n4_ := Aside0.mk (Kd.R_below q25_ hb)
      have n5_ := Aside0.mk (Kd.R_below q27_ hb)
      have n6_ := Aside0.mk (Kd.R_below q30_ hb)
      have n7_ := Aside0.mk (Kd.R_below q31_ hb)
      have n8_ := Aside0.mk (Kd.R_below q36_ hb)
      have n9_ := Aside0.mk (Kd.R_below (by (with_reducible repeat (first | apply Kd.R_alloc | apply Kd.R_drewN | apply Kd.R_drew)); exact HO214.out) hb)
      have n10_ := Aside0.mk (Kd.R_below (by (with_reducible repeat (first | apply Kd.R_alloc | apply Kd.R_drewN | apply Kd.R_drew)); exact HO221.out) hb)
      have n11_ := Aside0.mk (Kd.R_below (by (with_reducible repeat (first | apply Kd.R_alloc | apply Kd.R_drewN | apply Kd.R_drew)); exact HO224.out) hb)
      have n12_ := Aside0.mk (blk_below (g := gb177) (o := .cells #[.int .i64 t168, .int .i64 t169, .slice Ao32 t170.length co32, .slice Ao33 t173.length co33, .string t176] 66 (0, 0)) q15_ hb)
      have n13_ := Aside0.mk (blk_below (g := gb196) (o := .cells #[.int .i64 t187, .int .i64 t188, .slice Ao44 t189.length co44, .slice Ao45 t192.length co45, .string t195] 66 (0, 0)) q32_ hb)
      have n14_ := Aside0.mk (below_step q6_ hb)
      clear HO167
      clear HO172
      clear HO175
      clear HO186
      clear HO191
      clear HO194
      clear HO201
      clear HO204
      clear HO211
      clear HO214
      clear HO221
      clear HO224
      clear BK177
      clear BK196
      clear HB
      have HO167 := n0_
      have HO172 := n1_
      have HO175 := n2_
      have HO186 := n3_
      have HO191 := n4_
      have HO194 := n5_
      have HO201 := n6_
      have HO204 := n7_
      have HO211 := n8_
      have HO214 := n9_
      have HO221 := n10_
      have HO224 := n11_
      have BK177 := n12_
      have BK196 := n13_
      have HB := n14_
      clear n0_ n1_ n2_ n3_ n4_ n5_ n6_ n7_ n8_ n9_ n10_ n11_ n12_ n13_ n14_
      (try clear hb)
      (try clear hb2)
      (try clear hk)
      (try clear hi)
      refine hK.out _ _ ⟨(blk_cell BK177.out 0).trans rfl, (blk_cell BK177.out 1).trans rfl, (blk_cell BK177.out 2).trans rfl, (blk_cell BK177.out 3).trans rfl, (blk_cell BK177.out 4).trans rfl, (blk_cell BK196.out 0).trans rfl, (blk_cell BK196.out 1).trans rfl, (blk_cell BK196.out 2).trans rfl, (blk_cell BK196.out 3).trans rfl, (blk_cell BK196.out 4).trans rfl⟩ (fun hHeld => ?_)
      clear hK K
      refine norm_ (a' := ?_) ?_ ?_
      rotate_left
      ·show Act.put _ (some 31) _ = _
       simp only [Act.put, List.setIfInBounds_toArray, List.set_cons_zero, List.set_cons_succ, i64_w, i32_w]
       rfl
      refine one_ (i := 17) (N := some 32) #[true, true, true, true, true, true, true, true, true, true, true, true, true, true, true, true, true, true, false, false, false, false, false, false, false, false, false, false, false, false] rfl rfl (one_of HT_.out q20_) (by decide) (fun K hK => ?_)
      refine Kd.R_lit_step k72 _ 72 ?hg (N := 32) ?hd (xs := ([(⟨t227, t228⟩ : S72)] : List (S72))) (inner := [.string t227, .string t228]) (ok := fun _ => True) (okp := fun _ => True) ?hr ?hp (fun _ hk => hk) trivial (Below.refl _ _) (Nat.le_refl _) (by simp) ?_; (case hd => rfl); (case hg => rfl); (case hr => first | (go_simp; done) | (go_simp; rfl)); (case hp => exact (Reps.c2 (show Kd.M k72 _ _ _ (⟨t227, t228⟩ : S72) [.string t227, .string t228] from (k72_mkM _ _ _ (⟨t227, t228⟩ : S72) )) (Reps.none _ _)))
      intro v230 w61 ho62 hb hg_ hnew_
      clear hg_ hnew_
      (first | rw [← Ny229.out] at ho62 | (simp only [Int.reduceToNat] at ho62; rw [← Ny229.out] at ho62))
      have n0_ := Aside0.mk (Kd.R_elder' q12_ (Kd.R_base ho62) hb)
      have n1_ := Aside0.mk (Kd.R_elder' q13_ (Kd.R_base ho62) hb)
      have n2_ := Aside0.mk (Kd.R_below q14_ hb)
      have n3_ := Aside0.mk (Kd.R_elder' q18_ (Kd.R_base ho62) hb)
      have n4_ := Aside0.mk (Kd.R_elder' q25_ (Kd.R_base ho62) hb)
      have n5_ := Aside0.mk (Kd.R_below q27_ hb)
      have n6_ := Aside0.mk (Kd.R_elder' q30_ (Kd.R_base ho62) hb)
      have n7_ := Aside0.mk (Kd.R_below q31_ hb)
      have n8_ := Aside0.mk (Kd.R_elder' q36_ (Kd.R_base ho62) hb)
      have n9_ := Aside0.mk (Kd.R_below (by (with_reducible repeat (first | apply Kd.R_alloc | apply Kd.R_drewN | apply Kd.R_drew)); exact HO214.out) hb)
      have n10_ := Aside0.mk (Kd.R_elder' (by (with_reducible repeat (first | apply Kd.R_alloc | apply Kd.R_drewN | apply Kd.R_drew)); exact HO221.out) (Kd.R_base ho62) hb)
      have n11_ := Aside0.mk (Kd.R_below (by (with_reducible repeat (first | apply Kd.R_alloc | apply Kd.R_drewN | apply Kd.R_drew)); exact HO224.out) hb)
      have n12_ := Aside0.mk (Kd.R_lower (Kd.R_new' (Kd.R_new' (Kd.R_new' (Kd.R_new' (Kd.R_new' (Kd.R_new' (Kd.R_new' ho62 (Kd.R_lt q12_)) (Kd.R_lt q13_)) (Kd.R_lt q18_)) (Kd.R_lt q25_)) (Kd.R_lt q30_)) (Kd.R_lt q36_)) (Kd.R_lt (by (with_reducible repeat (first | apply Kd.R_alloc | apply Kd.R_drewN | apply Kd.R_drew)); exact HO221.out))) (below_size q6_))
      have n13_ := Aside0.mk (blk_below (g := gb177) (o := .cells #[.int .i64 t168, .int .i64 t169, .slice Ao32 t170.length co32, .slice Ao33 t173.length co33, .string t176] 66 (0, 0)) q15_ hb)
      have n14_ := Aside0.mk (blk_below (g := gb196) (o := .cells #[.int .i64 t187, .int .i64 t188, .slice Ao44 t189.length co44, .slice Ao45 t192.length co45, .string t195] 66 (0, 0)) q32_ hb)
      have n15_ := Aside0.mk (below_step q6_ hb)
      clear HO167
      clear HO172
      clear HO175
      clear HO186
      clear HO191
      clear HO194
      clear HO201
      clear HO204
      clear HO211
      clear HO214
      clear HO221
      clear HO224
      clear BK177
      clear BK196
      clear HB
      have HO167 := n0_
      have HO172 := n1_
      have HO175 := n2_
      have HO186 := n3_
      have HO191 := n4_
      have HO194 := n5_
      have HO201 := n6_
      have HO204 := n7_
      have HO211 := n8_
      have HO214 := n9_
      have HO221 := n10_
      have HO224 := n11_
      have HO231 := n12_
      have BK177 := n13_
      have BK196 := n14_
      have HB := n15_
      clear n0_ n1_ n2_ n3_ n4_ n5_ n6_ n7_ n8_ n9_ n10_ n11_ n12_ n13_ n14_ n15_
      clear hb ho62
      obtain ⟨Ao63, co63, eo63⟩ := Kd.R_slice HO231.out
      (first | subst eo63 | (injection eo63 with f1_ f2_ f3_; have f4_ := f1_.symm; have f5_ := f3_.symm; clear f1_ f2_ f3_; subst f4_; subst f5_))
      refine hK.out _ _ ⟨(blk_cell BK177.out 0).trans rfl, (blk_cell BK177.out 1).trans rfl, (blk_cell BK177.out 2).trans rfl, (blk_cell BK177.out 3).trans rfl, (blk_cell BK177.out 4).trans rfl, (blk_cell BK196.out 0).trans rfl, (blk_cell BK196.out 1).trans rfl, (blk_cell BK196.out 2).trans rfl, (blk_cell BK196.out 3).trans rfl, (blk_cell BK196.out 4).trans rfl⟩ (fun hHeld => ?_)
      clear hK K
      refine norm_ (a' := ?_) ?_ ?_
      rotate_left
      ·show Act.put _ (some 32) _ = _
       simp only [Act.put, List.setIfInBounds_toArray, List.set_cons_zero, List.set_cons_succ, i64_w, i32_w]
       rfl
      refine one_ (i := 18) (N := some 33) #[true, true, true, true, true, true, true, true, true, true, true, true, true, true, true, true, true, true, true, false, false, false, false, false, false, false, false, false, false, false] rfl rfl (one_of HT_.out q20_) (by decide) (fun K hK => ?_)
      refine goes_ Tryd.func45 q20_ rfl #[.slice Ao32 t170.length co32, .slice Ao63 y229.length co63] (by rfl) rfl rfl tS ?_
      with_reducible refine (api_Header.calls k _ _ t170 _ _ y229 true _ ?side1 ?side2 ?side3 ?side4 A19.out).mono ?_
      (case side1 => repeat (first | exact (Kd.R_reads' HO172.out).2.2 | (with_reducible refine Kd.C_alloc ?_ _) | (with_reducible refine Kd.C_drewN ?_ _) | (with_reducible refine Kd.C_drew ?_)))
      (case side2 => exact (Kd.R_reads' HO172.out).2.1)
      (case side3 => repeat (first | exact (Kd.R_reads' HO231.out).2.2 | (with_reducible refine Kd.C_alloc ?_ _) | (with_reducible refine Kd.C_drewN ?_ _) | (with_reducible refine Kd.C_drew ?_)))
      (case side4 => exact (Kd.R_reads' HO231.out).2.1)
      rintro e w' ⟨rfl, ⟨nd, rfl⟩⟩
      refine ⟨_, rfl, ?_⟩
      refine hK.out _ _ ⟨(blk_cell BK177.out 0).trans rfl, (blk_cell BK177.out 1).trans rfl, (blk_cell BK177.out 2).trans rfl, (blk_cell BK177.out 3).trans rfl, (blk_cell BK177.out 4).trans rfl, (blk_cell BK196.out 0).trans rfl, (blk_cell BK196.out 1).trans rfl, (blk_cell BK196.out 2).trans rfl, (blk_cell BK196.out 3).trans rfl, (blk_cell BK196.out 4).trans rfl⟩ (fun hHeld => ?_)
      clear hK K
      refine norm_ (a' := ?_) ?_ ?_
      rotate_left
      ·show Act.put _ (some 33) _ = _
       simp only [Act.put, List.setIfInBounds_toArray, List.set_cons_zero, List.set_cons_succ, i64_w, i32_w]
       rfl
      refine pure_ (i := 19) (N := some 34) (v := ?_) (a' := ?_) #[true, true, true, true, true, true, true, true, true, true, true, true, true, true, true, true, true, true, true, true, false, false, false, false, false, false, false, false, false, false] rfl rfl (any_of HT_.out q20_) (fun _ _ _ h => h) (Or.inl ⟨by rfl, ?_⟩) ?_ ?_
      rotate_left
      ·intro w'
       go_simp
       with_reducible rfl
      rotate_left
      ·simp only [Act.put, List.setIfInBounds_toArray, List.set_cons_zero, List.set_cons_succ, i64_w, i32_w]
       rfl
      refine pure_ (i := 20) (N := some 35) (v := ?_) (a' := ?_) #[true, true, true, true, true, true, true, true, true, true, true, true, true, true, true, true, true, true, true, true, true, false, false, false, false, false, false, false, false, false] rfl rfl (any_of HT_.out q20_) (fun _ _ _ h => h) (Or.inl ⟨by rfl, ?_⟩) ?_ ?_
      rotate_left
      ·intro w'
       go_simp
       with_reducible rfl
      rotate_left
      ·simp only [Act.put, List.setIfInBounds_toArray, List.set_cons_zero, List.set_cons_succ, i64_w, i32_w]
       rfl
      refine pure_ (i := 21) (N := some 36) (v := ?_) (a' := ?_) #[true, true, true, true, true, true, true, true, true, true, true, true, true, true, true, true, true, true, true, true, true, true, false, false, false, false, false, false, false, false] rfl rfl (any_of HT_.out q20_) (fun _ _ _ h => h) (Or.inl ⟨by rfl, ?_⟩) ?_ ?_
      rotate_left
      ·intro w'
       go_simp
       with_reducible rfl
      rotate_left
      ·simp only [Act.put, List.setIfInBounds_toArray, List.set_cons_zero, List.set_cons_succ, i64_w, i32_w]
       rfl
      refine take_ (i := 22) (N := some 37) (v := ?_) (a' := ?_) #[true, true, true, true, true, true, true, true, true, true, true, true, true, true, true, true, true, true, true, true, true, true, true, false, false, false, false, false, false, false] rfl rfl (take_ofW HT_.out HW_.out q20_) (fun _ _ _ h => h) (Or.inl ⟨by rfl, ?_⟩) hHeld ?_ ?_
      rotate_left
      ·rintro w' ⟨s0, s1, s2, s3, s4, s5, s6, s7, s8, s9⟩
       go_simp
       with_reducible rfl
      rotate_left
      ·simp only [Act.put, List.setIfInBounds_toArray, List.set_cons_zero, List.set_cons_succ, i64_w, i32_w]
       rfl
      refine pure_ (i := 23) (N := some 38) (v := ?_) (a' := ?_) #[true, true, true, true, true, true, true, true, true, true, true, true, true, true, true, true, true, true, true, true, true, true, true, true, false, false, false, false, false, false] rfl rfl (any_of HT_.out q20_) (fun _ _ _ h => h) (Or.inl ⟨by rfl, ?_⟩) ?_ ?_
      rotate_left
      ·intro w'
       go_simp
       with_reducible rfl
      rotate_left
      ·simp only [Act.put, List.setIfInBounds_toArray, List.set_cons_zero, List.set_cons_succ, i64_w, i32_w]
       rfl
      refine pure_ (i := 24) (N := some 39) (v := ?_) (a' := ?_) #[true, true, true, true, true, true, true, true, true, true, true, true, true, true, true, true, true, true, true, true, true, true, true, true, true, false, false, false, false, false] rfl rfl (any_of HT_.out q20_) (fun _ _ _ h => h) (Or.inl ⟨by rfl, ?_⟩) ?_ ?_
      rotate_left
      ·intro w'
       go_simp
       with_reducible rfl
      rotate_left
      ·simp only [Act.put, List.setIfInBounds_toArray, List.set_cons_zero, List.set_cons_succ, i64_w, i32_w]
       rfl
      refine pure_ (i := 25) (N := some 40) (v := ?_) (a' := ?_) #[true, true, true, true, true, true, true, true, true, true, true, true, true, true, true, true, true, true, true, true, true, true, true, true, true, true, false, false, false, false] rfl rfl (any_of HT_.out q20_) (fun _ _ _ h => h) (Or.inl ⟨by rfl, ?_⟩) ?_ ?_
      rotate_left
      ·intro w'
       go_simp
       with_reducible rfl
      rotate_left
      ·simp only [Act.put, List.setIfInBounds_toArray, List.set_cons_zero, List.set_cons_succ, i64_w, i32_w]
       rfl
      refine pure_ (i := 26) (N := some 41) (v := ?_) (a' := ?_) #[true, true, true, true, true, true, true, true, true, true, true, true, true, true, true, true, true, true, true, true, true, true, true, true, true, true, true, false, false, false] rfl rfl (any_of HT_.out q20_) (fun _ _ _ h => h) (Or.inl ⟨by rfl, ?_⟩) ?_ ?_
      rotate_left
      ·intro w'
       go_simp
       with_reducible rfl
      rotate_left
      ·simp only [Act.put, List.setIfInBounds_toArray, List.set_cons_zero, List.set_cons_succ, i64_w, i32_w]
       rfl
      refine one_ (i := 27) (N := some 42) #[true, true, true, true, true, true, true, true, true, true, true, true, true, true, true, true, true, true, true, true, true, true, true, true, true, true, true, true, false, false] rfl rfl (one_of HT_.out q20_) (by decide) (fun K hK => ?_)
      refine goes_ Tryd.func36 q20_ rfl #[] (by rfl) rfl rfl tS ?_
      with_reducible refine (ostiarylaw20_known.calls k _ A22.out).mono ?_
      rintro e w64 ⟨rfl, hb⟩
      refine ⟨_, rfl, ?_⟩
      have n0_ := Aside0.mk (Kd.R_below q12_ hb)
      have n1_ := Aside0.mk (Kd.R_below q13_ hb)
      have n2_ := Aside0.mk (Kd.R_below q14_ hb)
      have n3_ := Aside0.mk (Kd.R_below q18_ hb)
      have n4_ := Aside0.mk (Kd.R_below q25_ hb)
      have n5_ := Aside0.mk (Kd.R_below q27_ hb)
      have n6_ := Aside0.mk (Kd.R_below q30_ hb)
      have n7_ := Aside0.mk (Kd.R_below q31_ hb)
      have n8_ := Aside0.mk (Kd.R_below q36_ hb)
      have n9_ := Aside0.mk (Kd.R_below (by (with_reducible repeat (first | apply Kd.R_alloc | apply Kd.R_drewN | apply Kd.R_drew)); exact HO214.out) hb)
      have n10_ := Aside0.mk (Kd.R_below (by (with_reducible repeat (first | apply Kd.R_alloc | apply Kd.R_drewN | apply Kd.R_drew)); exact HO221.out) hb)
      have n11_ := Aside0.mk (Kd.R_below (by (with_reducible repeat (first | apply Kd.R_alloc | apply Kd.R_drewN | apply Kd.R_drew)); exact HO224.out) hb)
      have n12_ := Aside0.mk (Kd.R_below (by (with_reducible repeat (first | apply Kd.R_alloc | apply Kd.R_drewN | apply Kd.R_drew)); exact HO231.out) hb)
      have n13_ := Aside0.mk (blk_below (g := gb177) (o := .cells #[.int .i64 t168, .int .i64 t169, .slice Ao32 t170.length co32, .slice Ao33 t173.length co33, .string t176] 66 (0, 0)) q15_ hb)
      have n14_ := Aside0.mk (blk_below (g := gb196) (o := .cells #[.int .i64 t187, .int .i64 t188, .slice Ao44 t189.length co44, .slice Ao45 t192.length co45, .string t195] 66 (0, 0)) q32_ hb)
      have n15_ := Aside0.mk (below_step q6_ hb)
      clear HO167
      clear HO172
      clear HO175
      clear HO186
      clear HO191
      clear HO194
      clear HO201
      clear HO204
      clear HO211
      clear HO214
      clear HO221
      clear HO224
      clear HO231
      clear BK177
      clear BK196
      clear HB
      have HO167 := n0_
      have HO172 := n1_
      have HO175 := n2_
      have HO186 := n3_
      have HO191 := n4_
      have HO194 := n5_
      have HO201 := n6_
      have HO204 := n7_
      have HO211 := n8_
      have HO214 := n9_
      have HO221 := n10_
      have HO224 := n11_
      have HO231 := n12_
      have BK177 := n13_
      have BK196 := n14_
      have HB := n15_
      clear n0_ n1_ n2_ n3_ n4_ n5_ n6_ n7_ n8_ n9_ n10_ n11_ n12_ n13_ n14_ n15_
      (try clear hb)
      (try clear hb2)
      (try clear hk)
      (try clear hi)
      refine hK.out _ _ ⟨(blk_cell BK177.out 0).trans rfl, (blk_cell BK177.out 1).trans rfl, (blk_cell BK177.out 2).trans rfl, (blk_cell BK177.out 3).trans rfl, (blk_cell BK177.out 4).trans rfl, (blk_cell BK196.out 0).trans rfl, (blk_cell BK196.out 1).trans rfl, (blk_cell BK196.out 2).trans rfl, (blk_cell BK196.out 3).trans rfl, (blk_cell BK196.out 4).trans rfl⟩ (fun hHeld => ?_)
      clear hK K
      refine norm_ (a' := ?_) ?_ ?_
      rotate_left
      ·show Act.put _ (some 42) _ = _
       simp only [Act.put, List.setIfInBounds_toArray, List.set_cons_zero, List.set_cons_succ, i64_w, i32_w]
       rfl
      refine pure_ (i := 28) (N := some 43) (v := ?_) (a' := ?_) #[true, true, true, true, true, true, true, true, true, true, true, true, true, true, true, true, true, true, true, true, true, true, true, true, true, true, true, true, true, false] rfl rfl (any_of HT_.out q20_) (fun _ _ _ h => h) (Or.inl ⟨by rfl, ?_⟩) ?_ ?_
      rotate_left
      ·intro w'
       go_simp
       with_reducible rfl
      rotate_left
      ·simp only [Act.put, List.setIfInBounds_toArray, List.set_cons_zero, List.set_cons_succ, i64_w, i32_w]
       rfl
      refine pure_ (i := 29) (N := some 0) (v := ?_) (a' := ?_) #[true, true, true, true, true, true, true, true, true, true, true, true, true, true, true, true, true, true, true, true, true, true, true, true, true, true, true, true, true, true] rfl rfl (any_of HT_.out q20_) (fun _ _ _ h => h) (Or.inl ⟨by rfl, ?_⟩) ?_ ?_
      rotate_left
      ·intro w'
       go_simp
       with_reducible rfl
      rotate_left
      ·simp only [Act.put, List.setIfInBounds_toArray, List.set_cons_zero, List.set_cons_succ, i64_w, i32_w]
       rfl
      refine done_ (done_of HT_.out q20_) ?_
      try go_wp2
      go_ret
      exact ⟨by first | rfl | (simp [errW_none, errW_some] <;> rfl) | (simp [*, errW_none, errW_some] <;> rfl), by repeat (first | (with_reducible first | exact HB.out | apply below_alloc | apply pw_below_drewN | apply below_drew1 | refine below_set ?_ GE177.out | refine below_set ?_ GE196.out) | exact HB.out)⟩
     ·rw [if_neg c21] at H
      have c21b0 : ((t189.length : Int) == 2) = false := beq_eq_false_iff_ne.mpr c21
      have c21b1 : ((t189.length : Int) != 2) = true := bne_iff_ne.mpr c21
      cases H
    ·replace c20 := Bool.eq_false_iff.mpr c20
     subst c20
     have H1 : (some false) = some true := by rw [if_neg (show ¬ (false = true) by decide)] at H; exact H
     clear H
     have H := H1
     clear H1
     cases H
   ·replace c17 := Bool.eq_false_iff.mpr c17
    subst c17
    have H1 : (some false) = some true := by rw [if_neg (show ¬ (false = true) by decide)] at H; exact H
    clear H
    have H := H1
    clear H1
    cases H
  ·replace c14 := Bool.eq_false_iff.mpr c14
   subst c14
   have H1 : (some false) = some true := by rw [if_neg (show ¬ (false = true) by decide)] at H; exact H
   clear H
   have H := H1
   clear H1
   cases H
 ·replace c11 := Bool.eq_false_iff.mpr c11
  subst c11
  have H1 : (some false) = some true := by rw [if_neg (show ¬ (false = true) by decide)] at H; exact H
  clear H
  have H := H1
  clear H1
  cases H
end Go.Proofs.YtifmkgkiipckbaaDoor.P
