/- A part of the proof of FS: texts of walks and plain lemmas. -/
import Derived.Test.YtifmkgkiipckbaaGreatDoorXFS1
import Derived.Test.YtifmkgkiipckbaaGreatDoorXFS6
import Derived.Test.YtifmkgkiipckbaaGreatDoorXFS13
import Derived.Test.YtifmkgkiipckbaaGreatDoorXFS14
import Derived.Test.YtifmkgkiipckbaaGreatDoorXFS11
import Derived.Test.YtifmkgkiipckbaaGreatDoorXFS12
import Derived.Test.YtifmkgkiipckbaaGreatDoorXFS15
import Derived.Test.YtifmkgkiipckbaaGreatDoorXFS16
namespace Go.Proofs.YtifmkgkiipckbaaGreatDoor.P
open Go.RowKit Go.Proofs.YtifmkgkiipckbaaGreatDoorW.PrintWords Go.Proofs.YtifmkgkiipckbaaGreatDoorW.PrintLast Go.Proofs.YtifmkgkiipckbaaGreatDoorW.PrintMore
attribute [local go_sem] max2_int min2_int max_two min_two max_three min_three max_four min_four
set_option linter.unusedVariables false
set_option linter.unusedSimpArgs false
def ostiarylaw20_FilterShows.f (k : Nat) (a0_0 : Int) (l0_1 : List (S30)) (l0_2 : List Int) (a1 : ByteArray) (a2 : Bool) : Option (Bool) := (ostiarykeep_Reply.f k a0_0 l0_1 l0_2).bind fun bt259 => ((ostiarykeep_Few.f a1 100).bind fun t266 => ((ostiarykeep_CopyReply.f bt259.1 bt259.2.1 bt259.2.2).bind fun bt267 => ((filter_Own.f bt259.1 bt259.2.1 bt259.2.2 t266).bind fun bt275 => ((ostiaryref20_Own.f k bt267.1 bt267.2.1 bt267.2.2 t266).bind fun bt284 => ((ostiarykeep_SameResponse.f k bt275.1 bt275.2.1 bt275.2.2.1 bt275.2.2.2.1 bt275.2.2.2.2 bt284.1 bt284.2.1 bt284.2.2.1 bt284.2.2.2.1 bt284.2.2.2.2).bind fun t293 => (if t293 = true then ((filter_Share.f bt259.1 bt259.2.1 bt259.2.2 t266 a2).bind fun bt294 => ((ostiaryref20_Share.f k bt267.1 bt267.2.1 bt267.2.2 t266 a2).bind fun bt303 => ((ostiarykeep_SameResponse.f k bt294.1 bt294.2.1 bt294.2.2.1 bt294.2.2.2.1 bt294.2.2.2.2 bt303.1 bt303.2.1 bt303.2.2.1 bt303.2.2.2.1 bt303.2.2.2.2).bind fun t312 => (if t312 = true then ((ostiarykeep_SameReply.f k bt259.1 bt259.2.1 bt259.2.2 bt267.1 bt267.2.1 bt267.2.2).bind fun t313 => (if t313 = true then ((filter_HideRedirect.f t266).bind fun bt314 => ((ostiarykeep_SameResponse.f k bt314.1 bt314.2.1 bt314.2.2.1 bt314.2.2.2.1 bt314.2.2.2.2 5 0 ([] : List (S30)) ([] : List Int) t266).bind fun t323 => (if t323 = true then ((ostiarylaw20_known.f k).bind fun t324 => (some t324)) else (some false)))) else (some false))) else (some false))))) else (some false)))))))
theorem ostiarylaw20_FilterShows.mono : ∀ a0 a1 a2 a3 a4 k, LeO (ostiarylaw20_FilterShows.f k a0 a1 a2 a3 a4) (ostiarylaw20_FilterShows.f (k + 1) a0 a1 a2 a3 a4) := by
 intro a0 a1 a2 a3 a4 k
 unfold ostiarylaw20_FilterShows.f
 repeat' first
   | (with_reducible exact ostiarykeep_Reply.mono _ _ _ _)
   | (with_reducible exact ostiarykeep_SameReply.mono _ _ _ _ _ _ _)
   | (with_reducible exact ostiarykeep_SameResponse.mono _ _ _ _ _ _ _ _ _ _ _)
   | (with_reducible exact ostiarylaw20_known.mono _)
   | (with_reducible exact ostiaryref20_Own.mono _ _ _ _ _)
   | (with_reducible exact ostiaryref20_Share.mono _ _ _ _ _ _)
   | (with_reducible exact LeO.refl _)
   | (with_reducible exact LeO.none _)
   | (with_reducible refine LeO.ite ?_ ?_)
   | (with_reducible refine LeO.bind ?_ (fun _ => ?_))
   | exact ostiarykeep_Reply.mono _ _ _ _
   | exact ostiarykeep_SameReply.mono _ _ _ _ _ _ _
   | exact ostiarykeep_SameResponse.mono _ _ _ _ _ _ _ _ _ _ _
   | exact ostiarylaw20_known.mono _
   | exact ostiaryref20_Own.mono _ _ _ _ _
   | exact ostiaryref20_Share.mono _ _ _ _ _ _
   | exact LeO.none _
   | refine LeO.ite ?_ ?_
   | refine LeO.bind ?_ (fun _ => ?_)
def ostiarylaw20_FilterShows.T4 : Bool × List (List Nat × List Nat) := (true, [([], []), ([], []), ([0, 1], [0, 1]), ([], []), ([], []), ([3, 4, 2], [3, 4]), ([2, 5, 5], [2, 5]), ([6, 6], [6]), ([7], [7]), ([7], [7]), ([7], [7]), ([8, 9, 10, 7, 7], [7, 8, 9, 10]), ([7], [7]), ([7], [7]), ([7], [7]), ([12, 13, 14, 11, 7], [7, 12, 13, 14]), ([11, 15, 15, 7], [7, 11, 15]), ([7, 16], [7, 16]), ([17, 16], [17]), ([18], [18]), ([18], [18]), ([19, 20, 18, 18], [18, 19, 20]), ([18, 21], [18, 21]), ([22, 21], [22]), ([23], [23]), ([24, 23, 23], [23, 24]), ([23], [23]), ([26, 23], [23, 26]), ([25, 27, 25, 23], [23, 25, 27]), ([23, 28], [23, 28]), ([29, 28], [29]), ([30, 30], [30]), ([30, 31], [30, 31]), ([32, 31, 0, 1, 2, 3, 4, 5, 6, 7, 8, 9, 10, 11, 12, 13, 14, 15, 16, 17, 18, 19, 20, 21, 22, 23, 24, 25, 26, 27, 28, 29, 30, 31, 32], [32])])
def ostiarylaw20_FilterShows.B4 : List Nat := [0, 0, 3, 0, 0, 31, 63, 127, 255, 255, 255, 2047, 255, 255, 255, 32767, 65535, 131071, 262143, 524287, 524287, 2097151, 4194303, 8388607, 16777215, 33554431, 16777215, 83886079, 268435455, 536870911, 1073741823, 2147483647, 4294967295, 8589934591]
theorem ostiarylaw20_FilterShows.tab4 : rtab .any (opsOf Tryz.f10 4) = ostiarylaw20_FilterShows.T4 := by kernel_rfl
theorem ostiarylaw20_FilterShows.bits4 : waitsOk ostiarylaw20_FilterShows.T4.2 ostiarylaw20_FilterShows.B4 = true := by kernel_rfl
set_option maxHeartbeats 8000000 in
set_option maxRecDepth 100000 in
theorem ostiarylaw20_FilterShows.calls (k : Nat) (a0_0 : Int) (A0_1 : Option Addr) (c0_1 : Nat) (l0_1 : List (S30)) (A0_2 : Option Addr) (c0_2 : Nat) (l0_2 : List Int) (a1 : ByteArray) (a2 : Bool) (w : World) (hr0_1 : Kd.C k30 w A0_1 l0_1.length l0_1) (hc0_1 : l0_1.length ≤ c0_1) (hr0_2 : Kd.C (Kd.int .u8) w A0_2 l0_2.length l0_2) (hc0_2 : l0_2.length ≤ c0_2) (h : ostiarylaw20_FilterShows.f k a0_0 l0_1 l0_2 a1 a2 = some true) :
  Calls Tryz.prog 10 #[.agg #[.int .i64 a0_0, .slice A0_1 l0_1.length c0_1, .slice A0_2 l0_2.length c0_2], .string a1, .bool a2] w fun e w' => e = .returned (.bool true) ∧ Below w.heap.size w w' := by
 have hu28 := Tryz.underlying28
 have hu93 := Tryz.underlying93
 have HR0_1 := Aside0.mk hr0_1
 have HC0_1 := Aside0.mk hc0_1
 clear hr0_1 hc0_1
 have HR0_2 := Aside0.mk hr0_2
 have HC0_2 := Aside0.mk hc0_2
 clear hr0_2 hc0_2
 have HB := Aside0.mk (Below.refl w.heap.size w)
 have H : ((ostiarykeep_Reply.f k a0_0 l0_1 l0_2).bind fun bt259 => ((ostiarykeep_Few.f a1 100).bind fun t266 => ((ostiarykeep_CopyReply.f bt259.1 bt259.2.1 bt259.2.2).bind fun bt267 => ((filter_Own.f bt259.1 bt259.2.1 bt259.2.2 t266).bind fun bt275 => ((ostiaryref20_Own.f k bt267.1 bt267.2.1 bt267.2.2 t266).bind fun bt284 => ((ostiarykeep_SameResponse.f k bt275.1 bt275.2.1 bt275.2.2.1 bt275.2.2.2.1 bt275.2.2.2.2 bt284.1 bt284.2.1 bt284.2.2.1 bt284.2.2.2.1 bt284.2.2.2.2).bind fun t293 => (if t293 = true then ((filter_Share.f bt259.1 bt259.2.1 bt259.2.2 t266 a2).bind fun bt294 => ((ostiaryref20_Share.f k bt267.1 bt267.2.1 bt267.2.2 t266 a2).bind fun bt303 => ((ostiarykeep_SameResponse.f k bt294.1 bt294.2.1 bt294.2.2.1 bt294.2.2.2.1 bt294.2.2.2.2 bt303.1 bt303.2.1 bt303.2.2.1 bt303.2.2.2.1 bt303.2.2.2.2).bind fun t312 => (if t312 = true then ((ostiarykeep_SameReply.f k bt259.1 bt259.2.1 bt259.2.2 bt267.1 bt267.2.1 bt267.2.2).bind fun t313 => (if t313 = true then ((filter_HideRedirect.f t266).bind fun bt314 => ((ostiarykeep_SameResponse.f k bt314.1 bt314.2.1 bt314.2.2.1 bt314.2.2.2.1 bt314.2.2.2.2 5 0 ([] : List (S30)) ([] : List Int) t266).bind fun t323 => (if t323 = true then ((ostiarylaw20_known.f k).bind fun t324 => (some t324)) else (some false)))) else (some false))) else (some false))))) else (some false)))))))) = some true := h
 clear h
 replace H := Option.bind_eq_some_iff.mp H
 obtain ⟨⟨t259, t260, t263⟩, A40, H⟩ := H
 replace H : ((ostiarykeep_Few.f a1 100).bind fun t266 => ((ostiarykeep_CopyReply.f t259 t260 t263).bind fun bt267 => ((filter_Own.f t259 t260 t263 t266).bind fun bt275 => ((ostiaryref20_Own.f k bt267.1 bt267.2.1 bt267.2.2 t266).bind fun bt284 => ((ostiarykeep_SameResponse.f k bt275.1 bt275.2.1 bt275.2.2.1 bt275.2.2.2.1 bt275.2.2.2.2 bt284.1 bt284.2.1 bt284.2.2.1 bt284.2.2.2.1 bt284.2.2.2.2).bind fun t293 => (if t293 = true then ((filter_Share.f t259 t260 t263 t266 a2).bind fun bt294 => ((ostiaryref20_Share.f k bt267.1 bt267.2.1 bt267.2.2 t266 a2).bind fun bt303 => ((ostiarykeep_SameResponse.f k bt294.1 bt294.2.1 bt294.2.2.1 bt294.2.2.2.1 bt294.2.2.2.2 bt303.1 bt303.2.1 bt303.2.2.1 bt303.2.2.2.1 bt303.2.2.2.2).bind fun t312 => (if t312 = true then ((ostiarykeep_SameReply.f k t259 t260 t263 bt267.1 bt267.2.1 bt267.2.2).bind fun t313 => (if t313 = true then ((filter_HideRedirect.f t266).bind fun bt314 => ((ostiarykeep_SameResponse.f k bt314.1 bt314.2.1 bt314.2.2.1 bt314.2.2.2.1 bt314.2.2.2.2 5 0 ([] : List (S30)) ([] : List Int) t266).bind fun t323 => (if t323 = true then ((ostiarylaw20_known.f k).bind fun t324 => (some t324)) else (some false)))) else (some false))) else (some false))))) else (some false))))))) = some true := H
 have A4 := Aside0.mk A40
 clear A40
 replace H := Option.bind_eq_some_iff.mp H
 obtain ⟨t266, A50, H⟩ := H
 replace H : ((ostiarykeep_CopyReply.f t259 t260 t263).bind fun bt267 => ((filter_Own.f t259 t260 t263 t266).bind fun bt275 => ((ostiaryref20_Own.f k bt267.1 bt267.2.1 bt267.2.2 t266).bind fun bt284 => ((ostiarykeep_SameResponse.f k bt275.1 bt275.2.1 bt275.2.2.1 bt275.2.2.2.1 bt275.2.2.2.2 bt284.1 bt284.2.1 bt284.2.2.1 bt284.2.2.2.1 bt284.2.2.2.2).bind fun t293 => (if t293 = true then ((filter_Share.f t259 t260 t263 t266 a2).bind fun bt294 => ((ostiaryref20_Share.f k bt267.1 bt267.2.1 bt267.2.2 t266 a2).bind fun bt303 => ((ostiarykeep_SameResponse.f k bt294.1 bt294.2.1 bt294.2.2.1 bt294.2.2.2.1 bt294.2.2.2.2 bt303.1 bt303.2.1 bt303.2.2.1 bt303.2.2.2.1 bt303.2.2.2.2).bind fun t312 => (if t312 = true then ((ostiarykeep_SameReply.f k t259 t260 t263 bt267.1 bt267.2.1 bt267.2.2).bind fun t313 => (if t313 = true then ((filter_HideRedirect.f t266).bind fun bt314 => ((ostiarykeep_SameResponse.f k bt314.1 bt314.2.1 bt314.2.2.1 bt314.2.2.2.1 bt314.2.2.2.2 5 0 ([] : List (S30)) ([] : List Int) t266).bind fun t323 => (if t323 = true then ((ostiarylaw20_known.f k).bind fun t324 => (some t324)) else (some false)))) else (some false))) else (some false))))) else (some false)))))) = some true := H
 have A5 := Aside0.mk A50
 clear A50
 replace H := Option.bind_eq_some_iff.mp H
 obtain ⟨⟨t267, t268, t271⟩, A60, H⟩ := H
 replace H : ((filter_Own.f t259 t260 t263 t266).bind fun bt275 => ((ostiaryref20_Own.f k t267 t268 t271 t266).bind fun bt284 => ((ostiarykeep_SameResponse.f k bt275.1 bt275.2.1 bt275.2.2.1 bt275.2.2.2.1 bt275.2.2.2.2 bt284.1 bt284.2.1 bt284.2.2.1 bt284.2.2.2.1 bt284.2.2.2.2).bind fun t293 => (if t293 = true then ((filter_Share.f t259 t260 t263 t266 a2).bind fun bt294 => ((ostiaryref20_Share.f k t267 t268 t271 t266 a2).bind fun bt303 => ((ostiarykeep_SameResponse.f k bt294.1 bt294.2.1 bt294.2.2.1 bt294.2.2.2.1 bt294.2.2.2.2 bt303.1 bt303.2.1 bt303.2.2.1 bt303.2.2.2.1 bt303.2.2.2.2).bind fun t312 => (if t312 = true then ((ostiarykeep_SameReply.f k t259 t260 t263 t267 t268 t271).bind fun t313 => (if t313 = true then ((filter_HideRedirect.f t266).bind fun bt314 => ((ostiarykeep_SameResponse.f k bt314.1 bt314.2.1 bt314.2.2.1 bt314.2.2.2.1 bt314.2.2.2.2 5 0 ([] : List (S30)) ([] : List Int) t266).bind fun t323 => (if t323 = true then ((ostiarylaw20_known.f k).bind fun t324 => (some t324)) else (some false)))) else (some false))) else (some false))))) else (some false))))) = some true := H
 have A6 := Aside0.mk A60
 clear A60
 replace H := Option.bind_eq_some_iff.mp H
 obtain ⟨⟨t275, t276, t277, t280, t283⟩, A70, H⟩ := H
 replace H : ((ostiaryref20_Own.f k t267 t268 t271 t266).bind fun bt284 => ((ostiarykeep_SameResponse.f k t275 t276 t277 t280 t283 bt284.1 bt284.2.1 bt284.2.2.1 bt284.2.2.2.1 bt284.2.2.2.2).bind fun t293 => (if t293 = true then ((filter_Share.f t259 t260 t263 t266 a2).bind fun bt294 => ((ostiaryref20_Share.f k t267 t268 t271 t266 a2).bind fun bt303 => ((ostiarykeep_SameResponse.f k bt294.1 bt294.2.1 bt294.2.2.1 bt294.2.2.2.1 bt294.2.2.2.2 bt303.1 bt303.2.1 bt303.2.2.1 bt303.2.2.2.1 bt303.2.2.2.2).bind fun t312 => (if t312 = true then ((ostiarykeep_SameReply.f k t259 t260 t263 t267 t268 t271).bind fun t313 => (if t313 = true then ((filter_HideRedirect.f t266).bind fun bt314 => ((ostiarykeep_SameResponse.f k bt314.1 bt314.2.1 bt314.2.2.1 bt314.2.2.2.1 bt314.2.2.2.2 5 0 ([] : List (S30)) ([] : List Int) t266).bind fun t323 => (if t323 = true then ((ostiarylaw20_known.f k).bind fun t324 => (some t324)) else (some false)))) else (some false))) else (some false))))) else (some false)))) = some true := H
 have A7 := Aside0.mk A70
 clear A70
 replace H := Option.bind_eq_some_iff.mp H
 obtain ⟨⟨t284, t285, t286, t289, t292⟩, A80, H⟩ := H
 replace H : ((ostiarykeep_SameResponse.f k t275 t276 t277 t280 t283 t284 t285 t286 t289 t292).bind fun t293 => (if t293 = true then ((filter_Share.f t259 t260 t263 t266 a2).bind fun bt294 => ((ostiaryref20_Share.f k t267 t268 t271 t266 a2).bind fun bt303 => ((ostiarykeep_SameResponse.f k bt294.1 bt294.2.1 bt294.2.2.1 bt294.2.2.2.1 bt294.2.2.2.2 bt303.1 bt303.2.1 bt303.2.2.1 bt303.2.2.2.1 bt303.2.2.2.2).bind fun t312 => (if t312 = true then ((ostiarykeep_SameReply.f k t259 t260 t263 t267 t268 t271).bind fun t313 => (if t313 = true then ((filter_HideRedirect.f t266).bind fun bt314 => ((ostiarykeep_SameResponse.f k bt314.1 bt314.2.1 bt314.2.2.1 bt314.2.2.2.1 bt314.2.2.2.2 5 0 ([] : List (S30)) ([] : List Int) t266).bind fun t323 => (if t323 = true then ((ostiarylaw20_known.f k).bind fun t324 => (some t324)) else (some false)))) else (some false))) else (some false))))) else (some false))) = some true := H
 have A8 := Aside0.mk A80
 clear A80
 replace H := Option.bind_eq_some_iff.mp H
 obtain ⟨t293, A90, H⟩ := H
 replace H : (if t293 = true then ((filter_Share.f t259 t260 t263 t266 a2).bind fun bt294 => ((ostiaryref20_Share.f k t267 t268 t271 t266 a2).bind fun bt303 => ((ostiarykeep_SameResponse.f k bt294.1 bt294.2.1 bt294.2.2.1 bt294.2.2.2.1 bt294.2.2.2.2 bt303.1 bt303.2.1 bt303.2.2.1 bt303.2.2.2.1 bt303.2.2.2.2).bind fun t312 => (if t312 = true then ((ostiarykeep_SameReply.f k t259 t260 t263 t267 t268 t271).bind fun t313 => (if t313 = true then ((filter_HideRedirect.f t266).bind fun bt314 => ((ostiarykeep_SameResponse.f k bt314.1 bt314.2.1 bt314.2.2.1 bt314.2.2.2.1 bt314.2.2.2.2 5 0 ([] : List (S30)) ([] : List Int) t266).bind fun t323 => (if t323 = true then ((ostiarylaw20_known.f k).bind fun t324 => (some t324)) else (some false)))) else (some false))) else (some false))))) else (some false)) = some true := H
 have A9 := Aside0.mk A90
 clear A90
 by_cases c10 : t293 = true
 ·subst c10
  have H1 : ((filter_Share.f t259 t260 t263 t266 a2).bind fun bt294 => ((ostiaryref20_Share.f k t267 t268 t271 t266 a2).bind fun bt303 => ((ostiarykeep_SameResponse.f k bt294.1 bt294.2.1 bt294.2.2.1 bt294.2.2.2.1 bt294.2.2.2.2 bt303.1 bt303.2.1 bt303.2.2.1 bt303.2.2.2.1 bt303.2.2.2.2).bind fun t312 => (if t312 = true then ((ostiarykeep_SameReply.f k t259 t260 t263 t267 t268 t271).bind fun t313 => (if t313 = true then ((filter_HideRedirect.f t266).bind fun bt314 => ((ostiarykeep_SameResponse.f k bt314.1 bt314.2.1 bt314.2.2.1 bt314.2.2.2.1 bt314.2.2.2.2 5 0 ([] : List (S30)) ([] : List Int) t266).bind fun t323 => (if t323 = true then ((ostiarylaw20_known.f k).bind fun t324 => (some t324)) else (some false)))) else (some false))) else (some false))))) = some true := by rw [if_pos rfl] at H; exact H
  clear H
  have H := H1
  clear H1
  replace H := Option.bind_eq_some_iff.mp H
  obtain ⟨⟨t294, t295, t296, t299, t302⟩, A110, H⟩ := H
  replace H : ((ostiaryref20_Share.f k t267 t268 t271 t266 a2).bind fun bt303 => ((ostiarykeep_SameResponse.f k t294 t295 t296 t299 t302 bt303.1 bt303.2.1 bt303.2.2.1 bt303.2.2.2.1 bt303.2.2.2.2).bind fun t312 => (if t312 = true then ((ostiarykeep_SameReply.f k t259 t260 t263 t267 t268 t271).bind fun t313 => (if t313 = true then ((filter_HideRedirect.f t266).bind fun bt314 => ((ostiarykeep_SameResponse.f k bt314.1 bt314.2.1 bt314.2.2.1 bt314.2.2.2.1 bt314.2.2.2.2 5 0 ([] : List (S30)) ([] : List Int) t266).bind fun t323 => (if t323 = true then ((ostiarylaw20_known.f k).bind fun t324 => (some t324)) else (some false)))) else (some false))) else (some false)))) = some true := H
  have A11 := Aside0.mk A110
  clear A110
  replace H := Option.bind_eq_some_iff.mp H
  obtain ⟨⟨t303, t304, t305, t308, t311⟩, A120, H⟩ := H
  replace H : ((ostiarykeep_SameResponse.f k t294 t295 t296 t299 t302 t303 t304 t305 t308 t311).bind fun t312 => (if t312 = true then ((ostiarykeep_SameReply.f k t259 t260 t263 t267 t268 t271).bind fun t313 => (if t313 = true then ((filter_HideRedirect.f t266).bind fun bt314 => ((ostiarykeep_SameResponse.f k bt314.1 bt314.2.1 bt314.2.2.1 bt314.2.2.2.1 bt314.2.2.2.2 5 0 ([] : List (S30)) ([] : List Int) t266).bind fun t323 => (if t323 = true then ((ostiarylaw20_known.f k).bind fun t324 => (some t324)) else (some false)))) else (some false))) else (some false))) = some true := H
  have A12 := Aside0.mk A120
  clear A120
  replace H := Option.bind_eq_some_iff.mp H
  obtain ⟨t312, A130, H⟩ := H
  replace H : (if t312 = true then ((ostiarykeep_SameReply.f k t259 t260 t263 t267 t268 t271).bind fun t313 => (if t313 = true then ((filter_HideRedirect.f t266).bind fun bt314 => ((ostiarykeep_SameResponse.f k bt314.1 bt314.2.1 bt314.2.2.1 bt314.2.2.2.1 bt314.2.2.2.2 5 0 ([] : List (S30)) ([] : List Int) t266).bind fun t323 => (if t323 = true then ((ostiarylaw20_known.f k).bind fun t324 => (some t324)) else (some false)))) else (some false))) else (some false)) = some true := H
  have A13 := Aside0.mk A130
  clear A130
  by_cases c14 : t312 = true
  ·subst c14
   have H1 : ((ostiarykeep_SameReply.f k t259 t260 t263 t267 t268 t271).bind fun t313 => (if t313 = true then ((filter_HideRedirect.f t266).bind fun bt314 => ((ostiarykeep_SameResponse.f k bt314.1 bt314.2.1 bt314.2.2.1 bt314.2.2.2.1 bt314.2.2.2.2 5 0 ([] : List (S30)) ([] : List Int) t266).bind fun t323 => (if t323 = true then ((ostiarylaw20_known.f k).bind fun t324 => (some t324)) else (some false)))) else (some false))) = some true := by rw [if_pos rfl] at H; exact H
   clear H
   have H := H1
   clear H1
   replace H := Option.bind_eq_some_iff.mp H
   obtain ⟨t313, A150, H⟩ := H
   replace H : (if t313 = true then ((filter_HideRedirect.f t266).bind fun bt314 => ((ostiarykeep_SameResponse.f k bt314.1 bt314.2.1 bt314.2.2.1 bt314.2.2.2.1 bt314.2.2.2.2 5 0 ([] : List (S30)) ([] : List Int) t266).bind fun t323 => (if t323 = true then ((ostiarylaw20_known.f k).bind fun t324 => (some t324)) else (some false)))) else (some false)) = some true := H
   have A15 := Aside0.mk A150
   clear A150
   by_cases c16 : t313 = true
   ·subst c16
    have H1 : ((filter_HideRedirect.f t266).bind fun bt314 => ((ostiarykeep_SameResponse.f k bt314.1 bt314.2.1 bt314.2.2.1 bt314.2.2.2.1 bt314.2.2.2.2 5 0 ([] : List (S30)) ([] : List Int) t266).bind fun t323 => (if t323 = true then ((ostiarylaw20_known.f k).bind fun t324 => (some t324)) else (some false)))) = some true := by rw [if_pos rfl] at H; exact H
    clear H
    have H := H1
    clear H1
    replace H := Option.bind_eq_some_iff.mp H
    obtain ⟨⟨t314, t315, t316, t319, t322⟩, A170, H⟩ := H
    replace H : ((ostiarykeep_SameResponse.f k t314 t315 t316 t319 t322 5 0 ([] : List (S30)) ([] : List Int) t266).bind fun t323 => (if t323 = true then ((ostiarylaw20_known.f k).bind fun t324 => (some t324)) else (some false))) = some true := H
    have A17 := Aside0.mk A170
    clear A170
    replace H := Option.bind_eq_some_iff.mp H
    obtain ⟨t323, A180, H⟩ := H
    replace H : (if t323 = true then ((ostiarylaw20_known.f k).bind fun t324 => (some t324)) else (some false)) = some true := H
    have A18 := Aside0.mk A180
    clear A180
    by_cases c19 : t323 = true
    ·subst c19
     have H1 : ((ostiarylaw20_known.f k).bind fun t324 => (some t324)) = some true := by rw [if_pos rfl] at H; exact H
     clear H
     have H := H1
     clear H1
     replace H := Option.bind_eq_some_iff.mp H
     obtain ⟨t324, A200, H⟩ := H
     replace H : (some t324) = some true := H
     have A20 := Aside0.mk A200
     clear A200
     obtain rfl := Option.some.inj H
     go_enter Tryz.func10, Tryz.ntmps10
     try go_wp2_with (first | ((with_reducible refine gate_dst (N := 3) rfl ?_); refine box_event ?hg (N := 3) ?hd (cs := #[.int .i64 a0_0, .slice A0_1 l0_1.length c0_1, .slice A0_2 l0_2.length c0_2]) (t := 28) ?hr ?_; (case hd => rfl); (case hg => rfl); (case hr => first | (go_simp; done) | (go_simp; rfl)); intro gb258 hg w21 hbox hb; have n0_ := Aside0.mk (below_step hB hb); have n1_ := Aside0.mk (hbox); have n2_ := Aside0.mk ((by rw [hg]; exact (below_size hB) : w.heap.size ≤ gb258)); have n3_ := Aside0.mk ((by rw [hg]; exact (below_size hB) : w.heap.size ≤ gb258)); clear HB; have HB := n0_; have BK258 := n1_; have GW258 := n2_; have GE258 := n3_; clear n0_ n1_ n2_ n3_; clear hb hbox hg; have hcz22_0 : w21.cell? ⟨gb258, 0, none⟩ = some (.int .i64 a0_0) := (blk_cell BK258.out 0).trans rfl; have hcz22_1 : w21.cell? ⟨gb258, 1, none⟩ = some (.slice A0_1 l0_1.length c0_1) := (blk_cell BK258.out 1).trans rfl; have hcz22_2 : w21.cell? ⟨gb258, 2, none⟩ = some (.slice A0_2 l0_2.length c0_2) := (blk_cell BK258.out 2).trans rfl; have hfz22_0 := blk_frozen BK258.out 0; have hfz22_1 := blk_frozen BK258.out 1; have hfz22_2 := blk_frozen BK258.out 2) | ((with_reducible refine gate_callee (f := 38) rfl ?_); refine goesL_ (some 9) rfl rfl Tryz.func38 q9_ rfl #[.agg #[.int .i64 a0_0, .slice A0_1 l0_1.length c0_1, .slice A0_2 l0_2.length c0_2]] rfl tS ?_; (with_reducible refine (ostiarykeep_Reply.calls k a0_0 _ _ l0_1 _ _ l0_2 t259 t260 t263 _ ?side1 ?side2 ?side3 ?side4 A4.out).mono ?_); (case side1 => repeat (first | exact (Kd.C_below HR0_1.out HB.out) | (with_reducible refine Kd.C_alloc ?_ _) | (with_reducible refine Kd.C_drewN ?_ _) | (with_reducible refine Kd.C_drew ?_))); (case side2 => exact HC0_1.out); (case side3 => repeat (first | exact (Kd.C_below HR0_2.out HB.out) | (with_reducible refine Kd.C_alloc ?_ _) | (with_reducible refine Kd.C_drewN ?_ _) | (with_reducible refine Kd.C_drew ?_))); (case side4 => exact HC0_2.out); rintro e w23 ⟨v261, v264, rfl, ho0, ho1, hb⟩; refine ⟨_, rfl, ?_⟩; have n0_ := Aside0.mk (Kd.R_lower ho0 (below_size q36_)); have n1_ := Aside0.mk (Kd.R_lower ho1 (below_size q36_)); have n2_ := Aside0.mk (blk_below (g := gb258) (o := .cells #[.int .i64 a0_0, .slice A0_1 l0_1.length c0_1, .slice A0_2 l0_2.length c0_2] 28 (0, 0)) q27_ hb); have n3_ := Aside0.mk (below_step q36_ hb); clear BK258; clear HB; have HO262 := n0_; have HO265 := n1_; have BK258 := n2_; have HB := n3_; clear n0_ n1_ n2_ n3_; (try clear hb); (try clear hb2); (try clear hk); (try clear hi); (try clear ho0); (try clear ho1); have hcz24_0 : w23.cell? ⟨gb258, 0, none⟩ = some (.int .i64 a0_0) := (blk_cell BK258.out 0).trans rfl; have hcz24_1 : w23.cell? ⟨gb258, 1, none⟩ = some (.slice A0_1 l0_1.length c0_1) := (blk_cell BK258.out 1).trans rfl; have hcz24_2 : w23.cell? ⟨gb258, 2, none⟩ = some (.slice A0_2 l0_2.length c0_2) := (blk_cell BK258.out 2).trans rfl; have hfz24_0 := blk_frozen BK258.out 0; have hfz24_1 := blk_frozen BK258.out 1; have hfz24_2 := blk_frozen BK258.out 2; obtain ⟨Ao25, co25, eo25⟩ := Kd.R_slice HO262.out; subst eo25; obtain ⟨Ao26, co26, eo26⟩ := Kd.R_slice HO265.out; subst eo26) | ((with_reducible refine gate_callee (f := 53) rfl ?_); refine goesL_ (some 11) rfl rfl Tryz.func53 q9_ rfl #[.string a1, .int .i64 100] rfl tS ?_; (with_reducible refine (ostiarykeep_Few.calls a1 100 t266 _ A5.out).mono ?_); rintro e w' ⟨rfl, ⟨nd, rfl⟩⟩; refine ⟨_, rfl, ?_⟩) | ((with_reducible refine gate_callee (f := 39) rfl ?_); refine goesL_ (some 13) rfl rfl Tryz.func39 q9_ rfl #[.agg #[.int .i64 t259, .slice Ao25 t260.length co25, .slice Ao26 t263.length co26]] rfl tS ?_; (with_reducible refine (ostiarykeep_CopyReply.calls t259 _ _ t260 _ _ t263 t267 t268 t271 _ ?side1 ?side2 ?side3 ?side4 A6.out).mono ?_); (case side1 => refine (Kd.R_reads' (e := 30) (base := w.heap.size) (ok := fun k_ => True) (n := t260.length) (c := co25) ?_).2.2; exact (by (with_reducible repeat (first | apply Kd.R_alloc | apply Kd.R_drewN | apply Kd.R_drew)); exact (Kd.R_mono (Kd.R_far (p := ⟨gb258, 2, none⟩) (Kd.R_far (p := ⟨gb258, 1, none⟩) (Kd.R_far (p := ⟨gb258, 0, none⟩) (Kd.R_types HO262.out BK258.out (by decide)) (fun _ hk => hk.2) (.int .i64 t259)) (fun _ hk => hk.2) (.slice Ao25 t260.length co25)) (fun _ hk => hk.2) (.slice Ao26 t263.length co26)) (fun _ h_ => h_.1)))); (case side2 => exact (Kd.R_reads' HO262.out).2.1); (case side3 => refine (Kd.R_reads' (e := 5) (base := w.heap.size) (ok := fun k_ => True) (n := t263.length) (c := co26) ?_).2.2; exact (by (with_reducible repeat (first | apply Kd.R_alloc | apply Kd.R_drewN | apply Kd.R_drew)); exact (Kd.R_mono (Kd.R_far (p := ⟨gb258, 2, none⟩) (Kd.R_far (p := ⟨gb258, 1, none⟩) (Kd.R_far (p := ⟨gb258, 0, none⟩) (Kd.R_types HO265.out BK258.out (by decide)) (fun _ hk => hk.2) (.int .i64 t259)) (fun _ hk => hk.2) (.slice Ao25 t260.length co25)) (fun _ hk => hk.2) (.slice Ao26 t263.length co26)) (fun _ h_ => h_.1)))); (case side4 => exact (Kd.R_reads' HO265.out).2.1); rintro e w27 ⟨v269, v272, rfl, ho0, ho1, hb⟩; refine ⟨_, rfl, ?_⟩; have n0_ := Aside0.mk (Kd.R_elder' (by (with_reducible repeat (first | apply Kd.R_alloc | apply Kd.R_drewN | apply Kd.R_drew)); exact (Kd.R_mono (Kd.R_far (p := ⟨gb258, 2, none⟩) (Kd.R_far (p := ⟨gb258, 1, none⟩) (Kd.R_far (p := ⟨gb258, 0, none⟩) (Kd.R_types HO262.out BK258.out (by decide)) (fun _ hk => hk.2) (.int .i64 t259)) (fun _ hk => hk.2) (.slice Ao25 t260.length co25)) (fun _ hk => hk.2) (.slice Ao26 t263.length co26)) (fun _ h_ => h_.1))) (Kd.R_base ho0) hb); have n1_ := Aside0.mk (Kd.R_elder' (by (with_reducible repeat (first | apply Kd.R_alloc | apply Kd.R_drewN | apply Kd.R_drew)); exact (Kd.R_mono (Kd.R_far (p := ⟨gb258, 2, none⟩) (Kd.R_far (p := ⟨gb258, 1, none⟩) (Kd.R_far (p := ⟨gb258, 0, none⟩) (Kd.R_types HO265.out BK258.out (by decide)) (fun _ hk => hk.2) (.int .i64 t259)) (fun _ hk => hk.2) (.slice Ao25 t260.length co25)) (fun _ hk => hk.2) (.slice Ao26 t263.length co26)) (fun _ h_ => h_.1))) (Kd.R_base ho1) hb); have n2_ := Aside0.mk (Kd.R_lower (Kd.R_new' ho0 (Kd.R_lt (by (with_reducible repeat (first | apply Kd.R_alloc | apply Kd.R_drewN | apply Kd.R_drew)); exact (Kd.R_mono (Kd.R_far (p := ⟨gb258, 2, none⟩) (Kd.R_far (p := ⟨gb258, 1, none⟩) (Kd.R_far (p := ⟨gb258, 0, none⟩) (Kd.R_types HO262.out BK258.out (by decide)) (fun _ hk => hk.2) (.int .i64 t259)) (fun _ hk => hk.2) (.slice Ao25 t260.length co25)) (fun _ hk => hk.2) (.slice Ao26 t263.length co26)) (fun _ h_ => h_.1))))) (below_size q36_)); have n3_ := Aside0.mk (Kd.R_lower (Kd.R_new' ho1 (Kd.R_lt (by (with_reducible repeat (first | apply Kd.R_alloc | apply Kd.R_drewN | apply Kd.R_drew)); exact (Kd.R_mono (Kd.R_far (p := ⟨gb258, 2, none⟩) (Kd.R_far (p := ⟨gb258, 1, none⟩) (Kd.R_far (p := ⟨gb258, 0, none⟩) (Kd.R_types HO265.out BK258.out (by decide)) (fun _ hk => hk.2) (.int .i64 t259)) (fun _ hk => hk.2) (.slice Ao25 t260.length co25)) (fun _ hk => hk.2) (.slice Ao26 t263.length co26)) (fun _ h_ => h_.1))))) (below_size q36_)); have n4_ := Aside0.mk (blk_below (g := gb258) (o := .cells #[.int .i64 t259, .slice Ao25 t260.length co25, .slice Ao26 t263.length co26] 28 (0, 0)) (by (with_reducible repeat (first | refine blk_drewN ?_ _ | refine blk_drew ?_ | refine blk_alloc ?_ _)); refine blk_put (cs := #[.int .i64 t259, .slice Ao25 t260.length co25, .slice A0_2 l0_2.length c0_2]) ?_ 2 _ rfl; (with_reducible repeat (first | refine blk_drewN ?_ _ | refine blk_drew ?_ | refine blk_alloc ?_ _)); refine blk_put (cs := #[.int .i64 t259, .slice A0_1 l0_1.length c0_1, .slice A0_2 l0_2.length c0_2]) ?_ 1 _ rfl; (with_reducible repeat (first | refine blk_drewN ?_ _ | refine blk_drew ?_ | refine blk_alloc ?_ _)); refine blk_put (cs := #[.int .i64 a0_0, .slice A0_1 l0_1.length c0_1, .slice A0_2 l0_2.length c0_2]) ?_ 0 _ rfl; (with_reducible repeat (first | refine blk_drewN ?_ _ | refine blk_drew ?_ | refine blk_alloc ?_ _)); exact BK258.out) hb); have n5_ := Aside0.mk (below_step q36_ hb); clear HO262; clear HO265; clear BK258; clear HB; have HO262 := n0_; have HO265 := n1_; have HO270 := n2_; have HO273 := n3_; have BK258 := n4_; have HB := n5_; clear n0_ n1_ n2_ n3_ n4_ n5_; (try clear hb); (try clear hb2); (try clear hk); (try clear hi); (try clear ho0); (try clear ho1)) | ((with_reducible refine gate_dst (N := 7) rfl ?_); refine box_event ?hg (N := 7) ?hd (cs := #[.int .i64 0, .slice none 0 0, .slice none 0 0]) (t := 28) ?hr ?_; (case hd => rfl); (case hg => rfl); (case hr => first | (go_simp; done) | (go_simp; rfl)); intro gb274 hg w28 hbox hb; have n0_ := Aside0.mk (Kd.R_below q22_ hb); have n1_ := Aside0.mk (Kd.R_below q23_ hb); have n2_ := Aside0.mk (Kd.R_below q24_ hb); have n3_ := Aside0.mk (Kd.R_below q25_ hb); have n4_ := Aside0.mk (blk_below (g := gb258) (o := .cells #[.int .i64 t259, .slice Ao25 t260.length co25, .slice Ao26 t263.length co26] 28 (0, 0)) q27_ hb); have n5_ := Aside0.mk (below_step q36_ hb); have n6_ := Aside0.mk (hbox); have n7_ := Aside0.mk ((by rw [hg]; exact (below_size q36_) : w.heap.size ≤ gb274)); have n8_ := Aside0.mk ((by rw [hg]; exact (below_size q36_) : w.heap.size ≤ gb274)); have n9_ := Aside0.mk ((by rw [hg]; exact Nat.ne_of_lt (blk_lt (g := gb258) (o := .cells #[.int .i64 t259, .slice Ao25 t260.length co25, .slice Ao26 t263.length co26] 28 (0, 0)) q27_) : gb258 ≠ gb274)); have n10_ := Aside0.mk ((by rw [hg]; exact Nat.ne_of_gt (blk_lt (g := gb258) (o := .cells #[.int .i64 t259, .slice Ao25 t260.length co25, .slice Ao26 t263.length co26] 28 (0, 0)) q27_) : gb274 ≠ gb258)); clear HO262; clear HO265; clear HO270; clear HO273; clear BK258; clear HB; have HO262 := n0_; have HO265 := n1_; have HO270 := n2_; have HO273 := n3_; have BK258 := n4_; have HB := n5_; have BK274 := n6_; have GW274 := n7_; have GE274 := n8_; have NB258_274 := n9_; have NB274_258 := n10_; clear n0_ n1_ n2_ n3_ n4_ n5_ n6_ n7_ n8_ n9_ n10_; clear hb hbox hg; have hnb29 := NB274_258.out; have hnc29 := NB258_274.out; have hcz30_0 : w28.cell? ⟨gb274, 0, none⟩ = some (.int .i64 0) := (blk_cell BK274.out 0).trans rfl; have hcz30_1 : w28.cell? ⟨gb274, 1, none⟩ = some (.slice none 0 0) := (blk_cell BK274.out 1).trans rfl; have hcz30_2 : w28.cell? ⟨gb274, 2, none⟩ = some (.slice none 0 0) := (blk_cell BK274.out 2).trans rfl; have hfz30_0 := blk_frozen BK274.out 0; have hfz30_1 := blk_frozen BK274.out 1; have hfz30_2 := blk_frozen BK274.out 2; obtain ⟨Ao31, co31, eo31⟩ := Kd.R_slice HO270.out; subst eo31; obtain ⟨Ao32, co32, eo32⟩ := Kd.R_slice HO273.out; subst eo32))
     have n0_ : Aside0 (Kd.R k30 30 (((w28.setCell ⟨gb274, 0, none⟩ (.int .i64 t267)).setCell ⟨gb274, 1, none⟩ (.slice Ao31 t268.length co31)).setCell ⟨gb274, 2, none⟩ (.slice Ao32 t271.length co32)) w.heap.size (fun k_ => some k_ ≠ (.slice Ao31 t268.length co31 : Value).ownBlock) (.slice Ao25 t260.length co25) t260) := ⟨by (with_reducible repeat (first | apply Kd.R_alloc | apply Kd.R_drewN | apply Kd.R_drew)); exact Kd.R_mono (Kd.R_far (p := ⟨gb274, 2, none⟩) (Kd.R_far (p := ⟨gb274, 1, none⟩) (Kd.R_far (p := ⟨gb274, 0, none⟩) (Kd.R_types HO262.out BK274.out (by decide)) (fun _ hk => hk.2) (.int .i64 t267)) (fun _ hk => hk.2) (.slice Ao31 t268.length co31)) (fun _ hk => hk.2) (.slice Ao32 t271.length co32)) (fun _ hk => hk.1.2)⟩
     have n1_ : Aside0 (Kd.R (Kd.int .u8) 5 (((w28.setCell ⟨gb274, 0, none⟩ (.int .i64 t267)).setCell ⟨gb274, 1, none⟩ (.slice Ao31 t268.length co31)).setCell ⟨gb274, 2, none⟩ (.slice Ao32 t271.length co32)) w.heap.size (fun k_ => some k_ ≠ (.slice Ao32 t271.length co32 : Value).ownBlock) (.slice Ao26 t263.length co26) t263) := ⟨by (with_reducible repeat (first | apply Kd.R_alloc | apply Kd.R_drewN | apply Kd.R_drew)); exact Kd.R_mono (Kd.R_far (p := ⟨gb274, 2, none⟩) (Kd.R_far (p := ⟨gb274, 1, none⟩) (Kd.R_far (p := ⟨gb274, 0, none⟩) (Kd.R_types HO265.out BK274.out (by decide)) (fun _ hk => hk.2) (.int .i64 t267)) (fun _ hk => hk.2) (.slice Ao31 t268.length co31)) (fun _ hk => hk.2) (.slice Ao32 t271.length co32)) (fun _ hk => hk.1.2)⟩
     have n2_ : Aside0 (Kd.R k30 30 (((w28.setCell ⟨gb274, 0, none⟩ (.int .i64 t267)).setCell ⟨gb274, 1, none⟩ (.slice Ao31 t268.length co31)).setCell ⟨gb274, 2, none⟩ (.slice Ao32 t271.length co32)) w.heap.size (fun k_ => some k_ ≠ (.slice Ao25 t260.length co25 : Value).ownBlock) (.slice Ao31 t268.length co31) t268) := ⟨by (with_reducible repeat (first | apply Kd.R_alloc | apply Kd.R_drewN | apply Kd.R_drew)); exact Kd.R_mono (Kd.R_far (p := ⟨gb274, 2, none⟩) (Kd.R_far (p := ⟨gb274, 1, none⟩) (Kd.R_far (p := ⟨gb274, 0, none⟩) (Kd.R_types HO270.out BK274.out (by decide)) (fun _ hk => hk.2) (.int .i64 t267)) (fun _ hk => hk.2) (.slice Ao31 t268.length co31)) (fun _ hk => hk.2) (.slice Ao32 t271.length co32)) (fun _ hk => hk.1.2)⟩
     have n3_ : Aside0 (Kd.R (Kd.int .u8) 5 (((w28.setCell ⟨gb274, 0, none⟩ (.int .i64 t267)).setCell ⟨gb274, 1, none⟩ (.slice Ao31 t268.length co31)).setCell ⟨gb274, 2, none⟩ (.slice Ao32 t271.length co32)) w.heap.size (fun k_ => some k_ ≠ (.slice Ao26 t263.length co26 : Value).ownBlock) (.slice Ao32 t271.length co32) t271) := ⟨by (with_reducible repeat (first | apply Kd.R_alloc | apply Kd.R_drewN | apply Kd.R_drew)); exact Kd.R_mono (Kd.R_far (p := ⟨gb274, 2, none⟩) (Kd.R_far (p := ⟨gb274, 1, none⟩) (Kd.R_far (p := ⟨gb274, 0, none⟩) (Kd.R_types HO273.out BK274.out (by decide)) (fun _ hk => hk.2) (.int .i64 t267)) (fun _ hk => hk.2) (.slice Ao31 t268.length co31)) (fun _ hk => hk.2) (.slice Ao32 t271.length co32)) (fun _ hk => hk.1.2)⟩
     have n4_ : Aside0 ((((w28.setCell ⟨gb274, 0, none⟩ (.int .i64 t267)).setCell ⟨gb274, 1, none⟩ (.slice Ao31 t268.length co31)).setCell ⟨gb274, 2, none⟩ (.slice Ao32 t271.length co32)).heap[gb258]? = some (.cells #[.int .i64 t259, .slice Ao25 t260.length co25, .slice Ao26 t263.length co26] 28 (0, 0))) := ⟨by (with_reducible repeat (first | refine blk_drewN ?_ _ | refine blk_drew ?_ | refine blk_alloc ?_ _)); refine blk_far ?_ NB258_274.out _; (with_reducible repeat (first | refine blk_drewN ?_ _ | refine blk_drew ?_ | refine blk_alloc ?_ _)); refine blk_far ?_ NB258_274.out _; (with_reducible repeat (first | refine blk_drewN ?_ _ | refine blk_drew ?_ | refine blk_alloc ?_ _)); refine blk_far ?_ NB258_274.out _; (with_reducible repeat (first | refine blk_drewN ?_ _ | refine blk_drew ?_ | refine blk_alloc ?_ _)); exact BK258.out⟩
     have n5_ : Aside0 ((((w28.setCell ⟨gb274, 0, none⟩ (.int .i64 t267)).setCell ⟨gb274, 1, none⟩ (.slice Ao31 t268.length co31)).setCell ⟨gb274, 2, none⟩ (.slice Ao32 t271.length co32)).heap[gb274]? = some (.cells #[.int .i64 t267, .slice Ao31 t268.length co31, .slice Ao32 t271.length co32] 28 (0, 0))) := ⟨by (with_reducible repeat (first | refine blk_drewN ?_ _ | refine blk_drew ?_ | refine blk_alloc ?_ _)); refine blk_put (cs := #[.int .i64 t267, .slice Ao31 t268.length co31, .slice none 0 0]) ?_ 2 _ rfl; (with_reducible repeat (first | refine blk_drewN ?_ _ | refine blk_drew ?_ | refine blk_alloc ?_ _)); refine blk_put (cs := #[.int .i64 t267, .slice none 0 0, .slice none 0 0]) ?_ 1 _ rfl; (with_reducible repeat (first | refine blk_drewN ?_ _ | refine blk_drew ?_ | refine blk_alloc ?_ _)); refine blk_put (cs := #[.int .i64 0, .slice none 0 0, .slice none 0 0]) ?_ 0 _ rfl; (with_reducible repeat (first | refine blk_drewN ?_ _ | refine blk_drew ?_ | refine blk_alloc ?_ _)); exact BK274.out⟩
     have n6_ : Aside0 (Below w.heap.size w (((w28.setCell ⟨gb274, 0, none⟩ (.int .i64 t267)).setCell ⟨gb274, 1, none⟩ (.slice Ao31 t268.length co31)).setCell ⟨gb274, 2, none⟩ (.slice Ao32 t271.length co32))) := ⟨by repeat (first | (with_reducible first | exact HB.out | apply below_alloc | apply pw_below_drewN | apply below_drew1 | refine below_set ?_ GE258.out | refine below_set ?_ GE274.out) | exact HB.out)⟩
     (try clear HO262)
     (try clear HO265)
     (try clear HO270)
     (try clear HO273)
     (try clear BK258)
     (try clear BK274)
     (try clear HB)
     generalize (((w28.setCell ⟨gb274, 0, none⟩ (.int .i64 t267)).setCell ⟨gb274, 1, none⟩ (.slice Ao31 t268.length co31)).setCell ⟨gb274, 2, none⟩ (.slice Ao32 t271.length co32)) = w33 at n0_ n1_ n2_ n3_ n4_ n5_ n6_ ⊢
     have HO262 := n0_
     have HO265 := n1_
     have HO270 := n2_
     have HO273 := n3_
     have BK258 := n4_
     have BK274 := n5_
     have HB := n6_
     clear n0_ n1_ n2_ n3_ n4_ n5_ n6_
     have n0_ := Aside0.mk (Kd.R_drew HO262.out)
     have n1_ := Aside0.mk (Kd.R_drew HO265.out)
     have n2_ := Aside0.mk (Kd.R_drew HO270.out)
     have n3_ := Aside0.mk (Kd.R_drew HO273.out)
     have n4_ := Aside0.mk (blk_drew BK258.out)
     have n5_ := Aside0.mk (blk_drew BK274.out)
     have n6_ := Aside0.mk (below_drew1 HB.out)
     clear HO262
     clear HO265
     clear HO270
     clear HO273
     clear BK258
     clear BK274
     clear HB
     have HO262 := n0_
     have HO265 := n1_
     have HO270 := n2_
     have HO273 := n3_
     have BK258 := n4_
     have BK274 := n5_
     have HB := n6_
     clear n0_ n1_ n2_ n3_ n4_ n5_ n6_
     refine start_ (n := 34) (S := fun w' => w'.cell? ⟨gb258, 0, none⟩ = some (.int .i64 t259) ∧ w'.cell? ⟨gb258, 1, none⟩ = some (.slice Ao25 t260.length co25) ∧ w'.cell? ⟨gb258, 2, none⟩ = some (.slice Ao26 t263.length co26) ∧ w'.cell? ⟨gb274, 0, none⟩ = some (.int .i64 t267) ∧ w'.cell? ⟨gb274, 1, none⟩ = some (.slice Ao31 t268.length co31) ∧ w'.cell? ⟨gb274, 2, none⟩ = some (.slice Ao32 t271.length co32)) (ds := []) #[false, false, false, false, false, false, false, false, false, false, false, false, false, false, false, false, false, false, false, false, false, false, false, false, false, false, false, false, false, false, false, false, false, false] q9_ rfl rfl ⟨(blk_cell BK258.out 0).trans rfl, (blk_cell BK258.out 1).trans rfl, (blk_cell BK258.out 2).trans rfl, (blk_cell BK274.out 0).trans rfl, (blk_cell BK274.out 1).trans rfl, (blk_cell BK274.out 2).trans rfl⟩ (fun hHeld => ?_); refine with_tabW ostiarylaw20_FilterShows.tab4 ostiarylaw20_FilterShows.bits4 (fun HT_ HW_ => ?_)
     generalize w33.drew = w34 at HO262 HO265 HO270 HO273 BK258 BK274 HB hHeld ⊢
     refine pure_ (i := 1) (N := some 15) (v := ?_) (a' := ?_) #[false, true, false, false, false, false, false, false, false, false, false, false, false, false, false, false, false, false, false, false, false, false, false, false, false, false, false, false, false, false, false, false, false, false] rfl rfl (any_of HT_.out q9_) (fun _ _ _ h => h) (Or.inl ⟨by rfl, ?_⟩) ?_ ?_
     rotate_left
     ·intro w'
      go_simp
      with_reducible rfl
     rotate_left
     ·simp only [Act.put, List.setIfInBounds_toArray, List.set_cons_zero, List.set_cons_succ, i64_w, i32_w]
      rfl
     refine pure_ (i := 4) (N := some 18) (v := ?_) (a' := ?_) #[false, true, false, false, true, false, false, false, false, false, false, false, false, false, false, false, false, false, false, false, false, false, false, false, false, false, false, false, false, false, false, false, false, false] rfl rfl (any_of HT_.out q9_) (fun _ _ _ h => h) (Or.inl ⟨by rfl, ?_⟩) ?_ ?_
     rotate_left
     ·intro w'
      go_simp
      with_reducible rfl
     rotate_left
     ·simp only [Act.put, List.setIfInBounds_toArray, List.set_cons_zero, List.set_cons_succ, i64_w, i32_w]
      rfl
     refine take_ (i := 0) (N := some 14) (v := ?_) (a' := ?_) #[true, true, false, false, true, false, false, false, false, false, false, false, false, false, false, false, false, false, false, false, false, false, false, false, false, false, false, false, false, false, false, false, false, false] rfl rfl (take_ofW HT_.out HW_.out q9_) (fun _ _ _ h => h) (Or.inl ⟨by rfl, ?_⟩) hHeld ?_ ?_
     rotate_left
     ·rintro w' ⟨s0, s1, s2, s3, s4, s5⟩
      go_simp
      with_reducible rfl
     rotate_left
     ·simp only [Act.put, List.setIfInBounds_toArray, List.set_cons_zero, List.set_cons_succ, i64_w, i32_w]
      rfl
     refine take_ (i := 3) (N := some 17) (v := ?_) (a' := ?_) #[true, true, false, true, true, false, false, false, false, false, false, false, false, false, false, false, false, false, false, false, false, false, false, false, false, false, false, false, false, false, false, false, false, false] rfl rfl (take_ofW HT_.out HW_.out q9_) (fun _ _ _ h => h) (Or.inl ⟨by rfl, ?_⟩) hHeld ?_ ?_
     rotate_left
     ·rintro w' ⟨s0, s1, s2, s3, s4, s5⟩
      go_simp
      with_reducible rfl
     rotate_left
     ·simp only [Act.put, List.setIfInBounds_toArray, List.set_cons_zero, List.set_cons_succ, i64_w, i32_w]
      rfl
     refine one_ (i := 2) (N := some 16) #[true, true, true, true, true, false, false, false, false, false, false, false, false, false, false, false, false, false, false, false, false, false, false, false, false, false, false, false, false, false, false, false, false, false] rfl rfl (one_of HT_.out q9_) (by decide) (fun K hK => ?_)
     refine goes_ Tryz.func55 q9_ rfl #[.agg #[.int .i64 t259, .slice Ao25 t260.length co25, .slice Ao26 t263.length co26], .string t266] (by rfl) rfl rfl tS ?_
     with_reducible refine (filter_Own.calls t259 _ _ t260 _ _ t263 t266 t275 t276 t277 t280 t283 _ ?side1 ?side2 ?side3 ?side4 A7.out).mono ?_
     (case side1 => repeat (first | exact (Kd.R_reads' HO262.out).2.2 | (with_reducible refine Kd.C_alloc ?_ _) | (with_reducible refine Kd.C_drewN ?_ _) | (with_reducible refine Kd.C_drew ?_)))
     (case side2 => exact (Kd.R_reads' HO262.out).2.1)
     (case side3 => repeat (first | exact (Kd.R_reads' HO265.out).2.2 | (with_reducible refine Kd.C_alloc ?_ _) | (with_reducible refine Kd.C_drewN ?_ _) | (with_reducible refine Kd.C_drew ?_)))
     (case side4 => exact (Kd.R_reads' HO265.out).2.1)
     rintro e w35 ⟨v278, v281, rfl, ho0, ho1, hb⟩
     refine ⟨_, rfl, ?_⟩
     have n0_ := Aside0.mk (Kd.R_elder' q22_ (Kd.R_base ho0) hb)
     have n1_ := Aside0.mk (Kd.R_elder' q23_ (Kd.R_base ho1) hb)
     have n2_ := Aside0.mk (Kd.R_elder' q24_ (Kd.R_base ho0) hb)
     have n3_ := Aside0.mk (Kd.R_elder' q25_ (Kd.R_base ho1) hb)
     have n4_ := Aside0.mk (Kd.R_lower (Kd.R_new' (Kd.R_new' ho0 (Kd.R_lt q22_)) (Kd.R_lt q24_)) (below_size q6_))
     have n5_ := Aside0.mk (Kd.R_lower (Kd.R_new' (Kd.R_new' ho1 (Kd.R_lt q23_)) (Kd.R_lt q25_)) (below_size q6_))
     have n6_ := Aside0.mk (blk_below (g := gb258) (o := .cells #[.int .i64 t259, .slice Ao25 t260.length co25, .slice Ao26 t263.length co26] 28 (0, 0)) q27_ hb)
     have n7_ := Aside0.mk (blk_below (g := gb274) (o := .cells #[.int .i64 t267, .slice Ao31 t268.length co31, .slice Ao32 t271.length co32] 28 (0, 0)) (by (with_reducible repeat (first | refine blk_drewN ?_ _ | refine blk_drew ?_ | refine blk_alloc ?_ _)); exact BK274.out) hb)
     have n8_ := Aside0.mk (below_step q6_ hb)
     clear HO262
     clear HO265
     clear HO270
     clear HO273
     clear BK258
     clear BK274
     clear HB
     have HO262 := n0_
     have HO265 := n1_
     have HO270 := n2_
     have HO273 := n3_
     have HO279 := n4_
     have HO282 := n5_
     have BK258 := n6_
     have BK274 := n7_
     have HB := n8_
     clear n0_ n1_ n2_ n3_ n4_ n5_ n6_ n7_ n8_
     (try clear hb)
     (try clear hb2)
     (try clear hk)
     (try clear hi)
     (try clear ho0)
     (try clear ho1)
     refine hK.out _ _ ⟨(blk_cell BK258.out 0).trans rfl, (blk_cell BK258.out 1).trans rfl, (blk_cell BK258.out 2).trans rfl, (blk_cell BK274.out 0).trans rfl, (blk_cell BK274.out 1).trans rfl, (blk_cell BK274.out 2).trans rfl⟩ (fun hHeld => ?_)
     clear hK K
     refine norm_ (a' := ?_) ?_ ?_
     rotate_left
     ·show Act.put _ (some 16) _ = _
      simp only [Act.put, List.setIfInBounds_toArray, List.set_cons_zero, List.set_cons_succ, i64_w, i32_w]
      rfl
     refine one_ (i := 5) (N := some 19) #[true, true, true, true, true, true, false, false, false, false, false, false, false, false, false, false, false, false, false, false, false, false, false, false, false, false, false, false, false, false, false, false, false, false] rfl rfl (one_of HT_.out q9_) (by decide) (fun K hK => ?_)
     refine goes_ Tryz.func56 q9_ rfl #[.agg #[.int .i64 t267, .slice Ao31 t268.length co31, .slice Ao32 t271.length co32], .string t266] (by rfl) rfl rfl tS ?_
     with_reducible refine (ostiaryref20_Own.calls k t267 _ _ t268 _ _ t271 t266 t284 t285 t286 t289 t292 _ ?side1 ?side2 ?side3 ?side4 A8.out).mono ?_
     (case side1 => repeat (first | exact (Kd.R_reads' HO270.out).2.2 | (with_reducible refine Kd.C_alloc ?_ _) | (with_reducible refine Kd.C_drewN ?_ _) | (with_reducible refine Kd.C_drew ?_)))
     (case side2 => exact (Kd.R_reads' HO270.out).2.1)
     (case side3 => repeat (first | exact (Kd.R_reads' HO273.out).2.2 | (with_reducible refine Kd.C_alloc ?_ _) | (with_reducible refine Kd.C_drewN ?_ _) | (with_reducible refine Kd.C_drew ?_)))
     (case side4 => exact (Kd.R_reads' HO273.out).2.1)
     rintro e w36 ⟨v287, v290, rfl, ho0, ho1, hb⟩
     refine ⟨_, rfl, ?_⟩
     have n0_ := Aside0.mk (Kd.R_elder' q22_ (Kd.R_base ho0) hb)
     have n1_ := Aside0.mk (Kd.R_elder' q23_ (Kd.R_base ho1) hb)
     have n2_ := Aside0.mk (Kd.R_elder' q24_ (Kd.R_base ho0) hb)
     have n3_ := Aside0.mk (Kd.R_elder' q25_ (Kd.R_base ho1) hb)
     have n4_ := Aside0.mk (Kd.R_elder' q39_ (Kd.R_base ho0) hb)
     have n5_ := Aside0.mk (Kd.R_elder' (by (with_reducible repeat (first | apply Kd.R_alloc | apply Kd.R_drewN | apply Kd.R_drew)); exact HO282.out) (Kd.R_base ho1) hb)
     have n6_ := Aside0.mk (Kd.R_lower (Kd.R_new' (Kd.R_new' (Kd.R_new' ho0 (Kd.R_lt q22_)) (Kd.R_lt q24_)) (Kd.R_lt q39_)) (below_size q6_))
     have n7_ := Aside0.mk (Kd.R_lower (Kd.R_new' (Kd.R_new' (Kd.R_new' ho1 (Kd.R_lt q23_)) (Kd.R_lt q25_)) (Kd.R_lt (by (with_reducible repeat (first | apply Kd.R_alloc | apply Kd.R_drewN | apply Kd.R_drew)); exact HO282.out))) (below_size q6_))
     have n8_ := Aside0.mk (blk_below (g := gb258) (o := .cells #[.int .i64 t259, .slice Ao25 t260.length co25, .slice Ao26 t263.length co26] 28 (0, 0)) q27_ hb)
     have n9_ := Aside0.mk (blk_below (g := gb274) (o := .cells #[.int .i64 t267, .slice Ao31 t268.length co31, .slice Ao32 t271.length co32] 28 (0, 0)) (by (with_reducible repeat (first | refine blk_drewN ?_ _ | refine blk_drew ?_ | refine blk_alloc ?_ _)); exact BK274.out) hb)
     have n10_ := Aside0.mk (below_step q6_ hb)
     clear HO262
     clear HO265
     clear HO270
     clear HO273
     clear HO279
     clear HO282
     clear BK258
     clear BK274
     clear HB
     have HO262 := n0_
     have HO265 := n1_
     have HO270 := n2_
     have HO273 := n3_
     have HO279 := n4_
     have HO282 := n5_
     have HO288 := n6_
     have HO291 := n7_
     have BK258 := n8_
     have BK274 := n9_
     have HB := n10_
     clear n0_ n1_ n2_ n3_ n4_ n5_ n6_ n7_ n8_ n9_ n10_
     (try clear hb)
     (try clear hb2)
     (try clear hk)
     (try clear hi)
     (try clear ho0)
     (try clear ho1)
     obtain ⟨Ao37, co37, eo37⟩ := Kd.R_slice HO279.out
     (first | subst eo37 | (injection eo37 with f1_ f2_ f3_; have f4_ := f1_.symm; have f5_ := f3_.symm; clear f1_ f2_ f3_; subst f4_; subst f5_))
     obtain ⟨Ao38, co38, eo38⟩ := Kd.R_slice HO282.out
     (first | subst eo38 | (injection eo38 with f1_ f2_ f3_; have f4_ := f1_.symm; have f5_ := f3_.symm; clear f1_ f2_ f3_; subst f4_; subst f5_))
     obtain ⟨Ao39, co39, eo39⟩ := Kd.R_slice HO288.out
     (first | subst eo39 | (injection eo39 with f1_ f2_ f3_; have f4_ := f1_.symm; have f5_ := f3_.symm; clear f1_ f2_ f3_; subst f4_; subst f5_))
     obtain ⟨Ao40, co40, eo40⟩ := Kd.R_slice HO291.out
     (first | subst eo40 | (injection eo40 with f1_ f2_ f3_; have f4_ := f1_.symm; have f5_ := f3_.symm; clear f1_ f2_ f3_; subst f4_; subst f5_))
     refine hK.out _ _ ⟨(blk_cell BK258.out 0).trans rfl, (blk_cell BK258.out 1).trans rfl, (blk_cell BK258.out 2).trans rfl, (blk_cell BK274.out 0).trans rfl, (blk_cell BK274.out 1).trans rfl, (blk_cell BK274.out 2).trans rfl⟩ (fun hHeld => ?_)
     clear hK K
     refine norm_ (a' := ?_) ?_ ?_
     rotate_left
     ·show Act.put _ (some 19) _ = _
      simp only [Act.put, List.setIfInBounds_toArray, List.set_cons_zero, List.set_cons_succ, i64_w, i32_w]
      rfl
     refine one_ (i := 6) (N := some 20) #[true, true, true, true, true, true, true, false, false, false, false, false, false, false, false, false, false, false, false, false, false, false, false, false, false, false, false, false, false, false, false, false, false, false] rfl rfl (one_of HT_.out q9_) (by decide) (fun K hK => ?_)
     refine goes_ Tryz.func54 q9_ rfl #[.agg #[.int .i64 t275, .int .i64 t276, .slice Ao37 t277.length co37, .slice Ao38 t280.length co38, .string t283], .agg #[.int .i64 t284, .int .i64 t285, .slice Ao39 t286.length co39, .slice Ao40 t289.length co40, .string t292]] (by rfl) rfl rfl tS ?_
     with_reducible refine (ostiarykeep_SameResponse.calls k t275 t276 _ _ t277 _ _ t280 t283 t284 t285 _ _ t286 _ _ t289 t292 true _ ?side1 ?side2 ?side3 ?side4 ?side5 ?side6 ?side7 ?side8 A9.out).mono ?_
     (case side1 => repeat (first | exact (Kd.R_reads' HO279.out).2.2 | (with_reducible refine Kd.C_alloc ?_ _) | (with_reducible refine Kd.C_drewN ?_ _) | (with_reducible refine Kd.C_drew ?_)))
     (case side2 => exact (Kd.R_reads' HO279.out).2.1)
     (case side3 => repeat (first | exact (Kd.R_reads' HO282.out).2.2 | (with_reducible refine Kd.C_alloc ?_ _) | (with_reducible refine Kd.C_drewN ?_ _) | (with_reducible refine Kd.C_drew ?_)))
     (case side4 => exact (Kd.R_reads' HO282.out).2.1)
     (case side5 => repeat (first | exact (Kd.R_reads' HO288.out).2.2 | (with_reducible refine Kd.C_alloc ?_ _) | (with_reducible refine Kd.C_drewN ?_ _) | (with_reducible refine Kd.C_drew ?_)))
     (case side6 => exact (Kd.R_reads' HO288.out).2.1)
     (case side7 => repeat (first | exact (Kd.R_reads' HO291.out).2.2 | (with_reducible refine Kd.C_alloc ?_ _) | (with_reducible refine Kd.C_drewN ?_ _) | (with_reducible refine Kd.C_drew ?_)))
     (case side8 => exact (Kd.R_reads' HO291.out).2.1)
     rintro e w41 ⟨rfl, hb⟩
     refine ⟨_, rfl, ?_⟩
     have n0_ := Aside0.mk (Kd.R_below q22_ hb)
     have n1_ := Aside0.mk (Kd.R_below q23_ hb)
     have n2_ := Aside0.mk (Kd.R_below q24_ hb)
     have n3_ := Aside0.mk (Kd.R_below q25_ hb)
     have n4_ := Aside0.mk (Kd.R_below q39_ hb)
     have n5_ := Aside0.mk (Kd.R_below (by (with_reducible repeat (first | apply Kd.R_alloc | apply Kd.R_drewN | apply Kd.R_drew)); exact HO282.out) hb)
     have n6_ := Aside0.mk (Kd.R_below (by (with_reducible repeat (first | apply Kd.R_alloc | apply Kd.R_drewN | apply Kd.R_drew)); exact HO288.out) hb)
     have n7_ := Aside0.mk (Kd.R_below (by (with_reducible repeat (first | apply Kd.R_alloc | apply Kd.R_drewN | apply Kd.R_drew)); exact HO291.out) hb)
     have n8_ := Aside0.mk (blk_below (g := gb258) (o := .cells #[.int .i64 t259, .slice Ao25 t260.length co25, .slice Ao26 t263.length co26] 28 (0, 0)) q27_ hb)
     have n9_ := Aside0.mk (blk_below (g := gb274) (o := .cells #[.int .i64 t267, .slice Ao31 t268.length co31, .slice Ao32 t271.length co32] 28 (0, 0)) (by (with_reducible repeat (first | refine blk_drewN ?_ _ | refine blk_drew ?_ | refine blk_alloc ?_ _)); exact BK274.out) hb)
     have n10_ := Aside0.mk (below_step q6_ hb)
     clear HO262
     clear HO265
     clear HO270
     clear HO273
     clear HO279
     clear HO282
     clear HO288
     clear HO291
     clear BK258
     clear BK274
     clear HB
     have HO262 := n0_
     have HO265 := n1_
     have HO270 := n2_
     have HO273 := n3_
     have HO279 := n4_
     have HO282 := n5_
     have HO288 := n6_
     have HO291 := n7_
     have BK258 := n8_
     have BK274 := n9_
     have HB := n10_
     clear n0_ n1_ n2_ n3_ n4_ n5_ n6_ n7_ n8_ n9_ n10_
     (try clear hb)
     (try clear hb2)
     (try clear hk)
     (try clear hi)
     refine hK.out _ _ ⟨(blk_cell BK258.out 0).trans rfl, (blk_cell BK258.out 1).trans rfl, (blk_cell BK258.out 2).trans rfl, (blk_cell BK274.out 0).trans rfl, (blk_cell BK274.out 1).trans rfl, (blk_cell BK274.out 2).trans rfl⟩ (fun hHeld => ?_)
     clear hK K
     refine norm_ (a' := ?_) ?_ ?_
     rotate_left
     ·show Act.put _ (some 20) _ = _
      simp only [Act.put, List.setIfInBounds_toArray, List.set_cons_zero, List.set_cons_succ, i64_w, i32_w]
      rfl
     refine pure_ (i := 7) (N := some 21) (v := ?_) (a' := ?_) #[true, true, true, true, true, true, true, true, false, false, false, false, false, false, false, false, false, false, false, false, false, false, false, false, false, false, false, false, false, false, false, false, false, false] rfl rfl (any_of HT_.out q9_) (fun _ _ _ h => h) (Or.inl ⟨by rfl, ?_⟩) ?_ ?_
     rotate_left
     ·intro w'
      go_simp
      with_reducible rfl
     rotate_left
     ·simp only [Act.put, List.setIfInBounds_toArray, List.set_cons_zero, List.set_cons_succ, i64_w, i32_w]
      rfl
     refine pure_ (i := 9) (N := some 23) (v := ?_) (a' := ?_) #[true, true, true, true, true, true, true, true, false, true, false, false, false, false, false, false, false, false, false, false, false, false, false, false, false, false, false, false, false, false, false, false, false, false] rfl rfl (any_of HT_.out q9_) (fun _ _ _ h => h) (Or.inl ⟨by rfl, ?_⟩) ?_ ?_
     rotate_left
     ·intro w'
      go_simp
      with_reducible rfl
     rotate_left
     ·simp only [Act.put, List.setIfInBounds_toArray, List.set_cons_zero, List.set_cons_succ, i64_w, i32_w]
      rfl
     refine pure_ (i := 10) (N := some 24) (v := ?_) (a' := ?_) #[true, true, true, true, true, true, true, true, false, true, true, false, false, false, false, false, false, false, false, false, false, false, false, false, false, false, false, false, false, false, false, false, false, false] rfl rfl (any_of HT_.out q9_) (fun _ _ _ h => h) (Or.inl ⟨by rfl, ?_⟩) ?_ ?_
     rotate_left
     ·intro w'
      go_simp
      with_reducible rfl
     rotate_left
     ·simp only [Act.put, List.setIfInBounds_toArray, List.set_cons_zero, List.set_cons_succ, i64_w, i32_w]
      rfl
     refine pure_ (i := 13) (N := some 27) (v := ?_) (a' := ?_) #[true, true, true, true, true, true, true, true, false, true, true, false, false, true, false, false, false, false, false, false, false, false, false, false, false, false, false, false, false, false, false, false, false, false] rfl rfl (any_of HT_.out q9_) (fun _ _ _ h => h) (Or.inl ⟨by rfl, ?_⟩) ?_ ?_
     rotate_left
     ·intro w'
      go_simp
      with_reducible rfl
     rotate_left
     ·simp only [Act.put, List.setIfInBounds_toArray, List.set_cons_zero, List.set_cons_succ, i64_w, i32_w]
      rfl
     refine pure_ (i := 14) (N := some 28) (v := ?_) (a' := ?_) #[true, true, true, true, true, true, true, true, false, true, true, false, false, true, true, false, false, false, false, false, false, false, false, false, false, false, false, false, false, false, false, false, false, false] rfl rfl (any_of HT_.out q9_) (fun _ _ _ h => h) (Or.inl ⟨by rfl, ?_⟩) ?_ ?_
     rotate_left
     ·intro w'
      go_simp
      with_reducible rfl
     rotate_left
     ·simp only [Act.put, List.setIfInBounds_toArray, List.set_cons_zero, List.set_cons_succ, i64_w, i32_w]
      rfl
     refine take_ (i := 8) (N := some 22) (v := ?_) (a' := ?_) #[true, true, true, true, true, true, true, true, true, true, true, false, false, true, true, false, false, false, false, false, false, false, false, false, false, false, false, false, false, false, false, false, false, false] rfl rfl (take_ofW HT_.out HW_.out q9_) (fun _ _ _ h => h) (Or.inl ⟨by rfl, ?_⟩) hHeld ?_ ?_
     rotate_left
     ·rintro w' ⟨s0, s1, s2, s3, s4, s5⟩
      go_simp
      with_reducible rfl
     rotate_left
     ·simp only [Act.put, List.setIfInBounds_toArray, List.set_cons_zero, List.set_cons_succ, i64_w, i32_w]
      rfl
     refine take_ (i := 12) (N := some 26) (v := ?_) (a' := ?_) #[true, true, true, true, true, true, true, true, true, true, true, false, true, true, true, false, false, false, false, false, false, false, false, false, false, false, false, false, false, false, false, false, false, false] rfl rfl (take_ofW HT_.out HW_.out q9_) (fun _ _ _ h => h) (Or.inl ⟨by rfl, ?_⟩) hHeld ?_ ?_
     rotate_left
     ·rintro w' ⟨s0, s1, s2, s3, s4, s5⟩
      go_simp
      with_reducible rfl
     rotate_left
     ·simp only [Act.put, List.setIfInBounds_toArray, List.set_cons_zero, List.set_cons_succ, i64_w, i32_w]
      rfl
     refine one_ (i := 11) (N := some 25) #[true, true, true, true, true, true, true, true, true, true, true, true, true, true, true, false, false, false, false, false, false, false, false, false, false, false, false, false, false, false, false, false, false, false] rfl rfl (one_of HT_.out q9_) (by decide) (fun K hK => ?_)
     refine goes_ Tryz.func57 q9_ rfl #[.agg #[.int .i64 t259, .slice Ao25 t260.length co25, .slice Ao26 t263.length co26], .string t266, .bool a2] (by rfl) rfl rfl tS ?_
     with_reducible refine (filter_Share.calls t259 _ _ t260 _ _ t263 t266 a2 t294 t295 t296 t299 t302 _ ?side1 ?side2 ?side3 ?side4 A11.out).mono ?_
     (case side1 => repeat (first | exact (Kd.R_reads' HO262.out).2.2 | (with_reducible refine Kd.C_alloc ?_ _) | (with_reducible refine Kd.C_drewN ?_ _) | (with_reducible refine Kd.C_drew ?_)))
     (case side2 => exact (Kd.R_reads' HO262.out).2.1)
     (case side3 => repeat (first | exact (Kd.R_reads' HO265.out).2.2 | (with_reducible refine Kd.C_alloc ?_ _) | (with_reducible refine Kd.C_drewN ?_ _) | (with_reducible refine Kd.C_drew ?_)))
     (case side4 => exact (Kd.R_reads' HO265.out).2.1)
     rintro e w42 ⟨v297, v300, rfl, ho0, ho1, hb⟩
     refine ⟨_, rfl, ?_⟩
     have n0_ := Aside0.mk (Kd.R_elder' q22_ (Kd.R_base ho0) hb)
     have n1_ := Aside0.mk (Kd.R_elder' q23_ (Kd.R_base ho1) hb)
     have n2_ := Aside0.mk (Kd.R_elder' q24_ (Kd.R_base ho0) hb)
     have n3_ := Aside0.mk (Kd.R_elder' q25_ (Kd.R_base ho1) hb)
     have n4_ := Aside0.mk (Kd.R_elder' q39_ (Kd.R_base ho0) hb)
     have n5_ := Aside0.mk (Kd.R_elder' (by (with_reducible repeat (first | apply Kd.R_alloc | apply Kd.R_drewN | apply Kd.R_drew)); exact HO282.out) (Kd.R_base ho1) hb)
     have n6_ := Aside0.mk (Kd.R_elder' (by (with_reducible repeat (first | apply Kd.R_alloc | apply Kd.R_drewN | apply Kd.R_drew)); exact HO288.out) (Kd.R_base ho0) hb)
     have n7_ := Aside0.mk (Kd.R_elder' (by (with_reducible repeat (first | apply Kd.R_alloc | apply Kd.R_drewN | apply Kd.R_drew)); exact HO291.out) (Kd.R_base ho1) hb)
     have n8_ := Aside0.mk (Kd.R_lower (Kd.R_new' (Kd.R_new' (Kd.R_new' (Kd.R_new' ho0 (Kd.R_lt q22_)) (Kd.R_lt q24_)) (Kd.R_lt q39_)) (Kd.R_lt (by (with_reducible repeat (first | apply Kd.R_alloc | apply Kd.R_drewN | apply Kd.R_drew)); exact HO288.out))) (below_size q6_))
     have n9_ := Aside0.mk (Kd.R_lower (Kd.R_new' (Kd.R_new' (Kd.R_new' (Kd.R_new' ho1 (Kd.R_lt q23_)) (Kd.R_lt q25_)) (Kd.R_lt (by (with_reducible repeat (first | apply Kd.R_alloc | apply Kd.R_drewN | apply Kd.R_drew)); exact HO282.out))) (Kd.R_lt (by (with_reducible repeat (first | apply Kd.R_alloc | apply Kd.R_drewN | apply Kd.R_drew)); exact HO291.out))) (below_size q6_))
     have n10_ := Aside0.mk (blk_below (g := gb258) (o := .cells #[.int .i64 t259, .slice Ao25 t260.length co25, .slice Ao26 t263.length co26] 28 (0, 0)) q27_ hb)
     have n11_ := Aside0.mk (blk_below (g := gb274) (o := .cells #[.int .i64 t267, .slice Ao31 t268.length co31, .slice Ao32 t271.length co32] 28 (0, 0)) (by (with_reducible repeat (first | refine blk_drewN ?_ _ | refine blk_drew ?_ | refine blk_alloc ?_ _)); exact BK274.out) hb)
     have n12_ := Aside0.mk (below_step q6_ hb)
     clear HO262
     clear HO265
     clear HO270
     clear HO273
     clear HO279
     clear HO282
     clear HO288
     clear HO291
     clear BK258
     clear BK274
     clear HB
     have HO262 := n0_
     have HO265 := n1_
     have HO270 := n2_
     have HO273 := n3_
     have HO279 := n4_
     have HO282 := n5_
     have HO288 := n6_
     have HO291 := n7_
     have HO298 := n8_
     have HO301 := n9_
     have BK258 := n10_
     have BK274 := n11_
     have HB := n12_
     clear n0_ n1_ n2_ n3_ n4_ n5_ n6_ n7_ n8_ n9_ n10_ n11_ n12_
     (try clear hb)
     (try clear hb2)
     (try clear hk)
     (try clear hi)
     (try clear ho0)
     (try clear ho1)
     refine hK.out _ _ ⟨(blk_cell BK258.out 0).trans rfl, (blk_cell BK258.out 1).trans rfl, (blk_cell BK258.out 2).trans rfl, (blk_cell BK274.out 0).trans rfl, (blk_cell BK274.out 1).trans rfl, (blk_cell BK274.out 2).trans rfl⟩ (fun hHeld => ?_)
     clear hK K
     refine norm_ (a' := ?_) ?_ ?_
     rotate_left
     ·show Act.put _ (some 25) _ = _
      simp only [Act.put, List.setIfInBounds_toArray, List.set_cons_zero, List.set_cons_succ, i64_w, i32_w]
      rfl
     refine one_ (i := 15) (N := some 29) #[true, true, true, true, true, true, true, true, true, true, true, true, true, true, true, true, false, false, false, false, false, false, false, false, false, false, false, false, false, false, false, false, false, false] rfl rfl (one_of HT_.out q9_) (by decide) (fun K hK => ?_)
     refine goes_ Tryz.func58 q9_ rfl #[.agg #[.int .i64 t267, .slice Ao31 t268.length co31, .slice Ao32 t271.length co32], .string t266, .bool a2] (by rfl) rfl rfl tS ?_
     with_reducible refine (ostiaryref20_Share.calls k t267 _ _ t268 _ _ t271 t266 a2 t303 t304 t305 t308 t311 _ ?side1 ?side2 ?side3 ?side4 A12.out).mono ?_
     (case side1 => repeat (first | exact (Kd.R_reads' HO270.out).2.2 | (with_reducible refine Kd.C_alloc ?_ _) | (with_reducible refine Kd.C_drewN ?_ _) | (with_reducible refine Kd.C_drew ?_)))
     (case side2 => exact (Kd.R_reads' HO270.out).2.1)
     (case side3 => repeat (first | exact (Kd.R_reads' HO273.out).2.2 | (with_reducible refine Kd.C_alloc ?_ _) | (with_reducible refine Kd.C_drewN ?_ _) | (with_reducible refine Kd.C_drew ?_)))
     (case side4 => exact (Kd.R_reads' HO273.out).2.1)
     rintro e w43 ⟨v306, v309, rfl, ho0, ho1, hb⟩
     refine ⟨_, rfl, ?_⟩
     have n0_ := Aside0.mk (Kd.R_elder' q22_ (Kd.R_base ho0) hb)
     have n1_ := Aside0.mk (Kd.R_elder' q23_ (Kd.R_base ho1) hb)
     have n2_ := Aside0.mk (Kd.R_elder' q24_ (Kd.R_base ho0) hb)
     have n3_ := Aside0.mk (Kd.R_elder' q25_ (Kd.R_base ho1) hb)
     have n4_ := Aside0.mk (Kd.R_elder' q39_ (Kd.R_base ho0) hb)
     have n5_ := Aside0.mk (Kd.R_elder' (by (with_reducible repeat (first | apply Kd.R_alloc | apply Kd.R_drewN | apply Kd.R_drew)); exact HO282.out) (Kd.R_base ho1) hb)
     have n6_ := Aside0.mk (Kd.R_elder' (by (with_reducible repeat (first | apply Kd.R_alloc | apply Kd.R_drewN | apply Kd.R_drew)); exact HO288.out) (Kd.R_base ho0) hb)
     have n7_ := Aside0.mk (Kd.R_elder' (by (with_reducible repeat (first | apply Kd.R_alloc | apply Kd.R_drewN | apply Kd.R_drew)); exact HO291.out) (Kd.R_base ho1) hb)
     have n8_ := Aside0.mk (Kd.R_elder' (by (with_reducible repeat (first | apply Kd.R_alloc | apply Kd.R_drewN | apply Kd.R_drew)); exact HO298.out) (Kd.R_base ho0) hb)
     have n9_ := Aside0.mk (Kd.R_elder' (by (with_reducible repeat (first | apply Kd.R_alloc | apply Kd.R_drewN | apply Kd.R_drew)); exact HO301.out) (Kd.R_base ho1) hb)
     have n10_ := Aside0.mk (Kd.R_lower (Kd.R_new' (Kd.R_new' (Kd.R_new' (Kd.R_new' (Kd.R_new' ho0 (Kd.R_lt q22_)) (Kd.R_lt q24_)) (Kd.R_lt q39_)) (Kd.R_lt (by (with_reducible repeat (first | apply Kd.R_alloc | apply Kd.R_drewN | apply Kd.R_drew)); exact HO288.out))) (Kd.R_lt (by (with_reducible repeat (first | apply Kd.R_alloc | apply Kd.R_drewN | apply Kd.R_drew)); exact HO298.out))) (below_size q6_))
     have n11_ := Aside0.mk (Kd.R_lower (Kd.R_new' (Kd.R_new' (Kd.R_new' (Kd.R_new' (Kd.R_new' ho1 (Kd.R_lt q23_)) (Kd.R_lt q25_)) (Kd.R_lt (by (with_reducible repeat (first | apply Kd.R_alloc | apply Kd.R_drewN | apply Kd.R_drew)); exact HO282.out))) (Kd.R_lt (by (with_reducible repeat (first | apply Kd.R_alloc | apply Kd.R_drewN | apply Kd.R_drew)); exact HO291.out))) (Kd.R_lt (by (with_reducible repeat (first | apply Kd.R_alloc | apply Kd.R_drewN | apply Kd.R_drew)); exact HO301.out))) (below_size q6_))
     have n12_ := Aside0.mk (blk_below (g := gb258) (o := .cells #[.int .i64 t259, .slice Ao25 t260.length co25, .slice Ao26 t263.length co26] 28 (0, 0)) q27_ hb)
     have n13_ := Aside0.mk (blk_below (g := gb274) (o := .cells #[.int .i64 t267, .slice Ao31 t268.length co31, .slice Ao32 t271.length co32] 28 (0, 0)) (by (with_reducible repeat (first | refine blk_drewN ?_ _ | refine blk_drew ?_ | refine blk_alloc ?_ _)); exact BK274.out) hb)
     have n14_ := Aside0.mk (below_step q6_ hb)
     clear HO262
     clear HO265
     clear HO270
     clear HO273
     clear HO279
     clear HO282
     clear HO288
     clear HO291
     clear HO298
     clear HO301
     clear BK258
     clear BK274
     clear HB
     have HO262 := n0_
     have HO265 := n1_
     have HO270 := n2_
     have HO273 := n3_
     have HO279 := n4_
     have HO282 := n5_
     have HO288 := n6_
     have HO291 := n7_
     have HO298 := n8_
     have HO301 := n9_
     have HO307 := n10_
     have HO310 := n11_
     have BK258 := n12_
     have BK274 := n13_
     have HB := n14_
     clear n0_ n1_ n2_ n3_ n4_ n5_ n6_ n7_ n8_ n9_ n10_ n11_ n12_ n13_ n14_
     (try clear hb)
     (try clear hb2)
     (try clear hk)
     (try clear hi)
     (try clear ho0)
     (try clear ho1)
     obtain ⟨Ao44, co44, eo44⟩ := Kd.R_slice HO298.out
     (first | subst eo44 | (injection eo44 with f1_ f2_ f3_; have f4_ := f1_.symm; have f5_ := f3_.symm; clear f1_ f2_ f3_; subst f4_; subst f5_))
     obtain ⟨Ao45, co45, eo45⟩ := Kd.R_slice HO301.out
     (first | subst eo45 | (injection eo45 with f1_ f2_ f3_; have f4_ := f1_.symm; have f5_ := f3_.symm; clear f1_ f2_ f3_; subst f4_; subst f5_))
     obtain ⟨Ao46, co46, eo46⟩ := Kd.R_slice HO307.out
     (first | subst eo46 | (injection eo46 with f1_ f2_ f3_; have f4_ := f1_.symm; have f5_ := f3_.symm; clear f1_ f2_ f3_; subst f4_; subst f5_))
     obtain ⟨Ao47, co47, eo47⟩ := Kd.R_slice HO310.out
     (first | subst eo47 | (injection eo47 with f1_ f2_ f3_; have f4_ := f1_.symm; have f5_ := f3_.symm; clear f1_ f2_ f3_; subst f4_; subst f5_))
     refine hK.out _ _ ⟨(blk_cell BK258.out 0).trans rfl, (blk_cell BK258.out 1).trans rfl, (blk_cell BK258.out 2).trans rfl, (blk_cell BK274.out 0).trans rfl, (blk_cell BK274.out 1).trans rfl, (blk_cell BK274.out 2).trans rfl⟩ (fun hHeld => ?_)
     clear hK K
     refine norm_ (a' := ?_) ?_ ?_
     rotate_left
     ·show Act.put _ (some 29) _ = _
      simp only [Act.put, List.setIfInBounds_toArray, List.set_cons_zero, List.set_cons_succ, i64_w, i32_w]
      rfl
     refine one_ (i := 16) (N := some 30) #[true, true, true, true, true, true, true, true, true, true, true, true, true, true, true, true, true, false, false, false, false, false, false, false, false, false, false, false, false, false, false, false, false, false] rfl rfl (one_of HT_.out q9_) (by decide) (fun K hK => ?_)
     refine goes_ Tryz.func54 q9_ rfl #[.agg #[.int .i64 t294, .int .i64 t295, .slice Ao44 t296.length co44, .slice Ao45 t299.length co45, .string t302], .agg #[.int .i64 t303, .int .i64 t304, .slice Ao46 t305.length co46, .slice Ao47 t308.length co47, .string t311]] (by rfl) rfl rfl tS ?_
     with_reducible refine (ostiarykeep_SameResponse.calls k t294 t295 _ _ t296 _ _ t299 t302 t303 t304 _ _ t305 _ _ t308 t311 true _ ?side1 ?side2 ?side3 ?side4 ?side5 ?side6 ?side7 ?side8 A13.out).mono ?_
     (case side1 => repeat (first | exact (Kd.R_reads' HO298.out).2.2 | (with_reducible refine Kd.C_alloc ?_ _) | (with_reducible refine Kd.C_drewN ?_ _) | (with_reducible refine Kd.C_drew ?_)))
     (case side2 => exact (Kd.R_reads' HO298.out).2.1)
     (case side3 => repeat (first | exact (Kd.R_reads' HO301.out).2.2 | (with_reducible refine Kd.C_alloc ?_ _) | (with_reducible refine Kd.C_drewN ?_ _) | (with_reducible refine Kd.C_drew ?_)))
     (case side4 => exact (Kd.R_reads' HO301.out).2.1)
     (case side5 => repeat (first | exact (Kd.R_reads' HO307.out).2.2 | (with_reducible refine Kd.C_alloc ?_ _) | (with_reducible refine Kd.C_drewN ?_ _) | (with_reducible refine Kd.C_drew ?_)))
     (case side6 => exact (Kd.R_reads' HO307.out).2.1)
     (case side7 => repeat (first | exact (Kd.R_reads' HO310.out).2.2 | (with_reducible refine Kd.C_alloc ?_ _) | (with_reducible refine Kd.C_drewN ?_ _) | (with_reducible refine Kd.C_drew ?_)))
     (case side8 => exact (Kd.R_reads' HO310.out).2.1)
     rintro e w48 ⟨rfl, hb⟩
     refine ⟨_, rfl, ?_⟩
     have n0_ := Aside0.mk (Kd.R_below q22_ hb)
     have n1_ := Aside0.mk (Kd.R_below q23_ hb)
     have n2_ := Aside0.mk (Kd.R_below q24_ hb)
     have n3_ := Aside0.mk (Kd.R_below q25_ hb)
     have n4_ := Aside0.mk (Kd.R_below q39_ hb)
     have n5_ := Aside0.mk (Kd.R_below (by (with_reducible repeat (first | apply Kd.R_alloc | apply Kd.R_drewN | apply Kd.R_drew)); exact HO282.out) hb)
     have n6_ := Aside0.mk (Kd.R_below (by (with_reducible repeat (first | apply Kd.R_alloc | apply Kd.R_drewN | apply Kd.R_drew)); exact HO288.out) hb)
     have n7_ := Aside0.mk (Kd.R_below (by (with_reducible repeat (first | apply Kd.R_alloc | apply Kd.R_drewN | apply Kd.R_drew)); exact HO291.out) hb)
     have n8_ := Aside0.mk (Kd.R_below (by (with_reducible repeat (first | apply Kd.R_alloc | apply Kd.R_drewN | apply Kd.R_drew)); exact HO298.out) hb)
     have n9_ := Aside0.mk (Kd.R_below (by (with_reducible repeat (first | apply Kd.R_alloc | apply Kd.R_drewN | apply Kd.R_drew)); exact HO301.out) hb)
     have n10_ := Aside0.mk (Kd.R_below (by (with_reducible repeat (first | apply Kd.R_alloc | apply Kd.R_drewN | apply Kd.R_drew)); exact HO307.out) hb)
     have n11_ := Aside0.mk (Kd.R_below (by (with_reducible repeat (first | apply Kd.R_alloc | apply Kd.R_drewN | apply Kd.R_drew)); exact HO310.out) hb)
     have n12_ := Aside0.mk (blk_below (g := gb258) (o := .cells #[.int .i64 t259, .slice Ao25 t260.length co25, .slice Ao26 t263.length co26] 28 (0, 0)) q27_ hb)
     have n13_ := Aside0.mk (blk_below (g := gb274) (o := .cells #[.int .i64 t267, .slice Ao31 t268.length co31, .slice Ao32 t271.length co32] 28 (0, 0)) (by (with_reducible repeat (first | refine blk_drewN ?_ _ | refine blk_drew ?_ | refine blk_alloc ?_ _)); exact BK274.out) hb)
     have n14_ := Aside0.mk (below_step q6_ hb)
     clear HO262
     clear HO265
     clear HO270
     clear HO273
     clear HO279
     clear HO282
     clear HO288
     clear HO291
     clear HO298
     clear HO301
     clear HO307
     clear HO310
     clear BK258
     clear BK274
     clear HB
     have HO262 := n0_
     have HO265 := n1_
     have HO270 := n2_
     have HO273 := n3_
     have HO279 := n4_
     have HO282 := n5_
     have HO288 := n6_
     have HO291 := n7_
     have HO298 := n8_
     have HO301 := n9_
     have HO307 := n10_
     have HO310 := n11_
     have BK258 := n12_
     have BK274 := n13_
     have HB := n14_
     clear n0_ n1_ n2_ n3_ n4_ n5_ n6_ n7_ n8_ n9_ n10_ n11_ n12_ n13_ n14_
     (try clear hb)
     (try clear hb2)
     (try clear hk)
     (try clear hi)
     refine hK.out _ _ ⟨(blk_cell BK258.out 0).trans rfl, (blk_cell BK258.out 1).trans rfl, (blk_cell BK258.out 2).trans rfl, (blk_cell BK274.out 0).trans rfl, (blk_cell BK274.out 1).trans rfl, (blk_cell BK274.out 2).trans rfl⟩ (fun hHeld => ?_)
     clear hK K
     refine norm_ (a' := ?_) ?_ ?_
     rotate_left
     ·show Act.put _ (some 30) _ = _
      simp only [Act.put, List.setIfInBounds_toArray, List.set_cons_zero, List.set_cons_succ, i64_w, i32_w]
      rfl
     refine pure_ (i := 17) (N := some 31) (v := ?_) (a' := ?_) #[true, true, true, true, true, true, true, true, true, true, true, true, true, true, true, true, true, true, false, false, false, false, false, false, false, false, false, false, false, false, false, false, false, false] rfl rfl (any_of HT_.out q9_) (fun _ _ _ h => h) (Or.inl ⟨by rfl, ?_⟩) ?_ ?_
     rotate_left
     ·intro w'
      go_simp
      with_reducible rfl
     rotate_left
     ·simp only [Act.put, List.setIfInBounds_toArray, List.set_cons_zero, List.set_cons_succ, i64_w, i32_w]
      rfl
     refine pure_ (i := 18) (N := some 32) (v := ?_) (a' := ?_) #[true, true, true, true, true, true, true, true, true, true, true, true, true, true, true, true, true, true, true, false, false, false, false, false, false, false, false, false, false, false, false, false, false, false] rfl rfl (any_of HT_.out q9_) (fun _ _ _ h => h) (Or.inl ⟨by rfl, ?_⟩) ?_ ?_
     rotate_left
     ·intro w'
      go_simp
      with_reducible rfl
     rotate_left
     ·simp only [Act.put, List.setIfInBounds_toArray, List.set_cons_zero, List.set_cons_succ, i64_w, i32_w]
      rfl
     refine take_ (i := 19) (N := some 33) (v := ?_) (a' := ?_) #[true, true, true, true, true, true, true, true, true, true, true, true, true, true, true, true, true, true, true, true, false, false, false, false, false, false, false, false, false, false, false, false, false, false] rfl rfl (take_ofW HT_.out HW_.out q9_) (fun _ _ _ h => h) (Or.inl ⟨by rfl, ?_⟩) hHeld ?_ ?_
     rotate_left
     ·rintro w' ⟨s0, s1, s2, s3, s4, s5⟩
      go_simp
      with_reducible rfl
     rotate_left
     ·simp only [Act.put, List.setIfInBounds_toArray, List.set_cons_zero, List.set_cons_succ, i64_w, i32_w]
      rfl
     refine take_ (i := 20) (N := some 34) (v := ?_) (a' := ?_) #[true, true, true, true, true, true, true, true, true, true, true, true, true, true, true, true, true, true, true, true, true, false, false, false, false, false, false, false, false, false, false, false, false, false] rfl rfl (take_ofW HT_.out HW_.out q9_) (fun _ _ _ h => h) (Or.inl ⟨by rfl, ?_⟩) hHeld ?_ ?_
     rotate_left
     ·rintro w' ⟨s0, s1, s2, s3, s4, s5⟩
      go_simp
      with_reducible rfl
     rotate_left
     ·simp only [Act.put, List.setIfInBounds_toArray, List.set_cons_zero, List.set_cons_succ, i64_w, i32_w]
      rfl
     refine one_ (i := 21) (N := some 35) #[true, true, true, true, true, true, true, true, true, true, true, true, true, true, true, true, true, true, true, true, true, true, false, false, false, false, false, false, false, false, false, false, false, false] rfl rfl (one_of HT_.out q9_) (by decide) (fun K hK => ?_)
     refine goes_ Tryz.func42 q9_ rfl #[.agg #[.int .i64 t259, .slice Ao25 t260.length co25, .slice Ao26 t263.length co26], .agg #[.int .i64 t267, .slice Ao31 t268.length co31, .slice Ao32 t271.length co32]] (by rfl) rfl rfl tS ?_
     with_reducible refine (ostiarykeep_SameReply.calls k t259 _ _ t260 _ _ t263 t267 _ _ t268 _ _ t271 true _ ?side1 ?side2 ?side3 ?side4 ?side5 ?side6 ?side7 ?side8 A15.out).mono ?_
     (case side1 => repeat (first | exact (Kd.R_reads' HO262.out).2.2 | (with_reducible refine Kd.C_alloc ?_ _) | (with_reducible refine Kd.C_drewN ?_ _) | (with_reducible refine Kd.C_drew ?_)))
     (case side2 => exact (Kd.R_reads' HO262.out).2.1)
     (case side3 => repeat (first | exact (Kd.R_reads' HO265.out).2.2 | (with_reducible refine Kd.C_alloc ?_ _) | (with_reducible refine Kd.C_drewN ?_ _) | (with_reducible refine Kd.C_drew ?_)))
     (case side4 => exact (Kd.R_reads' HO265.out).2.1)
     (case side5 => repeat (first | exact (Kd.R_reads' HO270.out).2.2 | (with_reducible refine Kd.C_alloc ?_ _) | (with_reducible refine Kd.C_drewN ?_ _) | (with_reducible refine Kd.C_drew ?_)))
     (case side6 => exact (Kd.R_reads' HO270.out).2.1)
     (case side7 => repeat (first | exact (Kd.R_reads' HO273.out).2.2 | (with_reducible refine Kd.C_alloc ?_ _) | (with_reducible refine Kd.C_drewN ?_ _) | (with_reducible refine Kd.C_drew ?_)))
     (case side8 => exact (Kd.R_reads' HO273.out).2.1)
     rintro e w49 ⟨rfl, hb⟩
     refine ⟨_, rfl, ?_⟩
     have n0_ := Aside0.mk (Kd.R_below q22_ hb)
     have n1_ := Aside0.mk (Kd.R_below q23_ hb)
     have n2_ := Aside0.mk (Kd.R_below q24_ hb)
     have n3_ := Aside0.mk (Kd.R_below q25_ hb)
     have n4_ := Aside0.mk (Kd.R_below q39_ hb)
     have n5_ := Aside0.mk (Kd.R_below (by (with_reducible repeat (first | apply Kd.R_alloc | apply Kd.R_drewN | apply Kd.R_drew)); exact HO282.out) hb)
     have n6_ := Aside0.mk (Kd.R_below (by (with_reducible repeat (first | apply Kd.R_alloc | apply Kd.R_drewN | apply Kd.R_drew)); exact HO288.out) hb)
     have n7_ := Aside0.mk (Kd.R_below (by (with_reducible repeat (first | apply Kd.R_alloc | apply Kd.R_drewN | apply Kd.R_drew)); exact HO291.out) hb)
     have n8_ := Aside0.mk (Kd.R_below (by (with_reducible repeat (first | apply Kd.R_alloc | apply Kd.R_drewN | apply Kd.R_drew)); exact HO298.out) hb)
     have n9_ := Aside0.mk (Kd.R_below (by (with_reducible repeat (first | apply Kd.R_alloc | apply Kd.R_drewN | apply Kd.R_drew)); exact HO301.out) hb)
     have n10_ := Aside0.mk (Kd.R_below (by (with_reducible repeat (first | apply Kd.R_alloc | apply Kd.R_drewN | apply Kd.R_drew)); exact HO307.out) hb)
     have n11_ := Aside0.mk (Kd.R_below (by (with_reducible repeat (first | apply Kd.R_alloc | apply Kd.R_drewN | apply Kd.R_drew)); exact HO310.out) hb)
     have n12_ := Aside0.mk (blk_below (g := gb258) (o := .cells #[.int .i64 t259, .slice Ao25 t260.length co25, .slice Ao26 t263.length co26] 28 (0, 0)) q27_ hb)
     have n13_ := Aside0.mk (blk_below (g := gb274) (o := .cells #[.int .i64 t267, .slice Ao31 t268.length co31, .slice Ao32 t271.length co32] 28 (0, 0)) (by (with_reducible repeat (first | refine blk_drewN ?_ _ | refine blk_drew ?_ | refine blk_alloc ?_ _)); exact BK274.out) hb)
     have n14_ := Aside0.mk (below_step q6_ hb)
     clear HO262
     clear HO265
     clear HO270
     clear HO273
     clear HO279
     clear HO282
     clear HO288
     clear HO291
     clear HO298
     clear HO301
     clear HO307
     clear HO310
     clear BK258
     clear BK274
     clear HB
     have HO262 := n0_
     have HO265 := n1_
     have HO270 := n2_
     have HO273 := n3_
     have HO279 := n4_
     have HO282 := n5_
     have HO288 := n6_
     have HO291 := n7_
     have HO298 := n8_
     have HO301 := n9_
     have HO307 := n10_
     have HO310 := n11_
     have BK258 := n12_
     have BK274 := n13_
     have HB := n14_
     clear n0_ n1_ n2_ n3_ n4_ n5_ n6_ n7_ n8_ n9_ n10_ n11_ n12_ n13_ n14_
     (try clear hb)
     (try clear hb2)
     (try clear hk)
     (try clear hi)
     refine hK.out _ _ ⟨(blk_cell BK258.out 0).trans rfl, (blk_cell BK258.out 1).trans rfl, (blk_cell BK258.out 2).trans rfl, (blk_cell BK274.out 0).trans rfl, (blk_cell BK274.out 1).trans rfl, (blk_cell BK274.out 2).trans rfl⟩ (fun hHeld => ?_)
     clear hK K
     refine norm_ (a' := ?_) ?_ ?_
     rotate_left
     ·show Act.put _ (some 35) _ = _
      simp only [Act.put, List.setIfInBounds_toArray, List.set_cons_zero, List.set_cons_succ, i64_w, i32_w]
      rfl
     refine pure_ (i := 22) (N := some 36) (v := ?_) (a' := ?_) #[true, true, true, true, true, true, true, true, true, true, true, true, true, true, true, true, true, true, true, true, true, true, true, false, false, false, false, false, false, false, false, false, false, false] rfl rfl (any_of HT_.out q9_) (fun _ _ _ h => h) (Or.inl ⟨by rfl, ?_⟩) ?_ ?_
     rotate_left
     ·intro w'
      go_simp
      with_reducible rfl
     rotate_left
     ·simp only [Act.put, List.setIfInBounds_toArray, List.set_cons_zero, List.set_cons_succ, i64_w, i32_w]
      rfl
     refine pure_ (i := 23) (N := some 37) (v := ?_) (a' := ?_) #[true, true, true, true, true, true, true, true, true, true, true, true, true, true, true, true, true, true, true, true, true, true, true, true, false, false, false, false, false, false, false, false, false, false] rfl rfl (any_of HT_.out q9_) (fun _ _ _ h => h) (Or.inl ⟨by rfl, ?_⟩) ?_ ?_
     rotate_left
     ·intro w'
      go_simp
      with_reducible rfl
     rotate_left
     ·simp only [Act.put, List.setIfInBounds_toArray, List.set_cons_zero, List.set_cons_succ, i64_w, i32_w]
      rfl
     refine pure_ (i := 24) (N := some 38) (v := ?_) (a' := ?_) #[true, true, true, true, true, true, true, true, true, true, true, true, true, true, true, true, true, true, true, true, true, true, true, true, true, false, false, false, false, false, false, false, false, false] rfl rfl (any_of HT_.out q9_) (fun _ _ _ h => h) (Or.inl ⟨by rfl, ?_⟩) ?_ ?_
     rotate_left
     ·intro w'
      go_simp
      with_reducible rfl
     rotate_left
     ·simp only [Act.put, List.setIfInBounds_toArray, List.set_cons_zero, List.set_cons_succ, i64_w, i32_w]
      rfl
     refine pure_ (i := 26) (N := some 40) (v := ?_) (a' := ?_) #[true, true, true, true, true, true, true, true, true, true, true, true, true, true, true, true, true, true, true, true, true, true, true, true, true, false, true, false, false, false, false, false, false, false] rfl rfl (any_of HT_.out q9_) (fun _ _ _ h => h) (Or.inl ⟨by rfl, ?_⟩) ?_ ?_
     rotate_left
     ·intro w'
      go_simp
      with_reducible rfl
     rotate_left
     ·simp only [Act.put, List.setIfInBounds_toArray, List.set_cons_zero, List.set_cons_succ, i64_w, i32_w]
      rfl
     refine pure_ (i := 27) (N := some 41) (v := ?_) (a' := ?_) #[true, true, true, true, true, true, true, true, true, true, true, true, true, true, true, true, true, true, true, true, true, true, true, true, true, false, true, true, false, false, false, false, false, false] rfl rfl (any_of HT_.out q9_) (fun _ _ _ h => h) (Or.inl ⟨by rfl, ?_⟩) ?_ ?_
     rotate_left
     ·intro w'
      go_simp
      with_reducible rfl
     rotate_left
     ·simp only [Act.put, List.setIfInBounds_toArray, List.set_cons_zero, List.set_cons_succ, i64_w, i32_w]
      rfl
     refine one_ (i := 25) (N := some 39) #[true, true, true, true, true, true, true, true, true, true, true, true, true, true, true, true, true, true, true, true, true, true, true, true, true, true, true, true, false, false, false, false, false, false] rfl rfl (one_of HT_.out q9_) (by decide) (fun K hK => ?_)
     refine goes_ Tryz.func59 q9_ rfl #[.string t266] (by rfl) rfl rfl tS ?_
     with_reducible refine (filter_HideRedirect.calls t266 t314 t315 t316 t319 t322 _ A17.out).mono ?_
     rintro e w50 ⟨v317, v320, rfl, ho0, ho1, hb⟩
     refine ⟨_, rfl, ?_⟩
     have n0_ := Aside0.mk (Kd.R_elder' q22_ (Kd.R_base ho0) hb)
     have n1_ := Aside0.mk (Kd.R_elder' q23_ (Kd.R_base ho1) hb)
     have n2_ := Aside0.mk (Kd.R_elder' q24_ (Kd.R_base ho0) hb)
     have n3_ := Aside0.mk (Kd.R_elder' q25_ (Kd.R_base ho1) hb)
     have n4_ := Aside0.mk (Kd.R_elder' q39_ (Kd.R_base ho0) hb)
     have n5_ := Aside0.mk (Kd.R_elder' (by (with_reducible repeat (first | apply Kd.R_alloc | apply Kd.R_drewN | apply Kd.R_drew)); exact HO282.out) (Kd.R_base ho1) hb)
     have n6_ := Aside0.mk (Kd.R_elder' (by (with_reducible repeat (first | apply Kd.R_alloc | apply Kd.R_drewN | apply Kd.R_drew)); exact HO288.out) (Kd.R_base ho0) hb)
     have n7_ := Aside0.mk (Kd.R_elder' (by (with_reducible repeat (first | apply Kd.R_alloc | apply Kd.R_drewN | apply Kd.R_drew)); exact HO291.out) (Kd.R_base ho1) hb)
     have n8_ := Aside0.mk (Kd.R_elder' (by (with_reducible repeat (first | apply Kd.R_alloc | apply Kd.R_drewN | apply Kd.R_drew)); exact HO298.out) (Kd.R_base ho0) hb)
     have n9_ := Aside0.mk (Kd.R_elder' (by (with_reducible repeat (first | apply Kd.R_alloc | apply Kd.R_drewN | apply Kd.R_drew)); exact HO301.out) (Kd.R_base ho1) hb)
     have n10_ := Aside0.mk (Kd.R_elder' (by (with_reducible repeat (first | apply Kd.R_alloc | apply Kd.R_drewN | apply Kd.R_drew)); exact HO307.out) (Kd.R_base ho0) hb)
     have n11_ := Aside0.mk (Kd.R_elder' (by (with_reducible repeat (first | apply Kd.R_alloc | apply Kd.R_drewN | apply Kd.R_drew)); exact HO310.out) (Kd.R_base ho1) hb)
     have n12_ := Aside0.mk (Kd.R_lower (Kd.R_new' (Kd.R_new' (Kd.R_new' (Kd.R_new' (Kd.R_new' (Kd.R_new' ho0 (Kd.R_lt q22_)) (Kd.R_lt q24_)) (Kd.R_lt q39_)) (Kd.R_lt (by (with_reducible repeat (first | apply Kd.R_alloc | apply Kd.R_drewN | apply Kd.R_drew)); exact HO288.out))) (Kd.R_lt (by (with_reducible repeat (first | apply Kd.R_alloc | apply Kd.R_drewN | apply Kd.R_drew)); exact HO298.out))) (Kd.R_lt (by (with_reducible repeat (first | apply Kd.R_alloc | apply Kd.R_drewN | apply Kd.R_drew)); exact HO307.out))) (below_size q6_))
     have n13_ := Aside0.mk (Kd.R_lower (Kd.R_new' (Kd.R_new' (Kd.R_new' (Kd.R_new' (Kd.R_new' (Kd.R_new' ho1 (Kd.R_lt q23_)) (Kd.R_lt q25_)) (Kd.R_lt (by (with_reducible repeat (first | apply Kd.R_alloc | apply Kd.R_drewN | apply Kd.R_drew)); exact HO282.out))) (Kd.R_lt (by (with_reducible repeat (first | apply Kd.R_alloc | apply Kd.R_drewN | apply Kd.R_drew)); exact HO291.out))) (Kd.R_lt (by (with_reducible repeat (first | apply Kd.R_alloc | apply Kd.R_drewN | apply Kd.R_drew)); exact HO301.out))) (Kd.R_lt (by (with_reducible repeat (first | apply Kd.R_alloc | apply Kd.R_drewN | apply Kd.R_drew)); exact HO310.out))) (below_size q6_))
     have n14_ := Aside0.mk (blk_below (g := gb258) (o := .cells #[.int .i64 t259, .slice Ao25 t260.length co25, .slice Ao26 t263.length co26] 28 (0, 0)) q27_ hb)
     have n15_ := Aside0.mk (blk_below (g := gb274) (o := .cells #[.int .i64 t267, .slice Ao31 t268.length co31, .slice Ao32 t271.length co32] 28 (0, 0)) (by (with_reducible repeat (first | refine blk_drewN ?_ _ | refine blk_drew ?_ | refine blk_alloc ?_ _)); exact BK274.out) hb)
     have n16_ := Aside0.mk (below_step q6_ hb)
     clear HO262
     clear HO265
     clear HO270
     clear HO273
     clear HO279
     clear HO282
     clear HO288
     clear HO291
     clear HO298
     clear HO301
     clear HO307
     clear HO310
     clear BK258
     clear BK274
     clear HB
     have HO262 := n0_
     have HO265 := n1_
     have HO270 := n2_
     have HO273 := n3_
     have HO279 := n4_
     have HO282 := n5_
     have HO288 := n6_
     have HO291 := n7_
     have HO298 := n8_
     have HO301 := n9_
     have HO307 := n10_
     have HO310 := n11_
     have HO318 := n12_
     have HO321 := n13_
     have BK258 := n14_
     have BK274 := n15_
     have HB := n16_
     clear n0_ n1_ n2_ n3_ n4_ n5_ n6_ n7_ n8_ n9_ n10_ n11_ n12_ n13_ n14_ n15_ n16_
     (try clear hb)
     (try clear hb2)
     (try clear hk)
     (try clear hi)
     (try clear ho0)
     (try clear ho1)
     obtain ⟨Ao51, co51, eo51⟩ := Kd.R_slice HO318.out
     (first | subst eo51 | (injection eo51 with f1_ f2_ f3_; have f4_ := f1_.symm; have f5_ := f3_.symm; clear f1_ f2_ f3_; subst f4_; subst f5_))
     obtain ⟨Ao52, co52, eo52⟩ := Kd.R_slice HO321.out
     (first | subst eo52 | (injection eo52 with f1_ f2_ f3_; have f4_ := f1_.symm; have f5_ := f3_.symm; clear f1_ f2_ f3_; subst f4_; subst f5_))
     refine hK.out _ _ ⟨(blk_cell BK258.out 0).trans rfl, (blk_cell BK258.out 1).trans rfl, (blk_cell BK258.out 2).trans rfl, (blk_cell BK274.out 0).trans rfl, (blk_cell BK274.out 1).trans rfl, (blk_cell BK274.out 2).trans rfl⟩ (fun hHeld => ?_)
     clear hK K
     refine norm_ (a' := ?_) ?_ ?_
     rotate_left
     ·show Act.put _ (some 39) _ = _
      simp only [Act.put, List.setIfInBounds_toArray, List.set_cons_zero, List.set_cons_succ, i64_w, i32_w]
      rfl
     refine one_ (i := 28) (N := some 42) #[true, true, true, true, true, true, true, true, true, true, true, true, true, true, true, true, true, true, true, true, true, true, true, true, true, true, true, true, true, false, false, false, false, false] rfl rfl (one_of HT_.out q9_) (by decide) (fun K hK => ?_)
     refine goes_ Tryz.func54 q9_ rfl #[.agg #[.int .i64 t314, .int .i64 t315, .slice Ao51 t316.length co51, .slice Ao52 t319.length co52, .string t322], .agg #[.int .i64 5, .int .i64 0, .slice none 0 0, .slice none 0 0, .string t266]] (by rfl) rfl rfl tS ?_
     refine (ostiarykeep_SameResponse.calls k t314 t315 _ _ t316 _ _ t319 t322 5 0 _ _ ([] : List (S30)) _ _ ([] : List Int) t266 true _ ?side1 ?side2 ?side3 ?side4 ?side5 ?side6 ?side7 ?side8 A18.out).mono ?_
     (case side1 => repeat (first | exact (Kd.R_reads' HO318.out).2.2 | (with_reducible refine Kd.C_alloc ?_ _) | (with_reducible refine Kd.C_drewN ?_ _) | (with_reducible refine Kd.C_drew ?_)))
     (case side2 => exact (Kd.R_reads' HO318.out).2.1)
     (case side3 => repeat (first | exact (Kd.R_reads' HO321.out).2.2 | (with_reducible refine Kd.C_alloc ?_ _) | (with_reducible refine Kd.C_drewN ?_ _) | (with_reducible refine Kd.C_drew ?_)))
     (case side4 => exact (Kd.R_reads' HO321.out).2.1)
     (case side5 => exact Kd.C_nil _ _)
     (case side6 => exact Nat.le_refl _)
     (case side7 => exact Kd.C_nil _ _)
     (case side8 => exact Nat.le_refl _)
     rintro e w53 ⟨rfl, hb⟩
     refine ⟨_, rfl, ?_⟩
     have n0_ := Aside0.mk (Kd.R_below q22_ hb)
     have n1_ := Aside0.mk (Kd.R_below q23_ hb)
     have n2_ := Aside0.mk (Kd.R_below q24_ hb)
     have n3_ := Aside0.mk (Kd.R_below q25_ hb)
     have n4_ := Aside0.mk (Kd.R_below q39_ hb)
     have n5_ := Aside0.mk (Kd.R_below (by (with_reducible repeat (first | apply Kd.R_alloc | apply Kd.R_drewN | apply Kd.R_drew)); exact HO282.out) hb)
     have n6_ := Aside0.mk (Kd.R_below (by (with_reducible repeat (first | apply Kd.R_alloc | apply Kd.R_drewN | apply Kd.R_drew)); exact HO288.out) hb)
     have n7_ := Aside0.mk (Kd.R_below (by (with_reducible repeat (first | apply Kd.R_alloc | apply Kd.R_drewN | apply Kd.R_drew)); exact HO291.out) hb)
     have n8_ := Aside0.mk (Kd.R_below (by (with_reducible repeat (first | apply Kd.R_alloc | apply Kd.R_drewN | apply Kd.R_drew)); exact HO298.out) hb)
     have n9_ := Aside0.mk (Kd.R_below (by (with_reducible repeat (first | apply Kd.R_alloc | apply Kd.R_drewN | apply Kd.R_drew)); exact HO301.out) hb)
     have n10_ := Aside0.mk (Kd.R_below (by (with_reducible repeat (first | apply Kd.R_alloc | apply Kd.R_drewN | apply Kd.R_drew)); exact HO307.out) hb)
     have n11_ := Aside0.mk (Kd.R_below (by (with_reducible repeat (first | apply Kd.R_alloc | apply Kd.R_drewN | apply Kd.R_drew)); exact HO310.out) hb)
     have n12_ := Aside0.mk (Kd.R_below (by (with_reducible repeat (first | apply Kd.R_alloc | apply Kd.R_drewN | apply Kd.R_drew)); exact HO318.out) hb)
     have n13_ := Aside0.mk (Kd.R_below (by (with_reducible repeat (first | apply Kd.R_alloc | apply Kd.R_drewN | apply Kd.R_drew)); exact HO321.out) hb)
     have n14_ := Aside0.mk (blk_below (g := gb258) (o := .cells #[.int .i64 t259, .slice Ao25 t260.length co25, .slice Ao26 t263.length co26] 28 (0, 0)) q27_ hb)
     have n15_ := Aside0.mk (blk_below (g := gb274) (o := .cells #[.int .i64 t267, .slice Ao31 t268.length co31, .slice Ao32 t271.length co32] 28 (0, 0)) (by (with_reducible repeat (first | refine blk_drewN ?_ _ | refine blk_drew ?_ | refine blk_alloc ?_ _)); exact BK274.out) hb)
     have n16_ := Aside0.mk (below_step q6_ hb)
     clear HO262
     clear HO265
     clear HO270
     clear HO273
     clear HO279
     clear HO282
     clear HO288
     clear HO291
     clear HO298
     clear HO301
     clear HO307
     clear HO310
     clear HO318
     clear HO321
     clear BK258
     clear BK274
     clear HB
     have HO262 := n0_
     have HO265 := n1_
     have HO270 := n2_
     have HO273 := n3_
     have HO279 := n4_
     have HO282 := n5_
     have HO288 := n6_
     have HO291 := n7_
     have HO298 := n8_
     have HO301 := n9_
     have HO307 := n10_
     have HO310 := n11_
     have HO318 := n12_
     have HO321 := n13_
     have BK258 := n14_
     have BK274 := n15_
     have HB := n16_
     clear n0_ n1_ n2_ n3_ n4_ n5_ n6_ n7_ n8_ n9_ n10_ n11_ n12_ n13_ n14_ n15_ n16_
     (try clear hb)
     (try clear hb2)
     (try clear hk)
     (try clear hi)
     refine hK.out _ _ ⟨(blk_cell BK258.out 0).trans rfl, (blk_cell BK258.out 1).trans rfl, (blk_cell BK258.out 2).trans rfl, (blk_cell BK274.out 0).trans rfl, (blk_cell BK274.out 1).trans rfl, (blk_cell BK274.out 2).trans rfl⟩ (fun hHeld => ?_)
     clear hK K
     refine norm_ (a' := ?_) ?_ ?_
     rotate_left
     ·show Act.put _ (some 42) _ = _
      simp only [Act.put, List.setIfInBounds_toArray, List.set_cons_zero, List.set_cons_succ, i64_w, i32_w]
      rfl
     refine pure_ (i := 29) (N := some 43) (v := ?_) (a' := ?_) #[true, true, true, true, true, true, true, true, true, true, true, true, true, true, true, true, true, true, true, true, true, true, true, true, true, true, true, true, true, true, false, false, false, false] rfl rfl (any_of HT_.out q9_) (fun _ _ _ h => h) (Or.inl ⟨by rfl, ?_⟩) ?_ ?_
     rotate_left
     ·intro w'
      go_simp
      with_reducible rfl
     rotate_left
     ·simp only [Act.put, List.setIfInBounds_toArray, List.set_cons_zero, List.set_cons_succ, i64_w, i32_w]
      rfl
     refine pure_ (i := 30) (N := some 44) (v := ?_) (a' := ?_) #[true, true, true, true, true, true, true, true, true, true, true, true, true, true, true, true, true, true, true, true, true, true, true, true, true, true, true, true, true, true, true, false, false, false] rfl rfl (any_of HT_.out q9_) (fun _ _ _ h => h) (Or.inl ⟨by rfl, ?_⟩) ?_ ?_
     rotate_left
     ·intro w'
      go_simp
      with_reducible rfl
     rotate_left
     ·simp only [Act.put, List.setIfInBounds_toArray, List.set_cons_zero, List.set_cons_succ, i64_w, i32_w]
      rfl
     refine one_ (i := 31) (N := some 45) #[true, true, true, true, true, true, true, true, true, true, true, true, true, true, true, true, true, true, true, true, true, true, true, true, true, true, true, true, true, true, true, true, false, false] rfl rfl (one_of HT_.out q9_) (by decide) (fun K hK => ?_)
     refine goes_ Tryz.func60 q9_ rfl #[] (by rfl) rfl rfl tS ?_
     with_reducible refine (ostiarylaw20_known.calls k _ A20.out).mono ?_
     rintro e w54 ⟨rfl, hb⟩
     refine ⟨_, rfl, ?_⟩
     have n0_ := Aside0.mk (Kd.R_below q22_ hb)
     have n1_ := Aside0.mk (Kd.R_below q23_ hb)
     have n2_ := Aside0.mk (Kd.R_below q24_ hb)
     have n3_ := Aside0.mk (Kd.R_below q25_ hb)
     have n4_ := Aside0.mk (Kd.R_below q39_ hb)
     have n5_ := Aside0.mk (Kd.R_below (by (with_reducible repeat (first | apply Kd.R_alloc | apply Kd.R_drewN | apply Kd.R_drew)); exact HO282.out) hb)
     have n6_ := Aside0.mk (Kd.R_below (by (with_reducible repeat (first | apply Kd.R_alloc | apply Kd.R_drewN | apply Kd.R_drew)); exact HO288.out) hb)
     have n7_ := Aside0.mk (Kd.R_below (by (with_reducible repeat (first | apply Kd.R_alloc | apply Kd.R_drewN | apply Kd.R_drew)); exact HO291.out) hb)
     have n8_ := Aside0.mk (Kd.R_below (by (with_reducible repeat (first | apply Kd.R_alloc | apply Kd.R_drewN | apply Kd.R_drew)); exact HO298.out) hb)
     have n9_ := Aside0.mk (Kd.R_below (by (with_reducible repeat (first | apply Kd.R_alloc | apply Kd.R_drewN | apply Kd.R_drew)); exact HO301.out) hb)
     have n10_ := Aside0.mk (Kd.R_below (by (with_reducible repeat (first | apply Kd.R_alloc | apply Kd.R_drewN | apply Kd.R_drew)); exact HO307.out) hb)
     have n11_ := Aside0.mk (Kd.R_below (by (with_reducible repeat (first | apply Kd.R_alloc | apply Kd.R_drewN | apply Kd.R_drew)); exact HO310.out) hb)
     have n12_ := Aside0.mk (Kd.R_below (by (with_reducible repeat (first | apply Kd.R_alloc | apply Kd.R_drewN | apply Kd.R_drew)); exact HO318.out) hb)
     have n13_ := Aside0.mk (Kd.R_below (by (with_reducible repeat (first | apply Kd.R_alloc | apply Kd.R_drewN | apply Kd.R_drew)); exact HO321.out) hb)
     have n14_ := Aside0.mk (blk_below (g := gb258) (o := .cells #[.int .i64 t259, .slice Ao25 t260.length co25, .slice Ao26 t263.length co26] 28 (0, 0)) q27_ hb)
     have n15_ := Aside0.mk (blk_below (g := gb274) (o := .cells #[.int .i64 t267, .slice Ao31 t268.length co31, .slice Ao32 t271.length co32] 28 (0, 0)) (by (with_reducible repeat (first | refine blk_drewN ?_ _ | refine blk_drew ?_ | refine blk_alloc ?_ _)); exact BK274.out) hb)
     have n16_ := Aside0.mk (below_step q6_ hb)
     clear HO262
     clear HO265
     clear HO270
     clear HO273
     clear HO279
     clear HO282
     clear HO288
     clear HO291
     clear HO298
     clear HO301
     clear HO307
     clear HO310
     clear HO318
     clear HO321
     clear BK258
     clear BK274
     clear HB
     have HO262 := n0_
     have HO265 := n1_
     have HO270 := n2_
     have HO273 := n3_
     have HO279 := n4_
     have HO282 := n5_
     have HO288 := n6_
     have HO291 := n7_
     have HO298 := n8_
     have HO301 := n9_
     have HO307 := n10_
     have HO310 := n11_
     have HO318 := n12_
     have HO321 := n13_
     have BK258 := n14_
     have BK274 := n15_
     have HB := n16_
     clear n0_ n1_ n2_ n3_ n4_ n5_ n6_ n7_ n8_ n9_ n10_ n11_ n12_ n13_ n14_ n15_ n16_
     (try clear hb)
     (try clear hb2)
     (try clear hk)
     (try clear hi)
     refine hK.out _ _ ⟨(blk_cell BK258.out 0).trans rfl, (blk_cell BK258.out 1).trans rfl, (blk_cell BK258.out 2).trans rfl, (blk_cell BK274.out 0).trans rfl, (blk_cell BK274.out 1).trans rfl, (blk_cell BK274.out 2).trans rfl⟩ (fun hHeld => ?_)
     clear hK K
     refine norm_ (a' := ?_) ?_ ?_
     rotate_left
     ·show Act.put _ (some 45) _ = _
      simp only [Act.put, List.setIfInBounds_toArray, List.set_cons_zero, List.set_cons_succ, i64_w, i32_w]
      rfl
     refine pure_ (i := 32) (N := some 46) (v := ?_) (a' := ?_) #[true, true, true, true, true, true, true, true, true, true, true, true, true, true, true, true, true, true, true, true, true, true, true, true, true, true, true, true, true, true, true, true, true, false] rfl rfl (any_of HT_.out q9_) (fun _ _ _ h => h) (Or.inl ⟨by rfl, ?_⟩) ?_ ?_
     rotate_left
     ·intro w'
      go_simp
      with_reducible rfl
     rotate_left
     ·simp only [Act.put, List.setIfInBounds_toArray, List.set_cons_zero, List.set_cons_succ, i64_w, i32_w]
      rfl
     refine pure_ (i := 33) (N := some 6) (v := ?_) (a' := ?_) #[true, true, true, true, true, true, true, true, true, true, true, true, true, true, true, true, true, true, true, true, true, true, true, true, true, true, true, true, true, true, true, true, true, true] rfl rfl (any_of HT_.out q9_) (fun _ _ _ h => h) (Or.inl ⟨by rfl, ?_⟩) ?_ ?_
     rotate_left
     ·intro w'
      go_simp
      with_reducible rfl
     rotate_left
     ·simp only [Act.put, List.setIfInBounds_toArray, List.set_cons_zero, List.set_cons_succ, i64_w, i32_w]
      rfl
     refine done_ (done_of HT_.out q9_) ?_
     try go_wp2
     go_ret
     exact ⟨by first | rfl | (simp [errW_none, errW_some] <;> rfl) | (simp [*, errW_none, errW_some] <;> rfl), by repeat (first | (with_reducible first | exact HB.out | apply below_alloc | apply pw_below_drewN | apply below_drew1 | refine below_set ?_ GE258.out | refine below_set ?_ GE274.out) | exact HB.out)⟩
    ·replace c19 := Bool.eq_false_iff.mpr c19
     subst c19
     have H1 : (some false) = some true := by rw [if_neg (show ¬ (false = true) by decide)] at H; exact H
     clear H
     have H := H1
     clear H1
     cases H
   ·replace c16 := Bool.eq_false_iff.mpr c16
    subst c16
    have H1 : (some false) = some true := by rw [if_neg (show ¬ (false = true) by decide)] at H; exact H
    clear H
    have H := H1
    clear H1
    cases H
  ·replace c14 := Bool.eq_false_iff.mpr c14
   subst c14
   have H1 : (some false) = some true := by rw [if_neg (show ¬ (false = true) by decide)] at H; exact H
   clear H
   have H := H1
   clear H1
   cases H
 ·replace c10 := Bool.eq_false_iff.mpr c10
  subst c10
  have H1 : (some false) = some true := by rw [if_neg (show ¬ (false = true) by decide)] at H; exact H
  clear H
  have H := H1
  clear H1
  cases H
end Go.Proofs.YtifmkgkiipckbaaGreatDoor.P
