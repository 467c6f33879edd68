/- A part of the proof of CorsLess: texts of walks and plain lemmas. -/
import Derived.Test.YtifmkgkiipckbaaDoorX1
import Derived.Test.YtifmkgkiipckbaaDoorX2
import Derived.Test.YtifmkgkiipckbaaDoorX3
import Derived.Test.YtifmkgkiipckbaaDoorX4
import Derived.Test.YtifmkgkiipckbaaDoorX5
import Derived.Test.YtifmkgkiipckbaaDoorX6
import Derived.Test.YtifmkgkiipckbaaDoorX9
namespace Go.Proofs.YtifmkgkiipckbaaDoor.P
open Go.RowKit Go.Proofs.YtifmkgkiipckbaaDoorW.PrintWords Go.Proofs.YtifmkgkiipckbaaDoorW.PrintLast Go.Proofs.YtifmkgkiipckbaaDoorW.PrintMore
attribute [local go_sem] max2_int min2_int max_two min_two max_three min_three max_four min_four
set_option linter.unusedVariables false
set_option linter.unusedSimpArgs false
mutual
def ostiaryref2_Parse.l1 : Nat → ByteArray → Int → Option (ByteArray × Bool)
 | 0, _, _ => none
 | k + 1, x0, x9 => if x9 < (x0.size : Int) then (if 0 ≤ x9 then (if (bt x0 x9) > 126 then (some ((⟨#[]⟩ : ByteArray), false)) else (if (bt x0 x9) < 33 then (some ((⟨#[]⟩ : ByteArray), false)) else (if (bt x0 x9) = 37 then (some ((⟨#[]⟩ : ByteArray), false)) else ((ostiaryref2_bad.f k (bt x0 x9)).bind fun t406 => (if t406 = true then (some ((⟨#[]⟩ : ByteArray), false)) else (ostiaryref2_Parse.l1 k x0 (wrap64 (x9 + 1)))))))) else (none)) else ((ostiaryref1_Cut.f k x0 46).bind fun t407 => (ostiaryref2_Parse.l2 k x0 t407 0))
def ostiaryref2_Parse.l2 : Nat → ByteArray → List ByteArray → Int → Option (ByteArray × Bool)
 | 0, _, _, _ => none
 | k + 1, x0, x10, x11 => if x11 < (x10.length : Int) then (if 0 ≤ x11 then ((ostiaryref1_Begins.f (rdOf ByteArray.empty x10 x11) (⟨#[120, 110, 45, 45]⟩ : ByteArray)).bind fun t411 => (if t411 = true then (some ((⟨#[]⟩ : ByteArray), false)) else (ostiaryref2_Parse.l2 k x0 x10 (wrap64 (x11 + 1))))) else (none)) else (if x0.toList = ([] : List UInt8) then (some ((⟨#[]⟩ : ByteArray), false)) else ((ostiaryref2_Numbered.f k x0).bind fun t412 => (if t412 = true then ((ostiaryref2_Four.f k x0).bind fun bt413 => (if bt413.2 = true then ((ostiaryref2_Text4.f k bt413.1).bind fun t415 => (some (t415, true))) else (some ((⟨#[]⟩ : ByteArray), false)))) else (some (x0, true)))))
def ostiaryref2_Parse.l0 : Nat → ByteArray → Int → Option (ByteArray × Bool)
 | 0, _, _ => none
 | k + 1, x0, x8 => if x8 < (x0.size : Int) then (if 0 ≤ x8 then ((ostiaryref2_bad.f k (bt x0 x8)).bind fun t402 => (if t402 = true then (some ((⟨#[]⟩ : ByteArray), false)) else (ostiaryref2_Parse.l0 k x0 (wrap64 (x8 + 1))))) else (none)) else ((ostiaryref1_Percent.f k x0 1).bind fun t403 => (some (t403, true)))
end
def ostiaryref2_Parse.f (k : Nat) (a0 : ByteArray) (a1 : Bool) : Option (ByteArray × Bool) := (ostiaryref1_Begins.f a0 (⟨#[91]⟩ : ByteArray)).bind fun t389 => (if t389 = true then ((ostiaryref1_Ends.f a0 (⟨#[93]⟩ : ByteArray)).bind fun t390 => (if t390 = true then (if 1 ≤ (wrap64 ((a0.size : Int) - 1)) then (if (wrap64 ((a0.size : Int) - 1)) ≤ (a0.size : Int) then ((ostiaryref2_Six.f (a0.extract 1 ((wrap64 ((a0.size : Int) - 1)) : Int).toNat)).bind fun bt391 => (if bt391.2.2.2.2.2.2.2.2 = true then ((ostiaryref2_Text6.f bt391.1 bt391.2.1 bt391.2.2.1 bt391.2.2.2.1 bt391.2.2.2.2.1 bt391.2.2.2.2.2.1 bt391.2.2.2.2.2.2.1 bt391.2.2.2.2.2.2.2.1).bind fun t401 => (if 1 + t401.size ≤ 9223372036854775807 then (if ((⟨#[91]⟩ : ByteArray) ++ t401).size + 1 ≤ 9223372036854775807 then (some (((⟨#[91]⟩ : ByteArray) ++ t401) ++ (⟨#[93]⟩ : ByteArray), true)) else (none)) else (none))) else (some ((⟨#[]⟩ : ByteArray), false)))) else (none)) else (none)) else (some ((⟨#[]⟩ : ByteArray), false)))) else (if a1 = true then ((ostiaryref1_Unpercent.f k a0).bind fun t404 => ((ostiaryref1_Lower.f t404).bind fun t405 => (ostiaryref2_Parse.l1 k t405 0))) else (ostiaryref2_Parse.l0 k a0 0)))
theorem ostiaryref2_Parse.mono_l : ∀ k, (∀ y0 y1, LeO (ostiaryref2_Parse.l1 k y0 y1) (ostiaryref2_Parse.l1 (k + 1) y0 y1)) ∧ (∀ y0 y1 y2, LeO (ostiaryref2_Parse.l2 k y0 y1 y2) (ostiaryref2_Parse.l2 (k + 1) y0 y1 y2)) ∧ (∀ y0 y1, LeO (ostiaryref2_Parse.l0 k y0 y1) (ostiaryref2_Parse.l0 (k + 1) y0 y1))
 | 0 => ⟨fun _ _ r h => by simp [ostiaryref2_Parse.l1] at h, fun _ _ _ r h => by simp [ostiaryref2_Parse.l2] at h, fun _ _ r h => by simp [ostiaryref2_Parse.l0] at h⟩
 | k + 1 => by
  obtain ⟨ih0, ih1, ih2⟩ := ostiaryref2_Parse.mono_l k
  refine ⟨?_, ?_, ?_⟩
  ·intro y0 y1
   unfold ostiaryref2_Parse.l1
   repeat' first
   | (with_reducible exact ih0 _ _)
   | (with_reducible exact ih1 _ _ _)
   | (with_reducible exact ih2 _ _)
   | (with_reducible exact ostiaryref1_Cut.mono _ _ _)
   | (with_reducible exact ostiaryref1_Percent.mono _ _ _)
   | (with_reducible exact ostiaryref1_Unpercent.mono _ _)
   | (with_reducible exact ostiaryref2_Four.mono _ _)
   | (with_reducible exact ostiaryref2_Numbered.mono _ _)
   | (with_reducible exact ostiaryref2_Text4.mono _ _)
   | (with_reducible exact ostiaryref2_bad.mono _ _)
   | (with_reducible exact LeO.refl _)
   | (with_reducible exact LeO.none _)
   | (with_reducible refine LeO.ite ?_ ?_)
   | (with_reducible refine LeO.bind ?_ (fun _ => ?_))
   | exact ih0 _ _
   | exact ih1 _ _ _
   | exact ih2 _ _
   | exact ostiaryref1_Cut.mono _ _ _
   | exact ostiaryref1_Percent.mono _ _ _
   | exact ostiaryref1_Unpercent.mono _ _
   | exact ostiaryref2_Four.mono _ _
   | exact ostiaryref2_Numbered.mono _ _
   | exact ostiaryref2_Text4.mono _ _
   | exact ostiaryref2_bad.mono _ _
   | exact LeO.none _
   | refine LeO.ite ?_ ?_
   | refine LeO.bind ?_ (fun _ => ?_)
  ·intro y0 y1 y2
   unfold ostiaryref2_Parse.l2
   repeat' first
   | (with_reducible exact ih0 _ _)
   | (with_reducible exact ih1 _ _ _)
   | (with_reducible exact ih2 _ _)
   | (with_reducible exact ostiaryref1_Cut.mono _ _ _)
   | (with_reducible exact ostiaryref1_Percent.mono _ _ _)
   | (with_reducible exact ostiaryref1_Unpercent.mono _ _)
   | (with_reducible exact ostiaryref2_Four.mono _ _)
   | (with_reducible exact ostiaryref2_Numbered.mono _ _)
   | (with_reducible exact ostiaryref2_Text4.mono _ _)
   | (with_reducible exact ostiaryref2_bad.mono _ _)
   | (with_reducible exact LeO.refl _)
   | (with_reducible exact LeO.none _)
   | (with_reducible refine LeO.ite ?_ ?_)
   | (with_reducible refine LeO.bind ?_ (fun _ => ?_))
   | exact ih0 _ _
   | exact ih1 _ _ _
   | exact ih2 _ _
   | exact ostiaryref1_Cut.mono _ _ _
   | exact ostiaryref1_Percent.mono _ _ _
   | exact ostiaryref1_Unpercent.mono _ _
   | exact ostiaryref2_Four.mono _ _
   | exact ostiaryref2_Numbered.mono _ _
   | exact ostiaryref2_Text4.mono _ _
   | exact ostiaryref2_bad.mono _ _
   | exact LeO.none _
   | refine LeO.ite ?_ ?_
   | refine LeO.bind ?_ (fun _ => ?_)
  ·intro y0 y1
   unfold ostiaryref2_Parse.l0
   repeat' first
   | (with_reducible exact ih0 _ _)
   | (with_reducible exact ih1 _ _ _)
   | (with_reducible exact ih2 _ _)
   | (with_reducible exact ostiaryref1_Cut.mono _ _ _)
   | (with_reducible exact ostiaryref1_Percent.mono _ _ _)
   | (with_reducible exact ostiaryref1_Unpercent.mono _ _)
   | (with_reducible exact ostiaryref2_Four.mono _ _)
   | (with_reducible exact ostiaryref2_Numbered.mono _ _)
   | (with_reducible exact ostiaryref2_Text4.mono _ _)
   | (with_reducible exact ostiaryref2_bad.mono _ _)
   | (with_reducible exact LeO.refl _)
   | (with_reducible exact LeO.none _)
   | (with_reducible refine LeO.ite ?_ ?_)
   | (with_reducible refine LeO.bind ?_ (fun _ => ?_))
   | exact ih0 _ _
   | exact ih1 _ _ _
   | exact ih2 _ _
   | exact ostiaryref1_Cut.mono _ _ _
   | exact ostiaryref1_Percent.mono _ _ _
   | exact ostiaryref1_Unpercent.mono _ _
   | exact ostiaryref2_Four.mono _ _
   | exact ostiaryref2_Numbered.mono _ _
   | exact ostiaryref2_Text4.mono _ _
   | exact ostiaryref2_bad.mono _ _
   | exact LeO.none _
   | refine LeO.ite ?_ ?_
   | refine LeO.bind ?_ (fun _ => ?_)
theorem ostiaryref2_Parse.mono : ∀ a0 a1 k, LeO (ostiaryref2_Parse.f k a0 a1) (ostiaryref2_Parse.f (k + 1) a0 a1) := by
 intro a0 a1 k
 obtain ⟨ih0, ih1, ih2⟩ := ostiaryref2_Parse.mono_l k
 unfold ostiaryref2_Parse.f
 repeat' first
   | (with_reducible exact ih0 _ _)
   | (with_reducible exact ih1 _ _ _)
   | (with_reducible exact ih2 _ _)
   | (with_reducible exact ostiaryref1_Cut.mono _ _ _)
   | (with_reducible exact ostiaryref1_Percent.mono _ _ _)
   | (with_reducible exact ostiaryref1_Unpercent.mono _ _)
   | (with_reducible exact ostiaryref2_Four.mono _ _)
   | (with_reducible exact ostiaryref2_Numbered.mono _ _)
   | (with_reducible exact ostiaryref2_Text4.mono _ _)
   | (with_reducible exact ostiaryref2_bad.mono _ _)
   | (with_reducible exact LeO.refl _)
   | (with_reducible exact LeO.none _)
   | (with_reducible refine LeO.ite ?_ ?_)
   | (with_reducible refine LeO.bind ?_ (fun _ => ?_))
   | exact ih0 _ _
   | exact ih1 _ _ _
   | exact ih2 _ _
   | exact ostiaryref1_Cut.mono _ _ _
   | exact ostiaryref1_Percent.mono _ _ _
   | exact ostiaryref1_Unpercent.mono _ _
   | exact ostiaryref2_Four.mono _ _
   | exact ostiaryref2_Numbered.mono _ _
   | exact ostiaryref2_Text4.mono _ _
   | exact ostiaryref2_bad.mono _ _
   | exact LeO.none _
   | refine LeO.ite ?_ ?_
   | refine LeO.bind ?_ (fun _ => ?_)
set_option maxHeartbeats 8000000 in
set_option maxRecDepth 100000 in
theorem ostiaryref2_Parse.calls (k : Nat) (a0 : ByteArray) (a1 : Bool) (r1 : ByteArray) (r2 : Bool) (w : World) (h : ostiaryref2_Parse.f k a0 a1 = some (r1, r2)) :
  Calls Tryd.prog 182 #[.string a0, .bool a1] w fun e w' => e = .returned (.tuple #[.string r1, .bool r2]) ∧ Below w.heap.size w w' := by
 have hu246 := Tryd.underlying246
 have HB := Aside0.mk (Below.refl w.heap.size w)
 have H : ((ostiaryref1_Begins.f a0 (⟨#[91]⟩ : ByteArray)).bind fun t389 => (if t389 = true then ((ostiaryref1_Ends.f a0 (⟨#[93]⟩ : ByteArray)).bind fun t390 => (if t390 = true then (if 1 ≤ (wrap64 ((a0.size : Int) - 1)) then (if (wrap64 ((a0.size : Int) - 1)) ≤ (a0.size : Int) then ((ostiaryref2_Six.f (a0.extract 1 ((wrap64 ((a0.size : Int) - 1)) : Int).toNat)).bind fun bt391 => (if bt391.2.2.2.2.2.2.2.2 = true then ((ostiaryref2_Text6.f bt391.1 bt391.2.1 bt391.2.2.1 bt391.2.2.2.1 bt391.2.2.2.2.1 bt391.2.2.2.2.2.1 bt391.2.2.2.2.2.2.1 bt391.2.2.2.2.2.2.2.1).bind fun t401 => (if 1 + t401.size ≤ 9223372036854775807 then (if ((⟨#[91]⟩ : ByteArray) ++ t401).size + 1 ≤ 9223372036854775807 then (some (((⟨#[91]⟩ : ByteArray) ++ t401) ++ (⟨#[93]⟩ : ByteArray), true)) else (none)) else (none))) else (some ((⟨#[]⟩ : ByteArray), false)))) else (none)) else (none)) else (some ((⟨#[]⟩ : ByteArray), false)))) else (if a1 = true then ((ostiaryref1_Unpercent.f k a0).bind fun t404 => ((ostiaryref1_Lower.f t404).bind fun t405 => (ostiaryref2_Parse.l1 k t405 0))) else (ostiaryref2_Parse.l0 k a0 0)))) = some (r1, r2) := h
 clear h
 replace H := Option.bind_eq_some_iff.mp H
 obtain ⟨t389, A30, H⟩ := H
 replace H : (if t389 = true then ((ostiaryref1_Ends.f a0 (⟨#[93]⟩ : ByteArray)).bind fun t390 => (if t390 = true then (if 1 ≤ (wrap64 ((a0.size : Int) - 1)) then (if (wrap64 ((a0.size : Int) - 1)) ≤ (a0.size : Int) then ((ostiaryref2_Six.f (a0.extract 1 ((wrap64 ((a0.size : Int) - 1)) : Int).toNat)).bind fun bt391 => (if bt391.2.2.2.2.2.2.2.2 = true then ((ostiaryref2_Text6.f bt391.1 bt391.2.1 bt391.2.2.1 bt391.2.2.2.1 bt391.2.2.2.2.1 bt391.2.2.2.2.2.1 bt391.2.2.2.2.2.2.1 bt391.2.2.2.2.2.2.2.1).bind fun t401 => (if 1 + t401.size ≤ 9223372036854775807 then (if ((⟨#[91]⟩ : ByteArray) ++ t401).size + 1 ≤ 9223372036854775807 then (some (((⟨#[91]⟩ : ByteArray) ++ t401) ++ (⟨#[93]⟩ : ByteArray), true)) else (none)) else (none))) else (some ((⟨#[]⟩ : ByteArray), false)))) else (none)) else (none)) else (some ((⟨#[]⟩ : ByteArray), false)))) else (if a1 = true then ((ostiaryref1_Unpercent.f k a0).bind fun t404 => ((ostiaryref1_Lower.f t404).bind fun t405 => (ostiaryref2_Parse.l1 k t405 0))) else (ostiaryref2_Parse.l0 k a0 0))) = some (r1, r2) := H
 have A3 := Aside0.mk A30
 clear A30
 by_cases c4 : t389 = true
 ·subst c4
  have H1 : ((ostiaryref1_Ends.f a0 (⟨#[93]⟩ : ByteArray)).bind fun t390 => (if t390 = true then (if 1 ≤ (wrap64 ((a0.size : Int) - 1)) then (if (wrap64 ((a0.size : Int) - 1)) ≤ (a0.size : Int) then ((ostiaryref2_Six.f (a0.extract 1 ((wrap64 ((a0.size : Int) - 1)) : Int).toNat)).bind fun bt391 => (if bt391.2.2.2.2.2.2.2.2 = true then ((ostiaryref2_Text6.f bt391.1 bt391.2.1 bt391.2.2.1 bt391.2.2.2.1 bt391.2.2.2.2.1 bt391.2.2.2.2.2.1 bt391.2.2.2.2.2.2.1 bt391.2.2.2.2.2.2.2.1).bind fun t401 => (if 1 + t401.size ≤ 9223372036854775807 then (if ((⟨#[91]⟩ : ByteArray) ++ t401).size + 1 ≤ 9223372036854775807 then (some (((⟨#[91]⟩ : ByteArray) ++ t401) ++ (⟨#[93]⟩ : ByteArray), true)) else (none)) else (none))) else (some ((⟨#[]⟩ : ByteArray), false)))) else (none)) else (none)) else (some ((⟨#[]⟩ : ByteArray), false)))) = some (r1, r2) := by rw [if_pos rfl] at H; exact H
  clear H
  have H := H1
  clear H1
  replace H := Option.bind_eq_some_iff.mp H
  obtain ⟨t390, A50, H⟩ := H
  replace H : (if t390 = true then (if 1 ≤ (wrap64 ((a0.size : Int) - 1)) then (if (wrap64 ((a0.size : Int) - 1)) ≤ (a0.size : Int) then ((ostiaryref2_Six.f (a0.extract 1 ((wrap64 ((a0.size : Int) - 1)) : Int).toNat)).bind fun bt391 => (if bt391.2.2.2.2.2.2.2.2 = true then ((ostiaryref2_Text6.f bt391.1 bt391.2.1 bt391.2.2.1 bt391.2.2.2.1 bt391.2.2.2.2.1 bt391.2.2.2.2.2.1 bt391.2.2.2.2.2.2.1 bt391.2.2.2.2.2.2.2.1).bind fun t401 => (if 1 + t401.size ≤ 9223372036854775807 then (if ((⟨#[91]⟩ : ByteArray) ++ t401).size + 1 ≤ 9223372036854775807 then (some (((⟨#[91]⟩ : ByteArray) ++ t401) ++ (⟨#[93]⟩ : ByteArray), true)) else (none)) else (none))) else (some ((⟨#[]⟩ : ByteArray), false)))) else (none)) else (none)) else (some ((⟨#[]⟩ : ByteArray), false))) = some (r1, r2) := H
  have A5 := Aside0.mk A50
  clear A50
  by_cases c6 : t390 = true
  ·subst c6
   have H1 : (if 1 ≤ (wrap64 ((a0.size : Int) - 1)) then (if (wrap64 ((a0.size : Int) - 1)) ≤ (a0.size : Int) then ((ostiaryref2_Six.f (a0.extract 1 ((wrap64 ((a0.size : Int) - 1)) : Int).toNat)).bind fun bt391 => (if bt391.2.2.2.2.2.2.2.2 = true then ((ostiaryref2_Text6.f bt391.1 bt391.2.1 bt391.2.2.1 bt391.2.2.2.1 bt391.2.2.2.2.1 bt391.2.2.2.2.2.1 bt391.2.2.2.2.2.2.1 bt391.2.2.2.2.2.2.2.1).bind fun t401 => (if 1 + t401.size ≤ 9223372036854775807 then (if ((⟨#[91]⟩ : ByteArray) ++ t401).size + 1 ≤ 9223372036854775807 then (some (((⟨#[91]⟩ : ByteArray) ++ t401) ++ (⟨#[93]⟩ : ByteArray), true)) else (none)) else (none))) else (some ((⟨#[]⟩ : ByteArray), false)))) else (none)) else (none)) = some (r1, r2) := by rw [if_pos rfl] at H; exact H
   clear H
   have H := H1
   clear H1
   by_cases c7 : 1 ≤ (wrap64 ((a0.size : Int) - 1))
   ·rw [if_pos c7] at H
    have c7b0 := eq_true c7
    have c7b1 : decide (1 ≤ (wrap64 ((a0.size : Int) - 1))) = true := decide_eq_true c7
    clear c7
    by_cases c8 : (wrap64 ((a0.size : Int) - 1)) ≤ (a0.size : Int)
    ·rw [if_pos c8] at H
     have c8b0 := eq_true c8
     have c8b1 : decide ((wrap64 ((a0.size : Int) - 1)) ≤ (a0.size : Int)) = true := decide_eq_true c8
     clear c8
     replace H := Option.bind_eq_some_iff.mp H
     obtain ⟨⟨t391, t392, t393, t394, t395, t396, t397, t398, t399⟩, A90, H⟩ := H
     replace H : (if t399 = true then ((ostiaryref2_Text6.f t391 t392 t393 t394 t395 t396 t397 t398).bind fun t401 => (if 1 + t401.size ≤ 9223372036854775807 then (if ((⟨#[91]⟩ : ByteArray) ++ t401).size + 1 ≤ 9223372036854775807 then (some (((⟨#[91]⟩ : ByteArray) ++ t401) ++ (⟨#[93]⟩ : ByteArray), true)) else (none)) else (none))) else (some ((⟨#[]⟩ : ByteArray), false))) = some (r1, r2) := H
     have A9 := Aside0.mk A90
     clear A90
     by_cases c10 : t399 = true
     ·subst c10
      have H1 : ((ostiaryref2_Text6.f t391 t392 t393 t394 t395 t396 t397 t398).bind fun t401 => (if 1 + t401.size ≤ 9223372036854775807 then (if ((⟨#[91]⟩ : ByteArray) ++ t401).size + 1 ≤ 9223372036854775807 then (some (((⟨#[91]⟩ : ByteArray) ++ t401) ++ (⟨#[93]⟩ : ByteArray), true)) else (none)) else (none))) = some (r1, r2) := by rw [if_pos rfl] at H; exact H
      clear H
      have H := H1
      clear H1
      replace H := Option.bind_eq_some_iff.mp H
      obtain ⟨t401, A110, H⟩ := H
      replace H : (if 1 + t401.size ≤ 9223372036854775807 then (if ((⟨#[91]⟩ : ByteArray) ++ t401).size + 1 ≤ 9223372036854775807 then (some (((⟨#[91]⟩ : ByteArray) ++ t401) ++ (⟨#[93]⟩ : ByteArray), true)) else (none)) else (none)) = some (r1, r2) := H
      have A11 := Aside0.mk A110
      clear A110
      by_cases c12 : 1 + t401.size ≤ 9223372036854775807
      ·rw [if_pos c12] at H
       have c12b0 := eq_true c12
       have c12b1 : decide (1 + t401.size ≤ 9223372036854775807) = true := decide_eq_true c12
       try have c12b2 : (9223372036854775807 < 1 + t401.size) = False := eq_false (Nat.not_lt.2 c12)
       by_cases c13 : ((⟨#[91]⟩ : ByteArray) ++ t401).size + 1 ≤ 9223372036854775807
       ·rw [if_pos c13] at H
        have c13b0 := eq_true c13
        have c13b1 : decide (((⟨#[91]⟩ : ByteArray) ++ t401).size + 1 ≤ 9223372036854775807) = true := decide_eq_true c13
        have c13q := c13
        try simp only [ByteArray.size_append', ByteArray.size_mk', List.size_toArray, List.length_cons, List.length_nil, Nat.zero_add] at c13q
        have c13q0 := eq_true c13q
        have c13q1 := decide_eq_true c13q
        try have c13q2 := eq_false (Nat.not_lt.2 c13q)
        clear c13q
        try have c13b2 : (9223372036854775807 < ((⟨#[91]⟩ : ByteArray) ++ t401).size + 1) = False := eq_false (Nat.not_lt.2 c13)
        simp only [Option.some.injEq, Prod.mk.injEq] at H
        obtain ⟨rfl, rfl⟩ := H
        go_enter Tryd.func182, Tryd.ntmps182
        go_wp2_with (first | ((with_reducible refine gate_callee (f := 134) rfl ?_); refine goesL_ (some 15) rfl rfl Tryd.func134 q2_ rfl #[.string a0, .string (⟨#[91]⟩ : ByteArray)] rfl tS ?_; (with_reducible refine (ostiaryref1_Begins.calls a0 (⟨#[91]⟩ : ByteArray) true _ A3.out).mono ?_); rintro e w' ⟨rfl, ⟨nd, rfl⟩⟩; refine ⟨_, rfl, ?_⟩) | ((with_reducible refine gate_callee (f := 199) rfl ?_); refine goesL_ (some 17) rfl rfl Tryd.func199 q2_ rfl #[.string a0, .string (⟨#[93]⟩ : ByteArray)] rfl tS ?_; (with_reducible refine (ostiaryref1_Ends.calls a0 (⟨#[93]⟩ : ByteArray) true _ A5.out).mono ?_); rintro e w' ⟨rfl, ⟨nd, rfl⟩⟩; refine ⟨_, rfl, ?_⟩) | ((with_reducible refine gate_callee (f := 200) rfl ?_); refine goesL_ (some 25) rfl rfl Tryd.func200 q2_ rfl #[.string (a0.extract 1 ((wrap64 ((a0.size : Int) - 1)) : Int).toNat)] rfl tS ?_; (with_reducible refine (ostiaryref2_Six.calls (a0.extract 1 ((wrap64 ((a0.size : Int) - 1)) : Int).toNat) t391 t392 t393 t394 t395 t396 t397 t398 true _ A9.out).mono ?_); rintro e w14 ⟨rfl, hb⟩; refine ⟨_, rfl, ?_⟩; have n0_ := Aside0.mk (below_step hB hb); clear HB; have HB := n0_; clear n0_; (try clear hb); (try clear hb2); (try clear hk); (try clear hi)) | ((with_reducible refine gate_dst (N := 6) rfl ?_); refine box_event ?hg (N := 6) ?hd (cs := #[.int .u16 0, .int .u16 0, .int .u16 0, .int .u16 0, .int .u16 0, .int .u16 0, .int .u16 0, .int .u16 0]) (t := 246) ?hr ?_; (case hd => rfl); (case hg => rfl); (case hr => first | (go_simp; done) | (go_simp; rfl)); intro gb400 hg w15 hbox hb; have n0_ := Aside0.mk (below_step hB hb); have n1_ := Aside0.mk (hbox); have n2_ := Aside0.mk ((by rw [hg]; exact (below_size hB) : w.heap.size ≤ gb400)); have n3_ := Aside0.mk ((by rw [hg]; exact (below_size hB) : w.heap.size ≤ gb400)); clear HB; have HB := n0_; have BK400 := n1_; have GW400 := n2_; have GE400 := n3_; clear n0_ n1_ n2_ n3_; clear hb hbox hg; have hcz16_0 : w15.cell? ⟨gb400, 0, none⟩ = some (.int .u16 0) := (blk_cell BK400.out 0).trans rfl; have hcz16_1 : w15.cell? ⟨gb400, 1, none⟩ = some (.int .u16 0) := (blk_cell BK400.out 1).trans rfl; have hcz16_2 : w15.cell? ⟨gb400, 2, none⟩ = some (.int .u16 0) := (blk_cell BK400.out 2).trans rfl; have hcz16_3 : w15.cell? ⟨gb400, 3, none⟩ = some (.int .u16 0) := (blk_cell BK400.out 3).trans rfl; have hcz16_4 : w15.cell? ⟨gb400, 4, none⟩ = some (.int .u16 0) := (blk_cell BK400.out 4).trans rfl; have hcz16_5 : w15.cell? ⟨gb400, 5, none⟩ = some (.int .u16 0) := (blk_cell BK400.out 5).trans rfl; have hcz16_6 : w15.cell? ⟨gb400, 6, none⟩ = some (.int .u16 0) := (blk_cell BK400.out 6).trans rfl; have hcz16_7 : w15.cell? ⟨gb400, 7, none⟩ = some (.int .u16 0) := (blk_cell BK400.out 7).trans rfl; have hfz16_0 := blk_frozen BK400.out 0; have hfz16_1 := blk_frozen BK400.out 1; have hfz16_2 := blk_frozen BK400.out 2; have hfz16_3 := blk_frozen BK400.out 3; have hfz16_4 := blk_frozen BK400.out 4; have hfz16_5 := blk_frozen BK400.out 5; have hfz16_6 := blk_frozen BK400.out 6; have hfz16_7 := blk_frozen BK400.out 7) | ((with_reducible refine gate_callee (f := 201) rfl ?_); refine goesL_ (some 31) rfl rfl Tryd.func201 q2_ rfl #[.agg #[.int .u16 t391, .int .u16 t392, .int .u16 t393, .int .u16 t394, .int .u16 t395, .int .u16 t396, .int .u16 t397, .int .u16 t398]] rfl tS ?_; (with_reducible refine (ostiaryref2_Text6.calls t391 t392 t393 t394 t395 t396 t397 t398 t401 _ A11.out).mono ?_); rintro e w17 ⟨rfl, hb⟩; refine ⟨_, rfl, ?_⟩; have n0_ := Aside0.mk (blk_below (g := gb400) (o := .cells #[.int .u16 t391, .int .u16 t392, .int .u16 t393, .int .u16 t394, .int .u16 t395, .int .u16 t396, .int .u16 t397, .int .u16 t398] 246 (0, 0)) (by (with_reducible repeat (first | refine blk_drewN ?_ _ | refine blk_drew ?_ | refine blk_alloc ?_ _)); refine blk_put (cs := #[.int .u16 t391, .int .u16 t392, .int .u16 t393, .int .u16 t394, .int .u16 t395, .int .u16 t396, .int .u16 t397, .int .u16 0]) ?_ 7 _ rfl; (with_reducible repeat (first | refine blk_drewN ?_ _ | refine blk_drew ?_ | refine blk_alloc ?_ _)); refine blk_put (cs := #[.int .u16 t391, .int .u16 t392, .int .u16 t393, .int .u16 t394, .int .u16 t395, .int .u16 t396, .int .u16 0, .int .u16 0]) ?_ 6 _ rfl; (with_reducible repeat (first | refine blk_drewN ?_ _ | refine blk_drew ?_ | refine blk_alloc ?_ _)); refine blk_put (cs := #[.int .u16 t391, .int .u16 t392, .int .u16 t393, .int .u16 t394, .int .u16 t395, .int .u16 0, .int .u16 0, .int .u16 0]) ?_ 5 _ rfl; (with_reducible repeat (first | refine blk_drewN ?_ _ | refine blk_drew ?_ | refine blk_alloc ?_ _)); refine blk_put (cs := #[.int .u16 t391, .int .u16 t392, .int .u16 t393, .int .u16 t394, .int .u16 0, .int .u16 0, .int .u16 0, .int .u16 0]) ?_ 4 _ rfl; (with_reducible repeat (first | refine blk_drewN ?_ _ | refine blk_drew ?_ | refine blk_alloc ?_ _)); refine blk_put (cs := #[.int .u16 t391, .int .u16 t392, .int .u16 t393, .int .u16 0, .int .u16 0, .int .u16 0, .int .u16 0, .int .u16 0]) ?_ 3 _ rfl; (with_reducible repeat (first | refine blk_drewN ?_ _ | refine blk_drew ?_ | refine blk_alloc ?_ _)); refine blk_put (cs := #[.int .u16 t391, .int .u16 t392, .int .u16 0, .int .u16 0, .int .u16 0, .int .u16 0, .int .u16 0, .int .u16 0]) ?_ 2 _ rfl; (with_reducible repeat (first | refine blk_drewN ?_ _ | refine blk_drew ?_ | refine blk_alloc ?_ _)); refine blk_put (cs := #[.int .u16 t391, .int .u16 0, .int .u16 0, .int .u16 0, .int .u16 0, .int .u16 0, .int .u16 0, .int .u16 0]) ?_ 1 _ rfl; (with_reducible repeat (first | refine blk_drewN ?_ _ | refine blk_drew ?_ | refine blk_alloc ?_ _)); refine blk_put (cs := #[.int .u16 0, .int .u16 0, .int .u16 0, .int .u16 0, .int .u16 0, .int .u16 0, .int .u16 0, .int .u16 0]) ?_ 0 _ rfl; (with_reducible repeat (first | refine blk_drewN ?_ _ | refine blk_drew ?_ | refine blk_alloc ?_ _)); exact BK400.out) hb); have n1_ := Aside0.mk (below_step (by repeat (first | (with_reducible first | exact HB.out | apply below_alloc | apply pw_below_drewN | apply below_drew1 | refine below_set ?_ GE400.out) | exact HB.out)) hb); clear BK400; clear HB; have BK400 := n0_; have HB := n1_; clear n0_ n1_; (try clear hb); (try clear hb2); (try clear hk); (try clear hi)))
        go_ret2
        exact ⟨by first | rfl | (simp [errW_none, errW_some] <;> rfl) | (simp [*, errW_none, errW_some] <;> rfl), by repeat (first | (with_reducible first | exact HB.out | apply below_alloc | apply pw_below_drewN | apply below_drew1 | refine below_set ?_ GE400.out) | exact HB.out)⟩
       ·rw [if_neg c13] at H
        exact absurd H (by simp)
      ·rw [if_neg c12] at H
       exact absurd H (by simp)
     ·replace c10 := Bool.eq_false_iff.mpr c10
      subst c10
      have H1 : (some ((⟨#[]⟩ : ByteArray), false)) = some (r1, r2) := by rw [if_neg (show ¬ (false = true) by decide)] at H; exact H
      clear H
      have H := H1
      clear H1
      simp only [Option.some.injEq, Prod.mk.injEq] at H
      obtain ⟨rfl, rfl⟩ := H
      go_enter Tryd.func182, Tryd.ntmps182
      go_wp2_with (first | ((with_reducible refine gate_callee (f := 134) rfl ?_); refine goesL_ (some 15) rfl rfl Tryd.func134 q2_ rfl #[.string a0, .string (⟨#[91]⟩ : ByteArray)] rfl tS ?_; (with_reducible refine (ostiaryref1_Begins.calls a0 (⟨#[91]⟩ : ByteArray) true _ A3.out).mono ?_); rintro e w' ⟨rfl, ⟨nd, rfl⟩⟩; refine ⟨_, rfl, ?_⟩) | ((with_reducible refine gate_callee (f := 199) rfl ?_); refine goesL_ (some 17) rfl rfl Tryd.func199 q2_ rfl #[.string a0, .string (⟨#[93]⟩ : ByteArray)] rfl tS ?_; (with_reducible refine (ostiaryref1_Ends.calls a0 (⟨#[93]⟩ : ByteArray) true _ A5.out).mono ?_); rintro e w' ⟨rfl, ⟨nd, rfl⟩⟩; refine ⟨_, rfl, ?_⟩) | ((with_reducible refine gate_callee (f := 200) rfl ?_); refine goesL_ (some 25) rfl rfl Tryd.func200 q2_ rfl #[.string (a0.extract 1 ((wrap64 ((a0.size : Int) - 1)) : Int).toNat)] rfl tS ?_; (with_reducible refine (ostiaryref2_Six.calls (a0.extract 1 ((wrap64 ((a0.size : Int) - 1)) : Int).toNat) t391 t392 t393 t394 t395 t396 t397 t398 false _ A9.out).mono ?_); rintro e w18 ⟨rfl, hb⟩; refine ⟨_, rfl, ?_⟩; have n0_ := Aside0.mk (below_step hB hb); clear HB; have HB := n0_; clear n0_; (try clear hb); (try clear hb2); (try clear hk); (try clear hi)) | ((with_reducible refine gate_dst (N := 6) rfl ?_); refine box_event ?hg (N := 6) ?hd (cs := #[.int .u16 0, .int .u16 0, .int .u16 0, .int .u16 0, .int .u16 0, .int .u16 0, .int .u16 0, .int .u16 0]) (t := 246) ?hr ?_; (case hd => rfl); (case hg => rfl); (case hr => first | (go_simp; done) | (go_simp; rfl)); intro gb400 hg w19 hbox hb; have n0_ := Aside0.mk (below_step hB hb); have n1_ := Aside0.mk (hbox); have n2_ := Aside0.mk ((by rw [hg]; exact (below_size hB) : w.heap.size ≤ gb400)); have n3_ := Aside0.mk ((by rw [hg]; exact (below_size hB) : w.heap.size ≤ gb400)); clear HB; have HB := n0_; have BK400 := n1_; have GW400 := n2_; have GE400 := n3_; clear n0_ n1_ n2_ n3_; clear hb hbox hg; have hcz20_0 : w19.cell? ⟨gb400, 0, none⟩ = some (.int .u16 0) := (blk_cell BK400.out 0).trans rfl; have hcz20_1 : w19.cell? ⟨gb400, 1, none⟩ = some (.int .u16 0) := (blk_cell BK400.out 1).trans rfl; have hcz20_2 : w19.cell? ⟨gb400, 2, none⟩ = some (.int .u16 0) := (blk_cell BK400.out 2).trans rfl; have hcz20_3 : w19.cell? ⟨gb400, 3, none⟩ = some (.int .u16 0) := (blk_cell BK400.out 3).trans rfl; have hcz20_4 : w19.cell? ⟨gb400, 4, none⟩ = some (.int .u16 0) := (blk_cell BK400.out 4).trans rfl; have hcz20_5 : w19.cell? ⟨gb400, 5, none⟩ = some (.int .u16 0) := (blk_cell BK400.out 5).trans rfl; have hcz20_6 : w19.cell? ⟨gb400, 6, none⟩ = some (.int .u16 0) := (blk_cell BK400.out 6).trans rfl; have hcz20_7 : w19.cell? ⟨gb400, 7, none⟩ = some (.int .u16 0) := (blk_cell BK400.out 7).trans rfl; have hfz20_0 := blk_frozen BK400.out 0; have hfz20_1 := blk_frozen BK400.out 1; have hfz20_2 := blk_frozen BK400.out 2; have hfz20_3 := blk_frozen BK400.out 3; have hfz20_4 := blk_frozen BK400.out 4; have hfz20_5 := blk_frozen BK400.out 5; have hfz20_6 := blk_frozen BK400.out 6; have hfz20_7 := blk_frozen BK400.out 7))
      go_ret2
      exact ⟨by first | rfl | (simp [errW_none, errW_some] <;> rfl) | (simp [*, errW_none, errW_some] <;> rfl), by repeat (first | (with_reducible first | exact HB.out | apply below_alloc | apply pw_below_drewN | apply below_drew1 | refine below_set ?_ GE400.out) | exact HB.out)⟩
    ·rw [if_neg c8] at H
     exact absurd H (by simp)
   ·rw [if_neg c7] at H
    exact absurd H (by simp)
  ·replace c6 := Bool.eq_false_iff.mpr c6
   subst c6
   have H1 : (some ((⟨#[]⟩ : ByteArray), false)) = some (r1, r2) := by rw [if_neg (show ¬ (false = true) by decide)] at H; exact H
   clear H
   have H := H1
   clear H1
   simp only [Option.some.injEq, Prod.mk.injEq] at H
   obtain ⟨rfl, rfl⟩ := H
   go_enter Tryd.func182, Tryd.ntmps182
   go_wp2_with (first | ((with_reducible refine gate_callee (f := 134) rfl ?_); refine goesL_ (some 15) rfl rfl Tryd.func134 q2_ rfl #[.string a0, .string (⟨#[91]⟩ : ByteArray)] rfl tS ?_; (with_reducible refine (ostiaryref1_Begins.calls a0 (⟨#[91]⟩ : ByteArray) true _ A3.out).mono ?_); rintro e w' ⟨rfl, ⟨nd, rfl⟩⟩; refine ⟨_, rfl, ?_⟩) | ((with_reducible refine gate_callee (f := 199) rfl ?_); refine goesL_ (some 17) rfl rfl Tryd.func199 q2_ rfl #[.string a0, .string (⟨#[93]⟩ : ByteArray)] rfl tS ?_; (with_reducible refine (ostiaryref1_Ends.calls a0 (⟨#[93]⟩ : ByteArray) false _ A5.out).mono ?_); rintro e w' ⟨rfl, ⟨nd, rfl⟩⟩; refine ⟨_, rfl, ?_⟩))
   go_ret2
   exact ⟨by first | rfl | (simp [errW_none, errW_some] <;> rfl) | (simp [*, errW_none, errW_some] <;> rfl), by repeat (first | (with_reducible first | exact HB.out | apply below_alloc | apply pw_below_drewN | apply below_drew1) | exact HB.out)⟩
 ·replace c4 := Bool.eq_false_iff.mpr c4
  subst c4
  have H1 : (if a1 = true then ((ostiaryref1_Unpercent.f k a0).bind fun t404 => ((ostiaryref1_Lower.f t404).bind fun t405 => (ostiaryref2_Parse.l1 k t405 0))) else (ostiaryref2_Parse.l0 k a0 0)) = some (r1, r2) := by rw [if_neg (show ¬ (false = true) by decide)] at H; exact H
  clear H
  have H := H1
  clear H1
  by_cases c21 : a1 = true
  ·subst c21
   have H1 : ((ostiaryref1_Unpercent.f k a0).bind fun t404 => ((ostiaryref1_Lower.f t404).bind fun t405 => (ostiaryref2_Parse.l1 k t405 0))) = some (r1, r2) := by rw [if_pos rfl] at H; exact H
   clear H
   have H := H1
   clear H1
   replace H := Option.bind_eq_some_iff.mp H
   obtain ⟨t404, A220, H⟩ := H
   replace H : ((ostiaryref1_Lower.f t404).bind fun t405 => (ostiaryref2_Parse.l1 k t405 0)) = some (r1, r2) := H
   have A22 := Aside0.mk A220
   clear A220
   replace H := Option.bind_eq_some_iff.mp H
   obtain ⟨t405, A230, H⟩ := H
   replace H : (ostiaryref2_Parse.l1 k t405 0) = some (r1, r2) := H
   have A23 := Aside0.mk A230
   clear A230
   have H' := Aside0.mk H
   clear H
   go_enter Tryd.func182, Tryd.ntmps182
   go_wp2_with (first | ((with_reducible refine gate_callee (f := 134) rfl ?_); refine goesL_ (some 15) rfl rfl Tryd.func134 q2_ rfl #[.string a0, .string (⟨#[91]⟩ : ByteArray)] rfl tS ?_; (with_reducible refine (ostiaryref1_Begins.calls a0 (⟨#[91]⟩ : ByteArray) false _ A3.out).mono ?_); rintro e w' ⟨rfl, ⟨nd, rfl⟩⟩; refine ⟨_, rfl, ?_⟩) | ((with_reducible refine gate_callee (f := 203) rfl ?_); refine goesL_ (some 49) rfl rfl Tryd.func203 q2_ rfl #[.string a0] rfl tS ?_; (with_reducible refine (ostiaryref1_Unpercent.calls k a0 t404 _ A22.out).mono ?_); rintro e w24 ⟨rfl, hb⟩; refine ⟨_, rfl, ?_⟩; have n0_ := Aside0.mk (below_step hB hb); clear HB; have HB := n0_; clear n0_; (try clear hb); (try clear hb2); (try clear hk); (try clear hi)) | ((with_reducible refine gate_callee (f := 95) rfl ?_); refine goesL_ (some 50) rfl rfl Tryd.func95 q2_ rfl #[.string t404] rfl tS ?_; (with_reducible refine (ostiaryref1_Lower.calls t404 t405 _ A23.out).mono ?_); rintro e w25 ⟨rfl, hb⟩; refine ⟨_, rfl, ?_⟩; have n0_ := Aside0.mk (below_step hB hb); clear HB; have HB := n0_; clear n0_; (try clear hb); (try clear hb2); (try clear hk); (try clear hi)))
   go_loopg [9] k (fun kq v9 w' => ∃ (x9_1 : Int), v9 = .int .i64 x9_1 ∧ Aside0 (ostiaryref2_Parse.l1 kq t405 x9_1 = some (r1, r2)) ∧ Aside0 (kq ≤ k) ∧ Aside0 (Below w.heap.size w w'))
   case atStart => exact ⟨(0), rS, H', ⟨Nat.le_refl _⟩, ⟨by repeat (first | (with_reducible first | exact HB.out | apply below_alloc | apply pw_below_drewN | apply below_drew1) | exact HB.out)⟩⟩
   case round =>
    clear H'
    try clear c1
    try clear c2
    try clear p2
    try clear c4
    try clear c6
    try clear p6
    try clear c7
    try clear c7b0
    try clear c7b1
    try clear c8
    try clear c8b0
    try clear c8b1
    try clear c9
    try clear c10
    try clear c12
    try clear c12b0
    try clear c12b1
    try clear c12b2
    try clear c13
    try clear c13b0
    try clear c13b1
    try clear c13b2
    try clear c18
    try clear c19
    try clear c20
    try clear c21
    try clear hcz16_0
    try clear hcz16_1
    try clear hcz16_2
    try clear hcz16_3
    try clear hcz16_4
    try clear hcz16_5
    try clear hcz16_6
    try clear hcz16_7
    try clear hcz20_0
    try clear hcz20_1
    try clear hcz20_2
    try clear hcz20_3
    try clear hcz20_4
    try clear hcz20_5
    try clear hcz20_6
    try clear hcz20_7
    try clear hfz16_0
    try clear hfz16_1
    try clear hfz16_2
    try clear hfz16_3
    try clear hfz16_4
    try clear hfz16_5
    try clear hfz16_6
    try clear hfz16_7
    try clear hfz20_0
    try clear hfz20_1
    try clear hfz20_2
    try clear hfz20_3
    try clear hfz20_4
    try clear hfz20_5
    try clear hfz20_6
    try clear hfz20_7
    obtain ⟨x9_1, rfl, HA, HK1, HB⟩ := hrel
    cases gk with
    | zero => exact absurd HA.out (by simp [ostiaryref2_Parse.l1])
    | succ k1 =>
     have H := HA.out
     clear HA
     simp only [ostiaryref2_Parse.l1] at H
     by_cases c26 : x9_1 < (t405.size : Int)
     ·rw [if_pos c26] at H
      have c26b0 : decide (x9_1 < (t405.size : Int)) = true := decide_eq_true c26
      clear c26
      by_cases c27 : 0 ≤ x9_1
      ·rw [if_pos c27] at H
       have c27b0 : decide (0 ≤ x9_1) = true := decide_eq_true c27
       clear c27
       by_cases c29 : (bt t405 x9_1) > 126
       ·rw [if_pos c29] at H
        have c29b0 : decide (126 < (bt t405 x9_1)) = true := decide_eq_true c29
        clear c29
        simp only [Option.some.injEq, Prod.mk.injEq] at H
        obtain ⟨rfl, rfl⟩ := H
        have p28 : 0 ≤ (x9_1 : Int) := of_decide_eq_true aS
        have q28 : x9_1 < (t405.size : Int) := of_decide_eq_true aS
        have hx28 := bt_at t405 x9_1
        replace p28 := eq_true p28
        replace q28 := eq_true q28
        go_wp2
        go_ret2
        exact ⟨by first | rfl | (simp [errW_none, errW_some] <;> rfl) | (simp [*, errW_none, errW_some] <;> rfl), by repeat (first | (with_reducible first | exact HB.out | apply below_alloc | apply pw_below_drewN | apply below_drew1) | exact HB.out)⟩
       ·rw [if_neg c29] at H
        have c29b0 : decide (126 < (bt t405 x9_1)) = false := decide_eq_false c29
        clear c29
        by_cases c31 : (bt t405 x9_1) < 33
        ·rw [if_pos c31] at H
         have c31b0 : decide ((bt t405 x9_1) < 33) = true := decide_eq_true c31
         clear c31
         simp only [Option.some.injEq, Prod.mk.injEq] at H
         obtain ⟨rfl, rfl⟩ := H
         have p28 : 0 ≤ (x9_1 : Int) := of_decide_eq_true aS
         have q28 : x9_1 < (t405.size : Int) := of_decide_eq_true aS
         have hx28 := bt_at t405 x9_1
         replace p28 := eq_true p28
         replace q28 := eq_true q28
         have p30 : 0 ≤ (x9_1 : Int) := of_decide_eq_true aS
         have q30 : x9_1 < (t405.size : Int) := of_decide_eq_true aS
         have hx30 := bt_at t405 x9_1
         replace p30 := eq_true p30
         replace q30 := eq_true q30
         go_wp2
         go_ret2
         exact ⟨by first | rfl | (simp [errW_none, errW_some] <;> rfl) | (simp [*, errW_none, errW_some] <;> rfl), by repeat (first | (with_reducible first | exact HB.out | apply below_alloc | apply pw_below_drewN | apply below_drew1) | exact HB.out)⟩
        ·rw [if_neg c31] at H
         have c31b0 : decide ((bt t405 x9_1) < 33) = false := decide_eq_false c31
         clear c31
         by_cases c33 : (bt t405 x9_1) = 37
         ·rw [if_pos c33] at H
          have c33b0 : ((bt t405 x9_1) == 37) = true := beq_iff_eq.mpr c33
          have c33b1 : ((bt t405 x9_1) != 37) = false := bne_eq_false_iff_eq.mpr c33
          clear c33
          simp only [Option.some.injEq, Prod.mk.injEq] at H
          obtain ⟨rfl, rfl⟩ := H
          have p28 : 0 ≤ (x9_1 : Int) := of_decide_eq_true aS
          have q28 : x9_1 < (t405.size : Int) := of_decide_eq_true aS
          have hx28 := bt_at t405 x9_1
          replace p28 := eq_true p28
          replace q28 := eq_true q28
          have p30 : 0 ≤ (x9_1 : Int) := of_decide_eq_true aS
          have q30 : x9_1 < (t405.size : Int) := of_decide_eq_true aS
          have hx30 := bt_at t405 x9_1
          replace p30 := eq_true p30
          replace q30 := eq_true q30
          have p32 : 0 ≤ (x9_1 : Int) := of_decide_eq_true aS
          have q32 : x9_1 < (t405.size : Int) := of_decide_eq_true aS
          have hx32 := bt_at t405 x9_1
          replace p32 := eq_true p32
          replace q32 := eq_true q32
          go_wp2
          go_ret2
          exact ⟨by first | rfl | (simp [errW_none, errW_some] <;> rfl) | (simp [*, errW_none, errW_some] <;> rfl), by repeat (first | (with_reducible first | exact HB.out | apply below_alloc | apply pw_below_drewN | apply below_drew1) | exact HB.out)⟩
         ·rw [if_neg c33] at H
          have c33b0 : ((bt t405 x9_1) == 37) = false := beq_eq_false_iff_ne.mpr c33
          have c33b1 : ((bt t405 x9_1) != 37) = true := bne_iff_ne.mpr c33
          replace H := Option.bind_eq_some_iff.mp H
          obtain ⟨t406, A350, H⟩ := H
          replace H : (if t406 = true then (some ((⟨#[]⟩ : ByteArray), false)) else (ostiaryref2_Parse.l1 k1 t405 (wrap64 (x9_1 + 1)))) = some (r1, r2) := H
          have A35 := Aside0.mk A350
          clear A350
          by_cases c36 : t406 = true
          ·subst c36
           have H1 : (some ((⟨#[]⟩ : ByteArray), false)) = some (r1, r2) := by rw [if_pos rfl] at H; exact H
           clear H
           have H := H1
           clear H1
           simp only [Option.some.injEq, Prod.mk.injEq] at H
           obtain ⟨rfl, rfl⟩ := H
           have p28 : 0 ≤ (x9_1 : Int) := of_decide_eq_true aS
           have q28 : x9_1 < (t405.size : Int) := of_decide_eq_true aS
           have hx28 := bt_at t405 x9_1
           replace p28 := eq_true p28
           replace q28 := eq_true q28
           have p30 : 0 ≤ (x9_1 : Int) := of_decide_eq_true aS
           have q30 : x9_1 < (t405.size : Int) := of_decide_eq_true aS
           have hx30 := bt_at t405 x9_1
           replace p30 := eq_true p30
           replace q30 := eq_true q30
           have p32 : 0 ≤ (x9_1 : Int) := of_decide_eq_true aS
           have q32 : x9_1 < (t405.size : Int) := of_decide_eq_true aS
           have hx32 := bt_at t405 x9_1
           replace p32 := eq_true p32
           replace q32 := eq_true q32
           have p34 : 0 ≤ (x9_1 : Int) := of_decide_eq_true aS
           have q34 : x9_1 < (t405.size : Int) := of_decide_eq_true aS
           have hx34 := bt_at t405 x9_1
           replace p34 := eq_true p34
           replace q34 := eq_true q34
           go_wp2_with (first | (go_at_call 202; (with_reducible refine (ostiaryref2_bad.calls k1 (bt t405 x9_1) true _ A35.out).mono ?_); rintro e w' ⟨rfl, ⟨nd, rfl⟩⟩))
           go_ret2
           exact ⟨by first | rfl | (simp [errW_none, errW_some] <;> rfl) | (simp [*, errW_none, errW_some] <;> rfl), by repeat (first | (with_reducible first | exact HB.out | apply below_alloc | apply pw_below_drewN | apply below_drew1) | exact HB.out)⟩
          ·replace c36 := Bool.eq_false_iff.mpr c36
           subst c36
           have H1 : (ostiaryref2_Parse.l1 k1 t405 (wrap64 (x9_1 + 1))) = some (r1, r2) := by rw [if_neg (show ¬ (false = true) by decide)] at H; exact H
           clear H
           have H := H1
           clear H1
           have H' := Aside0.mk H
           clear H
           have p28 : 0 ≤ (x9_1 : Int) := of_decide_eq_true aS
           have q28 : x9_1 < (t405.size : Int) := of_decide_eq_true aS
           have hx28 := bt_at t405 x9_1
           replace p28 := eq_true p28
           replace q28 := eq_true q28
           have p30 : 0 ≤ (x9_1 : Int) := of_decide_eq_true aS
           have q30 : x9_1 < (t405.size : Int) := of_decide_eq_true aS
           have hx30 := bt_at t405 x9_1
           replace p30 := eq_true p30
           replace q30 := eq_true q30
           have p32 : 0 ≤ (x9_1 : Int) := of_decide_eq_true aS
           have q32 : x9_1 < (t405.size : Int) := of_decide_eq_true aS
           have hx32 := bt_at t405 x9_1
           replace p32 := eq_true p32
           replace q32 := eq_true q32
           have p34 : 0 ≤ (x9_1 : Int) := of_decide_eq_true aS
           have q34 : x9_1 < (t405.size : Int) := of_decide_eq_true aS
           have hx34 := bt_at t405 x9_1
           replace p34 := eq_true p34
           replace q34 := eq_true q34
           go_wp2_with (first | (go_at_call 202; (with_reducible refine (ostiaryref2_bad.calls k1 (bt t405 x9_1) false _ A35.out).mono ?_); rintro e w' ⟨rfl, ⟨nd, rfl⟩⟩))
           go_roundg k1
           case measure => have := HK1.out; omega
           case rel => exact ⟨(wrap64 (x9_1 + 1)), rS, H', ⟨by have := HK1.out; omega⟩, ⟨by repeat (first | (with_reducible first | exact HB.out | apply below_alloc | apply pw_below_drewN | apply below_drew1) | exact HB.out)⟩⟩
      ·rw [if_neg c27] at H
       exact absurd H (by simp)
     ·rw [if_neg c26] at H
      have c26b0 : decide (x9_1 < (t405.size : Int)) = false := decide_eq_false c26
      clear c26
      replace H := Option.bind_eq_some_iff.mp H
      obtain ⟨t407, A370, H⟩ := H
      replace H : (ostiaryref2_Parse.l2 k1 t405 t407 0) = some (r1, r2) := H
      have A37 := Aside0.mk A370
      clear A370
      have H' := Aside0.mk H
      clear H
      go_wp2_with (first | ((with_reducible refine gate_callee (f := 183) rfl ?_); refine goesL_ (some 80) rfl rfl Tryd.func183 q2_ rfl #[.string t405, .int .u8 46] rfl tS ?_; (with_reducible refine (ostiaryref1_Cut.calls k1 t405 46 t407 _ A37.out).mono ?_); rintro e w38 ⟨v408, rfl, ho0, hb⟩; refine ⟨_, rfl, ?_⟩; have n0_ := Aside0.mk (Kd.R_lower ho0 (below_size hB)); have n1_ := Aside0.mk (below_step hB hb); clear HB; have HO409 := n0_; have HB := n1_; clear n0_ n1_; (try clear hb); (try clear hb2); (try clear hk); (try clear hi); (try clear ho0)))
      go_loopg [11] k1 (fun kq v11 w' => ∃ (x11_2 : Int), v11 = .int .i64 x11_2 ∧ Aside0 (ostiaryref2_Parse.l2 kq t405 t407 x11_2 = some (r1, r2)) ∧ Aside0 (kq ≤ k1) ∧ Aside0 (Kd.R Kd.string 9 w' w.heap.size (fun _ => True) v408 t407) ∧ Aside0 (Below w.heap.size w w'))
      case atStart => exact ⟨(0), rS, H', ⟨Nat.le_refl _⟩, ⟨by (with_reducible repeat (first | apply Kd.R_alloc | apply Kd.R_drewN | apply Kd.R_drew)); exact HO409.out⟩, ⟨by repeat (first | (with_reducible first | exact HB.out | apply below_alloc | apply pw_below_drewN | apply below_drew1) | exact HB.out)⟩⟩
      case round =>
       clear H'
       try clear c1
       try clear c2
       try clear p2
       try clear q2
       try clear hx2
       try clear c3
       try clear p3
       try clear q3
       try clear hx3
       try clear c4
       try clear c6
       try clear p6
       try clear c7
       try clear c7b0
       try clear c7b1
       try clear c8
       try clear c8b0
       try clear c8b1
       try clear c9
       try clear c10
       try clear c12
       try clear c12b0
       try clear c12b1
       try clear c12b2
       try clear c13
       try clear c13b0
       try clear c13b1
       try clear c13b2
       try clear c18
       try clear c19
       try clear c20
       try clear c21
       try clear c26
       try clear c26b0
       try clear c27
       try clear c27b0
       try clear p28
       try clear q28
       try clear hx28
       try clear c29
       try clear c29b0
       try clear p30
       try clear q30
       try clear hx30
       try clear c31
       try clear c31b0
       try clear p32
       try clear q32
       try clear hx32
       try clear c33
       try clear c33b0
       try clear c33b1
       try clear p34
       try clear q34
       try clear hx34
       try clear c36
       try clear hcz16_0
       try clear hcz16_1
       try clear hcz16_2
       try clear hcz16_3
       try clear hcz16_4
       try clear hcz16_5
       try clear hcz16_6
       try clear hcz16_7
       try clear hcz20_0
       try clear hcz20_1
       try clear hcz20_2
       try clear hcz20_3
       try clear hcz20_4
       try clear hcz20_5
       try clear hcz20_6
       try clear hcz20_7
       try clear hfz16_0
       try clear hfz16_1
       try clear hfz16_2
       try clear hfz16_3
       try clear hfz16_4
       try clear hfz16_5
       try clear hfz16_6
       try clear hfz16_7
       try clear hfz20_0
       try clear hfz20_1
       try clear hfz20_2
       try clear hfz20_3
       try clear hfz20_4
       try clear hfz20_5
       try clear hfz20_6
       try clear hfz20_7
       try clear p2
       try clear p28
       try clear p30
       try clear p32
       try clear p34
       try clear p6
       try clear q28
       try clear q30
       try clear q32
       try clear q34
       obtain ⟨x11_2, rfl, HA, HK2, HO_10, HB⟩ := hrel
       cases gk with
       | zero => exact absurd HA.out (by simp [ostiaryref2_Parse.l2])
       | succ k2 =>
        have H := HA.out
        clear HA
        simp only [ostiaryref2_Parse.l2] at H
        by_cases c39 : x11_2 < (t407.length : Int)
        ·rw [if_pos c39] at H
         have c39b0 : decide (x11_2 < (t407.length : Int)) = true := decide_eq_true c39
         clear c39
         by_cases c40 : 0 ≤ x11_2
         ·rw [if_pos c40] at H
          have c40b0 : decide (0 ≤ x11_2) = true := decide_eq_true c40
          clear c40
          replace H := Option.bind_eq_some_iff.mp H
          obtain ⟨t411, A410, H⟩ := H
          replace H : (if t411 = true then (some ((⟨#[]⟩ : ByteArray), false)) else (ostiaryref2_Parse.l2 k2 t405 t407 (wrap64 (x11_2 + 1)))) = some (r1, r2) := H
          have A41 := Aside0.mk A410
          clear A410
          by_cases c42 : t411 = true
          ·subst c42
           have H1 : (some ((⟨#[]⟩ : ByteArray), false)) = some (r1, r2) := by rw [if_pos rfl] at H; exact H
           clear H
           have H := H1
           clear H1
           simp only [Option.some.injEq, Prod.mk.injEq] at H
           obtain ⟨rfl, rfl⟩ := H
           obtain ⟨Ao43, co43, eo43⟩ := Kd.R_slice HO_10.out
           subst eo43
           have p410 : 0 ≤ (x11_2 : Int) := of_decide_eq_true aS
           have q410 : x11_2 < (t407.length : Int) := of_decide_eq_true aS
           obtain ⟨ad410, e410, hx410_0⟩ := Kd.at_string (Kd.R_reads' HO_10.out).2.2 x11_2 p410 q410
           cases e410
           replace p410 := eq_true p410
           replace q410 := eq_true q410
           go_wp2_with (first | ((with_reducible refine gate_callee (f := 134) rfl ?_); refine goesL_ (some 91) rfl rfl Tryd.func134 q2_ rfl #[.string (rdOf ByteArray.empty t407 x11_2), .string (⟨#[120, 110, 45, 45]⟩ : ByteArray)] rfl tS ?_; (with_reducible refine (ostiaryref1_Begins.calls (rdOf ByteArray.empty t407 x11_2) (⟨#[120, 110, 45, 45]⟩ : ByteArray) true _ A41.out).mono ?_); rintro e w' ⟨rfl, ⟨nd, rfl⟩⟩; refine ⟨_, rfl, ?_⟩))
           go_ret2
           exact ⟨by first | rfl | (simp [errW_none, errW_some] <;> rfl) | (simp [*, errW_none, errW_some] <;> rfl), by repeat (first | (with_reducible first | exact HB.out | apply below_alloc | apply pw_below_drewN | apply below_drew1) | exact HB.out)⟩
          ·replace c42 := Bool.eq_false_iff.mpr c42
           subst c42
           have H1 : (ostiaryref2_Parse.l2 k2 t405 t407 (wrap64 (x11_2 + 1))) = some (r1, r2) := by rw [if_neg (show ¬ (false = true) by decide)] at H; exact H
           clear H
           have H := H1
           clear H1
           have H' := Aside0.mk H
           clear H
           obtain ⟨Ao44, co44, eo44⟩ := Kd.R_slice HO_10.out
           subst eo44
           have p410 : 0 ≤ (x11_2 : Int) := of_decide_eq_true aS
           have q410 : x11_2 < (t407.length : Int) := of_decide_eq_true aS
           obtain ⟨ad410, e410, hx410_0⟩ := Kd.at_string (Kd.R_reads' HO_10.out).2.2 x11_2 p410 q410
           cases e410
           replace p410 := eq_true p410
           replace q410 := eq_true q410
           go_wp2_with (first | ((with_reducible refine gate_callee (f := 134) rfl ?_); refine goesL_ (some 91) rfl rfl Tryd.func134 q2_ rfl #[.string (rdOf ByteArray.empty t407 x11_2), .string (⟨#[120, 110, 45, 45]⟩ : ByteArray)] rfl tS ?_; (with_reducible refine (ostiaryref1_Begins.calls (rdOf ByteArray.empty t407 x11_2) (⟨#[120, 110, 45, 45]⟩ : ByteArray) false _ A41.out).mono ?_); rintro e w' ⟨rfl, ⟨nd, rfl⟩⟩; refine ⟨_, rfl, ?_⟩))
           go_roundg k2
           case measure => have := HK1.out; have := HK2.out; omega
           case rel => exact ⟨(wrap64 (x11_2 + 1)), rS, H', ⟨by have := HK1.out; have := HK2.out; omega⟩, ⟨by (with_reducible repeat (first | apply Kd.R_alloc | apply Kd.R_drewN | apply Kd.R_drew)); exact HO_10.out⟩, ⟨by repeat (first | (with_reducible first | exact HB.out | apply below_alloc | apply pw_below_drewN | apply below_drew1) | exact HB.out)⟩⟩
         ·rw [if_neg c40] at H
          exact absurd H (by simp)
        ·rw [if_neg c39] at H
         have c39b0 : decide (x11_2 < (t407.length : Int)) = false := decide_eq_false c39
         clear c39
         by_cases c45 : t405.toList = ([] : List UInt8)
         ·rw [if_pos c45] at H
          have c45b0 : (t405.toList == ([] : List UInt8)) = true := beq_iff_eq.mpr c45
          have c45b1 : (t405.toList != ([] : List UInt8)) = false := bne_eq_false_iff_eq.mpr c45
          clear c45
          simp only [Option.some.injEq, Prod.mk.injEq] at H
          obtain ⟨rfl, rfl⟩ := H
          obtain ⟨Ao46, co46, eo46⟩ := Kd.R_slice HO_10.out
          subst eo46
          go_wp2
          go_ret2
          exact ⟨by first | rfl | (simp [errW_none, errW_some] <;> rfl) | (simp [*, errW_none, errW_some] <;> rfl), by repeat (first | (with_reducible first | exact HB.out | apply below_alloc | apply pw_below_drewN | apply below_drew1) | exact HB.out)⟩
         ·rw [if_neg c45] at H
          have c45b0 : (t405.toList == ([] : List UInt8)) = false := beq_eq_false_iff_ne.mpr c45
          have c45b1 : (t405.toList != ([] : List UInt8)) = true := bne_iff_ne.mpr c45
          replace H := Option.bind_eq_some_iff.mp H
          obtain ⟨t412, A470, H⟩ := H
          replace H : (if t412 = true then ((ostiaryref2_Four.f k2 t405).bind fun bt413 => (if bt413.2 = true then ((ostiaryref2_Text4.f k2 bt413.1).bind fun t415 => (some (t415, true))) else (some ((⟨#[]⟩ : ByteArray), false)))) else (some (t405, true))) = some (r1, r2) := H
          have A47 := Aside0.mk A470
          clear A470
          by_cases c48 : t412 = true
          ·subst c48
           have H1 : ((ostiaryref2_Four.f k2 t405).bind fun bt413 => (if bt413.2 = true then ((ostiaryref2_Text4.f k2 bt413.1).bind fun t415 => (some (t415, true))) else (some ((⟨#[]⟩ : ByteArray), false)))) = some (r1, r2) := by rw [if_pos rfl] at H; exact H
           clear H
           have H := H1
           clear H1
           replace H := Option.bind_eq_some_iff.mp H
           obtain ⟨⟨t413, t414⟩, A490, H⟩ := H
           replace H : (if t414 = true then ((ostiaryref2_Text4.f k2 t413).bind fun t415 => (some (t415, true))) else (some ((⟨#[]⟩ : ByteArray), false))) = some (r1, r2) := H
           have A49 := Aside0.mk A490
           clear A490
           by_cases c50 : t414 = true
           ·subst c50
            have H1 : ((ostiaryref2_Text4.f k2 t413).bind fun t415 => (some (t415, true))) = some (r1, r2) := by rw [if_pos rfl] at H; exact H
            clear H
            have H := H1
            clear H1
            replace H := Option.bind_eq_some_iff.mp H
            obtain ⟨t415, A510, H⟩ := H
            replace H : (some (t415, true)) = some (r1, r2) := H
            have A51 := Aside0.mk A510
            clear A510
            simp only [Option.some.injEq, Prod.mk.injEq] at H
            obtain ⟨rfl, rfl⟩ := H
            obtain ⟨Ao52, co52, eo52⟩ := Kd.R_slice HO_10.out
            subst eo52
            go_wp2_with (first | ((with_reducible refine gate_callee (f := 204) rfl ?_); refine goesL_ (some 95) rfl rfl Tryd.func204 q2_ rfl #[.string t405] rfl tS ?_; (with_reducible refine (ostiaryref2_Numbered.calls k2 t405 true _ A47.out).mono ?_); rintro e w53 ⟨rfl, hb⟩; refine ⟨_, rfl, ?_⟩; have n0_ := Aside0.mk (Kd.R_below (by (with_reducible repeat (first | apply Kd.R_alloc | apply Kd.R_drewN | apply Kd.R_drew)); exact HO_10.out) hb); have n1_ := Aside0.mk (below_step hB hb); clear HO_10; clear HB; have HO_10 := n0_; have HB := n1_; clear n0_ n1_; (try clear hb); (try clear hb2); (try clear hk); (try clear hi)) | ((with_reducible refine gate_callee (f := 205) rfl ?_); refine goesL_ (some 100) rfl rfl Tryd.func205 q2_ rfl #[.string t405] rfl tS ?_; (with_reducible refine (ostiaryref2_Four.calls k2 t405 t413 true _ A49.out).mono ?_); rintro e w54 ⟨rfl, hb⟩; refine ⟨_, rfl, ?_⟩; have n0_ := Aside0.mk (Kd.R_below (by (with_reducible repeat (first | apply Kd.R_alloc | apply Kd.R_drewN | apply Kd.R_drew)); exact HO_10.out) hb); have n1_ := Aside0.mk (below_step hB hb); clear HO_10; clear HB; have HO_10 := n0_; have HB := n1_; clear n0_ n1_; (try clear hb); (try clear hb2); (try clear hk); (try clear hi)) | ((with_reducible refine gate_callee (f := 206) rfl ?_); refine goesL_ (some 106) rfl rfl Tryd.func206 q2_ rfl #[.int .u32 t413] rfl tS ?_; (with_reducible refine (ostiaryref2_Text4.calls k2 t413 t415 _ A51.out).mono ?_); rintro e w' ⟨rfl, ⟨nd, rfl⟩⟩; refine ⟨_, rfl, ?_⟩))
            go_ret2
            exact ⟨by first | rfl | (simp [errW_none, errW_some] <;> rfl) | (simp [*, errW_none, errW_some] <;> rfl), by repeat (first | (with_reducible first | exact HB.out | apply below_alloc | apply pw_below_drewN | apply below_drew1) | exact HB.out)⟩
           ·replace c50 := Bool.eq_false_iff.mpr c50
            subst c50
            have H1 : (some ((⟨#[]⟩ : ByteArray), false)) = some (r1, r2) := by rw [if_neg (show ¬ (false = true) by decide)] at H; exact H
            clear H
            have H := H1
            clear H1
            simp only [Option.some.injEq, Prod.mk.injEq] at H
            obtain ⟨rfl, rfl⟩ := H
            obtain ⟨Ao55, co55, eo55⟩ := Kd.R_slice HO_10.out
            subst eo55
            go_wp2_with (first | ((with_reducible refine gate_callee (f := 204) rfl ?_); refine goesL_ (some 95) rfl rfl Tryd.func204 q2_ rfl #[.string t405] rfl tS ?_; (with_reducible refine (ostiaryref2_Numbered.calls k2 t405 true _ A47.out).mono ?_); rintro e w56 ⟨rfl, hb⟩; refine ⟨_, rfl, ?_⟩; have n0_ := Aside0.mk (Kd.R_below (by (with_reducible repeat (first | apply Kd.R_alloc | apply Kd.R_drewN | apply Kd.R_drew)); exact HO_10.out) hb); have n1_ := Aside0.mk (below_step hB hb); clear HO_10; clear HB; have HO_10 := n0_; have HB := n1_; clear n0_ n1_; (try clear hb); (try clear hb2); (try clear hk); (try clear hi)) | ((with_reducible refine gate_callee (f := 205) rfl ?_); refine goesL_ (some 100) rfl rfl Tryd.func205 q2_ rfl #[.string t405] rfl tS ?_; (with_reducible refine (ostiaryref2_Four.calls k2 t405 t413 false _ A49.out).mono ?_); rintro e w57 ⟨rfl, hb⟩; refine ⟨_, rfl, ?_⟩; have n0_ := Aside0.mk (Kd.R_below (by (with_reducible repeat (first | apply Kd.R_alloc | apply Kd.R_drewN | apply Kd.R_drew)); exact HO_10.out) hb); have n1_ := Aside0.mk (below_step hB hb); clear HO_10; clear HB; have HO_10 := n0_; have HB := n1_; clear n0_ n1_; (try clear hb); (try clear hb2); (try clear hk); (try clear hi)))
            go_ret2
            exact ⟨by first | rfl | (simp [errW_none, errW_some] <;> rfl) | (simp [*, errW_none, errW_some] <;> rfl), by repeat (first | (with_reducible first | exact HB.out | apply below_alloc | apply pw_below_drewN | apply below_drew1) | exact HB.out)⟩
          ·replace c48 := Bool.eq_false_iff.mpr c48
           subst c48
           have H1 : (some (t405, true)) = some (r1, r2) := by rw [if_neg (show ¬ (false = true) by decide)] at H; exact H
           clear H
           have H := H1
           clear H1
           simp only [Option.some.injEq, Prod.mk.injEq] at H
           obtain ⟨rfl, rfl⟩ := H
           obtain ⟨Ao58, co58, eo58⟩ := Kd.R_slice HO_10.out
           subst eo58
           go_wp2_with (first | ((with_reducible refine gate_callee (f := 204) rfl ?_); refine goesL_ (some 95) rfl rfl Tryd.func204 q2_ rfl #[.string t405] rfl tS ?_; (with_reducible refine (ostiaryref2_Numbered.calls k2 t405 false _ A47.out).mono ?_); rintro e w59 ⟨rfl, hb⟩; refine ⟨_, rfl, ?_⟩; have n0_ := Aside0.mk (Kd.R_below (by (with_reducible repeat (first | apply Kd.R_alloc | apply Kd.R_drewN | apply Kd.R_drew)); exact HO_10.out) hb); have n1_ := Aside0.mk (below_step hB hb); clear HO_10; clear HB; have HO_10 := n0_; have HB := n1_; clear n0_ n1_; (try clear hb); (try clear hb2); (try clear hk); (try clear hi)))
           go_ret2
           exact ⟨by first | rfl | (simp [errW_none, errW_some] <;> rfl) | (simp [*, errW_none, errW_some] <;> rfl), by repeat (first | (with_reducible first | exact HB.out | apply below_alloc | apply pw_below_drewN | apply below_drew1) | exact HB.out)⟩
  ·replace c21 := Bool.eq_false_iff.mpr c21
   subst c21
   have H1 : (ostiaryref2_Parse.l0 k a0 0) = some (r1, r2) := by rw [if_neg (show ¬ (false = true) by decide)] at H; exact H
   clear H
   have H := H1
   clear H1
   have H' := Aside0.mk H
   clear H
   go_enter Tryd.func182, Tryd.ntmps182
   go_wp2_with (first | ((with_reducible refine gate_callee (f := 134) rfl ?_); refine goesL_ (some 15) rfl rfl Tryd.func134 q2_ rfl #[.string a0, .string (⟨#[91]⟩ : ByteArray)] rfl tS ?_; (with_reducible refine (ostiaryref1_Begins.calls a0 (⟨#[91]⟩ : ByteArray) false _ A3.out).mono ?_); rintro e w' ⟨rfl, ⟨nd, rfl⟩⟩; refine ⟨_, rfl, ?_⟩))
   go_loopg [8] k (fun kq v8 w' => ∃ (x8_1 : Int), v8 = .int .i64 x8_1 ∧ Aside0 (ostiaryref2_Parse.l0 kq a0 x8_1 = some (r1, r2)) ∧ Aside0 (kq ≤ k) ∧ Aside0 (Below w.heap.size w w'))
   case atStart => exact ⟨(0), rS, H', ⟨Nat.le_refl _⟩, ⟨by repeat (first | (with_reducible first | exact HB.out | apply below_alloc | apply pw_below_drewN | apply below_drew1) | exact HB.out)⟩⟩
   case round =>
    clear H'
    try clear c1
    try clear c2
    try clear p2
    try clear q2
    try clear hx2
    try clear c3
    try clear p3
    try clear q3
    try clear hx3
    try clear c4
    try clear p4
    try clear q4
    try clear hx4
    try clear c5
    try clear c6
    try clear p6
    try clear c7
    try clear c7b0
    try clear c7b1
    try clear c8
    try clear c8b0
    try clear c8b1
    try clear c9
    try clear c10
    try clear c12
    try clear c12b0
    try clear c12b1
    try clear c12b2
    try clear c13
    try clear c13b0
    try clear c13b1
    try clear c13b2
    try clear c18
    try clear c19
    try clear c20
    try clear c21
    try clear c26
    try clear c26b0
    try clear c27
    try clear c27b0
    try clear p28
    try clear q28
    try clear hx28
    try clear c29
    try clear c29b0
    try clear p30
    try clear q30
    try clear hx30
    try clear c31
    try clear c31b0
    try clear p32
    try clear q32
    try clear hx32
    try clear c33
    try clear c33b0
    try clear c33b1
    try clear p34
    try clear q34
    try clear hx34
    try clear c36
    try clear c39
    try clear c39b0
    try clear c40
    try clear c40b0
    try clear p41
    try clear q41
    try clear hx41
    try clear c42
    try clear c45
    try clear c45b0
    try clear c45b1
    try clear c48
    try clear c50
    try clear hcz16_0
    try clear hcz16_1
    try clear hcz16_2
    try clear hcz16_3
    try clear hcz16_4
    try clear hcz16_5
    try clear hcz16_6
    try clear hcz16_7
    try clear hcz20_0
    try clear hcz20_1
    try clear hcz20_2
    try clear hcz20_3
    try clear hcz20_4
    try clear hcz20_5
    try clear hcz20_6
    try clear hcz20_7
    try clear hfz16_0
    try clear hfz16_1
    try clear hfz16_2
    try clear hfz16_3
    try clear hfz16_4
    try clear hfz16_5
    try clear hfz16_6
    try clear hfz16_7
    try clear hfz20_0
    try clear hfz20_1
    try clear hfz20_2
    try clear hfz20_3
    try clear hfz20_4
    try clear hfz20_5
    try clear hfz20_6
    try clear hfz20_7
    try clear hx410_0
    try clear p2
    try clear p28
    try clear p3
    try clear p30
    try clear p32
    try clear p34
    try clear p410
    try clear p6
    try clear q2
    try clear q28
    try clear q3
    try clear q30
    try clear q32
    try clear q34
    try clear q410
    obtain ⟨x8_1, rfl, HA, HK1, HB⟩ := hrel
    cases gk with
    | zero => exact absurd HA.out (by simp [ostiaryref2_Parse.l0])
    | succ k1 =>
     have H := HA.out
     clear HA
     simp only [ostiaryref2_Parse.l0] at H
     by_cases c60 : x8_1 < (a0.size : Int)
     ·rw [if_pos c60] at H
      have c60b0 : decide (x8_1 < (a0.size : Int)) = true := decide_eq_true c60
      clear c60
      by_cases c61 : 0 ≤ x8_1
      ·rw [if_pos c61] at H
       have c61b0 : decide (0 ≤ x8_1) = true := decide_eq_true c61
       clear c61
       replace H := Option.bind_eq_some_iff.mp H
       obtain ⟨t402, A630, H⟩ := H
       replace H : (if t402 = true then (some ((⟨#[]⟩ : ByteArray), false)) else (ostiaryref2_Parse.l0 k1 a0 (wrap64 (x8_1 + 1)))) = some (r1, r2) := H
       have A63 := Aside0.mk A630
       clear A630
       by_cases c64 : t402 = true
       ·subst c64
        have H1 : (some ((⟨#[]⟩ : ByteArray), false)) = some (r1, r2) := by rw [if_pos rfl] at H; exact H
        clear H
        have H := H1
        clear H1
        simp only [Option.some.injEq, Prod.mk.injEq] at H
        obtain ⟨rfl, rfl⟩ := H
        have p62 : 0 ≤ (x8_1 : Int) := of_decide_eq_true aS
        have q62 : x8_1 < (a0.size : Int) := of_decide_eq_true aS
        have hx62 := bt_at a0 x8_1
        replace p62 := eq_true p62
        replace q62 := eq_true q62
        go_wp2_with (first | ((with_reducible refine gate_callee (f := 202) rfl ?_); refine goesL_ (some 45) rfl rfl Tryd.func202 q2_ rfl #[.int .u8 (bt a0 x8_1)] rfl tS ?_; (with_reducible refine (ostiaryref2_bad.calls k1 (bt a0 x8_1) true _ A63.out).mono ?_); rintro e w' ⟨rfl, ⟨nd, rfl⟩⟩; refine ⟨_, rfl, ?_⟩))
        go_ret2
        exact ⟨by first | rfl | (simp [errW_none, errW_some] <;> rfl) | (simp [*, errW_none, errW_some] <;> rfl), by repeat (first | (with_reducible first | exact HB.out | apply below_alloc | apply pw_below_drewN | apply below_drew1) | exact HB.out)⟩
       ·replace c64 := Bool.eq_false_iff.mpr c64
        subst c64
        have H1 : (ostiaryref2_Parse.l0 k1 a0 (wrap64 (x8_1 + 1))) = some (r1, r2) := by rw [if_neg (show ¬ (false = true) by decide)] at H; exact H
        clear H
        have H := H1
        clear H1
        have H' := Aside0.mk H
        clear H
        have p62 : 0 ≤ (x8_1 : Int) := of_decide_eq_true aS
        have q62 : x8_1 < (a0.size : Int) := of_decide_eq_true aS
        have hx62 := bt_at a0 x8_1
        replace p62 := eq_true p62
        replace q62 := eq_true q62
        go_wp2_with (first | ((with_reducible refine gate_callee (f := 202) rfl ?_); refine goesL_ (some 45) rfl rfl Tryd.func202 q2_ rfl #[.int .u8 (bt a0 x8_1)] rfl tS ?_; (with_reducible refine (ostiaryref2_bad.calls k1 (bt a0 x8_1) false _ A63.out).mono ?_); rintro e w' ⟨rfl, ⟨nd, rfl⟩⟩; refine ⟨_, rfl, ?_⟩))
        go_roundg k1
        case measure => have := HK1.out; omega
        case rel => exact ⟨(wrap64 (x8_1 + 1)), rS, H', ⟨by have := HK1.out; omega⟩, ⟨by repeat (first | (with_reducible first | exact HB.out | apply below_alloc | apply pw_below_drewN | apply below_drew1) | exact HB.out)⟩⟩
      ·rw [if_neg c61] at H
       exact absurd H (by simp)
     ·rw [if_neg c60] at H
      have c60b0 : decide (x8_1 < (a0.size : Int)) = false := decide_eq_false c60
      clear c60
      replace H := Option.bind_eq_some_iff.mp H
      obtain ⟨t403, A650, H⟩ := H
      replace H : (some (t403, true)) = some (r1, r2) := H
      have A65 := Aside0.mk A650
      clear A650
      simp only [Option.some.injEq, Prod.mk.injEq] at H
      obtain ⟨rfl, rfl⟩ := H
      go_wp2_with (first | ((with_reducible refine gate_callee (f := 128) rfl ?_); refine goesL_ (some 47) rfl rfl Tryd.func128 q2_ rfl #[.string a0, .int .i64 1] rfl tS ?_; (with_reducible refine (ostiaryref1_Percent.calls k1 a0 1 t403 _ A65.out).mono ?_); rintro e w' ⟨rfl, ⟨nd, rfl⟩⟩; refine ⟨_, rfl, ?_⟩))
      go_ret2
      exact ⟨by first | rfl | (simp [errW_none, errW_some] <;> rfl) | (simp [*, errW_none, errW_some] <;> rfl), by repeat (first | (with_reducible first | exact HB.out | apply below_alloc | apply pw_below_drewN | apply below_drew1) | exact HB.out)⟩
end Go.Proofs.YtifmkgkiipckbaaDoor.P
