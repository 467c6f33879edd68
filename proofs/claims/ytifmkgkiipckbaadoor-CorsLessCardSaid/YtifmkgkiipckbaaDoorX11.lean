/- A part of the proof of CorsLess: texts of walks and plain lemmas. -/
import Derived.Test.YtifmkgkiipckbaaDoorX1
import Derived.Test.YtifmkgkiipckbaaDoorX2
import Derived.Test.YtifmkgkiipckbaaDoorX10
namespace Go.Proofs.YtifmkgkiipckbaaDoor.P
open Go.RowKit Go.Proofs.YtifmkgkiipckbaaDoorW.PrintWords Go.Proofs.YtifmkgkiipckbaaDoorW.PrintLast Go.Proofs.YtifmkgkiipckbaaDoorW.PrintMore
attribute [local go_sem] max2_int min2_int max_two min_two max_three min_three max_four min_four
set_option linter.unusedVariables false
set_option linter.unusedSimpArgs false
mutual
def ostiaryref3_Own.j0 : Nat → ByteArray → Bool → Option (Int)
 | 0, _, _ => none
 | k + 1, x3, x4 => if x4 = true then (some 80) else (if x3.toList = ([104, 116, 116, 112, 115] : List UInt8) then (ostiaryref3_Own.j1 k x3 (x3.toList == ([104, 116, 116, 112, 115] : List UInt8))) else (ostiaryref3_Own.j1 k x3 (x3.toList == ([119, 115, 115] : List UInt8))))
def ostiaryref3_Own.j1 : Nat → ByteArray → Bool → Option (Int)
 | 0, _, _ => none
 | k + 1, x3, x7 => if x7 = true then (some 443) else (if x3.toList = ([102, 116, 112] : List UInt8) then (some 21) else (some (-1)))
end
def ostiaryref3_Own.f (k : Nat) (a0 : ByteArray) : Option (Int) := if a0.toList = ([104, 116, 116, 112] : List UInt8) then (ostiaryref3_Own.j0 k a0 (a0.toList == ([104, 116, 116, 112] : List UInt8))) else (ostiaryref3_Own.j0 k a0 (a0.toList == ([119, 115] : List UInt8)))
theorem ostiaryref3_Own.mono_l : ∀ k, (∀ y0 y1, LeO (ostiaryref3_Own.j0 k y0 y1) (ostiaryref3_Own.j0 (k + 1) y0 y1)) ∧ (∀ y0 y1, LeO (ostiaryref3_Own.j1 k y0 y1) (ostiaryref3_Own.j1 (k + 1) y0 y1))
 | 0 => ⟨fun _ _ r h => by simp [ostiaryref3_Own.j0] at h, fun _ _ r h => by simp [ostiaryref3_Own.j1] at h⟩
 | k + 1 => by
  obtain ⟨ih0, ih1⟩ := ostiaryref3_Own.mono_l k
  refine ⟨?_, ?_⟩
  ·intro y0 y1
   unfold ostiaryref3_Own.j0
   exact lO
  ·intro y0 y1
   unfold ostiaryref3_Own.j1
   exact lO
theorem ostiaryref3_Own.mono : ∀ a0 k, LeO (ostiaryref3_Own.f k a0) (ostiaryref3_Own.f (k + 1) a0) := by
 intro a0 k
 obtain ⟨ih0, ih1⟩ := ostiaryref3_Own.mono_l k
 unfold ostiaryref3_Own.f
 exact lO
set_option maxHeartbeats 8000000 in
set_option maxRecDepth 100000 in
theorem ostiaryref3_Own.calls (k : Nat) (a0 : ByteArray) (r : Int) (w : World) (h : ostiaryref3_Own.f k a0 = some r) :
  Calls Tryd.prog 50 #[.string a0] w fun e w' => e = .returned (.int .i64 r) ∧ Drawn0 w w' := by
 have H : (if a0.toList = ([104, 116, 116, 112] : List UInt8) then (ostiaryref3_Own.j0 k a0 (a0.toList == ([104, 116, 116, 112] : List UInt8))) else (ostiaryref3_Own.j0 k a0 (a0.toList == ([119, 115] : List UInt8)))) = some r := h
 clear h
 have HC2 := Aside0.mk H
 clear H
 go_enter Tryd.func50, Tryd.ntmps50
 go_upto_if 4 with (fail)
 go_cut [4] (fun v4 wc => ∃ (kq : Nat) (x4_1 : Bool), v4 = .bool x4_1 ∧ Aside0 (ostiaryref3_Own.j0 kq a0 x4_1 = some r) ∧ Aside0 (kq ≤ k) ∧ Drawn0 w wc)
 case first =>
  have H := HC2.out
  clear HC2
  by_cases c3 : a0.toList = ([104, 116, 116, 112] : List UInt8)
  ·rw [if_pos c3] at H
   have c3b0 : (a0.toList == ([104, 116, 116, 112] : List UInt8)) = true := beq_iff_eq.mpr c3
   have c3b1 : (a0.toList != ([104, 116, 116, 112] : List UInt8)) = false := bne_eq_false_iff_eq.mpr c3
   clear c3
   (first | rw [c3b0] | (simp only [i64_w, i32_w]; rw [c3b0]) | skip)
   have H' := Aside0.mk H
   clear H
   go_wp2
   go_meet
   case rel => exact ⟨_, ((a0.toList == ([104, 116, 116, 112] : List UInt8))), rS, H', ⟨by first | omega | exact Nat.le_refl _⟩, by repeat (first | exact Drawn0.refl _ | apply Drawn0.step)⟩
  ·rw [if_neg c3] at H
   have c3b0 : (a0.toList == ([104, 116, 116, 112] : List UInt8)) = false := beq_eq_false_iff_ne.mpr c3
   have c3b1 : (a0.toList != ([104, 116, 116, 112] : List UInt8)) = true := bne_iff_ne.mpr c3
   (first | rw [c3b0] | (simp only [i64_w, i32_w]; rw [c3b0]) | skip)
   have H' := Aside0.mk H
   clear H
   go_wp2
   go_meet
   case rel => exact ⟨_, ((a0.toList == ([119, 115] : List UInt8))), rS, H', ⟨by first | omega | exact Nat.le_refl _⟩, by repeat (first | exact Drawn0.refl _ | apply Drawn0.step)⟩
 case rest =>
  clear HC2
  try clear p2
  try clear c3
  try clear c3b0
  try clear c3b1
  obtain ⟨kq, x4_1, rfl, HA, HJ1, ⟨mc1, rfl⟩⟩ := hcut
  cases kq with
  | zero => exact absurd HA.out (by simp [ostiaryref3_Own.j0])
  | succ kj1 =>
   have H := HA.out
   clear HA
   simp only [ostiaryref3_Own.j0] at H
   by_cases c4 : x4_1 = true
   ·subst c4
    have H1 : (some 80) = some r := by rw [if_pos rfl] at H; exact H
    clear H
    have H := H1
    clear H1
    obtain rfl := Option.some.inj H
    go_wp2
    go_ret
    exact ⟨rS, by repeat (first | exact Drawn0.refl _ | apply Drawn0.step)⟩
   ·replace c4 := Bool.eq_false_iff.mpr c4
    subst c4
    have H1 : (if a0.toList = ([104, 116, 116, 112, 115] : List UInt8) then (ostiaryref3_Own.j1 kj1 a0 (a0.toList == ([104, 116, 116, 112, 115] : List UInt8))) else (ostiaryref3_Own.j1 kj1 a0 (a0.toList == ([119, 115, 115] : List UInt8)))) = some r := by rw [if_neg (show ¬ (false = true) by decide)] at H; exact H
    clear H
    have H := H1
    clear H1
    have HC5 := Aside0.mk H
    clear H
    go_upto_if 7 with (fail)
    go_cut [7] (fun v7 wc => ∃ (kq : Nat) (x7_4 : Bool), v7 = .bool x7_4 ∧ Aside0 (ostiaryref3_Own.j1 kq a0 x7_4 = some r) ∧ Aside0 (kq ≤ kj1) ∧ Drawn0 w wc)
    case first =>
     have H := HC5.out
     clear HC5
     by_cases c6 : a0.toList = ([104, 116, 116, 112, 115] : List UInt8)
     ·rw [if_pos c6] at H
      have c6b0 : (a0.toList == ([104, 116, 116, 112, 115] : List UInt8)) = true := beq_iff_eq.mpr c6
      have c6b1 : (a0.toList != ([104, 116, 116, 112, 115] : List UInt8)) = false := bne_eq_false_iff_eq.mpr c6
      clear c6
      (first | rw [c6b0] | (simp only [i64_w, i32_w]; rw [c6b0]) | skip)
      have H' := Aside0.mk H
      clear H
      go_wp2
      go_meet
      case rel => exact ⟨_, ((a0.toList == ([104, 116, 116, 112, 115] : List UInt8))), rS, H', ⟨by have := HJ1.out; first | omega | exact Nat.le_refl _⟩, by repeat (first | exact Drawn0.refl _ | apply Drawn0.step)⟩
     ·rw [if_neg c6] at H
      have c6b0 : (a0.toList == ([104, 116, 116, 112, 115] : List UInt8)) = false := beq_eq_false_iff_ne.mpr c6
      have c6b1 : (a0.toList != ([104, 116, 116, 112, 115] : List UInt8)) = true := bne_iff_ne.mpr c6
      (first | rw [c6b0] | (simp only [i64_w, i32_w]; rw [c6b0]) | skip)
      have H' := Aside0.mk H
      clear H
      go_wp2
      go_meet
      case rel => exact ⟨_, ((a0.toList == ([119, 115, 115] : List UInt8))), rS, H', ⟨by have := HJ1.out; first | omega | exact Nat.le_refl _⟩, by repeat (first | exact Drawn0.refl _ | apply Drawn0.step)⟩
    case rest =>
     clear HC5
     try clear c1
     try clear p2
     try clear c3
     try clear c3b0
     try clear c3b1
     try clear c4
     try clear c5
     try clear c6
     try clear c6b0
     try clear c6b1
     try clear p2
     obtain ⟨kq, x7_4, rfl, HA, HJ4, ⟨mc4, rfl⟩⟩ := hcut
     cases kq with
     | zero => exact absurd HA.out (by simp [ostiaryref3_Own.j1])
     | succ kj4 =>
      have H := HA.out
      clear HA
      simp only [ostiaryref3_Own.j1] at H
      by_cases c7 : x7_4 = true
      ·subst c7
       have H1 : (some 443) = some r := by rw [if_pos rfl] at H; exact H
       clear H
       have H := H1
       clear H1
       obtain rfl := Option.some.inj H
       go_wp2
       go_ret
       exact ⟨rS, by repeat (first | exact Drawn0.refl _ | apply Drawn0.step)⟩
      ·replace c7 := Bool.eq_false_iff.mpr c7
       subst c7
       have H1 : (if a0.toList = ([102, 116, 112] : List UInt8) then (some 21) else (some (-1))) = some r := by rw [if_neg (show ¬ (false = true) by decide)] at H; exact H
       clear H
       have H := H1
       clear H1
       by_cases c8 : a0.toList = ([102, 116, 112] : List UInt8)
       ·rw [if_pos c8] at H
        have c8b0 : (a0.toList == ([102, 116, 112] : List UInt8)) = true := beq_iff_eq.mpr c8
        have c8b1 : (a0.toList != ([102, 116, 112] : List UInt8)) = false := bne_eq_false_iff_eq.mpr c8
        clear c8
        obtain rfl := Option.some.inj H
        go_wp2
        go_ret
        exact ⟨rS, by repeat (first | exact Drawn0.refl _ | apply Drawn0.step)⟩
       ·rw [if_neg c8] at H
        have c8b0 : (a0.toList == ([102, 116, 112] : List UInt8)) = false := beq_eq_false_iff_ne.mpr c8
        have c8b1 : (a0.toList != ([102, 116, 112] : List UInt8)) = true := bne_iff_ne.mpr c8
        obtain rfl := Option.some.inj H
        go_wp2
        go_ret
        exact ⟨rS, by repeat (first | exact Drawn0.refl _ | apply Drawn0.step)⟩
end Go.Proofs.YtifmkgkiipckbaaDoor.P
namespace Go.Proofs.YtifmkgkiipckbaaDoor.P
open Go.RowKit Go.Proofs.YtifmkgkiipckbaaDoorW.PrintWords Go.Proofs.YtifmkgkiipckbaaDoorW.PrintLast Go.Proofs.YtifmkgkiipckbaaDoorW.PrintMore
attribute [local go_sem] max2_int min2_int max_two min_two max_three min_three max_four min_four
set_option linter.unusedVariables false
set_option linter.unusedSimpArgs false
def ostiaryref3_Special.f (k : Nat) (a0 : ByteArray) : Option (Bool) := (ostiaryref3_Own.f k a0).bind fun t126 => (some (decide (t126 ≥ 0)))
theorem ostiaryref3_Special.mono : ∀ a0 k, LeO (ostiaryref3_Special.f k a0) (ostiaryref3_Special.f (k + 1) a0) := by
 intro a0 k
 unfold ostiaryref3_Special.f
 repeat' first
   | (with_reducible exact ostiaryref3_Own.mono _ _)
   | (with_reducible exact LeO.refl _)
   | (with_reducible exact LeO.none _)
   | (with_reducible refine LeO.ite ?_ ?_)
   | (with_reducible refine LeO.bind ?_ (fun _ => ?_))
   | exact ostiaryref3_Own.mono _ _
   | exact LeO.none _
   | refine LeO.ite ?_ ?_
   | refine LeO.bind ?_ (fun _ => ?_)
set_option maxHeartbeats 8000000 in
set_option maxRecDepth 100000 in
theorem ostiaryref3_Special.calls (k : Nat) (a0 : ByteArray) (r : Bool) (w : World) (h : ostiaryref3_Special.f k a0 = some r) :
  Calls Tryd.prog 84 #[.string a0] w fun e w' => e = .returned (.bool r) ∧ Drawn0 w w' := by
 have H : ((ostiaryref3_Own.f k a0).bind fun t126 => (some (decide (t126 ≥ 0)))) = some r := h
 clear h
 replace H := Option.bind_eq_some_iff.mp H
 obtain ⟨t126, A20, H⟩ := H
 replace H : (some (decide (t126 ≥ 0))) = some r := H
 have A2 := Aside0.mk A20
 clear A20
 obtain rfl := Option.some.inj H
 go_enter Tryd.func84, Tryd.ntmps84
 go_wp2_with (first | ((with_reducible refine gate_callee (f := 50) rfl ?_); refine goesL_ (some 4) rfl rfl Tryd.func50 q2_ rfl #[.string a0] rfl tS ?_; (with_reducible refine (ostiaryref3_Own.calls k a0 t126 _ A2.out).mono ?_); rintro e w' ⟨rfl, ⟨nd, rfl⟩⟩; refine ⟨_, rfl, ?_⟩))
 go_ret
 exact ⟨rS, by repeat (first | exact Drawn0.refl _ | apply Drawn0.step)⟩
end Go.Proofs.YtifmkgkiipckbaaDoor.P
namespace Go.Proofs.YtifmkgkiipckbaaDoor.P
open Go.RowKit Go.Proofs.YtifmkgkiipckbaaDoorW.PrintWords Go.Proofs.YtifmkgkiipckbaaDoorW.PrintLast Go.Proofs.YtifmkgkiipckbaaDoorW.PrintMore
attribute [local go_sem] max2_int min2_int max_two min_two max_three min_three max_four min_four
set_option linter.unusedVariables false
set_option linter.unusedSimpArgs false
mutual
def ostiaryref3_authority.l0 : Nat → ByteArray → Int → Int → ByteArray → ByteArray → ByteArray → ByteArray → Bool → Int → Bool → List ByteArray → ByteArray → ByteArray → Bool → Bool → Option (Int × ByteArray × ByteArray × ByteArray × ByteArray × Bool × Int × Bool × ByteArray × ByteArray × Bool × Bool)
 | 0, _, _, _, _, _, _, _, _, _, _, _, _, _, _, _ => none
 | k + 1, x1, x5, x6, x1000, x1001, x1002, x1003, x1004, x1005, x1006, x1007, x1008, x1009, x1010, x1011 => if x6 < (x1.size : Int) then (if 0 ≤ x6 then (if (bt x1 x6) = 64 then (ostiaryref3_authority.l0 k x1 x6 (wrap64 (x6 + 1)) x1000 x1001 x1002 x1003 x1004 x1005 x1006 x1007 x1008 x1009 x1010 x1011) else (ostiaryref3_authority.l0 k x1 x5 (wrap64 (x6 + 1)) x1000 x1001 x1002 x1003 x1004 x1005 x1006 x1007 x1008 x1009 x1010 x1011)) else (none)) else (if x5 ≥ 0 then (if 0 ≤ x5 then (if x5 ≤ (x1.size : Int) then ((ostiaryref1_Part.f k (x1.extract 0 (x5 : Int).toNat) 58).bind fun bt416 => ((ostiaryref1_Percent.f k bt416.1 6).bind fun t419 => ((ostiaryref1_Percent.f k bt416.2.1 6).bind fun t420 => (if 0 ≤ (wrap64 (x5 + 1)) then (if (wrap64 (x5 + 1)) ≤ (x1.size : Int) then (ostiaryref3_authority.j1 k (x1.extract ((wrap64 (x5 + 1)) : Int).toNat x1.size) x1000 t419 t420 x1003 x1004 x1005 x1006 x1007 x1008 x1009 x1010 x1011) else (none)) else (none))))) else (none)) else (none)) else (ostiaryref3_authority.j1 k x1 x1000 x1001 x1002 x1003 x1004 x1005 x1006 x1007 x1008 x1009 x1010 x1011))
def ostiaryref3_authority.j1 : Nat → ByteArray → ByteArray → ByteArray → ByteArray → ByteArray → Bool → Int → Bool → List ByteArray → ByteArray → ByteArray → Bool → Bool → Option (Int × ByteArray × ByteArray × ByteArray × ByteArray × Bool × Int × Bool × ByteArray × ByteArray × Bool × Bool)
 | 0, _, _, _, _, _, _, _, _, _, _, _, _, _ => none
 | k + 1, x1, x1000, x1001, x1002, x1003, x1004, x1005, x1006, x1007, x1008, x1009, x1010, x1011 => ostiaryref3_authority.l1 k x1 (-1) false 0 x1000 x1001 x1002 x1003 x1004 x1005 x1006 x1007 x1008 x1009 x1010 x1011
def ostiaryref3_authority.l1 : Nat → ByteArray → Int → Bool → Int → ByteArray → ByteArray → ByteArray → ByteArray → Bool → Int → Bool → List ByteArray → ByteArray → ByteArray → Bool → Bool → Option (Int × ByteArray × ByteArray × ByteArray × ByteArray × Bool × Int × Bool × ByteArray × ByteArray × Bool × Bool)
 | 0, _, _, _, _, _, _, _, _, _, _, _, _, _, _, _, _ => none
 | k + 1, x1, x10, x11, x12, x1000, x1001, x1002, x1003, x1004, x1005, x1006, x1007, x1008, x1009, x1010, x1011 => if x12 < (x1.size : Int) then (if 0 ≤ x12 then (if (bt x1 x12) = 91 then (ostiaryref3_authority.l1 k x1 x10 true (wrap64 (x12 + 1)) x1000 x1001 x1002 x1003 x1004 x1005 x1006 x1007 x1008 x1009 x1010 x1011) else (if (bt x1 x12) = 93 then (ostiaryref3_authority.l1 k x1 x10 false (wrap64 (x12 + 1)) x1000 x1001 x1002 x1003 x1004 x1005 x1006 x1007 x1008 x1009 x1010 x1011) else (if (bt x1 x12) = 58 then (if x11 = true then (ostiaryref3_authority.l1 k x1 x10 x11 (wrap64 (x12 + 1)) x1000 x1001 x1002 x1003 x1004 x1005 x1006 x1007 x1008 x1009 x1010 x1011) else (ostiaryref3_authority.l1 k x1 x12 x11 (wrap64 (x12 + 1)) x1000 x1001 x1002 x1003 x1004 x1005 x1006 x1007 x1008 x1009 x1010 x1011)) else (ostiaryref3_authority.l1 k x1 x10 x11 (wrap64 (x12 + 1)) x1000 x1001 x1002 x1003 x1004 x1005 x1006 x1007 x1008 x1009 x1010 x1011)))) else (none)) else (if x10 ≥ 0 then (if 0 ≤ (wrap64 (x10 + 1)) then (if (wrap64 (x10 + 1)) ≤ (x1.size : Int) then (if 0 ≤ x10 then (if x10 ≤ (x1.size : Int) then (if (x1.extract ((wrap64 (x10 + 1)) : Int).toNat x1.size).toList = ([] : List UInt8) then (ostiaryref3_authority.j4 k (x1.extract 0 (x10 : Int).toNat) false x1000 x1001 x1002 x1003 x1004 (-1) x1006 x1007 x1008 x1009 x1010 x1011) else ((ostiaryref1_Int.f k (x1.extract ((wrap64 (x10 + 1)) : Int).toNat x1.size)).bind fun bt421 => (if bt421.2 = true then (ostiaryref3_authority.j3 k (x1.extract 0 (x10 : Int).toNat) bt421.1 (decide (bt421.1 > 65535)) x1000 x1001 x1002 x1003 x1004 (-1) x1006 x1007 x1008 x1009 x1010 x1011) else (ostiaryref3_authority.j3 k (x1.extract 0 (x10 : Int).toNat) bt421.1 true x1000 x1001 x1002 x1003 x1004 (-1) x1006 x1007 x1008 x1009 x1010 x1011)))) else (none)) else (none)) else (none)) else (none)) else (ostiaryref3_authority.j4 k x1 false x1000 x1001 x1002 x1003 x1004 (-1) x1006 x1007 x1008 x1009 x1010 x1011))
def ostiaryref3_authority.j4 : Nat → ByteArray → Bool → ByteArray → ByteArray → ByteArray → ByteArray → Bool → Int → Bool → List ByteArray → ByteArray → ByteArray → Bool → Bool → Option (Int × ByteArray × ByteArray × ByteArray × ByteArray × Bool × Int × Bool × ByteArray × ByteArray × Bool × Bool)
 | 0, _, _, _, _, _, _, _, _, _, _, _, _, _, _ => none
 | k + 1, x1, x13, x1000, x1001, x1002, x1003, x1004, x1005, x1006, x1007, x1008, x1009, x1010, x1011 => (ostiaryref3_Special.f k x1000).bind fun t424 => ((ostiaryref2_Parse.f k x1 t424).bind fun bt425 => (if bt425.2 = true then (if bt425.1.toList = ([] : List UInt8) then (if x1001.toList = ([] : List UInt8) then (if x1002.toList = ([] : List UInt8) then (if x13 = true then (some (10, x1000, x1001, x1002, x1003, x1004, x1005, x1006, x1008, x1009, x1010, x1011)) else (some (0, x1000, x1001, x1002, bt425.1, true, x1005, x1006, x1008, x1009, x1010, x1011))) else (some (10, x1000, x1001, x1002, x1003, x1004, x1005, x1006, x1008, x1009, x1010, x1011))) else (some (10, x1000, x1001, x1002, x1003, x1004, x1005, x1006, x1008, x1009, x1010, x1011))) else (some (0, x1000, x1001, x1002, bt425.1, true, x1005, x1006, x1008, x1009, x1010, x1011))) else (some (10, x1000, x1001, x1002, x1003, x1004, x1005, x1006, x1008, x1009, x1010, x1011))))
def ostiaryref3_authority.j3 : Nat → ByteArray → Int → Bool → ByteArray → ByteArray → ByteArray → ByteArray → Bool → Int → Bool → List ByteArray → ByteArray → ByteArray → Bool → Bool → Option (Int × ByteArray × ByteArray × ByteArray × ByteArray × Bool × Int × Bool × ByteArray × ByteArray × Bool × Bool)
 | 0, _, _, _, _, _, _, _, _, _, _, _, _, _, _, _ => none
 | k + 1, x1, x15, x96, x1000, x1001, x1002, x1003, x1004, x1005, x1006, x1007, x1008, x1009, x1010, x1011 => if x96 = true then (some (11, x1000, x1001, x1002, x1003, x1004, x1005, x1006, x1008, x1009, x1010, x1011)) else ((ostiaryref3_Own.f k x1000).bind fun t423 => (if x15 = t423 then (ostiaryref3_authority.j4 k x1 true x1000 x1001 x1002 x1003 x1004 (-1) x1006 x1007 x1008 x1009 x1010 x1011) else (ostiaryref3_authority.j4 k x1 true x1000 x1001 x1002 x1003 x1004 x15 x1006 x1007 x1008 x1009 x1010 x1011)))
end
def ostiaryref3_authority.f (k : Nat) (s0_0 : ByteArray) (s0_1 : ByteArray) (s0_2 : ByteArray) (s0_3 : ByteArray) (s0_4 : Bool) (s0_5 : Int) (s0_6 : Bool) (s0_7 : List ByteArray) (s0_8 : ByteArray) (s0_9 : ByteArray) (s0_10 : Bool) (s0_11 : Bool) (a1 : ByteArray) : Option (Int × ByteArray × ByteArray × ByteArray × ByteArray × Bool × Int × Bool × ByteArray × ByteArray × Bool × Bool) := ostiaryref3_authority.l0 k a1 (-1) 0 s0_0 s0_1 s0_2 s0_3 s0_4 s0_5 s0_6 s0_7 s0_8 s0_9 s0_10 s0_11
theorem ostiaryref3_authority.mono_l : ∀ k, (∀ y0 y1 y2 y3 y4 y5 y6 y7 y8 y9 y10 y11 y12 y13 y14, LeO (ostiaryref3_authority.l0 k y0 y1 y2 y3 y4 y5 y6 y7 y8 y9 y10 y11 y12 y13 y14) (ostiaryref3_authority.l0 (k + 1) y0 y1 y2 y3 y4 y5 y6 y7 y8 y9 y10 y11 y12 y13 y14)) ∧ (∀ y0 y1 y2 y3 y4 y5 y6 y7 y8 y9 y10 y11 y12, LeO (ostiaryref3_authority.j1 k y0 y1 y2 y3 y4 y5 y6 y7 y8 y9 y10 y11 y12) (ostiaryref3_authority.j1 (k + 1) y0 y1 y2 y3 y4 y5 y6 y7 y8 y9 y10 y11 y12)) ∧ (∀ y0 y1 y2 y3 y4 y5 y6 y7 y8 y9 y10 y11 y12 y13 y14 y15, LeO (ostiaryref3_authority.l1 k y0 y1 y2 y3 y4 y5 y6 y7 y8 y9 y10 y11 y12 y13 y14 y15) (ostiaryref3_authority.l1 (k + 1) y0 y1 y2 y3 y4 y5 y6 y7 y8 y9 y10 y11 y12 y13 y14 y15)) ∧ (∀ y0 y1 y2 y3 y4 y5 y6 y7 y8 y9 y10 y11 y12 y13, LeO (ostiaryref3_authority.j4 k y0 y1 y2 y3 y4 y5 y6 y7 y8 y9 y10 y11 y12 y13) (ostiaryref3_authority.j4 (k + 1) y0 y1 y2 y3 y4 y5 y6 y7 y8 y9 y10 y11 y12 y13)) ∧ (∀ y0 y1 y2 y3 y4 y5 y6 y7 y8 y9 y10 y11 y12 y13 y14, LeO (ostiaryref3_authority.j3 k y0 y1 y2 y3 y4 y5 y6 y7 y8 y9 y10 y11 y12 y13 y14) (ostiaryref3_authority.j3 (k + 1) y0 y1 y2 y3 y4 y5 y6 y7 y8 y9 y10 y11 y12 y13 y14))
 | 0 => ⟨fun _ _ _ _ _ _ _ _ _ _ _ _ _ _ _ r h => by simp [ostiaryref3_authority.l0] at h, fun _ _ _ _ _ _ _ _ _ _ _ _ _ r h => by simp [ostiaryref3_authority.j1] at h, fun _ _ _ _ _ _ _ _ _ _ _ _ _ _ _ _ r h => by simp [ostiaryref3_authority.l1] at h, fun _ _ _ _ _ _ _ _ _ _ _ _ _ _ r h => by simp [ostiaryref3_authority.j4] at h, fun _ _ _ _ _ _ _ _ _ _ _ _ _ _ _ r h => by simp [ostiaryref3_authority.j3] at h⟩
 | k + 1 => by
  obtain ⟨ih0, ih1, ih2, ih3, ih4⟩ := ostiaryref3_authority.mono_l k
  refine ⟨?_, ?_, ?_, ?_, ?_⟩
  ·intro y0 y1 y2 y3 y4 y5 y6 y7 y8 y9 y10 y11 y12 y13 y14
   unfold ostiaryref3_authority.l0
   repeat' first
   | (with_reducible exact ih0 _ _ _ _ _ _ _ _ _ _ _ _ _ _ _)
   | (with_reducible exact ih1 _ _ _ _ _ _ _ _ _ _ _ _ _)
   | (with_reducible exact ih2 _ _ _ _ _ _ _ _ _ _ _ _ _ _ _ _)
   | (with_reducible exact ih3 _ _ _ _ _ _ _ _ _ _ _ _ _ _)
   | (with_reducible exact ih4 _ _ _ _ _ _ _ _ _ _ _ _ _ _ _)
   | (with_reducible exact ostiaryref1_Int.mono _ _)
   | (with_reducible exact ostiaryref1_Part.mono _ _ _)
   | (with_reducible exact ostiaryref1_Percent.mono _ _ _)
   | (with_reducible exact ostiaryref2_Parse.mono _ _ _)
   | (with_reducible exact ostiaryref3_Own.mono _ _)
   | (with_reducible exact ostiaryref3_Special.mono _ _)
   | (with_reducible exact LeO.refl _)
   | (with_reducible exact LeO.none _)
   | (with_reducible refine LeO.ite ?_ ?_)
   | (with_reducible refine LeO.bind ?_ (fun _ => ?_))
   | exact ih0 _ _ _ _ _ _ _ _ _ _ _ _ _ _ _
   | exact ih1 _ _ _ _ _ _ _ _ _ _ _ _ _
   | exact ih2 _ _ _ _ _ _ _ _ _ _ _ _ _ _ _ _
   | exact ih3 _ _ _ _ _ _ _ _ _ _ _ _ _ _
   | exact ih4 _ _ _ _ _ _ _ _ _ _ _ _ _ _ _
   | exact ostiaryref1_Int.mono _ _
   | exact ostiaryref1_Part.mono _ _ _
   | exact ostiaryref1_Percent.mono _ _ _
   | exact ostiaryref2_Parse.mono _ _ _
   | exact ostiaryref3_Own.mono _ _
   | exact ostiaryref3_Special.mono _ _
   | exact LeO.none _
   | refine LeO.ite ?_ ?_
   | refine LeO.bind ?_ (fun _ => ?_)
  ·intro y0 y1 y2 y3 y4 y5 y6 y7 y8 y9 y10 y11 y12
   unfold ostiaryref3_authority.j1
   repeat' first
   | (with_reducible exact ih0 _ _ _ _ _ _ _ _ _ _ _ _ _ _ _)
   | (with_reducible exact ih1 _ _ _ _ _ _ _ _ _ _ _ _ _)
   | (with_reducible exact ih2 _ _ _ _ _ _ _ _ _ _ _ _ _ _ _ _)
   | (with_reducible exact ih3 _ _ _ _ _ _ _ _ _ _ _ _ _ _)
   | (with_reducible exact ih4 _ _ _ _ _ _ _ _ _ _ _ _ _ _ _)
   | (with_reducible exact ostiaryref1_Int.mono _ _)
   | (with_reducible exact ostiaryref1_Part.mono _ _ _)
   | (with_reducible exact ostiaryref1_Percent.mono _ _ _)
   | (with_reducible exact ostiaryref2_Parse.mono _ _ _)
   | (with_reducible exact ostiaryref3_Own.mono _ _)
   | (with_reducible exact ostiaryref3_Special.mono _ _)
   | (with_reducible exact LeO.refl _)
   | (with_reducible exact LeO.none _)
   | (with_reducible refine LeO.ite ?_ ?_)
   | (with_reducible refine LeO.bind ?_ (fun _ => ?_))
   | exact ih0 _ _ _ _ _ _ _ _ _ _ _ _ _ _ _
   | exact ih1 _ _ _ _ _ _ _ _ _ _ _ _ _
   | exact ih2 _ _ _ _ _ _ _ _ _ _ _ _ _ _ _ _
   | exact ih3 _ _ _ _ _ _ _ _ _ _ _ _ _ _
   | exact ih4 _ _ _ _ _ _ _ _ _ _ _ _ _ _ _
   | exact ostiaryref1_Int.mono _ _
   | exact ostiaryref1_Part.mono _ _ _
   | exact ostiaryref1_Percent.mono _ _ _
   | exact ostiaryref2_Parse.mono _ _ _
   | exact ostiaryref3_Own.mono _ _
   | exact ostiaryref3_Special.mono _ _
   | exact LeO.none _
   | refine LeO.ite ?_ ?_
   | refine LeO.bind ?_ (fun _ => ?_)
  ·intro y0 y1 y2 y3 y4 y5 y6 y7 y8 y9 y10 y11 y12 y13 y14 y15
   unfold ostiaryref3_authority.l1
   repeat' first
   | (with_reducible exact ih0 _ _ _ _ _ _ _ _ _ _ _ _ _ _ _)
   | (with_reducible exact ih1 _ _ _ _ _ _ _ _ _ _ _ _ _)
   | (with_reducible exact ih2 _ _ _ _ _ _ _ _ _ _ _ _ _ _ _ _)
   | (with_reducible exact ih3 _ _ _ _ _ _ _ _ _ _ _ _ _ _)
   | (with_reducible exact ih4 _ _ _ _ _ _ _ _ _ _ _ _ _ _ _)
   | (with_reducible exact ostiaryref1_Int.mono _ _)
   | (with_reducible exact ostiaryref1_Part.mono _ _ _)
   | (with_reducible exact ostiaryref1_Percent.mono _ _ _)
   | (with_reducible exact ostiaryref2_Parse.mono _ _ _)
   | (with_reducible exact ostiaryref3_Own.mono _ _)
   | (with_reducible exact ostiaryref3_Special.mono _ _)
   | (with_reducible exact LeO.refl _)
   | (with_reducible exact LeO.none _)
   | (with_reducible refine LeO.ite ?_ ?_)
   | (with_reducible refine LeO.bind ?_ (fun _ => ?_))
   | exact ih0 _ _ _ _ _ _ _ _ _ _ _ _ _ _ _
   | exact ih1 _ _ _ _ _ _ _ _ _ _ _ _ _
   | exact ih2 _ _ _ _ _ _ _ _ _ _ _ _ _ _ _ _
   | exact ih3 _ _ _ _ _ _ _ _ _ _ _ _ _ _
   | exact ih4 _ _ _ _ _ _ _ _ _ _ _ _ _ _ _
   | exact ostiaryref1_Int.mono _ _
   | exact ostiaryref1_Part.mono _ _ _
   | exact ostiaryref1_Percent.mono _ _ _
   | exact ostiaryref2_Parse.mono _ _ _
   | exact ostiaryref3_Own.mono _ _
   | exact ostiaryref3_Special.mono _ _
   | exact LeO.none _
   | refine LeO.ite ?_ ?_
   | refine LeO.bind ?_ (fun _ => ?_)
  ·intro y0 y1 y2 y3 y4 y5 y6 y7 y8 y9 y10 y11 y12 y13
   unfold ostiaryref3_authority.j4
   repeat' first
   | (with_reducible exact ih0 _ _ _ _ _ _ _ _ _ _ _ _ _ _ _)
   | (with_reducible exact ih1 _ _ _ _ _ _ _ _ _ _ _ _ _)
   | (with_reducible exact ih2 _ _ _ _ _ _ _ _ _ _ _ _ _ _ _ _)
   | (with_reducible exact ih3 _ _ _ _ _ _ _ _ _ _ _ _ _ _)
   | (with_reducible exact ih4 _ _ _ _ _ _ _ _ _ _ _ _ _ _ _)
   | (with_reducible exact ostiaryref1_Int.mono _ _)
   | (with_reducible exact ostiaryref1_Part.mono _ _ _)
   | (with_reducible exact ostiaryref1_Percent.mono _ _ _)
   | (with_reducible exact ostiaryref2_Parse.mono _ _ _)
   | (with_reducible exact ostiaryref3_Own.mono _ _)
   | (with_reducible exact ostiaryref3_Special.mono _ _)
   | (with_reducible exact LeO.refl _)
   | (with_reducible exact LeO.none _)
   | (with_reducible refine LeO.ite ?_ ?_)
   | (with_reducible refine LeO.bind ?_ (fun _ => ?_))
   | exact ih0 _ _ _ _ _ _ _ _ _ _ _ _ _ _ _
   | exact ih1 _ _ _ _ _ _ _ _ _ _ _ _ _
   | exact ih2 _ _ _ _ _ _ _ _ _ _ _ _ _ _ _ _
   | exact ih3 _ _ _ _ _ _ _ _ _ _ _ _ _ _
   | exact ih4 _ _ _ _ _ _ _ _ _ _ _ _ _ _ _
   | exact ostiaryref1_Int.mono _ _
   | exact ostiaryref1_Part.mono _ _ _
   | exact ostiaryref1_Percent.mono _ _ _
   | exact ostiaryref2_Parse.mono _ _ _
   | exact ostiaryref3_Own.mono _ _
   | exact ostiaryref3_Special.mono _ _
   | exact LeO.none _
   | refine LeO.ite ?_ ?_
   | refine LeO.bind ?_ (fun _ => ?_)
  ·intro y0 y1 y2 y3 y4 y5 y6 y7 y8 y9 y10 y11 y12 y13 y14
   unfold ostiaryref3_authority.j3
   repeat' first
   | (with_reducible exact ih0 _ _ _ _ _ _ _ _ _ _ _ _ _ _ _)
   | (with_reducible exact ih1 _ _ _ _ _ _ _ _ _ _ _ _ _)
   | (with_reducible exact ih2 _ _ _ _ _ _ _ _ _ _ _ _ _ _ _ _)
   | (with_reducible exact ih3 _ _ _ _ _ _ _ _ _ _ _ _ _ _)
   | (with_reducible exact ih4 _ _ _ _ _ _ _ _ _ _ _ _ _ _ _)
   | (with_reducible exact ostiaryref1_Int.mono _ _)
   | (with_reducible exact ostiaryref1_Part.mono _ _ _)
   | (with_reducible exact ostiaryref1_Percent.mono _ _ _)
   | (with_reducible exact ostiaryref2_Parse.mono _ _ _)
   | (with_reducible exact ostiaryref3_Own.mono _ _)
   | (with_reducible exact ostiaryref3_Special.mono _ _)
   | (with_reducible exact LeO.refl _)
   | (with_reducible exact LeO.none _)
   | (with_reducible refine LeO.ite ?_ ?_)
   | (with_reducible refine LeO.bind ?_ (fun _ => ?_))
   | exact ih0 _ _ _ _ _ _ _ _ _ _ _ _ _ _ _
   | exact ih1 _ _ _ _ _ _ _ _ _ _ _ _ _
   | exact ih2 _ _ _ _ _ _ _ _ _ _ _ _ _ _ _ _
   | exact ih3 _ _ _ _ _ _ _ _ _ _ _ _ _ _
   | exact ih4 _ _ _ _ _ _ _ _ _ _ _ _ _ _ _
   | exact ostiaryref1_Int.mono _ _
   | exact ostiaryref1_Part.mono _ _ _
   | exact ostiaryref1_Percent.mono _ _ _
   | exact ostiaryref2_Parse.mono _ _ _
   | exact ostiaryref3_Own.mono _ _
   | exact ostiaryref3_Special.mono _ _
   | exact LeO.none _
   | refine LeO.ite ?_ ?_
   | refine LeO.bind ?_ (fun _ => ?_)
theorem ostiaryref3_authority.mono : ∀ a0 a1 a2 a3 a4 a5 a6 a7 a8 a9 a10 a11 a12 k, LeO (ostiaryref3_authority.f k a0 a1 a2 a3 a4 a5 a6 a7 a8 a9 a10 a11 a12) (ostiaryref3_authority.f (k + 1) a0 a1 a2 a3 a4 a5 a6 a7 a8 a9 a10 a11 a12) := by
 intro a0 a1 a2 a3 a4 a5 a6 a7 a8 a9 a10 a11 a12 k
 obtain ⟨ih0, ih1, ih2, ih3, ih4⟩ := ostiaryref3_authority.mono_l k
 unfold ostiaryref3_authority.f
 repeat' first
   | (with_reducible exact ih0 _ _ _ _ _ _ _ _ _ _ _ _ _ _ _)
   | (with_reducible exact ih1 _ _ _ _ _ _ _ _ _ _ _ _ _)
   | (with_reducible exact ih2 _ _ _ _ _ _ _ _ _ _ _ _ _ _ _ _)
   | (with_reducible exact ih3 _ _ _ _ _ _ _ _ _ _ _ _ _ _)
   | (with_reducible exact ih4 _ _ _ _ _ _ _ _ _ _ _ _ _ _ _)
   | (with_reducible exact ostiaryref1_Int.mono _ _)
   | (with_reducible exact ostiaryref1_Part.mono _ _ _)
   | (with_reducible exact ostiaryref1_Percent.mono _ _ _)
   | (with_reducible exact ostiaryref2_Parse.mono _ _ _)
   | (with_reducible exact ostiaryref3_Own.mono _ _)
   | (with_reducible exact ostiaryref3_Special.mono _ _)
   | (with_reducible exact LeO.refl _)
   | (with_reducible exact LeO.none _)
   | (with_reducible refine LeO.ite ?_ ?_)
   | (with_reducible refine LeO.bind ?_ (fun _ => ?_))
   | exact ih0 _ _ _ _ _ _ _ _ _ _ _ _ _ _ _
   | exact ih1 _ _ _ _ _ _ _ _ _ _ _ _ _
   | exact ih2 _ _ _ _ _ _ _ _ _ _ _ _ _ _ _ _
   | exact ih3 _ _ _ _ _ _ _ _ _ _ _ _ _ _
   | exact ih4 _ _ _ _ _ _ _ _ _ _ _ _ _ _ _
   | exact ostiaryref1_Int.mono _ _
   | exact ostiaryref1_Part.mono _ _ _
   | exact ostiaryref1_Percent.mono _ _ _
   | exact ostiaryref2_Parse.mono _ _ _
   | exact ostiaryref3_Own.mono _ _
   | exact ostiaryref3_Special.mono _ _
   | exact LeO.none _
   | refine LeO.ite ?_ ?_
   | refine LeO.bind ?_ (fun _ => ?_)
end Go.Proofs.YtifmkgkiipckbaaDoor.P
namespace Go.Proofs.YtifmkgkiipckbaaDoor.P
open Go.RowKit Go.Proofs.YtifmkgkiipckbaaDoorW.PrintWords Go.Proofs.YtifmkgkiipckbaaDoorW.PrintLast Go.Proofs.YtifmkgkiipckbaaDoorW.PrintMore
attribute [local go_sem] max2_int min2_int max_two min_two max_three min_three max_four min_four
set_option linter.unusedVariables false
set_option linter.unusedSimpArgs false
def ostiaryref3_dots.l0 : Nat → ByteArray → Int → Option (Int)
 | 0, _, _ => none
 | k + 1, x0, x3 => if x0.toList = ([] : List UInt8) then (some x3) else (if 0 < (x0.size : Int) then (if (bt x0 0) = 46 then (if 1 ≤ (x0.size : Int) then (ostiaryref3_dots.l0 k (x0.extract 1 x0.size) (wrap64 (x3 + 1))) else (none)) else ((ostiaryref1_Lower.f x0).bind fun t273 => ((ostiaryref1_Begins.f t273 (⟨#[37, 50, 101]⟩ : ByteArray)).bind fun t274 => (if t274 = true then (if 3 ≤ (x0.size : Int) then (ostiaryref3_dots.l0 k (x0.extract 3 x0.size) (wrap64 (x3 + 1))) else (none)) else (some 0))))) else (none))
def ostiaryref3_dots.f (k : Nat) (a0 : ByteArray) : Option (Int) := ostiaryref3_dots.l0 k a0 0
theorem ostiaryref3_dots.mono_l : ∀ k, (∀ y0 y1, LeO (ostiaryref3_dots.l0 k y0 y1) (ostiaryref3_dots.l0 (k + 1) y0 y1))
 | 0 => fun _ _ r h => by simp [ostiaryref3_dots.l0] at h
 | k + 1 => by
  have ih0 := ostiaryref3_dots.mono_l k
  ·intro y0 y1
   unfold ostiaryref3_dots.l0
   exact lO
theorem ostiaryref3_dots.mono : ∀ a0 k, LeO (ostiaryref3_dots.f k a0) (ostiaryref3_dots.f (k + 1) a0) := by
 intro a0 k
 have ih0 := ostiaryref3_dots.mono_l k
 unfold ostiaryref3_dots.f
 exact lO
set_option maxHeartbeats 8000000 in
set_option maxRecDepth 100000 in
theorem ostiaryref3_dots.calls (k : Nat) (a0 : ByteArray) (r : Int) (w : World) (h : ostiaryref3_dots.f k a0 = some r) :
  Calls Tryd.prog 184 #[.string a0] w fun e w' => e = .returned (.int .i64 r) ∧ Below w.heap.size w w' := by
 have HB := Aside0.mk (Below.refl w.heap.size w)
 have H : (ostiaryref3_dots.l0 k a0 0) = some r := h
 clear h
 have H' := Aside0.mk H
 clear H
 go_enter Tryd.func184, Tryd.ntmps184
 go_wp2
 go_loopg [0, 3] k (fun kq v0 v3 w' => ∃ (x0_1 : ByteArray) (x3_1 : Int), v0 = .string x0_1 ∧ v3 = .int .i64 x3_1 ∧ Aside0 (ostiaryref3_dots.l0 kq x0_1 x3_1 = some r) ∧ Aside0 (kq ≤ k) ∧ Aside0 (Below w.heap.size w w'))
 case atStart => exact ⟨(a0), (0), rS, rS, H', ⟨Nat.le_refl _⟩, ⟨by repeat (first | (with_reducible first | exact HB.out | apply below_alloc | apply pw_below_drewN | apply below_drew1) | exact HB.out)⟩⟩
 case round =>
  clear H'
  try clear c1
  obtain ⟨x0_1, x3_1, rfl, rfl, HA, HK1, HB⟩ := hrel
  cases gk with
  | zero => exact absurd HA.out (by simp [ostiaryref3_dots.l0])
  | succ k1 =>
   have H := HA.out
   clear HA
   simp only [ostiaryref3_dots.l0] at H
   by_cases c2 : x0_1.toList = ([] : List UInt8)
   ·rw [if_pos c2] at H
    have c2b0 : (x0_1.toList == ([] : List UInt8)) = true := beq_iff_eq.mpr c2
    have c2b1 : (x0_1.toList != ([] : List UInt8)) = false := bne_eq_false_iff_eq.mpr c2
    clear c2
    obtain rfl := Option.some.inj H
    go_wp2
    go_ret
    exact ⟨by first | rfl | (simp [errW_none, errW_some] <;> rfl) | (simp [*, errW_none, errW_some] <;> rfl), by repeat (first | (with_reducible first | exact HB.out | apply below_alloc | apply pw_below_drewN | apply below_drew1) | exact HB.out)⟩
   ·rw [if_neg c2] at H
    have c2b0 : (x0_1.toList == ([] : List UInt8)) = false := beq_eq_false_iff_ne.mpr c2
    have c2b1 : (x0_1.toList != ([] : List UInt8)) = true := bne_iff_ne.mpr c2
    by_cases c3 : 0 < (x0_1.size : Int)
    ·rw [if_pos c3] at H
     have c3b0 : decide (0 < (x0_1.size : Int)) = true := decide_eq_true c3
     have c3b1 : decide (0 < x0_1.size) = true := decide_eq_true (by omega)
     clear c3
     by_cases c5 : (bt x0_1 0) = 46
     ·rw [if_pos c5] at H
      have c5b0 : ((bt x0_1 0) == 46) = true := beq_iff_eq.mpr c5
      have c5b1 : ((bt x0_1 0) != 46) = false := bne_eq_false_iff_eq.mpr c5
      clear c5
      by_cases c6 : 1 ≤ (x0_1.size : Int)
      ·rw [if_pos c6] at H
       have c6b0 := eq_true c6
       have c6b1 : decide (1 ≤ (x0_1.size : Int)) = true := decide_eq_true c6
       clear c6
       have H' := Aside0.mk H
       clear H
       have p4 : 0 ≤ (0 : Int) := (by omega)
       have q4 : 0 < x0_1.size := (by have : (0 : Int) < (x0_1.size : Int) := of_decide_eq_true aS; omega)
       have hx4 : ∀ h : 0 < x0_1.size, ((x0_1[0]'h).toNat : Int) = bt x0_1 0 := bt_at x0_1 0
       clear p4
       have qi4 : (0 < (x0_1.size : Int)) = True := eq_true (of_decide_eq_true aS)
       replace q4 := eq_true q4
       go_wp2
       go_roundg k1
       case measure => have := HK1.out; omega
       case rel => exact ⟨(x0_1.extract 1 x0_1.size), (wrap64 (x3_1 + 1)), rS, rS, H', ⟨by have := HK1.out; omega⟩, ⟨by repeat (first | (with_reducible first | exact HB.out | apply below_alloc | apply pw_below_drewN | apply below_drew1) | exact HB.out)⟩⟩
      ·rw [if_neg c6] at H
       exact absurd H (by simp)
     ·rw [if_neg c5] at H
      have c5b0 : ((bt x0_1 0) == 46) = false := beq_eq_false_iff_ne.mpr c5
      have c5b1 : ((bt x0_1 0) != 46) = true := bne_iff_ne.mpr c5
      replace H := Option.bind_eq_some_iff.mp H
      obtain ⟨t273, A70, H⟩ := H
      replace H : ((ostiaryref1_Begins.f t273 (⟨#[37, 50, 101]⟩ : ByteArray)).bind fun t274 => (if t274 = true then (if 3 ≤ (x0_1.size : Int) then (ostiaryref3_dots.l0 k1 (x0_1.extract 3 x0_1.size) (wrap64 (x3_1 + 1))) else (none)) else (some 0))) = some r := H
      have A7 := Aside0.mk A70
      clear A70
      replace H := Option.bind_eq_some_iff.mp H
      obtain ⟨t274, A80, H⟩ := H
      replace H : (if t274 = true then (if 3 ≤ (x0_1.size : Int) then (ostiaryref3_dots.l0 k1 (x0_1.extract 3 x0_1.size) (wrap64 (x3_1 + 1))) else (none)) else (some 0)) = some r := H
      have A8 := Aside0.mk A80
      clear A80
      by_cases c9 : t274 = true
      ·subst c9
       have H1 : (if 3 ≤ (x0_1.size : Int) then (ostiaryref3_dots.l0 k1 (x0_1.extract 3 x0_1.size) (wrap64 (x3_1 + 1))) else (none)) = some r := by rw [if_pos rfl] at H; exact H
       clear H
       have H := H1
       clear H1
       by_cases c10 : 3 ≤ (x0_1.size : Int)
       ·rw [if_pos c10] at H
        have c10b0 := eq_true c10
        have c10b1 : decide (3 ≤ (x0_1.size : Int)) = true := decide_eq_true c10
        clear c10
        have H' := Aside0.mk H
        clear H
        have p4 : 0 ≤ (0 : Int) := (by omega)
        have q4 : 0 < x0_1.size := (by have : (0 : Int) < (x0_1.size : Int) := of_decide_eq_true aS; omega)
        have hx4 : ∀ h : 0 < x0_1.size, ((x0_1[0]'h).toNat : Int) = bt x0_1 0 := bt_at x0_1 0
        clear p4
        have qi4 : (0 < (x0_1.size : Int)) = True := eq_true (of_decide_eq_true aS)
        replace q4 := eq_true q4
        go_wp2_with (first | ((with_reducible refine gate_callee (f := 95) rfl ?_); refine goesL_ (some 14) rfl rfl Tryd.func95 q2_ rfl #[.string x0_1] rfl tS ?_; (with_reducible refine (ostiaryref1_Lower.calls x0_1 t273 _ A7.out).mono ?_); rintro e w11 ⟨rfl, hb⟩; refine ⟨_, rfl, ?_⟩; have n0_ := Aside0.mk (below_step hB hb); clear HB; have HB := n0_; clear n0_; (try clear hb); (try clear hb2); (try clear hk); (try clear hi)) | ((with_reducible refine gate_callee (f := 134) rfl ?_); refine goesL_ (some 15) rfl rfl Tryd.func134 q2_ rfl #[.string t273, .string (⟨#[37, 50, 101]⟩ : ByteArray)] rfl tS ?_; (with_reducible refine (ostiaryref1_Begins.calls t273 (⟨#[37, 50, 101]⟩ : ByteArray) true _ A8.out).mono ?_); rintro e w' ⟨rfl, ⟨nd, rfl⟩⟩; refine ⟨_, rfl, ?_⟩))
        go_roundg k1
        case measure => have := HK1.out; omega
        case rel => exact ⟨(x0_1.extract 3 x0_1.size), (wrap64 (x3_1 + 1)), rS, rS, H', ⟨by have := HK1.out; omega⟩, ⟨by repeat (first | (with_reducible first | exact HB.out | apply below_alloc | apply pw_below_drewN | apply below_drew1) | exact HB.out)⟩⟩
       ·rw [if_neg c10] at H
        exact absurd H (by simp)
      ·replace c9 := Bool.eq_false_iff.mpr c9
       subst c9
       have H1 : (some 0) = some r := by rw [if_neg (show ¬ (false = true) by decide)] at H; exact H
       clear H
       have H := H1
       clear H1
       obtain rfl := Option.some.inj H
       have p4 : 0 ≤ (0 : Int) := (by omega)
       have q4 : 0 < x0_1.size := (by have : (0 : Int) < (x0_1.size : Int) := of_decide_eq_true aS; omega)
       have hx4 : ∀ h : 0 < x0_1.size, ((x0_1[0]'h).toNat : Int) = bt x0_1 0 := bt_at x0_1 0
       clear p4
       have qi4 : (0 < (x0_1.size : Int)) = True := eq_true (of_decide_eq_true aS)
       replace q4 := eq_true q4
       go_wp2_with (first | ((with_reducible refine gate_callee (f := 95) rfl ?_); refine goesL_ (some 14) rfl rfl Tryd.func95 q2_ rfl #[.string x0_1] rfl tS ?_; (with_reducible refine (ostiaryref1_Lower.calls x0_1 t273 _ A7.out).mono ?_); rintro e w12 ⟨rfl, hb⟩; refine ⟨_, rfl, ?_⟩; have n0_ := Aside0.mk (below_step hB hb); clear HB; have HB := n0_; clear n0_; (try clear hb); (try clear hb2); (try clear hk); (try clear hi)) | ((with_reducible refine gate_callee (f := 134) rfl ?_); refine goesL_ (some 15) rfl rfl Tryd.func134 q2_ rfl #[.string t273, .string (⟨#[37, 50, 101]⟩ : ByteArray)] rfl tS ?_; (with_reducible refine (ostiaryref1_Begins.calls t273 (⟨#[37, 50, 101]⟩ : ByteArray) false _ A8.out).mono ?_); rintro e w' ⟨rfl, ⟨nd, rfl⟩⟩; refine ⟨_, rfl, ?_⟩))
       go_ret
       exact ⟨by first | rfl | (simp [errW_none, errW_some] <;> rfl) | (simp [*, errW_none, errW_some] <;> rfl), by repeat (first | (with_reducible first | exact HB.out | apply below_alloc | apply pw_below_drewN | apply below_drew1) | exact HB.out)⟩
    ·rw [if_neg c3] at H
     exact absurd H (by simp)
end Go.Proofs.YtifmkgkiipckbaaDoor.P
