/- A part of the proof of FS: texts of walks and plain lemmas. -/
import Derived.Test.YtifmkgkiipckbaaGreatDoorXFS1
import Derived.Test.YtifmkgkiipckbaaGreatDoorXFS4
import Derived.Maps.Own
import Derived.Maps.OwnOps
import Derived.Sort.KeysCollected
import Derived.Maps.OwnSet
import Derived.Outline
namespace Go.Proofs.YtifmkgkiipckbaaGreatDoor.P
open Go.RowKit Go.Proofs.YtifmkgkiipckbaaGreatDoorW.PrintWords Go.Proofs.YtifmkgkiipckbaaGreatDoorW.PrintLast Go.Proofs.YtifmkgkiipckbaaGreatDoorW.PrintMore
attribute [local go_sem] max2_int min2_int max_two min_two max_three min_three max_four min_four
set_option linter.unusedVariables false
set_option linter.unusedSimpArgs false
def infra_Token.l0 : Nat → ByteArray → Int → Int → Option (Bool)
 | 0, _, _, _ => none
 | k + 1, x0, x7, x8 => if x8 < x7 then (if 0 ≤ x8 then (if x8 < (x0.size : Int) then (if (bt x0 x8) ≥ 97 then (if (bt x0 x8) ≤ 122 then (infra_Token.l0 k x0 x7 (wrap64 (x8 + 1))) else (if (bt x0 x8) ≥ 65 then (if (bt x0 x8) ≤ 90 then (infra_Token.l0 k x0 x7 (wrap64 (x8 + 1))) else (if (bt x0 x8) ≥ 48 then (if ((bt x0 x8) ≤ 57) then (infra_Token.l0 k x0 x7 (wrap64 (x8 + 1))) else ((strings_IndexByte.f (⟨#[33, 35, 36, 37, 38, 39, 42, 43, 45, 46, 94, 95, 96, 124, 126]⟩ : ByteArray) (bt x0 x8)).bind fun t345 => (if t345 < 0 then (some false) else (infra_Token.l0 k x0 x7 (wrap64 (x8 + 1)))))) else ((strings_IndexByte.f (⟨#[33, 35, 36, 37, 38, 39, 42, 43, 45, 46, 94, 95, 96, 124, 126]⟩ : ByteArray) (bt x0 x8)).bind fun t346 => (if t346 < 0 then (some false) else (infra_Token.l0 k x0 x7 (wrap64 (x8 + 1))))))) else (if (bt x0 x8) ≥ 48 then (if ((bt x0 x8) ≤ 57) then (infra_Token.l0 k x0 x7 (wrap64 (x8 + 1))) else ((strings_IndexByte.f (⟨#[33, 35, 36, 37, 38, 39, 42, 43, 45, 46, 94, 95, 96, 124, 126]⟩ : ByteArray) (bt x0 x8)).bind fun t347 => (if t347 < 0 then (some false) else (infra_Token.l0 k x0 x7 (wrap64 (x8 + 1)))))) else ((strings_IndexByte.f (⟨#[33, 35, 36, 37, 38, 39, 42, 43, 45, 46, 94, 95, 96, 124, 126]⟩ : ByteArray) (bt x0 x8)).bind fun t348 => (if t348 < 0 then (some false) else (infra_Token.l0 k x0 x7 (wrap64 (x8 + 1)))))))) else (if (bt x0 x8) ≥ 65 then (if (bt x0 x8) ≤ 90 then (infra_Token.l0 k x0 x7 (wrap64 (x8 + 1))) else (if (bt x0 x8) ≥ 48 then (if ((bt x0 x8) ≤ 57) then (infra_Token.l0 k x0 x7 (wrap64 (x8 + 1))) else ((strings_IndexByte.f (⟨#[33, 35, 36, 37, 38, 39, 42, 43, 45, 46, 94, 95, 96, 124, 126]⟩ : ByteArray) (bt x0 x8)).bind fun t349 => (if t349 < 0 then (some false) else (infra_Token.l0 k x0 x7 (wrap64 (x8 + 1)))))) else ((strings_IndexByte.f (⟨#[33, 35, 36, 37, 38, 39, 42, 43, 45, 46, 94, 95, 96, 124, 126]⟩ : ByteArray) (bt x0 x8)).bind fun t350 => (if t350 < 0 then (some false) else (infra_Token.l0 k x0 x7 (wrap64 (x8 + 1))))))) else (if (bt x0 x8) ≥ 48 then (if ((bt x0 x8) ≤ 57) then (infra_Token.l0 k x0 x7 (wrap64 (x8 + 1))) else ((strings_IndexByte.f (⟨#[33, 35, 36, 37, 38, 39, 42, 43, 45, 46, 94, 95, 96, 124, 126]⟩ : ByteArray) (bt x0 x8)).bind fun t351 => (if t351 < 0 then (some false) else (infra_Token.l0 k x0 x7 (wrap64 (x8 + 1)))))) else ((strings_IndexByte.f (⟨#[33, 35, 36, 37, 38, 39, 42, 43, 45, 46, 94, 95, 96, 124, 126]⟩ : ByteArray) (bt x0 x8)).bind fun t352 => (if t352 < 0 then (some false) else (infra_Token.l0 k x0 x7 (wrap64 (x8 + 1)))))))) else (none)) else (none)) else (some (x0.toList != ([] : List UInt8)))
def infra_Token.f (k : Nat) (a0 : ByteArray) : Option (Bool) := infra_Token.l0 k a0 (a0.size : Int) 0
theorem infra_Token.mono_l : ∀ k, (∀ y0 y1 y2, LeO (infra_Token.l0 k y0 y1 y2) (infra_Token.l0 (k + 1) y0 y1 y2))
 | 0 => fun _ _ _ r h => by simp [infra_Token.l0] at h
 | k + 1 => by
  have ih0 := infra_Token.mono_l k
  ·intro y0 y1 y2
   unfold infra_Token.l0
   exact lO
theorem infra_Token.mono : ∀ a0 k, LeO (infra_Token.f k a0) (infra_Token.f (k + 1) a0) := by
 intro a0 k
 have ih0 := infra_Token.mono_l k
 unfold infra_Token.f
 exact lO
set_option maxHeartbeats 8000000 in
set_option maxRecDepth 100000 in
theorem infra_Token.calls (k : Nat) (a0 : ByteArray) (r : Bool) (w : World) (h : infra_Token.f k a0 = some r) :
  Calls Tryz.prog 159 #[.string a0] w fun e w' => e = .returned (.bool r) ∧ Drawn0 w w' := by
 have H : (infra_Token.l0 k a0 (a0.size : Int) 0) = some r := h
 clear h
 have H' := Aside0.mk H
 clear H
 go_enter Tryz.func159, Tryz.ntmps159
 go_wp2
 go_loopg [8] k (fun kq v8 w' => ∃ (x8_1 : Int), v8 = .int .i64 x8_1 ∧ Aside0 (infra_Token.l0 kq a0 (a0.size : Int) x8_1 = some r) ∧ Aside0 (kq ≤ k) ∧ Drawn0 w w')
 case atStart => exact ⟨(0), rS, H', ⟨Nat.le_refl _⟩, by repeat (first | exact Drawn0.refl _ | apply Drawn0.step)⟩
 case round =>
  clear H'
  try clear c1
  obtain ⟨x8_1, rfl, HA, HK1, ⟨m1, rfl⟩⟩ := hrel
  cases gk with
  | zero => exact absurd HA.out (by simp [infra_Token.l0])
  | succ k1 =>
   have H := HA.out
   clear HA
   simp only [infra_Token.l0] at H
   by_cases c2 : x8_1 < (a0.size : Int)
   ·rw [if_pos c2] at H
    have c2b0 : decide (x8_1 < (a0.size : Int)) = true := decide_eq_true c2
    clear c2
    by_cases c3 : 0 ≤ x8_1
    ·rw [if_pos c3] at H
     have c3b0 : decide (0 ≤ x8_1) = true := decide_eq_true c3
     clear c3
     by_cases c4 : x8_1 < (a0.size : Int)
     ·rw [if_pos c4] at H
      have c4b0 : decide (x8_1 < (a0.size : Int)) = true := decide_eq_true c4
      clear c4
      by_cases c6 : (bt a0 x8_1) ≥ 97
      ·rw [if_pos c6] at H
       have c6b0 : decide (97 ≤ (bt a0 x8_1)) = true := decide_eq_true c6
       clear c6
       by_cases c7 : (bt a0 x8_1) ≤ 122
       ·rw [if_pos c7] at H
        have c7b0 : decide ((bt a0 x8_1) ≤ 122) = true := decide_eq_true c7
        clear c7
        have H' := Aside0.mk H
        clear H
        have p5 : 0 ≤ (x8_1 : Int) := of_decide_eq_true aS
        have q5 : x8_1 < (a0.size : Int) := of_decide_eq_true aS
        have hx5 := bt_at a0 x8_1
        replace p5 := eq_true p5
        replace q5 := eq_true q5
        go_wp2
        go_roundg k1
        case measure => have := HK1.out; omega
        case rel => exact ⟨(wrap64 (x8_1 + 1)), rS, H', ⟨by have := HK1.out; omega⟩, by repeat (first | exact Drawn0.refl _ | apply Drawn0.step)⟩
       ·rw [if_neg c7] at H
        have c7b0 : decide ((bt a0 x8_1) ≤ 122) = false := decide_eq_false c7
        clear c7
        by_cases c8 : (bt a0 x8_1) ≥ 65
        ·rw [if_pos c8] at H
         have c8b0 : decide (65 ≤ (bt a0 x8_1)) = true := decide_eq_true c8
         clear c8
         by_cases c9 : (bt a0 x8_1) ≤ 90
         ·rw [if_pos c9] at H
          have c9b0 : decide ((bt a0 x8_1) ≤ 90) = true := decide_eq_true c9
          clear c9
          have H' := Aside0.mk H
          clear H
          have p5 : 0 ≤ (x8_1 : Int) := of_decide_eq_true aS
          have q5 : x8_1 < (a0.size : Int) := of_decide_eq_true aS
          have hx5 := bt_at a0 x8_1
          replace p5 := eq_true p5
          replace q5 := eq_true q5
          go_wp2
          go_roundg k1
          case measure => have := HK1.out; omega
          case rel => exact ⟨(wrap64 (x8_1 + 1)), rS, H', ⟨by have := HK1.out; omega⟩, by repeat (first | exact Drawn0.refl _ | apply Drawn0.step)⟩
         ·rw [if_neg c9] at H
          have c9b0 : decide ((bt a0 x8_1) ≤ 90) = false := decide_eq_false c9
          clear c9
          by_cases c10 : (bt a0 x8_1) ≥ 48
          ·rw [if_pos c10] at H
           have c10b0 : decide (48 ≤ (bt a0 x8_1)) = true := decide_eq_true c10
           clear c10
           by_cases c11 : ((bt a0 x8_1) ≤ 57)
           ·rw [if_pos c11] at H
            have c11b0 : decide ((bt a0 x8_1) ≤ 57) = true := decide_eq_true c11
            clear c11
            have H' := Aside0.mk H
            clear H
            have p5 : 0 ≤ (x8_1 : Int) := of_decide_eq_true aS
            have q5 : x8_1 < (a0.size : Int) := of_decide_eq_true aS
            have hx5 := bt_at a0 x8_1
            replace p5 := eq_true p5
            replace q5 := eq_true q5
            go_wp2
            go_roundg k1
            case measure => have := HK1.out; omega
            case rel => exact ⟨(wrap64 (x8_1 + 1)), rS, H', ⟨by have := HK1.out; omega⟩, by repeat (first | exact Drawn0.refl _ | apply Drawn0.step)⟩
           ·rw [if_neg c11] at H
            have c11b0 : decide ((bt a0 x8_1) ≤ 57) = false := decide_eq_false c11
            clear c11
            replace H := Option.bind_eq_some_iff.mp H
            obtain ⟨t345, A120, H⟩ := H
            replace H : (if t345 < 0 then (some false) else (infra_Token.l0 k1 a0 (a0.size : Int) (wrap64 (x8_1 + 1)))) = some r := H
            have A12 := Aside0.mk A120
            clear A120
            by_cases c13 : t345 < 0
            ·rw [if_pos c13] at H
             have c13b0 : decide (t345 < 0) = true := decide_eq_true c13
             clear c13
             obtain rfl := Option.some.inj H
             have p5 : 0 ≤ (x8_1 : Int) := of_decide_eq_true aS
             have q5 : x8_1 < (a0.size : Int) := of_decide_eq_true aS
             have hx5 := bt_at a0 x8_1
             replace p5 := eq_true p5
             replace q5 := eq_true q5
             go_wp2_with (first | (go_at_call 191; (with_reducible refine (strings_IndexByte.calls (⟨#[33, 35, 36, 37, 38, 39, 42, 43, 45, 46, 94, 95, 96, 124, 126]⟩ : ByteArray) (bt a0 x8_1) t345 _ A12.out).mono ?_); rintro e w' ⟨rfl, ⟨nd, rfl⟩⟩))
             go_ret
             exact ⟨by first | rfl | (simp; done) | (simp [*]; done) | (cases a0.toList <;> rfl), by repeat (first | exact Drawn0.refl _ | apply Drawn0.step)⟩
            ·rw [if_neg c13] at H
             have c13b0 : decide (t345 < 0) = false := decide_eq_false c13
             clear c13
             have H' := Aside0.mk H
             clear H
             have p5 : 0 ≤ (x8_1 : Int) := of_decide_eq_true aS
             have q5 : x8_1 < (a0.size : Int) := of_decide_eq_true aS
             have hx5 := bt_at a0 x8_1
             replace p5 := eq_true p5
             replace q5 := eq_true q5
             go_wp2_with (first | (go_at_call 191; (with_reducible refine (strings_IndexByte.calls (⟨#[33, 35, 36, 37, 38, 39, 42, 43, 45, 46, 94, 95, 96, 124, 126]⟩ : ByteArray) (bt a0 x8_1) t345 _ A12.out).mono ?_); rintro e w' ⟨rfl, ⟨nd, rfl⟩⟩))
             go_roundg k1
             case measure => have := HK1.out; omega
             case rel => exact ⟨(wrap64 (x8_1 + 1)), rS, H', ⟨by have := HK1.out; omega⟩, by repeat (first | exact Drawn0.refl _ | apply Drawn0.step)⟩
          ·rw [if_neg c10] at H
           have c10b0 : decide (48 ≤ (bt a0 x8_1)) = false := decide_eq_false c10
           clear c10
           replace H := Option.bind_eq_some_iff.mp H
           obtain ⟨t346, A140, H⟩ := H
           replace H : (if t346 < 0 then (some false) else (infra_Token.l0 k1 a0 (a0.size : Int) (wrap64 (x8_1 + 1)))) = some r := H
           have A14 := Aside0.mk A140
           clear A140
           by_cases c15 : t346 < 0
           ·rw [if_pos c15] at H
            have c15b0 : decide (t346 < 0) = true := decide_eq_true c15
            clear c15
            obtain rfl := Option.some.inj H
            have p5 : 0 ≤ (x8_1 : Int) := of_decide_eq_true aS
            have q5 : x8_1 < (a0.size : Int) := of_decide_eq_true aS
            have hx5 := bt_at a0 x8_1
            replace p5 := eq_true p5
            replace q5 := eq_true q5
            go_wp2_with (first | (go_at_call 191; (with_reducible refine (strings_IndexByte.calls (⟨#[33, 35, 36, 37, 38, 39, 42, 43, 45, 46, 94, 95, 96, 124, 126]⟩ : ByteArray) (bt a0 x8_1) t346 _ A14.out).mono ?_); rintro e w' ⟨rfl, ⟨nd, rfl⟩⟩))
            go_ret
            exact ⟨by first | rfl | (simp; done) | (simp [*]; done) | (cases a0.toList <;> rfl), by repeat (first | exact Drawn0.refl _ | apply Drawn0.step)⟩
           ·rw [if_neg c15] at H
            have c15b0 : decide (t346 < 0) = false := decide_eq_false c15
            clear c15
            have H' := Aside0.mk H
            clear H
            have p5 : 0 ≤ (x8_1 : Int) := of_decide_eq_true aS
            have q5 : x8_1 < (a0.size : Int) := of_decide_eq_true aS
            have hx5 := bt_at a0 x8_1
            replace p5 := eq_true p5
            replace q5 := eq_true q5
            go_wp2_with (first | (go_at_call 191; (with_reducible refine (strings_IndexByte.calls (⟨#[33, 35, 36, 37, 38, 39, 42, 43, 45, 46, 94, 95, 96, 124, 126]⟩ : ByteArray) (bt a0 x8_1) t346 _ A14.out).mono ?_); rintro e w' ⟨rfl, ⟨nd, rfl⟩⟩))
            go_roundg k1
            case measure => have := HK1.out; omega
            case rel => exact ⟨(wrap64 (x8_1 + 1)), rS, H', ⟨by have := HK1.out; omega⟩, by repeat (first | exact Drawn0.refl _ | apply Drawn0.step)⟩
        ·rw [if_neg c8] at H
         have c8b0 : decide (65 ≤ (bt a0 x8_1)) = false := decide_eq_false c8
         clear c8
         by_cases c16 : (bt a0 x8_1) ≥ 48
         ·rw [if_pos c16] at H
          have c16b0 : decide (48 ≤ (bt a0 x8_1)) = true := decide_eq_true c16
          clear c16
          by_cases c17 : ((bt a0 x8_1) ≤ 57)
          ·rw [if_pos c17] at H
           have c17b0 : decide ((bt a0 x8_1) ≤ 57) = true := decide_eq_true c17
           clear c17
           have H' := Aside0.mk H
           clear H
           have p5 : 0 ≤ (x8_1 : Int) := of_decide_eq_true aS
           have q5 : x8_1 < (a0.size : Int) := of_decide_eq_true aS
           have hx5 := bt_at a0 x8_1
           replace p5 := eq_true p5
           replace q5 := eq_true q5
           go_wp2
           go_roundg k1
           case measure => have := HK1.out; omega
           case rel => exact ⟨(wrap64 (x8_1 + 1)), rS, H', ⟨by have := HK1.out; omega⟩, by repeat (first | exact Drawn0.refl _ | apply Drawn0.step)⟩
          ·rw [if_neg c17] at H
           have c17b0 : decide ((bt a0 x8_1) ≤ 57) = false := decide_eq_false c17
           clear c17
           replace H := Option.bind_eq_some_iff.mp H
           obtain ⟨t347, A180, H⟩ := H
           replace H : (if t347 < 0 then (some false) else (infra_Token.l0 k1 a0 (a0.size : Int) (wrap64 (x8_1 + 1)))) = some r := H
           have A18 := Aside0.mk A180
           clear A180
           by_cases c19 : t347 < 0
           ·rw [if_pos c19] at H
            have c19b0 : decide (t347 < 0) = true := decide_eq_true c19
            clear c19
            obtain rfl := Option.some.inj H
            have p5 : 0 ≤ (x8_1 : Int) := of_decide_eq_true aS
            have q5 : x8_1 < (a0.size : Int) := of_decide_eq_true aS
            have hx5 := bt_at a0 x8_1
            replace p5 := eq_true p5
            replace q5 := eq_true q5
            go_wp2_with (first | (go_at_call 191; (with_reducible refine (strings_IndexByte.calls (⟨#[33, 35, 36, 37, 38, 39, 42, 43, 45, 46, 94, 95, 96, 124, 126]⟩ : ByteArray) (bt a0 x8_1) t347 _ A18.out).mono ?_); rintro e w' ⟨rfl, ⟨nd, rfl⟩⟩))
            go_ret
            exact ⟨by first | rfl | (simp; done) | (simp [*]; done) | (cases a0.toList <;> rfl), by repeat (first | exact Drawn0.refl _ | apply Drawn0.step)⟩
           ·rw [if_neg c19] at H
            have c19b0 : decide (t347 < 0) = false := decide_eq_false c19
            clear c19
            have H' := Aside0.mk H
            clear H
            have p5 : 0 ≤ (x8_1 : Int) := of_decide_eq_true aS
            have q5 : x8_1 < (a0.size : Int) := of_decide_eq_true aS
            have hx5 := bt_at a0 x8_1
            replace p5 := eq_true p5
            replace q5 := eq_true q5
            go_wp2_with (first | (go_at_call 191; (with_reducible refine (strings_IndexByte.calls (⟨#[33, 35, 36, 37, 38, 39, 42, 43, 45, 46, 94, 95, 96, 124, 126]⟩ : ByteArray) (bt a0 x8_1) t347 _ A18.out).mono ?_); rintro e w' ⟨rfl, ⟨nd, rfl⟩⟩))
            go_roundg k1
            case measure => have := HK1.out; omega
            case rel => exact ⟨(wrap64 (x8_1 + 1)), rS, H', ⟨by have := HK1.out; omega⟩, by repeat (first | exact Drawn0.refl _ | apply Drawn0.step)⟩
         ·rw [if_neg c16] at H
          have c16b0 : decide (48 ≤ (bt a0 x8_1)) = false := decide_eq_false c16
          clear c16
          replace H := Option.bind_eq_some_iff.mp H
          obtain ⟨t348, A200, H⟩ := H
          replace H : (if t348 < 0 then (some false) else (infra_Token.l0 k1 a0 (a0.size : Int) (wrap64 (x8_1 + 1)))) = some r := H
          have A20 := Aside0.mk A200
          clear A200
          by_cases c21 : t348 < 0
          ·rw [if_pos c21] at H
           have c21b0 : decide (t348 < 0) = true := decide_eq_true c21
           clear c21
           obtain rfl := Option.some.inj H
           have p5 : 0 ≤ (x8_1 : Int) := of_decide_eq_true aS
           have q5 : x8_1 < (a0.size : Int) := of_decide_eq_true aS
           have hx5 := bt_at a0 x8_1
           replace p5 := eq_true p5
           replace q5 := eq_true q5
           go_wp2_with (first | (go_at_call 191; (with_reducible refine (strings_IndexByte.calls (⟨#[33, 35, 36, 37, 38, 39, 42, 43, 45, 46, 94, 95, 96, 124, 126]⟩ : ByteArray) (bt a0 x8_1) t348 _ A20.out).mono ?_); rintro e w' ⟨rfl, ⟨nd, rfl⟩⟩))
           go_ret
           exact ⟨by first | rfl | (simp; done) | (simp [*]; done) | (cases a0.toList <;> rfl), by repeat (first | exact Drawn0.refl _ | apply Drawn0.step)⟩
          ·rw [if_neg c21] at H
           have c21b0 : decide (t348 < 0) = false := decide_eq_false c21
           clear c21
           have H' := Aside0.mk H
           clear H
           have p5 : 0 ≤ (x8_1 : Int) := of_decide_eq_true aS
           have q5 : x8_1 < (a0.size : Int) := of_decide_eq_true aS
           have hx5 := bt_at a0 x8_1
           replace p5 := eq_true p5
           replace q5 := eq_true q5
           go_wp2_with (first | (go_at_call 191; (with_reducible refine (strings_IndexByte.calls (⟨#[33, 35, 36, 37, 38, 39, 42, 43, 45, 46, 94, 95, 96, 124, 126]⟩ : ByteArray) (bt a0 x8_1) t348 _ A20.out).mono ?_); rintro e w' ⟨rfl, ⟨nd, rfl⟩⟩))
           go_roundg k1
           case measure => have := HK1.out; omega
           case rel => exact ⟨(wrap64 (x8_1 + 1)), rS, H', ⟨by have := HK1.out; omega⟩, by repeat (first | exact Drawn0.refl _ | apply Drawn0.step)⟩
      ·rw [if_neg c6] at H
       have c6b0 : decide (97 ≤ (bt a0 x8_1)) = false := decide_eq_false c6
       clear c6
       by_cases c22 : (bt a0 x8_1) ≥ 65
       ·rw [if_pos c22] at H
        have c22b0 : decide (65 ≤ (bt a0 x8_1)) = true := decide_eq_true c22
        clear c22
        by_cases c23 : (bt a0 x8_1) ≤ 90
        ·rw [if_pos c23] at H
         have c23b0 : decide ((bt a0 x8_1) ≤ 90) = true := decide_eq_true c23
         clear c23
         have H' := Aside0.mk H
         clear H
         have p5 : 0 ≤ (x8_1 : Int) := of_decide_eq_true aS
         have q5 : x8_1 < (a0.size : Int) := of_decide_eq_true aS
         have hx5 := bt_at a0 x8_1
         replace p5 := eq_true p5
         replace q5 := eq_true q5
         go_wp2
         go_roundg k1
         case measure => have := HK1.out; omega
         case rel => exact ⟨(wrap64 (x8_1 + 1)), rS, H', ⟨by have := HK1.out; omega⟩, by repeat (first | exact Drawn0.refl _ | apply Drawn0.step)⟩
        ·rw [if_neg c23] at H
         have c23b0 : decide ((bt a0 x8_1) ≤ 90) = false := decide_eq_false c23
         clear c23
         by_cases c24 : (bt a0 x8_1) ≥ 48
         ·rw [if_pos c24] at H
          have c24b0 : decide (48 ≤ (bt a0 x8_1)) = true := decide_eq_true c24
          clear c24
          by_cases c25 : ((bt a0 x8_1) ≤ 57)
          ·rw [if_pos c25] at H
           have c25b0 : decide ((bt a0 x8_1) ≤ 57) = true := decide_eq_true c25
           clear c25
           have H' := Aside0.mk H
           clear H
           have p5 : 0 ≤ (x8_1 : Int) := of_decide_eq_true aS
           have q5 : x8_1 < (a0.size : Int) := of_decide_eq_true aS
           have hx5 := bt_at a0 x8_1
           replace p5 := eq_true p5
           replace q5 := eq_true q5
           go_wp2
           go_roundg k1
           case measure => have := HK1.out; omega
           case rel => exact ⟨(wrap64 (x8_1 + 1)), rS, H', ⟨by have := HK1.out; omega⟩, by repeat (first | exact Drawn0.refl _ | apply Drawn0.step)⟩
          ·rw [if_neg c25] at H
           have c25b0 : decide ((bt a0 x8_1) ≤ 57) = false := decide_eq_false c25
           clear c25
           replace H := Option.bind_eq_some_iff.mp H
           obtain ⟨t349, A260, H⟩ := H
           replace H : (if t349 < 0 then (some false) else (infra_Token.l0 k1 a0 (a0.size : Int) (wrap64 (x8_1 + 1)))) = some r := H
           have A26 := Aside0.mk A260
           clear A260
           by_cases c27 : t349 < 0
           ·rw [if_pos c27] at H
            have c27b0 : decide (t349 < 0) = true := decide_eq_true c27
            clear c27
            obtain rfl := Option.some.inj H
            have p5 : 0 ≤ (x8_1 : Int) := of_decide_eq_true aS
            have q5 : x8_1 < (a0.size : Int) := of_decide_eq_true aS
            have hx5 := bt_at a0 x8_1
            replace p5 := eq_true p5
            replace q5 := eq_true q5
            go_wp2_with (first | (go_at_call 191; (with_reducible refine (strings_IndexByte.calls (⟨#[33, 35, 36, 37, 38, 39, 42, 43, 45, 46, 94, 95, 96, 124, 126]⟩ : ByteArray) (bt a0 x8_1) t349 _ A26.out).mono ?_); rintro e w' ⟨rfl, ⟨nd, rfl⟩⟩))
            go_ret
            exact ⟨by first | rfl | (simp; done) | (simp [*]; done) | (cases a0.toList <;> rfl), by repeat (first | exact Drawn0.refl _ | apply Drawn0.step)⟩
           ·rw [if_neg c27] at H
            have c27b0 : decide (t349 < 0) = false := decide_eq_false c27
            clear c27
            have H' := Aside0.mk H
            clear H
            have p5 : 0 ≤ (x8_1 : Int) := of_decide_eq_true aS
            have q5 : x8_1 < (a0.size : Int) := of_decide_eq_true aS
            have hx5 := bt_at a0 x8_1
            replace p5 := eq_true p5
            replace q5 := eq_true q5
            go_wp2_with (first | (go_at_call 191; (with_reducible refine (strings_IndexByte.calls (⟨#[33, 35, 36, 37, 38, 39, 42, 43, 45, 46, 94, 95, 96, 124, 126]⟩ : ByteArray) (bt a0 x8_1) t349 _ A26.out).mono ?_); rintro e w' ⟨rfl, ⟨nd, rfl⟩⟩))
            go_roundg k1
            case measure => have := HK1.out; omega
            case rel => exact ⟨(wrap64 (x8_1 + 1)), rS, H', ⟨by have := HK1.out; omega⟩, by repeat (first | exact Drawn0.refl _ | apply Drawn0.step)⟩
         ·rw [if_neg c24] at H
          have c24b0 : decide (48 ≤ (bt a0 x8_1)) = false := decide_eq_false c24
          clear c24
          replace H := Option.bind_eq_some_iff.mp H
          obtain ⟨t350, A280, H⟩ := H
          replace H : (if t350 < 0 then (some false) else (infra_Token.l0 k1 a0 (a0.size : Int) (wrap64 (x8_1 + 1)))) = some r := H
          have A28 := Aside0.mk A280
          clear A280
          by_cases c29 : t350 < 0
          ·rw [if_pos c29] at H
           have c29b0 : decide (t350 < 0) = true := decide_eq_true c29
           clear c29
           obtain rfl := Option.some.inj H
           have p5 : 0 ≤ (x8_1 : Int) := of_decide_eq_true aS
           have q5 : x8_1 < (a0.size : Int) := of_decide_eq_true aS
           have hx5 := bt_at a0 x8_1
           replace p5 := eq_true p5
           replace q5 := eq_true q5
           go_wp2_with (first | (go_at_call 191; (with_reducible refine (strings_IndexByte.calls (⟨#[33, 35, 36, 37, 38, 39, 42, 43, 45, 46, 94, 95, 96, 124, 126]⟩ : ByteArray) (bt a0 x8_1) t350 _ A28.out).mono ?_); rintro e w' ⟨rfl, ⟨nd, rfl⟩⟩))
           go_ret
           exact ⟨by first | rfl | (simp; done) | (simp [*]; done) | (cases a0.toList <;> rfl), by repeat (first | exact Drawn0.refl _ | apply Drawn0.step)⟩
          ·rw [if_neg c29] at H
           have c29b0 : decide (t350 < 0) = false := decide_eq_false c29
           clear c29
           have H' := Aside0.mk H
           clear H
           have p5 : 0 ≤ (x8_1 : Int) := of_decide_eq_true aS
           have q5 : x8_1 < (a0.size : Int) := of_decide_eq_true aS
           have hx5 := bt_at a0 x8_1
           replace p5 := eq_true p5
           replace q5 := eq_true q5
           go_wp2_with (first | (go_at_call 191; (with_reducible refine (strings_IndexByte.calls (⟨#[33, 35, 36, 37, 38, 39, 42, 43, 45, 46, 94, 95, 96, 124, 126]⟩ : ByteArray) (bt a0 x8_1) t350 _ A28.out).mono ?_); rintro e w' ⟨rfl, ⟨nd, rfl⟩⟩))
           go_roundg k1
           case measure => have := HK1.out; omega
           case rel => exact ⟨(wrap64 (x8_1 + 1)), rS, H', ⟨by have := HK1.out; omega⟩, by repeat (first | exact Drawn0.refl _ | apply Drawn0.step)⟩
       ·rw [if_neg c22] at H
        have c22b0 : decide (65 ≤ (bt a0 x8_1)) = false := decide_eq_false c22
        clear c22
        by_cases c30 : (bt a0 x8_1) ≥ 48
        ·rw [if_pos c30] at H
         have c30b0 : decide (48 ≤ (bt a0 x8_1)) = true := decide_eq_true c30
         clear c30
         by_cases c31 : ((bt a0 x8_1) ≤ 57)
         ·rw [if_pos c31] at H
          have c31b0 : decide ((bt a0 x8_1) ≤ 57) = true := decide_eq_true c31
          clear c31
          have H' := Aside0.mk H
          clear H
          have p5 : 0 ≤ (x8_1 : Int) := of_decide_eq_true aS
          have q5 : x8_1 < (a0.size : Int) := of_decide_eq_true aS
          have hx5 := bt_at a0 x8_1
          replace p5 := eq_true p5
          replace q5 := eq_true q5
          go_wp2
          go_roundg k1
          case measure => have := HK1.out; omega
          case rel => exact ⟨(wrap64 (x8_1 + 1)), rS, H', ⟨by have := HK1.out; omega⟩, by repeat (first | exact Drawn0.refl _ | apply Drawn0.step)⟩
         ·rw [if_neg c31] at H
          have c31b0 : decide ((bt a0 x8_1) ≤ 57) = false := decide_eq_false c31
          clear c31
          replace H := Option.bind_eq_some_iff.mp H
          obtain ⟨t351, A320, H⟩ := H
          replace H : (if t351 < 0 then (some false) else (infra_Token.l0 k1 a0 (a0.size : Int) (wrap64 (x8_1 + 1)))) = some r := H
          have A32 := Aside0.mk A320
          clear A320
          by_cases c33 : t351 < 0
          ·rw [if_pos c33] at H
           have c33b0 : decide (t351 < 0) = true := decide_eq_true c33
           clear c33
           obtain rfl := Option.some.inj H
           have p5 : 0 ≤ (x8_1 : Int) := of_decide_eq_true aS
           have q5 : x8_1 < (a0.size : Int) := of_decide_eq_true aS
           have hx5 := bt_at a0 x8_1
           replace p5 := eq_true p5
           replace q5 := eq_true q5
           go_wp2_with (first | (go_at_call 191; (with_reducible refine (strings_IndexByte.calls (⟨#[33, 35, 36, 37, 38, 39, 42, 43, 45, 46, 94, 95, 96, 124, 126]⟩ : ByteArray) (bt a0 x8_1) t351 _ A32.out).mono ?_); rintro e w' ⟨rfl, ⟨nd, rfl⟩⟩))
           go_ret
           exact ⟨by first | rfl | (simp; done) | (simp [*]; done) | (cases a0.toList <;> rfl), by repeat (first | exact Drawn0.refl _ | apply Drawn0.step)⟩
          ·rw [if_neg c33] at H
           have c33b0 : decide (t351 < 0) = false := decide_eq_false c33
           clear c33
           have H' := Aside0.mk H
           clear H
           have p5 : 0 ≤ (x8_1 : Int) := of_decide_eq_true aS
           have q5 : x8_1 < (a0.size : Int) := of_decide_eq_true aS
           have hx5 := bt_at a0 x8_1
           replace p5 := eq_true p5
           replace q5 := eq_true q5
           go_wp2_with (first | (go_at_call 191; (with_reducible refine (strings_IndexByte.calls (⟨#[33, 35, 36, 37, 38, 39, 42, 43, 45, 46, 94, 95, 96, 124, 126]⟩ : ByteArray) (bt a0 x8_1) t351 _ A32.out).mono ?_); rintro e w' ⟨rfl, ⟨nd, rfl⟩⟩))
           go_roundg k1
           case measure => have := HK1.out; omega
           case rel => exact ⟨(wrap64 (x8_1 + 1)), rS, H', ⟨by have := HK1.out; omega⟩, by repeat (first | exact Drawn0.refl _ | apply Drawn0.step)⟩
        ·rw [if_neg c30] at H
         have c30b0 : decide (48 ≤ (bt a0 x8_1)) = false := decide_eq_false c30
         clear c30
         replace H := Option.bind_eq_some_iff.mp H
         obtain ⟨t352, A340, H⟩ := H
         replace H : (if t352 < 0 then (some false) else (infra_Token.l0 k1 a0 (a0.size : Int) (wrap64 (x8_1 + 1)))) = some r := H
         have A34 := Aside0.mk A340
         clear A340
         by_cases c35 : t352 < 0
         ·rw [if_pos c35] at H
          have c35b0 : decide (t352 < 0) = true := decide_eq_true c35
          clear c35
          obtain rfl := Option.some.inj H
          have p5 : 0 ≤ (x8_1 : Int) := of_decide_eq_true aS
          have q5 : x8_1 < (a0.size : Int) := of_decide_eq_true aS
          have hx5 := bt_at a0 x8_1
          replace p5 := eq_true p5
          replace q5 := eq_true q5
          go_wp2_with (first | (go_at_call 191; (with_reducible refine (strings_IndexByte.calls (⟨#[33, 35, 36, 37, 38, 39, 42, 43, 45, 46, 94, 95, 96, 124, 126]⟩ : ByteArray) (bt a0 x8_1) t352 _ A34.out).mono ?_); rintro e w' ⟨rfl, ⟨nd, rfl⟩⟩))
          go_ret
          exact ⟨by first | rfl | (simp; done) | (simp [*]; done) | (cases a0.toList <;> rfl), by repeat (first | exact Drawn0.refl _ | apply Drawn0.step)⟩
         ·rw [if_neg c35] at H
          have c35b0 : decide (t352 < 0) = false := decide_eq_false c35
          clear c35
          have H' := Aside0.mk H
          clear H
          have p5 : 0 ≤ (x8_1 : Int) := of_decide_eq_true aS
          have q5 : x8_1 < (a0.size : Int) := of_decide_eq_true aS
          have hx5 := bt_at a0 x8_1
          replace p5 := eq_true p5
          replace q5 := eq_true q5
          go_wp2_with (first | (go_at_call 191; (with_reducible refine (strings_IndexByte.calls (⟨#[33, 35, 36, 37, 38, 39, 42, 43, 45, 46, 94, 95, 96, 124, 126]⟩ : ByteArray) (bt a0 x8_1) t352 _ A34.out).mono ?_); rintro e w' ⟨rfl, ⟨nd, rfl⟩⟩))
          go_roundg k1
          case measure => have := HK1.out; omega
          case rel => exact ⟨(wrap64 (x8_1 + 1)), rS, H', ⟨by have := HK1.out; omega⟩, by repeat (first | exact Drawn0.refl _ | apply Drawn0.step)⟩
     ·rw [if_neg c4] at H
      exact absurd H (by simp)
    ·rw [if_neg c3] at H
     exact absurd H (by simp)
   ·rw [if_neg c2] at H
    have c2b0 : decide (x8_1 < (a0.size : Int)) = false := decide_eq_false c2
    clear c2
    obtain rfl := Option.some.inj H
    go_wp2
    go_ret
    exact ⟨by first | rfl | (simp; done) | (simp [*]; done) | (cases a0.toList <;> rfl), by repeat (first | exact Drawn0.refl _ | apply Drawn0.step)⟩
end Go.Proofs.YtifmkgkiipckbaaGreatDoor.P
namespace Go.Proofs.YtifmkgkiipckbaaGreatDoor.P
open Go.RowKit Go.Maps Go.Sort Go.Proofs.YtifmkgkiipckbaaGreatDoorW.PrintWords Go.Proofs.YtifmkgkiipckbaaGreatDoorW.PrintLast Go.Proofs.YtifmkgkiipckbaaGreatDoorW.PrintMore
set_option linter.unusedVariables false
set_option linter.unusedSimpArgs false
theorem lawStr : Keyed Tryz.prog 9 := string_keyed Tryz.underlying9
theorem zeroInt (w : World) : (zeroValue 3).run Tryz.prog w = .ok (.int .i64 0) w := by kernel_rfl
theorem mem_strKeys {H : Type} {R : Value → Option (DataW H × List MemPlace)} {w : World} {b n : Nat} {D : DataW H} (h : w.ownsMap Tryz.prog 9 R b n D) (x : List UInt8) : x ∈ strKeys D ↔ has D (.string x) = true := by
 obtain ⟨es, rfl, hk⟩ := h.keysOf
 rw [has_eq, List.any_eq_true]
 simp only [strKeys, List.mem_map]
 constructor
 ·rintro ⟨p, hp, rfl⟩
  obtain ⟨v, hv⟩ := hk p hp
  obtain ⟨y, _, hy, _⟩ := Maps.keyOf_str Tryz.underlying9 hv
  refine ⟨p, hp, ?_⟩
  rw [hy]
  simp [strOf, Lit.sameKey]
 ·rintro ⟨p, hp, hs⟩
  obtain ⟨v, hv⟩ := hk p hp
  obtain ⟨y, _, hy, _⟩ := Maps.keyOf_str Tryz.underlying9 hv
  refine ⟨p, hp, ?_⟩
  rw [hy] at hs ⊢
  simpa [strOf, Lit.sameKey] using hs
set_option maxHeartbeats 1000000 in
theorem names_any {H : Type} (b nn : Nat) (D0 : DataW H) (R : Value → Option (DataW H × List MemPlace)) (w : World) (hown : w.ownsMap Tryz.prog 9 R b nn D0) (hmax : Maps.size D0 ≤ maxLen) (hbytes : Maps.size D0 * 16 ≤ 140737488355328) :
  Calls Tryz.prog 160 #[.map (some b)] w fun e w' => ∃ (v : Value) (ss : List (List UInt8)), e = .returned v ∧ ss.Perm (strKeys D0) ∧
   w'.ownsRow w.heap.size 9 1 v ss.length ((ss.mergeSort (fun x y => decide (x ≤ y))).map encStr) ∧ Below w.heap.size w w' := by
 refine (callsIn_wide (n := 6)).1 ?_
 have hfK : Fence.wide.fn 193 := trivial
 have hfS : Fence.wide.fn 192 := trivial
 refine callsIn_of_wp Tryz.func160 rfl trivial ?_ rfl
 simp only [Tryz.ntmps160, List.size_toArray, List.length_cons, List.length_nil, Nat.reduceAdd, Nat.reduceSub, Array.replicate_succ, Array.replicate_zero, List.push_toArray, List.append_toArray, List.nil_append, List.cons_append]
 gi_wp2_with (first
  | (gi_at_call 193; refine (Tryz.maps_Keys_193 _ _).mono ?_; rintro e w' ⟨rfl, rfl⟩)
  | (gi_at_call 192; refine (Tryz.slices_Sorted_keys_192_193 b nn D0 R w hown hmax hbytes).mono ?_; rintro e w' ⟨v, ss, rfl, hS, hrow, hnil, hb⟩))
 go_ret
 exact ⟨v, ss, rfl, hS, ownsRow_base_a hrow (by simp), ((Below.refl _ w).alloc (Nat.le_refl _) _).trans (hb.mono (by simp))⟩
theorem contains_any (A : Option Addr) (c : Nat) (zs : List ByteArray) (x : ByteArray) (r : Bool) (w : World) (h : Kd.C Kd.string w A zs.length zs) (hr : Lib.containsS zs x = r) :
  Calls Tryz.prog 114 #[.slice A zs.length c, .string x] w fun e w' => e = .returned (.bool r) ∧ w' = w := by
 subst hr
 rcases Nat.eq_zero_or_pos zs.length with h0 | h0
 ·have : zs = [] := List.eq_nil_of_length_eq_zero h0
  subst this
  exact Tryz.slices_Contains_string_empty A c x w
 ·obtain ⟨b, o, rfl, hb, hc⟩ := strs_cells h h0
  have := Tryz.slices_Contains_string b o zs.length c zs x w (Nat.le_refl _) h.2.1 (fun j hj => hc j _ (by rw [List.getD_eq_getElem?_getD, List.getElem?_eq_getElem hj]; rfl))
  rwa [List.take_of_length_le (Nat.le_refl _)] at this
def lowIn (T : ByteArray → Bool) (l : List ByteArray) (x : List UInt8) : Prop := ∃ p ∈ l, T p = true ∧ (lowS p).data.toList = x
theorem lowIn_snoc {T : ByteArray → Bool} {l : List ByteArray} {p : ByteArray} {x : List UInt8} : lowIn T (l ++ [p]) x ↔ lowIn T l x ∨ (T p = true ∧ (lowS p).data.toList = x) := by
 unfold lowIn
 constructor
 ·rintro ⟨q, hq, h⟩
  rcases List.mem_append.1 hq with h1 | h1
  ·exact .inl ⟨q, h1, h⟩
  ·obtain rfl := List.mem_singleton.1 h1
   exact .inr h
 ·rintro (⟨q, hq, h⟩ | h)
  ·exact ⟨q, List.mem_append_left _ hq, h⟩
  ·exact ⟨p, List.mem_append_right _ (List.mem_singleton.2 rfl), h⟩
def NamesMap (w : World) (b n : Nat) (T : ByteArray → Bool) (l : List ByteArray) : Prop :=
 ∃ D : DataW Unit, w.ownsMap Tryz.prog 9 (plainElem Tryz.prog 3) b n D ∧ ∀ x, has D (.string x) = true ↔ lowIn T l x
theorem NamesMap.skip {w : World} {b n : Nat} {T : ByteArray → Bool} {l : List ByteArray} {p : ByteArray} (h : NamesMap w b n T l) (hp : T p = false) : NamesMap w b (n + 1) T (l ++ [p]) := by
 obtain ⟨D, ho, hx⟩ := h
 refine ⟨D, ho.mono (Nat.le_succ _), fun x => ?_⟩
 rw [hx x, lowIn_snoc]
 simp [hp]
theorem names_put {T : ByteArray → Bool} {l : List ByteArray} {p : ByteArray} {D d : DataW Unit} (hm : IsMap D) (h : ∀ x, has D (.string x) = true ↔ lowIn T l x) (hp : T p = true) (x : List UInt8) :
  has (D.put (.string (lowS p).data.toList) d) (.string x) = true ↔ lowIn T (l ++ [p]) x := by
 rw [lowIn_snoc]
 by_cases e : (lowS p).data.toList = x
 ·subst e
  rw [has_put_same hm (by simp [WideAt.IsKeyLit])]
  simp [hp]
 ·rw [has_put_other (by intro h; injection h with h; exact e h.symm), h x]
  simp [e]
theorem take_snoc_at (l : List ByteArray) (k : Nat) (h : k < l.length) : l.take (k + 1) = l.take k ++ [l[k]] := by
 rw [List.take_succ_eq_append_getElem h]
abbrev nmExpose : ByteArray := ⟨#[97, 99, 99, 101, 115, 115, 45, 99, 111, 110, 116, 114, 111, 108, 45, 101, 120, 112, 111, 115, 101, 45, 104, 101, 97, 100, 101, 114, 115]⟩
def ExpPost (w : World) (T : ByteArray → Bool) (ps : List ByteArray) (all : Bool) (e : Ending) (w' : World) : Prop :=
 ∃ (A : Option Addr) (c : Nat) (zs : List ByteArray), e = .returned (.tuple #[.slice A zs.length c, .bool all]) ∧ zs.length ≤ c ∧ Kd.C Kd.string w' A zs.length zs ∧ (all = false → ∀ x, x ∈ zs.map (·.data.toList) ↔ lowIn T ps x) ∧ Below w.heap.size w w'
theorem ownsMap_below {H : Type} {P : Program} {k : TypeId} {R : Value → Option (DataW H × List MemPlace)} {w w1 : World} {b n : Nat} {D : DataW H} (h : w.ownsMap P k R b n D) (hb : Below w.heap.size w w1) : w1.ownsMap P k R b n D := by
 have hl := h.lt
 obtain ⟨es, clock, h0, h1⟩ := h
 exact ⟨es, clock, (hb.block b hl).trans h0, h1⟩
theorem NamesMap.below {w w1 : World} {b n : Nat} {T : ByteArray → Bool} {l : List ByteArray} (h : NamesMap w b n T l) (hb : Below w.heap.size w w1) : NamesMap w1 b n T l := by
 obtain ⟨D, ho, hx⟩ := h
 exact ⟨D, ownsMap_below ho hb, hx⟩
theorem NamesMap.made (w : World) (T : ByteArray → Bool) : NamesMap (w.alloc (.map #[] 0)) w.heap.size 0 T [] :=
 ⟨.map [], World.ownsMap_made _ _ _ _, fun x => by simp [has, lowIn]⟩
theorem below_grown {B : Nat} {w W w1 : World} {b : Nat} (h : Below B w W) (hg : W.grownBy w1 (some b)) (hb : B ≤ b) (hB : B ≤ W.heap.size) : Below B w w1 := h.grown hg (by assumption) (fun j hj => by cases hj; exact hb)
theorem exp_end {w wr w' : World} {T : ByteArray → Bool} {ps : List ByteArray} {b n : Nat} {D : DataW Unit} {R : Value → Option (DataW Unit × List MemPlace)} (hown : wr.ownsMap Tryz.prog 9 R b n D) (hx : ∀ x, has D (.string x) = true ↔ lowIn T ps x) {ss : List (List UInt8)} (hp : ss.Perm (strKeys D)) {v : Value} {base : Nat}
  (ho : w'.ownsRow base 9 1 v ss.length ((ss.mergeSort (fun x y => decide (x ≤ y))).map encStr)) (hB : Below w.heap.size w w') : ExpPost w T ps false (.returned (.tuple #[v, .bool false])) w' := by
 have hl : ((ss.mergeSort (fun x y => decide (x ≤ y))).map fun l : List UInt8 => (⟨l.toArray⟩ : ByteArray)).length = ss.length := by simp
 have hR : Kd.R Kd.string 9 w' base (fun _ => True) v ((ss.mergeSort (fun x y => decide (x ≤ y))).map fun l : List UInt8 => (⟨l.toArray⟩ : ByteArray)) := by
  refine Kd.R_of_own ?_ (fun _ _ => trivial)
  rw [hl]
  simpa [encs, List.map_map, Function.comp_def] using ho
 obtain ⟨A, c, rfl⟩ := Kd.R_slice hR
 refine ⟨A, c, _, rfl, (Kd.R_reads' hR).2.1, (Kd.R_reads' hR).2.2, fun _ x => ?_, hB⟩
 rw [← hx x, ← mem_strKeys hown x, ← hp.mem_iff, List.map_map]
 simp [Function.comp_def, List.mem_mergeSort]
set_option maxHeartbeats 4000000 in
set_option maxRecDepth 100000 in
theorem exposed_any (k : Nat) (A0 : Option Addr) (c0 : Nat) (l0 : List S30) (cred all : Bool) (ps : List ByteArray) (bq : Bool) (T : ByteArray → Bool) (w : World) (hr : Kd.C k30 w A0 l0.length l0) (hc : l0.length ≤ c0)
  (hs : headers_Split.f k l0 nmExpose = some (ps, bq)) (hT : ∀ p ∈ ps, infra_Token.f k p = some (T p)) (hz : ∀ p ∈ ps, p.size ≤ 1000000) (hn : ps.length ≤ 1000000) (hall : all = (!cred && Lib.containsS ps ⟨#[42]⟩)) :
  Calls Tryz.prog 112 #[.slice A0 l0.length c0, .bool cred] w (ExpPost w T ps all) := by
 have HR := Lib.hid hr
 have HC := Lib.hid hc
 have HS := Lib.hid hs
 have HT := Lib.hid hT
 have HZ := Lib.hid hz
 have hmm := @run_makeMap Tryz.prog
 obtain ⟨st, hst⟩ : ∃ st, Lib.containsS ps ⟨#[42]⟩ = st := ⟨_, rfl⟩
 have HST := Lib.hid hst
 rw [hst] at hall
 clear hr hc hs hT hz hst
 cases cred with
 | false =>
  cases st with
  | true =>
   subst hall
   go_enter Tryz.func112, Tryz.ntmps112
   go_wp2_with (first
    | (go_at_call 117; (with_reducible refine (headers_Split.calls k _ _ l0 nmExpose ps bq _ HR.out HC.out HS.out).mono ?_); rintro e w1 ⟨v, rfl, ho, hb⟩; obtain ⟨A, c, rfl⟩ := Kd.R_slice ho; have HO := Lib.hid (Kd.R_reads' ho).2.2; have HB := Lib.hid hb; clear ho hb)
    | (go_at_call 114; (with_reducible refine (contains_any _ _ ps _ true _ HO.out HST.out).mono ?_); rintro e w2 ⟨rfl, rfl⟩))
   go_ret2
   exact ⟨none, 0, [], rfl, Nat.le_refl _, Kd.C_nil _ _, fun h => (Bool.noConfusion h), HB.out⟩
  | false =>
   subst hall
   go_enter Tryz.func112, Tryz.ntmps112
   go_wp2_with (first
    | (go_at_call 117; (with_reducible refine (headers_Split.calls k _ _ l0 nmExpose ps bq _ HR.out HC.out HS.out).mono ?_); rintro e w1 ⟨v, rfl, ho, hb⟩; obtain ⟨A, c, rfl⟩ := Kd.R_slice ho; have HO := Lib.hid (Kd.R_reads' ho).2.2; have HB := Lib.hid hb; clear ho hb)
    | (go_at_call 114; (with_reducible refine (contains_any _ _ ps _ false _ HO.out HST.out).mono ?_); rintro e w2 ⟨rfl, rfl⟩))
   have HM := Lib.hid (NamesMap.made w2 T)
   have HB2 := Lib.hid (below_alloc (Below.refl w2.heap.size w2) (.map #[] 0))
   go_loopw [25, 10] (fun i _ wr => ∃ j : Nat, j ≤ ps.length ∧ i = .int .i64 j ∧ Aside0 (NamesMap wr w2.heap.size j T (ps.take j)) ∧ Aside0 (Below w2.heap.size w2 wr)) (fun i _ _ => ps.length - (intOf i).toNat)
   case atStart => exact ⟨0, Nat.zero_le _, rfl, ⟨HM.out⟩, ⟨HB2.out⟩⟩
   case round =>
    clear HM HB2
    obtain ⟨j, hj, rfl, hM, hB⟩ := hrel
    by_cases hlt : j < ps.length
    ·obtain ⟨b, o, rfl, hbl, hcs⟩ := strs_cells HO.out (by omega)
     have hp : ps[j]? = some ps[j] := List.getElem?_eq_getElem hlt
     have hcell := (hB.out.cell (p := ⟨b, o + j, none⟩) hbl).trans (hcs j _ hp)
     have hm : ps[j] ∈ ps := List.getElem_mem hlt
     have htok := HT.out _ hm
     have hsz := HZ.out _ hm
     have hsnoc := take_snoc_at ps j hlt
     clear hp hm hcs
     generalize ps[j] = p at hcell htok hsz hsnoc
     have HSN := Lib.hid hsnoc
     have HLW := Lib.hid (show infra_Lower.f p = some (lowS p) from by unfold infra_Lower.f; rw [if_pos (by omega)])
     have HKEY := Lib.hid (WideMaps.keyOf_string_mk (s := lowS p) Tryz.underlying9 (by rw [lowS_size]; unfold maxLen; omega))
     have HTK := Lib.hid htok
     clear htok hsnoc hsz
     cases htp : T p with
     | true =>
      have HTP := Lib.hid htp
      rw [htp] at HTK
      clear htp
      obtain ⟨D, hown, hx⟩ := hM.out
      have HOWN := Lib.hid hown
      have HX := Lib.hid hx
      clear hown hx
      go_wp2_with (first
       | (go_at_call 159; (with_reducible refine (infra_Token.calls k p true _ HTK.out).mono ?_); rintro e w3 ⟨rfl, nd, rfl⟩)
       | (go_at_call 118; (with_reducible refine (infra_Lower.calls p _ _ HLW.out).mono ?_); rintro e w4 ⟨rfl, hb⟩; have HOWN4 := Lib.hid (ownsMap_below (ownsMap_below HOWN.out (pw_below_drewN (Below.refl _ _) nd)) hb); have HB4 := Lib.hid (below_step (pw_below_drewN hB.out nd) hb); clear hb)
       | (at_lookup; refine wpList_lookup_own_int _ rfl _ _ 195 rfl 9 3 .i64 lawStr Tryz.underlying195 Tryz.underlying3 (zeroInt _) w2.heap.size j _ rfl HOWN4.out _ _ rfl HKEY.out ?_; intro cc hat hwc; clear hat hwc)
       | (at_mapUpdate; refine wpList_mapUpdate_own _ rfl _ _ _ 195 rfl 9 3 lawStr Tryz.underlying195 _ w2.heap.size j _ rfl HOWN4.out (by unfold maxLen; omega) _ _ _ rfl rfl HKEY.out _ [] (plainElem_int Tryz.underlying3 (wrap64_wf _)) ?_; intro w5 hown5 hgrow5; have HOWN5 := Lib.hid hown5; have HG5 := Lib.hid hgrow5; clear hown5 hgrow5))
      go_roundw
      case rel => exact ⟨j + 1, by omega, by go_num, ⟨by rw [HSN.out]; exact ⟨_, HOWN5.out, names_put HOWN.out.isMap HX.out HTP.out⟩⟩, ⟨below_grown HB4.out HG5.out (Nat.le_refl _) HB4.out.size⟩⟩
      case measure => simp [intOf]; omega
     | false =>
      have HTP := Lib.hid htp
      rw [htp] at HTK
      clear htp
      go_wp2_with (go_at_call 159; (with_reducible refine (infra_Token.calls k p false _ HTK.out).mono ?_); rintro e w3 ⟨rfl, nd, rfl⟩)
      go_roundw
      case rel => exact ⟨j + 1, by omega, by go_num, ⟨by rw [HSN.out]; exact (hM.out.below (pw_below_drewN (Below.refl _ _) nd)).skip HTP.out⟩, ⟨pw_below_drewN hB.out nd⟩⟩
      case measure => simp [intOf]; omega
    ·have hje : j = ps.length := by omega
     have HJE := Lib.hid hje
     obtain ⟨D, hown, hx⟩ := hM.out
     have hsz := hown.size_le
     have HOWN := Lib.hid hown
     have HX := Lib.hid hx
     clear hown hx hje hM
     go_wp2_with (go_at_call 160; (with_reducible refine (names_any w2.heap.size j D _ _ HOWN.out (by unfold maxLen; omega) (by omega)).mono ?_); rintro e w6 ⟨v, ss, rfl, hp, ho, hb⟩; have HP := Lib.hid hp; have HOR := Lib.hid ho; have HB6 := Lib.hid (below_step hB.out hb); clear hp ho hb)
     go_ret2
     exact exp_end HOWN.out (by rw [HJE.out, List.take_of_length_le (Nat.le_refl _)] at HX; exact HX.out) HP.out HOR.out (HB.out.trans (HB6.out.mono HB.out.size))
 | true =>
  obtain rfl : all = false := by simpa using hall
  clear hall
  go_enter Tryz.func112, Tryz.ntmps112
  go_wp2_with (first
   | (go_at_call 117; (with_reducible refine (headers_Split.calls k _ _ l0 nmExpose ps bq _ HR.out HC.out HS.out).mono ?_); rintro e w1 ⟨v, rfl, ho, hb⟩; obtain ⟨A, c, rfl⟩ := Kd.R_slice ho; have HO := Lib.hid (Kd.R_reads' ho).2.2; have HB := Lib.hid hb; clear ho hb))
  have HM := Lib.hid (NamesMap.made w1 T)
  have HB2 := Lib.hid (below_alloc (Below.refl w1.heap.size w1) (.map #[] 0))
  go_loopw [25, 10] (fun i _ wr => ∃ j : Nat, j ≤ ps.length ∧ i = .int .i64 j ∧ Aside0 (NamesMap wr w1.heap.size j T (ps.take j)) ∧ Aside0 (Below w1.heap.size w1 wr)) (fun i _ _ => ps.length - (intOf i).toNat)
  case atStart => exact ⟨0, Nat.zero_le _, rfl, ⟨HM.out⟩, ⟨HB2.out⟩⟩
  case round =>
   clear HM HB2
   obtain ⟨j, hj, rfl, hM, hB⟩ := hrel
   by_cases hlt : j < ps.length
   ·obtain ⟨b, o, rfl, hbl, hcs⟩ := strs_cells HO.out (by omega)
    have hp : ps[j]? = some ps[j] := List.getElem?_eq_getElem hlt
    have hcell := (hB.out.cell (p := ⟨b, o + j, none⟩) hbl).trans (hcs j _ hp)
    have hm : ps[j] ∈ ps := List.getElem_mem hlt
    have htok := HT.out _ hm
    have hsz := HZ.out _ hm
    have hsnoc := take_snoc_at ps j hlt
    clear hp hm hcs
    generalize ps[j] = p at hcell htok hsz hsnoc
    have HSN := Lib.hid hsnoc
    have HLW := Lib.hid (show infra_Lower.f p = some (lowS p) from by unfold infra_Lower.f; rw [if_pos (by omega)])
    have HKEY := Lib.hid (WideMaps.keyOf_string_mk (s := lowS p) Tryz.underlying9 (by rw [lowS_size]; unfold maxLen; omega))
    have HTK := Lib.hid htok
    clear htok hsnoc hsz
    cases htp : T p with
    | true =>
     have HTP := Lib.hid htp
     rw [htp] at HTK
     clear htp
     obtain ⟨D, hown, hx⟩ := hM.out
     have HOWN := Lib.hid hown
     have HX := Lib.hid hx
     clear hown hx
     go_wp2_with (first
      | (go_at_call 159; (with_reducible refine (infra_Token.calls k p true _ HTK.out).mono ?_); rintro e w3 ⟨rfl, nd, rfl⟩)
      | (go_at_call 118; (with_reducible refine (infra_Lower.calls p _ _ HLW.out).mono ?_); rintro e w4 ⟨rfl, hb⟩; have HOWN4 := Lib.hid (ownsMap_below (ownsMap_below HOWN.out (pw_below_drewN (Below.refl _ _) nd)) hb); have HB4 := Lib.hid (below_step (pw_below_drewN hB.out nd) hb); clear hb)
      | (at_lookup; refine wpList_lookup_own_int _ rfl _ _ 195 rfl 9 3 .i64 lawStr Tryz.underlying195 Tryz.underlying3 (zeroInt _) w1.heap.size j _ rfl HOWN4.out _ _ rfl HKEY.out ?_; intro cc hat hwc; clear hat hwc)
      | (at_mapUpdate; refine wpList_mapUpdate_own _ rfl _ _ _ 195 rfl 9 3 lawStr Tryz.underlying195 _ w1.heap.size j _ rfl HOWN4.out (by unfold maxLen; omega) _ _ _ rfl rfl HKEY.out _ [] (plainElem_int Tryz.underlying3 (wrap64_wf _)) ?_; intro w5 hown5 hgrow5; have HOWN5 := Lib.hid hown5; have HG5 := Lib.hid hgrow5; clear hown5 hgrow5))
     go_roundw
     case rel => exact ⟨j + 1, by omega, by go_num, ⟨by rw [HSN.out]; exact ⟨_, HOWN5.out, names_put HOWN.out.isMap HX.out HTP.out⟩⟩, ⟨below_grown HB4.out HG5.out (Nat.le_refl _) HB4.out.size⟩⟩
     case measure => simp [intOf]; omega
    | false =>
     have HTP := Lib.hid htp
     rw [htp] at HTK
     clear htp
     go_wp2_with (go_at_call 159; (with_reducible refine (infra_Token.calls k p false _ HTK.out).mono ?_); rintro e w3 ⟨rfl, nd, rfl⟩)
     go_roundw
     case rel => exact ⟨j + 1, by omega, by go_num, ⟨by rw [HSN.out]; exact (hM.out.below (pw_below_drewN (Below.refl _ _) nd)).skip HTP.out⟩, ⟨pw_below_drewN hB.out nd⟩⟩
     case measure => simp [intOf]; omega
   ·have hje : j = ps.length := by omega
    have HJE := Lib.hid hje
    obtain ⟨D, hown, hx⟩ := hM.out
    have hsz := hown.size_le
    have HOWN := Lib.hid hown
    have HX := Lib.hid hx
    clear hown hx hje hM
    go_wp2_with (go_at_call 160; (with_reducible refine (names_any w1.heap.size j D _ _ HOWN.out (by unfold maxLen; omega) (by omega)).mono ?_); rintro e w6 ⟨v, ss, rfl, hp, ho, hb⟩; have HP := Lib.hid hp; have HOR := Lib.hid ho; have HB6 := Lib.hid (below_step hB.out hb); clear hp ho hb)
    go_ret2
    exact exp_end HOWN.out (by rw [HJE.out, List.take_of_length_le (Nat.le_refl _)] at HX; exact HX.out) HP.out HOR.out (HB.out.trans (HB6.out.mono HB.out.size))
end Go.Proofs.YtifmkgkiipckbaaGreatDoor.P
