/- A part of the proof of FL: texts of walks and plain lemmas. -/
import Derived.Test.YtifmkgkiipckbaaDoorXFL1
import Derived.Test.YtifmkgkiipckbaaDoorXFL7
namespace Go.Proofs.YtifmkgkiipckbaaDoor.P
open Go.RowKit Go.Proofs.YtifmkgkiipckbaaDoorW.PrintWords Go.Proofs.YtifmkgkiipckbaaDoorW.PrintLast Go.Proofs.YtifmkgkiipckbaaDoorW.PrintMore
attribute [local go_sem] max2_int min2_int max_two min_two max_three min_three max_four min_four
set_option linter.unusedVariables false
set_option linter.unusedSimpArgs false
attribute [local go_sem high] eqA72
mutual
def ostiarylaw20_among.l0 : Nat → List (S72) → List (S72) → Int → Int → Option (Bool)
 | 0, _, _, _, _ => none
 | k + 1, x0, x1, x5, x6 => if x6 < (x0.length : Int) then (ostiarylaw20_among.l1 k x0 x1 x5 x6) else (some true)
def ostiarylaw20_among.l1 : Nat → List (S72) → List (S72) → Int → Int → Option (Bool)
 | 0, _, _, _, _ => none
 | k + 1, x0, x1, x5, x6 => if x5 < (x1.length : Int) then (if 0 ≤ x5 then (if 0 ≤ x6 then (if x6 < (x0.length : Int) then (if (!((((rd_T72 x1 x5).f0).toList) == (((rd_T72 x0 x6).f0).toList)) || (!((((rd_T72 x1 x5).f1).toList) == (((rd_T72 x0 x6).f1).toList)))) = true then (ostiarylaw20_among.l1 k x0 x1 (wrap64 (x5 + 1)) x6) else (if x5 = (x1.length : Int) then (some false) else (if ((rd_T72 x0 x6).f0).toList = ([115, 101, 116, 45, 99, 111, 111, 107, 105, 101] : List UInt8) then (some false) else (if ((rd_T72 x0 x6).f0).toList = ([83, 101, 116, 45, 67, 111, 111, 107, 105, 101] : List UInt8) then (some false) else (if ((rd_T72 x0 x6).f0).toList = ([115, 101, 116, 45, 99, 111, 111, 107, 105, 101, 50] : List UInt8) then (some false) else (ostiarylaw20_among.l0 k x0 x1 (wrap64 (x5 + 1)) (wrap64 (x6 + 1)))))))) else (none)) else (none)) else (none)) else (if x5 = (x1.length : Int) then (some false) else (if 0 ≤ x6 then (if x6 < (x0.length : Int) then (if ((rd_T72 x0 x6).f0).toList = ([115, 101, 116, 45, 99, 111, 111, 107, 105, 101] : List UInt8) then (some false) else (if ((rd_T72 x0 x6).f0).toList = ([83, 101, 116, 45, 67, 111, 111, 107, 105, 101] : List UInt8) then (some false) else (if ((rd_T72 x0 x6).f0).toList = ([115, 101, 116, 45, 99, 111, 111, 107, 105, 101, 50] : List UInt8) then (some false) else (ostiarylaw20_among.l0 k x0 x1 (wrap64 (x5 + 1)) (wrap64 (x6 + 1)))))) else (none)) else (none)))
end
def ostiarylaw20_among.f (k : Nat) (l0 : List (S72)) (l1 : List (S72)) : Option (Bool) := ostiarylaw20_among.l0 k l0 l1 0 0
theorem ostiarylaw20_among.mono_l : ∀ k, (∀ y0 y1 y2 y3, LeO (ostiarylaw20_among.l0 k y0 y1 y2 y3) (ostiarylaw20_among.l0 (k + 1) y0 y1 y2 y3)) ∧ (∀ y0 y1 y2 y3, LeO (ostiarylaw20_among.l1 k y0 y1 y2 y3) (ostiarylaw20_among.l1 (k + 1) y0 y1 y2 y3))
 | 0 => ⟨fun _ _ _ _ r h => by simp [ostiarylaw20_among.l0] at h, fun _ _ _ _ r h => by simp [ostiarylaw20_among.l1] at h⟩
 | k + 1 => by
  obtain ⟨ih0, ih1⟩ := ostiarylaw20_among.mono_l k
  refine ⟨?_, ?_⟩
  ·intro y0 y1 y2 y3
   unfold ostiarylaw20_among.l0
   exact lO
  ·intro y0 y1 y2 y3
   unfold ostiarylaw20_among.l1
   exact lO
theorem ostiarylaw20_among.mono : ∀ a0 a1 k, LeO (ostiarylaw20_among.f k a0 a1) (ostiarylaw20_among.f (k + 1) a0 a1) := by
 intro a0 a1 k
 obtain ⟨ih0, ih1⟩ := ostiarylaw20_among.mono_l k
 unfold ostiarylaw20_among.f
 exact lO
set_option maxHeartbeats 8000000 in
set_option maxRecDepth 100000 in
theorem ostiarylaw20_among.calls (k : Nat) (A0 : Option Addr) (c0 : Nat) (l0 : List (S72)) (A1 : Option Addr) (c1 : Nat) (l1 : List (S72)) (r : Bool) (w : World) (hr0 : Kd.C k72 w A0 l0.length l0) (hc0 : l0.length ≤ c0) (hr1 : Kd.C k72 w A1 l1.length l1) (hc1 : l1.length ≤ c1) (h : ostiarylaw20_among.f k l0 l1 = some r) :
  Calls Tryd.prog 35 #[.slice A0 l0.length c0, .slice A1 l1.length c1] w fun e w' => e = .returned (.bool r) ∧ Drawn0 w w' := by
 have hu72 := Tryd.underlying72
 have HR0 := Aside0.mk hr0
 have HC0 := Aside0.mk hc0
 clear hr0 hc0
 have HR1 := Aside0.mk hr1
 have HC1 := Aside0.mk hc1
 clear hr1 hc1
 have H : (ostiarylaw20_among.l0 k l0 l1 0 0) = some r := h
 clear h
 have H' := Aside0.mk H
 clear H
 go_enter Tryd.func35, Tryd.ntmps35
 go_wp2
 repeat (go_quiet (fail); try go_wp2)
 go_loopg [5, 6] k (fun kq v5 v6 w' => ∃ (x5_1 : Int) (x6_1 : Int), v5 = .int .i64 x5_1 ∧ v6 = .int .i64 x6_1 ∧ Aside0 (ostiarylaw20_among.l0 kq l0 l1 x5_1 x6_1 = some r) ∧ Aside0 (kq ≤ k) ∧ Drawn0 w w')
 case atStart => exact ⟨(0), (0), rS, rS, H', ⟨Nat.le_refl _⟩, by repeat (first | exact Drawn0.refl _ | apply Drawn0.step)⟩
 case round =>
  clear H'
  try clear c1
  try clear p2
  obtain ⟨x5_1, x6_1, rfl, rfl, HA, HK1, ⟨m1, rfl⟩⟩ := hrel
  cases gk with
  | zero => exact absurd HA.out (by simp [ostiarylaw20_among.l0])
  | succ k1 =>
   have H := HA.out
   clear HA
   simp only [ostiarylaw20_among.l0] at H
   by_cases c3 : x6_1 < (l0.length : Int)
   ·rw [if_pos c3] at H
    have c3b0 : decide (x6_1 < (l0.length : Int)) = true := decide_eq_true c3
    clear c3
    have H' := Aside0.mk H
    clear H
    go_wp2
    repeat (go_quiet (fail); try go_wp2)
    go_loopg [5] k1 (fun kq v5 w' => ∃ (x5_2 : Int), v5 = .int .i64 x5_2 ∧ Aside0 (ostiarylaw20_among.l1 kq l0 l1 x5_2 x6_1 = some r) ∧ Aside0 (kq ≤ k1) ∧ Drawn0 w w')
    case atStart => exact ⟨(x5_1), rS, H', ⟨Nat.le_refl _⟩, by repeat (first | exact Drawn0.refl _ | apply Drawn0.step)⟩
    case round =>
     clear H'
     try clear c1
     try clear p2
     try clear c3
     try clear c3b0
     try clear p2
     obtain ⟨x5_2, rfl, HA, HK2, ⟨m2, rfl⟩⟩ := hrel
     cases gk with
     | zero => exact absurd HA.out (by simp [ostiarylaw20_among.l1])
     | succ k2 =>
      have H := HA.out
      clear HA
      simp only [ostiarylaw20_among.l1] at H
      by_cases c4 : x5_2 < (l1.length : Int)
      ·rw [if_pos c4] at H
       have c4b0 : decide (x5_2 < (l1.length : Int)) = true := decide_eq_true c4
       clear c4
       by_cases c5 : 0 ≤ x5_2
       ·rw [if_pos c5] at H
        have c5b0 : decide (0 ≤ x5_2) = true := decide_eq_true c5
        clear c5
        by_cases c6 : 0 ≤ x6_1
        ·rw [if_pos c6] at H
         have c6b0 : decide (0 ≤ x6_1) = true := decide_eq_true c6
         clear c6
         by_cases c7 : x6_1 < (l0.length : Int)
         ·rw [if_pos c7] at H
          have c7b0 : decide (x6_1 < (l0.length : Int)) = true := decide_eq_true c7
          clear c7
          by_cases c8 : (!((((rd_T72 l1 x5_2).f0).toList) == (((rd_T72 l0 x6_1).f0).toList)) || (!((((rd_T72 l1 x5_2).f1).toList) == (((rd_T72 l0 x6_1).f1).toList)))) = true
          ·rw [if_pos c8] at H
           have c8b0 : (!((((rd_T72 l1 x5_2).f0).toList) == (((rd_T72 l0 x6_1).f0).toList)) || (!((((rd_T72 l1 x5_2).f1).toList) == (((rd_T72 l0 x6_1).f1).toList)))) = true := c8
           clear c8
           have H' := Aside0.mk H
           clear H
           have p101 : 0 ≤ (x5_2 : Int) := of_decide_eq_true aS
           have q101 : x5_2 < (l1.length : Int) := of_decide_eq_true aS
           obtain ⟨ad101, e101, hx101_0, hx101_1⟩ := at_T72 HR1.out x5_2 p101 q101
           cases e101
           replace p101 := eq_true p101
           replace q101 := eq_true q101
           have p102 : 0 ≤ (x6_1 : Int) := of_decide_eq_true aS
           have q102 : x6_1 < (l0.length : Int) := of_decide_eq_true aS
           obtain ⟨ad102, e102, hx102_0, hx102_1⟩ := at_T72 HR0.out x6_1 p102 q102
           cases e102
           replace p102 := eq_true p102
           replace q102 := eq_true q102
           go_wp2
           repeat (go_quiet (fail); try go_wp2)
           go_roundg k2
           case measure => have := HK1.out; have := HK2.out; omega
           case rel => exact ⟨(wrap64 (x5_2 + 1)), rS, H', ⟨by have := HK1.out; have := HK2.out; omega⟩, by repeat (first | exact Drawn0.refl _ | apply Drawn0.step)⟩
          ·rw [if_neg c8] at H
           have c8b0 : (!((((rd_T72 l1 x5_2).f0).toList) == (((rd_T72 l0 x6_1).f0).toList)) || (!((((rd_T72 l1 x5_2).f1).toList) == (((rd_T72 l0 x6_1).f1).toList)))) = false := by simpa using c8
           clear c8
           by_cases c9 : x5_2 = (l1.length : Int)
           ·rw [if_pos c9] at H
            have c9b0 : (x5_2 == (l1.length : Int)) = true := beq_iff_eq.mpr c9
            have c9b1 : (x5_2 != (l1.length : Int)) = false := bne_eq_false_iff_eq.mpr c9
            clear c9
            obtain rfl := Option.some.inj H
            have p101 : 0 ≤ (x5_2 : Int) := of_decide_eq_true aS
            have q101 : x5_2 < (l1.length : Int) := of_decide_eq_true aS
            obtain ⟨ad101, e101, hx101_0, hx101_1⟩ := at_T72 HR1.out x5_2 p101 q101
            cases e101
            replace p101 := eq_true p101
            replace q101 := eq_true q101
            have p102 : 0 ≤ (x6_1 : Int) := of_decide_eq_true aS
            have q102 : x6_1 < (l0.length : Int) := of_decide_eq_true aS
            obtain ⟨ad102, e102, hx102_0, hx102_1⟩ := at_T72 HR0.out x6_1 p102 q102
            cases e102
            replace p102 := eq_true p102
            replace q102 := eq_true q102
            go_wp2
            repeat (go_quiet (fail); try go_wp2)
            go_ret
            exact ⟨rS, by repeat (first | exact Drawn0.refl _ | apply Drawn0.step)⟩
           ·rw [if_neg c9] at H
            have c9b0 : (x5_2 == (l1.length : Int)) = false := beq_eq_false_iff_ne.mpr c9
            have c9b1 : (x5_2 != (l1.length : Int)) = true := bne_iff_ne.mpr c9
            by_cases c10 : ((rd_T72 l0 x6_1).f0).toList = ([115, 101, 116, 45, 99, 111, 111, 107, 105, 101] : List UInt8)
            ·rw [if_pos c10] at H
             have c10b0 : (((rd_T72 l0 x6_1).f0).toList == ([115, 101, 116, 45, 99, 111, 111, 107, 105, 101] : List UInt8)) = true := beq_iff_eq.mpr c10
             have c10b1 : (((rd_T72 l0 x6_1).f0).toList != ([115, 101, 116, 45, 99, 111, 111, 107, 105, 101] : List UInt8)) = false := bne_eq_false_iff_eq.mpr c10
             clear c10
             obtain rfl := Option.some.inj H
             have p101 : 0 ≤ (x5_2 : Int) := of_decide_eq_true aS
             have q101 : x5_2 < (l1.length : Int) := of_decide_eq_true aS
             obtain ⟨ad101, e101, hx101_0, hx101_1⟩ := at_T72 HR1.out x5_2 p101 q101
             cases e101
             replace p101 := eq_true p101
             replace q101 := eq_true q101
             have p102 : 0 ≤ (x6_1 : Int) := of_decide_eq_true aS
             have q102 : x6_1 < (l0.length : Int) := of_decide_eq_true aS
             obtain ⟨ad102, e102, hx102_0, hx102_1⟩ := at_T72 HR0.out x6_1 p102 q102
             cases e102
             replace p102 := eq_true p102
             replace q102 := eq_true q102
             have p103 : 0 ≤ (x6_1 : Int) := of_decide_eq_true aS
             have q103 : x6_1 < (l0.length : Int) := of_decide_eq_true aS
             obtain ⟨ad103, e103, hx103_0, hx103_1⟩ := at_T72 HR0.out x6_1 p103 q103
             obtain rfl : ad102 = ad103 := (by injection e103)
             replace p103 := eq_true p103
             replace q103 := eq_true q103
             go_wp2
             repeat (go_quiet (fail); try go_wp2)
             go_ret
             exact ⟨rS, by repeat (first | exact Drawn0.refl _ | apply Drawn0.step)⟩
            ·rw [if_neg c10] at H
             have c10b0 : (((rd_T72 l0 x6_1).f0).toList == ([115, 101, 116, 45, 99, 111, 111, 107, 105, 101] : List UInt8)) = false := beq_eq_false_iff_ne.mpr c10
             have c10b1 : (((rd_T72 l0 x6_1).f0).toList != ([115, 101, 116, 45, 99, 111, 111, 107, 105, 101] : List UInt8)) = true := bne_iff_ne.mpr c10
             by_cases c11 : ((rd_T72 l0 x6_1).f0).toList = ([83, 101, 116, 45, 67, 111, 111, 107, 105, 101] : List UInt8)
             ·rw [if_pos c11] at H
              have c11b0 : (((rd_T72 l0 x6_1).f0).toList == ([83, 101, 116, 45, 67, 111, 111, 107, 105, 101] : List UInt8)) = true := beq_iff_eq.mpr c11
              have c11b1 : (((rd_T72 l0 x6_1).f0).toList != ([83, 101, 116, 45, 67, 111, 111, 107, 105, 101] : List UInt8)) = false := bne_eq_false_iff_eq.mpr c11
              clear c11
              obtain rfl := Option.some.inj H
              have p101 : 0 ≤ (x5_2 : Int) := of_decide_eq_true aS
              have q101 : x5_2 < (l1.length : Int) := of_decide_eq_true aS
              obtain ⟨ad101, e101, hx101_0, hx101_1⟩ := at_T72 HR1.out x5_2 p101 q101
              cases e101
              replace p101 := eq_true p101
              replace q101 := eq_true q101
              have p102 : 0 ≤ (x6_1 : Int) := of_decide_eq_true aS
              have q102 : x6_1 < (l0.length : Int) := of_decide_eq_true aS
              obtain ⟨ad102, e102, hx102_0, hx102_1⟩ := at_T72 HR0.out x6_1 p102 q102
              cases e102
              replace p102 := eq_true p102
              replace q102 := eq_true q102
              have p103 : 0 ≤ (x6_1 : Int) := of_decide_eq_true aS
              have q103 : x6_1 < (l0.length : Int) := of_decide_eq_true aS
              obtain ⟨ad103, e103, hx103_0, hx103_1⟩ := at_T72 HR0.out x6_1 p103 q103
              obtain rfl : ad102 = ad103 := (by injection e103)
              replace p103 := eq_true p103
              replace q103 := eq_true q103
              have p104 : 0 ≤ (x6_1 : Int) := of_decide_eq_true aS
              have q104 : x6_1 < (l0.length : Int) := of_decide_eq_true aS
              obtain ⟨ad104, e104, hx104_0, hx104_1⟩ := at_T72 HR0.out x6_1 p104 q104
              obtain rfl : ad102 = ad104 := (by injection e104)
              replace p104 := eq_true p104
              replace q104 := eq_true q104
              go_wp2
              repeat (go_quiet (fail); try go_wp2)
              go_ret
              exact ⟨rS, by repeat (first | exact Drawn0.refl _ | apply Drawn0.step)⟩
             ·rw [if_neg c11] at H
              have c11b0 : (((rd_T72 l0 x6_1).f0).toList == ([83, 101, 116, 45, 67, 111, 111, 107, 105, 101] : List UInt8)) = false := beq_eq_false_iff_ne.mpr c11
              have c11b1 : (((rd_T72 l0 x6_1).f0).toList != ([83, 101, 116, 45, 67, 111, 111, 107, 105, 101] : List UInt8)) = true := bne_iff_ne.mpr c11
              by_cases c12 : ((rd_T72 l0 x6_1).f0).toList = ([115, 101, 116, 45, 99, 111, 111, 107, 105, 101, 50] : List UInt8)
              ·rw [if_pos c12] at H
               have c12b0 : (((rd_T72 l0 x6_1).f0).toList == ([115, 101, 116, 45, 99, 111, 111, 107, 105, 101, 50] : List UInt8)) = true := beq_iff_eq.mpr c12
               have c12b1 : (((rd_T72 l0 x6_1).f0).toList != ([115, 101, 116, 45, 99, 111, 111, 107, 105, 101, 50] : List UInt8)) = false := bne_eq_false_iff_eq.mpr c12
               clear c12
               obtain rfl := Option.some.inj H
               have p101 : 0 ≤ (x5_2 : Int) := of_decide_eq_true aS
               have q101 : x5_2 < (l1.length : Int) := of_decide_eq_true aS
               obtain ⟨ad101, e101, hx101_0, hx101_1⟩ := at_T72 HR1.out x5_2 p101 q101
               cases e101
               replace p101 := eq_true p101
               replace q101 := eq_true q101
               have p102 : 0 ≤ (x6_1 : Int) := of_decide_eq_true aS
               have q102 : x6_1 < (l0.length : Int) := of_decide_eq_true aS
               obtain ⟨ad102, e102, hx102_0, hx102_1⟩ := at_T72 HR0.out x6_1 p102 q102
               cases e102
               replace p102 := eq_true p102
               replace q102 := eq_true q102
               have p103 : 0 ≤ (x6_1 : Int) := of_decide_eq_true aS
               have q103 : x6_1 < (l0.length : Int) := of_decide_eq_true aS
               obtain ⟨ad103, e103, hx103_0, hx103_1⟩ := at_T72 HR0.out x6_1 p103 q103
               obtain rfl : ad102 = ad103 := (by injection e103)
               replace p103 := eq_true p103
               replace q103 := eq_true q103
               have p104 : 0 ≤ (x6_1 : Int) := of_decide_eq_true aS
               have q104 : x6_1 < (l0.length : Int) := of_decide_eq_true aS
               obtain ⟨ad104, e104, hx104_0, hx104_1⟩ := at_T72 HR0.out x6_1 p104 q104
               obtain rfl : ad102 = ad104 := (by injection e104)
               replace p104 := eq_true p104
               replace q104 := eq_true q104
               have p105 : 0 ≤ (x6_1 : Int) := of_decide_eq_true aS
               have q105 : x6_1 < (l0.length : Int) := of_decide_eq_true aS
               obtain ⟨ad105, e105, hx105_0, hx105_1⟩ := at_T72 HR0.out x6_1 p105 q105
               obtain rfl : ad102 = ad105 := (by injection e105)
               replace p105 := eq_true p105
               replace q105 := eq_true q105
               go_wp2
               repeat (go_quiet (fail); try go_wp2)
               go_ret
               exact ⟨rS, by repeat (first | exact Drawn0.refl _ | apply Drawn0.step)⟩
              ·rw [if_neg c12] at H
               have c12b0 : (((rd_T72 l0 x6_1).f0).toList == ([115, 101, 116, 45, 99, 111, 111, 107, 105, 101, 50] : List UInt8)) = false := beq_eq_false_iff_ne.mpr c12
               have c12b1 : (((rd_T72 l0 x6_1).f0).toList != ([115, 101, 116, 45, 99, 111, 111, 107, 105, 101, 50] : List UInt8)) = true := bne_iff_ne.mpr c12
               have H' := Aside0.mk H
               clear H
               have p101 : 0 ≤ (x5_2 : Int) := of_decide_eq_true aS
               have q101 : x5_2 < (l1.length : Int) := of_decide_eq_true aS
               obtain ⟨ad101, e101, hx101_0, hx101_1⟩ := at_T72 HR1.out x5_2 p101 q101
               cases e101
               replace p101 := eq_true p101
               replace q101 := eq_true q101
               have p102 : 0 ≤ (x6_1 : Int) := of_decide_eq_true aS
               have q102 : x6_1 < (l0.length : Int) := of_decide_eq_true aS
               obtain ⟨ad102, e102, hx102_0, hx102_1⟩ := at_T72 HR0.out x6_1 p102 q102
               cases e102
               replace p102 := eq_true p102
               replace q102 := eq_true q102
               have p103 : 0 ≤ (x6_1 : Int) := of_decide_eq_true aS
               have q103 : x6_1 < (l0.length : Int) := of_decide_eq_true aS
               obtain ⟨ad103, e103, hx103_0, hx103_1⟩ := at_T72 HR0.out x6_1 p103 q103
               obtain rfl : ad102 = ad103 := (by injection e103)
               replace p103 := eq_true p103
               replace q103 := eq_true q103
               have p104 : 0 ≤ (x6_1 : Int) := of_decide_eq_true aS
               have q104 : x6_1 < (l0.length : Int) := of_decide_eq_true aS
               obtain ⟨ad104, e104, hx104_0, hx104_1⟩ := at_T72 HR0.out x6_1 p104 q104
               obtain rfl : ad102 = ad104 := (by injection e104)
               replace p104 := eq_true p104
               replace q104 := eq_true q104
               have p105 : 0 ≤ (x6_1 : Int) := of_decide_eq_true aS
               have q105 : x6_1 < (l0.length : Int) := of_decide_eq_true aS
               obtain ⟨ad105, e105, hx105_0, hx105_1⟩ := at_T72 HR0.out x6_1 p105 q105
               obtain rfl : ad102 = ad105 := (by injection e105)
               replace p105 := eq_true p105
               replace q105 := eq_true q105
               go_wp2
               repeat (go_quiet (fail); try go_wp2)
               go_roundg k2
               case measure => have := HK1.out; have := HK2.out; omega
               case rel => exact ⟨(wrap64 (x5_2 + 1)), (wrap64 (x6_1 + 1)), rS, rS, H', ⟨by have := HK1.out; have := HK2.out; omega⟩, by repeat (first | exact Drawn0.refl _ | apply Drawn0.step)⟩
         ·rw [if_neg c7] at H
          exact absurd H (by simp)
        ·rw [if_neg c6] at H
         exact absurd H (by simp)
       ·rw [if_neg c5] at H
        exact absurd H (by simp)
      ·rw [if_neg c4] at H
       have c4b0 : decide (x5_2 < (l1.length : Int)) = false := decide_eq_false c4
       clear c4
       by_cases c13 : x5_2 = (l1.length : Int)
       ·rw [if_pos c13] at H
        have c13b0 : (x5_2 == (l1.length : Int)) = true := beq_iff_eq.mpr c13
        have c13b1 : (x5_2 != (l1.length : Int)) = false := bne_eq_false_iff_eq.mpr c13
        clear c13
        obtain rfl := Option.some.inj H
        go_wp2
        repeat (go_quiet (fail); try go_wp2)
        go_ret
        exact ⟨rS, by repeat (first | exact Drawn0.refl _ | apply Drawn0.step)⟩
       ·rw [if_neg c13] at H
        have c13b0 : (x5_2 == (l1.length : Int)) = false := beq_eq_false_iff_ne.mpr c13
        have c13b1 : (x5_2 != (l1.length : Int)) = true := bne_iff_ne.mpr c13
        by_cases c14 : 0 ≤ x6_1
        ·rw [if_pos c14] at H
         have c14b0 : decide (0 ≤ x6_1) = true := decide_eq_true c14
         clear c14
         by_cases c15 : x6_1 < (l0.length : Int)
         ·rw [if_pos c15] at H
          have c15b0 : decide (x6_1 < (l0.length : Int)) = true := decide_eq_true c15
          clear c15
          by_cases c16 : ((rd_T72 l0 x6_1).f0).toList = ([115, 101, 116, 45, 99, 111, 111, 107, 105, 101] : List UInt8)
          ·rw [if_pos c16] at H
           have c16b0 : (((rd_T72 l0 x6_1).f0).toList == ([115, 101, 116, 45, 99, 111, 111, 107, 105, 101] : List UInt8)) = true := beq_iff_eq.mpr c16
           have c16b1 : (((rd_T72 l0 x6_1).f0).toList != ([115, 101, 116, 45, 99, 111, 111, 107, 105, 101] : List UInt8)) = false := bne_eq_false_iff_eq.mpr c16
           clear c16
           obtain rfl := Option.some.inj H
           have p106 : 0 ≤ (x6_1 : Int) := of_decide_eq_true aS
           have q106 : x6_1 < (l0.length : Int) := of_decide_eq_true aS
           obtain ⟨ad106, e106, hx106_0, hx106_1⟩ := at_T72 HR0.out x6_1 p106 q106
           cases e106
           replace p106 := eq_true p106
           replace q106 := eq_true q106
           go_wp2
           repeat (go_quiet (fail); try go_wp2)
           go_ret
           exact ⟨rS, by repeat (first | exact Drawn0.refl _ | apply Drawn0.step)⟩
          ·rw [if_neg c16] at H
           have c16b0 : (((rd_T72 l0 x6_1).f0).toList == ([115, 101, 116, 45, 99, 111, 111, 107, 105, 101] : List UInt8)) = false := beq_eq_false_iff_ne.mpr c16
           have c16b1 : (((rd_T72 l0 x6_1).f0).toList != ([115, 101, 116, 45, 99, 111, 111, 107, 105, 101] : List UInt8)) = true := bne_iff_ne.mpr c16
           by_cases c17 : ((rd_T72 l0 x6_1).f0).toList = ([83, 101, 116, 45, 67, 111, 111, 107, 105, 101] : List UInt8)
           ·rw [if_pos c17] at H
            have c17b0 : (((rd_T72 l0 x6_1).f0).toList == ([83, 101, 116, 45, 67, 111, 111, 107, 105, 101] : List UInt8)) = true := beq_iff_eq.mpr c17
            have c17b1 : (((rd_T72 l0 x6_1).f0).toList != ([83, 101, 116, 45, 67, 111, 111, 107, 105, 101] : List UInt8)) = false := bne_eq_false_iff_eq.mpr c17
            clear c17
            obtain rfl := Option.some.inj H
            have p106 : 0 ≤ (x6_1 : Int) := of_decide_eq_true aS
            have q106 : x6_1 < (l0.length : Int) := of_decide_eq_true aS
            obtain ⟨ad106, e106, hx106_0, hx106_1⟩ := at_T72 HR0.out x6_1 p106 q106
            cases e106
            replace p106 := eq_true p106
            replace q106 := eq_true q106
            have p107 : 0 ≤ (x6_1 : Int) := of_decide_eq_true aS
            have q107 : x6_1 < (l0.length : Int) := of_decide_eq_true aS
            obtain ⟨ad107, e107, hx107_0, hx107_1⟩ := at_T72 HR0.out x6_1 p107 q107
            obtain rfl : ad106 = ad107 := (by injection e107)
            replace p107 := eq_true p107
            replace q107 := eq_true q107
            go_wp2
            repeat (go_quiet (fail); try go_wp2)
            go_ret
            exact ⟨rS, by repeat (first | exact Drawn0.refl _ | apply Drawn0.step)⟩
           ·rw [if_neg c17] at H
            have c17b0 : (((rd_T72 l0 x6_1).f0).toList == ([83, 101, 116, 45, 67, 111, 111, 107, 105, 101] : List UInt8)) = false := beq_eq_false_iff_ne.mpr c17
            have c17b1 : (((rd_T72 l0 x6_1).f0).toList != ([83, 101, 116, 45, 67, 111, 111, 107, 105, 101] : List UInt8)) = true := bne_iff_ne.mpr c17
            by_cases c18 : ((rd_T72 l0 x6_1).f0).toList = ([115, 101, 116, 45, 99, 111, 111, 107, 105, 101, 50] : List UInt8)
            ·rw [if_pos c18] at H
             have c18b0 : (((rd_T72 l0 x6_1).f0).toList == ([115, 101, 116, 45, 99, 111, 111, 107, 105, 101, 50] : List UInt8)) = true := beq_iff_eq.mpr c18
             have c18b1 : (((rd_T72 l0 x6_1).f0).toList != ([115, 101, 116, 45, 99, 111, 111, 107, 105, 101, 50] : List UInt8)) = false := bne_eq_false_iff_eq.mpr c18
             clear c18
             obtain rfl := Option.some.inj H
             have p106 : 0 ≤ (x6_1 : Int) := of_decide_eq_true aS
             have q106 : x6_1 < (l0.length : Int) := of_decide_eq_true aS
             obtain ⟨ad106, e106, hx106_0, hx106_1⟩ := at_T72 HR0.out x6_1 p106 q106
             cases e106
             replace p106 := eq_true p106
             replace q106 := eq_true q106
             have p107 : 0 ≤ (x6_1 : Int) := of_decide_eq_true aS
             have q107 : x6_1 < (l0.length : Int) := of_decide_eq_true aS
             obtain ⟨ad107, e107, hx107_0, hx107_1⟩ := at_T72 HR0.out x6_1 p107 q107
             obtain rfl : ad106 = ad107 := (by injection e107)
             replace p107 := eq_true p107
             replace q107 := eq_true q107
             have p108 : 0 ≤ (x6_1 : Int) := of_decide_eq_true aS
             have q108 : x6_1 < (l0.length : Int) := of_decide_eq_true aS
             obtain ⟨ad108, e108, hx108_0, hx108_1⟩ := at_T72 HR0.out x6_1 p108 q108
             obtain rfl : ad106 = ad108 := (by injection e108)
             replace p108 := eq_true p108
             replace q108 := eq_true q108
             go_wp2
             repeat (go_quiet (fail); try go_wp2)
             go_ret
             exact ⟨rS, by repeat (first | exact Drawn0.refl _ | apply Drawn0.step)⟩
            ·rw [if_neg c18] at H
             have c18b0 : (((rd_T72 l0 x6_1).f0).toList == ([115, 101, 116, 45, 99, 111, 111, 107, 105, 101, 50] : List UInt8)) = false := beq_eq_false_iff_ne.mpr c18
             have c18b1 : (((rd_T72 l0 x6_1).f0).toList != ([115, 101, 116, 45, 99, 111, 111, 107, 105, 101, 50] : List UInt8)) = true := bne_iff_ne.mpr c18
             have H' := Aside0.mk H
             clear H
             have p106 : 0 ≤ (x6_1 : Int) := of_decide_eq_true aS
             have q106 : x6_1 < (l0.length : Int) := of_decide_eq_true aS
             obtain ⟨ad106, e106, hx106_0, hx106_1⟩ := at_T72 HR0.out x6_1 p106 q106
             cases e106
             replace p106 := eq_true p106
             replace q106 := eq_true q106
             have p107 : 0 ≤ (x6_1 : Int) := of_decide_eq_true aS
             have q107 : x6_1 < (l0.length : Int) := of_decide_eq_true aS
             obtain ⟨ad107, e107, hx107_0, hx107_1⟩ := at_T72 HR0.out x6_1 p107 q107
             obtain rfl : ad106 = ad107 := (by injection e107)
             replace p107 := eq_true p107
             replace q107 := eq_true q107
             have p108 : 0 ≤ (x6_1 : Int) := of_decide_eq_true aS
             have q108 : x6_1 < (l0.length : Int) := of_decide_eq_true aS
             obtain ⟨ad108, e108, hx108_0, hx108_1⟩ := at_T72 HR0.out x6_1 p108 q108
             obtain rfl : ad106 = ad108 := (by injection e108)
             replace p108 := eq_true p108
             replace q108 := eq_true q108
             go_wp2
             repeat (go_quiet (fail); try go_wp2)
             go_roundg k2
             case measure => have := HK1.out; have := HK2.out; omega
             case rel => exact ⟨(wrap64 (x5_2 + 1)), (wrap64 (x6_1 + 1)), rS, rS, H', ⟨by have := HK1.out; have := HK2.out; omega⟩, by repeat (first | exact Drawn0.refl _ | apply Drawn0.step)⟩
         ·rw [if_neg c15] at H
          exact absurd H (by simp)
        ·rw [if_neg c14] at H
         exact absurd H (by simp)
   ·rw [if_neg c3] at H
    have c3b0 : decide (x6_1 < (l0.length : Int)) = false := decide_eq_false c3
    clear c3
    obtain rfl := Option.some.inj H
    go_wp2
    repeat (go_quiet (fail); try go_wp2)
    go_ret
    exact ⟨rS, by repeat (first | exact Drawn0.refl _ | apply Drawn0.step)⟩
end Go.Proofs.YtifmkgkiipckbaaDoor.P
namespace Go.Proofs.YtifmkgkiipckbaaDoor.P
open Go.RowKit Go.Proofs.YtifmkgkiipckbaaDoorW.PrintWords Go.Proofs.YtifmkgkiipckbaaDoorW.PrintLast Go.Proofs.YtifmkgkiipckbaaDoorW.PrintMore
set_option linter.unusedVariables false
set_option linter.unusedSimpArgs false
theorem trimS_len (l cs : List UInt8) : (Lib.trimS l cs).length ≤ l.length := by
 unfold Lib.trimS Lib.trimLeftS Lib.trimRightS
 refine Nat.le_trans (List.dropWhile_sublist _).length_le ?_
 rw [List.length_reverse]
 refine Nat.le_trans (List.dropWhile_sublist _).length_le ?_
 rw [List.length_reverse]
 exact Nat.le_refl _
theorem Trim_tot (a : ByteArray) (h : a.size ≤ 1000000) : Tot (strings_Trim.f a ⟨#[9, 32]⟩) (fun r => r.size ≤ a.size) := by
 unfold strings_Trim.f
 rw [if_pos (by omega), if_pos (by decide), if_pos (by decide)]
 refine Tot.pure ?_
 have := trimS_len a.data.toList [9, 32]
 rw [Array.length_toList] at this
 show (Lib.trimS a.data.toList [9, 32]).toArray.size ≤ a.data.size
 rw [List.size_toArray]
 exact this
def FewP (l : List ByteArray) : Prop := l.length ≤ 10010 ∧ ∀ p ∈ l, p.size ≤ 10000
theorem Split_tot (k : Nat) (l : List S72) (n : ByteArray) (hl : FewH l) (hn : n.size ≤ 1000000) (hk : 30000 ≤ k) : Tot (headers_Split.f k l n) (fun r => FewP r.1) := by
 have H : ∀ (s : ByteArray) (hs : s.size ≤ 10000) (k : Nat) (q : List ByteArray) (b : Bool) (x y : Int), 0 ≤ x → x ≤ y → x ≤ s.size → y ≤ s.size + 2 → q.length ≤ x.toNat → (∀ p ∈ q, p.size ≤ 10000) → 2 * ((s.size : Int) + 3 - y).toNat + 5 ≤ k → Tot (headers_Split.l0 k s q b x y) (fun r => FewP r.1) := by
  intro s hs k
  induction k using Nat.strongRecOn with
  | _ k ih =>
  intro q b x y h0 hxy hx hy hq hp hk
  obtain ⟨k, rfl⟩ : ∃ j, k = j + 2 := ⟨k - 2, by omega⟩
  have ha : ∀ (i j : Nat), (s.extract i j).size ≤ s.size := fun i j => by rw [ByteArray.size_extract]; omega
  have hsnoc : ∀ (t : ByteArray) (u : ByteArray), t.size ≤ u.size → u.size ≤ s.size → ∀ p ∈ q ++ [t], p.size ≤ 10000 := fun t u h1 h2 p hm => by
   rcases List.mem_append.1 hm with h | h
   ·exact hp p h
   ·obtain rfl := List.mem_singleton.1 h
    omega
  have w1 : y < s.size → wrap64 (y + 1) = y + 1 := fun h => by unfold wrap64; omega
  have w2 : y < s.size → wrap64 (y + 1 + 1) = y + 1 + 1 := fun h => by unfold wrap64; omega
  unfold headers_Split.l0
  refine Tot.ite (fun hlt => Tot.guard (by omega) ?_) (fun _ => Tot.guard h0 (Tot.guard hx (Tot.bind (Trim_tot _ (by have := ha x.toNat s.size; omega)) (fun t ht => Tot.guard (by omega) (Tot.pure ⟨by simp; omega, hsnoc t _ ht (ha _ _)⟩)))))
  have J : ∀ c, Tot (headers_Split.j1 (k + 1) s q b x y c) (fun r => FewP r.1) := by
   intro c
   unfold headers_Split.j1
   rw [w1 hlt, w2 hlt]
   refine Tot.ite (fun _ => ih _ (by omega) _ _ _ _ h0 (by omega) hx (by omega) hq hp (by omega)) (fun _ => Tot.ite (fun _ => ih _ (by omega) _ _ _ _ h0 (by omega) hx (by omega) hq hp (by omega)) (fun _ => Tot.guard (by omega) (Tot.guard hlt (Tot.ite (fun _ => Tot.guard h0 (Tot.guard hxy (Tot.guard (by omega) (Tot.bind (Trim_tot _ (by have := ha x.toNat y.toNat; omega)) (fun t ht => Tot.guard (by omega) (ih _ (by omega) _ _ _ _ (by omega) (by omega) (by omega) (by omega) (by simp; omega) (hsnoc t _ ht (ha _ _)) (by omega))))))) (fun _ => ih _ (by omega) _ _ _ _ h0 (by omega) hx (by omega) hq hp (by omega))))))
  rw [w1 hlt]
  exact Tot.ite (fun _ => ih _ (by omega) _ _ _ _ h0 (by omega) hx (by omega) hq hp (by omega)) (fun _ => Tot.ite (fun _ => J _) (fun _ => J _))
 unfold headers_Split.f
 refine Tot.bind (Get_tot k l n hl hn (by omega)) (fun r hr => Tot.ite (fun _ => ?_) (fun _ => Tot.pure ⟨by simp, by simp⟩))
 exact H r.1 hr k [] false 0 0 (by omega) (by omega) (by omega) (by omega) (by simp) (by simp) (by omega)
def cookieB (n : ByteArray) : Bool := n.toList == [115, 101, 116, 45, 99, 111, 111, 107, 105, 101] || n.toList == [115, 101, 116, 45, 99, 111, 111, 107, 105, 101, 50]
def shB (P : ByteArray → Bool) (h : S72) : Bool := !cookieB (lowS h.f0) && P (lowS h.f0)
theorem rd_T_at (l : List S72) (i : Int) (h0 : 0 ≤ i) (h : i < l.length) : ∃ hi : i.toNat < l.length, rd_T72 l i = l[i.toNat] := by
 refine ⟨by omega, ?_⟩
 unfold rd_T72
 rw [List.getD_eq_getElem?_getD, List.getElem?_eq_getElem (by omega)]
 rfl
theorem shown_loop (pb : ByteArray → Bool) (l : List S72) (hz : ∀ x ∈ l, x.f0.size ≤ 1000000) (hl : l.length ≤ 1000000) (c : Int × Int) (b : List Int) (u : ByteArray) :
  ∀ (k : Nat) (i : Nat) (q : List S72), i ≤ l.length → q.length ≤ i → l.length - i + 2 ≤ k → filter_shownA.l0 (fun n => some (pb n)) k l (l.length : Int) (i : Int) c.1 c.2 q b u = some (c.1, c.2, q ++ (l.drop i).filter (shB pb), b, u) := by
 intro k
 induction k with
 | zero => intro i q _ _ h; omega
 | succ k ih =>
  intro i q hi hq hk
  unfold filter_shownA.l0
  by_cases hlt : i < l.length
  ·obtain ⟨h1, h2⟩ := rd_T_at l (i : Int) (by omega) (by omega)
   simp only [Int.toNat_natCast] at h1 h2
   rw [if_pos (by omega), if_pos (by omega), if_pos (by omega), h2]
   have hsz := hz _ (List.getElem_mem h1)
   have hw : wrap64 ((i : Int) + 1) = ((i + 1 : Nat) : Int) := by unfold wrap64; omega
   have hlow : infra_Lower.f l[i].f0 = some (lowS l[i].f0) := by unfold infra_Lower.f; rw [if_pos (by omega)]
   rw [hlow, hw]
   simp only [Option.bind_some]
   have hd : l.drop i = l[i] :: l.drop (i + 1) := List.drop_eq_getElem_cons h1
   rw [hd, List.filter_cons]
   have I := ih (i + 1) q (by omega) (by omega) (by omega)
   have I2 := ih (i + 1) (q ++ [l[i]]) (by omega) (by simp; omega) (by omega)
   by_cases c1 : (lowS l[i].f0).toList = ([115, 101, 116, 45, 99, 111, 111, 107, 105, 101] : List UInt8)
   ·rw [if_pos c1, I, if_neg (by simp [shB, cookieB, c1])]
   ·rw [if_neg c1]
    by_cases c2 : (lowS l[i].f0).toList = ([115, 101, 116, 45, 99, 111, 111, 107, 105, 101, 50] : List UInt8)
    ·rw [if_pos c2, I, if_neg (by simp [shB, cookieB, c2])]
    ·rw [if_neg c2]
     cases hb : pb (lowS l[i].f0) with
     | true =>
      rw [if_pos rfl, if_pos (by omega), if_pos (by simp [shB, cookieB, c1, c2, hb])]
      rw [show (⟨l[i].f0, l[i].f1⟩ : S72) = l[i] from rfl, I2]
      simp
     | false => rw [if_neg (by simp), I, if_neg (by simp [shB, hb])]
  ·rw [if_neg (by omega), List.drop_of_length_le (by omega)]
   simp
theorem shownA_is (pb : ByteArray → Bool) (l : List S72) (hz : ∀ x ∈ l, x.f0.size ≤ 1000000) (hl : l.length ≤ 1000000) (k : Nat) (hk : l.length + 2 ≤ k) (c1 c2 : Int) (b : List Int) (hb : b.length ≤ 1000000) (u : ByteArray) :
  filter_shownA.f k c1 c2 l b u (fun n => some (pb n)) = some (c1, c2, l.filter (shB pb), b, u) := by
 unfold filter_shownA.f slices_Clone.f
 rw [if_pos (by omega)]
 simp only [Option.bind_some]
 have := shown_loop pb l hz hl (c1, c2) b u k 0 [] (Nat.zero_le _) (Nat.le_refl _) (by omega)
 simpa using this
theorem AB (P : ByteArray → Option Bool) : ∀ k l n i c1 c2 q b u, filter_shownB.l0 P k l n i c1 c2 q b u = filter_shownA.l0 P k l n i c1 c2 q b u
 | 0, _, _, _, _, _, _, _, _ => rfl
 | k + 1, l, n, i, c1, c2, q, b, u => by
  unfold filter_shownB.l0 filter_shownA.l0
  simp only [AB P k]
theorem shownB_is (pb : ByteArray → Bool) (l : List S72) (hz : ∀ x ∈ l, x.f0.size ≤ 1000000) (hl : l.length ≤ 1000000) (k : Nat) (hk : l.length + 2 ≤ k) (c1 c2 : Int) (b : List Int) (hb : b.length ≤ 1000000) (u : ByteArray) :
  filter_shownB.f k c1 c2 l b u (fun n => some (pb n)) = some (c1, c2, l.filter (shB pb), b, u) := by
 have := shownA_is pb l hz hl k hk c1 c2 b hb u
 unfold filter_shownA.f at this
 unfold filter_shownB.f
 simp only [AB]
 exact this
theorem Own_is (a0 : Int) (l : List S72) (hz : ∀ x ∈ l, x.f0.size ≤ 1000000) (hl : l.length ≤ 1000000) (b : List Int) (hb : b.length ≤ 1000000) (u : ByteArray) : filter_Own.f a0 l b u = some (2, a0, l.filter (shB fun _ => true), b, u) :=
 shownA_is (fun _ => true) l hz hl _ (by omega) 2 a0 b hb u
theorem Share_is (a0 : Int) (l : List S72) (hl : FewH l) (b : List Int) (hb : b.length ≤ 1000000) (u : ByteArray) : ∃ ps : List ByteArray, FewP ps ∧ ∀ c, filter_Share.f a0 l b u c = some (3, a0, l.filter (shB fun n => fixedB n || ((!c && Lib.containsS ps ⟨#[42]⟩) || lowB_ 100000 ps n)), b, u) := by
 obtain ⟨⟨ps, bq⟩, hs, h1, h2⟩ := Split_tot 100000 l nmExpose hl (by decide) (by omega)
 refine ⟨ps, ⟨h1, h2⟩, fun c => ?_⟩
 unfold filter_Share.f
 rw [hs]
 simp only [Option.bind_some]
 simp only at h1 h2
 rw [if_pos (by omega), if_pos]
 ·have := hl.1
  exact shownB_is (fun n => fixedB n || ((!c && Lib.containsS ps ⟨#[42]⟩) || lowB_ 100000 ps n)) l (fun x hx => by have := hl.2 x hx; omega) (by omega) _ (by omega) 3 a0 b hb u
 ·rw [List.all_eq_true]
  intro p hp
  have := h2 p hp
  obtain ⟨r, hr, _⟩ := Token_tot 100000 p (by omega) (by omega)
  rw [hr]
  simp
  omega
theorem str_inj {a b : ByteArray} (h : a.toList = b.toList) : a = b := by
 rw [ByteArray.toList_eq, ByteArray.toList_eq] at h
 exact WideShapes.bytes_inj h
theorem str_eq {a : ByteArray} {l : List UInt8} {b : ByteArray} (h : a.toList = l) (hb : b.toList = l) : a = b := str_inj (h.trans hb.symm)
theorem hdr_eq {a b : S72} (h0 : a.f0 = b.f0) (h1 : a.f1 = b.f1) : a = b := by
 cases a
 cases b
 simp only at h0 h1
 rw [h0, h1]
theorem sub_ne {α : Type} {x y : α} {a b : List α} (h : (x :: a).Sublist (y :: b)) (hne : x ≠ y) : (x :: a).Sublist b := by
 rcases List.sublist_cons_iff.1 h with h | ⟨r, hr, _⟩
 ·exact h
 ·injection hr with h1 h2
  exact absurd h1 hne
theorem ck1 : cookieB (lowS ⟨#[115, 101, 116, 45, 99, 111, 111, 107, 105, 101]⟩) = true := by kernel_rfl
theorem ck2 : cookieB (lowS ⟨#[83, 101, 116, 45, 67, 111, 111, 107, 105, 101]⟩) = true := by kernel_rfl
theorem ck3 : cookieB (lowS ⟨#[115, 101, 116, 45, 99, 111, 111, 107, 105, 101, 50]⟩) = true := by kernel_rfl
theorem among_run (a b : List S72) (hn : ∀ x ∈ a, cookieB (lowS x.f0) = false) (hl : a.length ≤ 1000000) (hlb : b.length ≤ 1000000) : ∀ k,
  (∀ i j : Nat, i ≤ a.length → j ≤ b.length → (a.drop i).Sublist (b.drop j) → 2 * (b.length - j) + 2 ≤ k → ostiarylaw20_among.l0 k a b (j : Int) (i : Int) = some true) ∧
  (∀ i j : Nat, i < a.length → j ≤ b.length → (a.drop i).Sublist (b.drop j) → 2 * (b.length - j) + 1 ≤ k → ostiarylaw20_among.l1 k a b (j : Int) (i : Int) = some true) := by
 intro k
 induction k with
 | zero => exact ⟨fun i j _ _ _ h => by omega, fun i j _ _ _ h => by omega⟩
 | succ k ih =>
  refine ⟨fun i j hi hj hs hk => ?_, fun i j hi hj hs hk => ?_⟩
  ·unfold ostiarylaw20_among.l0
   by_cases hlt : i < a.length
   ·rw [if_pos (by omega)]
    exact ih.2 i j hlt hj hs (by omega)
   ·rw [if_neg (by omega)]
  ·unfold ostiarylaw20_among.l1
   have hda := List.drop_eq_getElem_cons hi
   rw [hda] at hs
   have hjl : j < b.length := by
    rcases Nat.lt_or_ge j b.length with h | h
    ·exact h
    ·rw [List.drop_of_length_le h] at hs
     cases hs
   have hdb := List.drop_eq_getElem_cons hjl
   rw [hdb] at hs
   obtain ⟨p1, p2⟩ := rd_T_at a (i : Int) (by omega) (by omega)
   obtain ⟨q1, q2⟩ := rd_T_at b (j : Int) (by omega) (by omega)
   simp only [Int.toNat_natCast] at p1 p2 q1 q2
   rw [if_pos (by omega), if_pos (by omega), if_pos (by omega), if_pos (by omega), p2, q2]
   have hw : wrap64 ((j : Int) + 1) = ((j + 1 : Nat) : Int) := by unfold wrap64; omega
   have hw2 : wrap64 ((i : Int) + 1) = ((i + 1 : Nat) : Int) := by unfold wrap64; omega
   rw [hw, hw2]
   by_cases e : b[j] = a[i]
   ·rw [if_neg (by rw [e]; simp), if_neg (by omega)]
    have hc := hn a[i] (List.getElem_mem hi)
    rw [e] at hs
    have hs2 := List.cons_sublist_cons.1 hs
    rw [if_neg (fun h => by rw [show a[i].f0 = (⟨#[115, 101, 116, 45, 99, 111, 111, 107, 105, 101]⟩ : ByteArray) from str_eq h (ByteArray.toList_eq _), ck1] at hc; cases hc), if_neg (fun h => by rw [show a[i].f0 = (⟨#[83, 101, 116, 45, 67, 111, 111, 107, 105, 101]⟩ : ByteArray) from str_eq h (ByteArray.toList_eq _), ck2] at hc; cases hc), if_neg (fun h => by rw [show a[i].f0 = (⟨#[115, 101, 116, 45, 99, 111, 111, 107, 105, 101, 50]⟩ : ByteArray) from str_eq h (ByteArray.toList_eq _), ck3] at hc; cases hc)]
    exact ih.1 (i + 1) (j + 1) (by omega) (by omega) hs2 (by omega)
   ·rw [if_pos]
    ·refine ih.2 i (j + 1) hi (by omega) ?_ (by omega)
     rw [hda]
     exact sub_ne hs (fun h => e h.symm)
    ·by_cases e1 : b[j].f0 = a[i].f0
     ·by_cases e2 : b[j].f1 = a[i].f1
      ·exact absurd (hdr_eq e1 e2) e
      ·simp; exact .inr fun h => e2 (str_inj h)
     ·simp; exact .inl fun h => e1 (str_inj h)
theorem among_true (a b : List S72) (hn : ∀ x ∈ a, cookieB (lowS x.f0) = false) (hs : a.Sublist b) (hl : b.length ≤ 1000000) (k : Nat) (hk : 2 * b.length + 2 ≤ k) : ostiarylaw20_among.f k a b = some true := by
 have hla := hs.length_le
 exact (among_run a b hn (by omega) hl k).1 0 0 (Nat.zero_le _) (Nat.zero_le _) (by simpa using hs) (by omega)
end Go.Proofs.YtifmkgkiipckbaaDoor.P
namespace Go.Proofs.YtifmkgkiipckbaaDoor.P
open Go.RowKit Go.Proofs.YtifmkgkiipckbaaDoorW.PrintWords Go.Proofs.YtifmkgkiipckbaaDoorW.PrintLast Go.Proofs.YtifmkgkiipckbaaDoorW.PrintMore
attribute [local go_sem] max2_int min2_int max_two min_two max_three min_three max_four min_four
set_option linter.unusedVariables false
set_option linter.unusedSimpArgs false
def ostiarylaw20_h.f (a0 : ByteArray) (a1 : ByteArray) : Option (ByteArray × ByteArray) := some (a0, a1)
set_option maxHeartbeats 8000000 in
set_option maxRecDepth 100000 in
theorem ostiarylaw20_h.calls (a0 : ByteArray) (a1 : ByteArray) (r1 : ByteArray) (r2 : ByteArray) (w : World) (h : ostiarylaw20_h.f a0 a1 = some (r1, r2)) :
  Calls Tryd.prog 37 #[.string a0, .string a1] w fun e w' => e = .returned (.agg #[.string r1, .string r2]) ∧ Below w.heap.size w w' := by
 have hu72 := Tryd.underlying72
 have HB := Aside0.mk (Below.refl w.heap.size w)
 have H : (some (a0, a1)) = some (r1, r2) := h
 clear h
 simp only [Option.some.injEq, Prod.mk.injEq] at H
 obtain ⟨rfl, rfl⟩ := H
 go_enter Tryd.func37, Tryd.ntmps37
 go_wp2_with (first | ((with_reducible refine gate_dst (N := 4) rfl ?_); refine box_event ?hg (N := 4) ?hd (cs := #[.string (⟨#[]⟩ : ByteArray), .string (⟨#[]⟩ : ByteArray)]) (t := 72) ?hr ?_; (case hd => rfl); (case hg => rfl); (case hr => first | (go_simp; done) | (go_simp; rfl)); intro gb101 hg w3 hbox hb; have n0_ := Aside0.mk (below_step hB hb); have n1_ := Aside0.mk (hbox); have n2_ := Aside0.mk ((by rw [hg]; exact (below_size hB) : w.heap.size ≤ gb101)); have n3_ := Aside0.mk ((by rw [hg]; exact (below_size hB) : w.heap.size ≤ gb101)); clear HB; have HB := n0_; have BK101 := n1_; have GW101 := n2_; have GE101 := n3_; clear n0_ n1_ n2_ n3_; clear hb hbox hg; have hcz4_0 : w3.cell? ⟨gb101, 0, none⟩ = some (.string (⟨#[]⟩ : ByteArray)) := (blk_cell BK101.out 0).trans rfl; have hcz4_1 : w3.cell? ⟨gb101, 1, none⟩ = some (.string (⟨#[]⟩ : ByteArray)) := (blk_cell BK101.out 1).trans rfl; have hfz4_0 := blk_frozen BK101.out 0; have hfz4_1 := blk_frozen BK101.out 1))
 refine bodyPost_ret (results_cell_row rfl _ _ gb101 72 #[.string a0, .string a1] (0, 0) _ rfl (by (with_reducible repeat (first | refine blk_drewN ?_ _ | refine blk_drew ?_ | refine blk_alloc ?_ _)); refine blk_put (cs := #[.string a0, .string (⟨#[]⟩ : ByteArray)]) ?_ 1 _ rfl; (with_reducible repeat (first | refine blk_drewN ?_ _ | refine blk_drew ?_ | refine blk_alloc ?_ _)); refine blk_put (cs := #[.string (⟨#[]⟩ : ByteArray), .string (⟨#[]⟩ : ByteArray)]) ?_ 0 _ rfl; (with_reducible repeat (first | refine blk_drewN ?_ _ | refine blk_drew ?_ | refine blk_alloc ?_ _)); exact BK101.out) Tryd.underlying72 rfl q16_) rfl ?_
 exact ⟨by first | rfl | (simp [errW_none, errW_some] <;> rfl) | (simp [*, errW_none, errW_some] <;> rfl), by repeat (first | (with_reducible first | exact HB.out | apply below_alloc | apply pw_below_drewN | apply below_drew1 | refine below_set ?_ GE101.out) | exact HB.out)⟩
end Go.Proofs.YtifmkgkiipckbaaDoor.P
namespace Go.Proofs.YtifmkgkiipckbaaDoor.P
open Go.RowKit Go.Proofs.YtifmkgkiipckbaaDoorW.PrintWords Go.Proofs.YtifmkgkiipckbaaDoorW.PrintLast Go.Proofs.YtifmkgkiipckbaaDoorW.PrintMore
attribute [local go_sem] max2_int min2_int max_two min_two max_three min_three max_four min_four
set_option linter.unusedVariables false
set_option linter.unusedSimpArgs false
attribute [local go_sem high] eqA72
def api_Header.l0 : Nat → List (S72) → List (S72) → Int → Option (Bool)
 | 0, _, _, _ => none
 | k + 1, x0, x1, x5 => if x5 < (x0.length : Int) then (if 0 ≤ x5 then (if x5 < (x1.length : Int) then (if (!((((rd_T72 x0 x5).f0).toList) == (((rd_T72 x1 x5).f0).toList)) || (!((((rd_T72 x0 x5).f1).toList) == (((rd_T72 x1 x5).f1).toList)))) = true then (some false) else (api_Header.l0 k x0 x1 (wrap64 (x5 + 1)))) else (none)) else (none)) else (some true)
def api_Header.f (k : Nat) (l0 : List (S72)) (l1 : List (S72)) : Option (Bool) := if (l0.length : Int) = (l1.length : Int) then (api_Header.l0 k l0 l1 0) else (some false)
theorem api_Header.mono_l : ∀ k, (∀ y0 y1 y2, LeO (api_Header.l0 k y0 y1 y2) (api_Header.l0 (k + 1) y0 y1 y2))
 | 0 => fun _ _ _ r h => by simp [api_Header.l0] at h
 | k + 1 => by
  have ih0 := api_Header.mono_l k
  ·intro y0 y1 y2
   unfold api_Header.l0
   exact lO
theorem api_Header.mono : ∀ a0 a1 k, LeO (api_Header.f k a0 a1) (api_Header.f (k + 1) a0 a1) := by
 intro a0 a1 k
 have ih0 := api_Header.mono_l k
 unfold api_Header.f
 exact lO
set_option maxHeartbeats 8000000 in
set_option maxRecDepth 100000 in
theorem api_Header.calls (k : Nat) (A0 : Option Addr) (c0 : Nat) (l0 : List (S72)) (A1 : Option Addr) (c1 : Nat) (l1 : List (S72)) (r : Bool) (w : World) (hr0 : Kd.C k72 w A0 l0.length l0) (hc0 : l0.length ≤ c0) (hr1 : Kd.C k72 w A1 l1.length l1) (hc1 : l1.length ≤ c1) (h : api_Header.f k l0 l1 = some r) :
  Calls Tryd.prog 45 #[.slice A0 l0.length c0, .slice A1 l1.length c1] w fun e w' => e = .returned (.bool r) ∧ Drawn0 w w' := by
 have hu72 := Tryd.underlying72
 have HR0 := Aside0.mk hr0
 have HC0 := Aside0.mk hc0
 clear hr0 hc0
 have HR1 := Aside0.mk hr1
 have HC1 := Aside0.mk hc1
 clear hr1 hc1
 have H : (if (l0.length : Int) = (l1.length : Int) then (api_Header.l0 k l0 l1 0) else (some false)) = some r := h
 clear h
 by_cases c3 : (l0.length : Int) = (l1.length : Int)
 ·rw [if_pos c3] at H
  have c3b0 : ((l0.length : Int) == (l1.length : Int)) = true := beq_iff_eq.mpr c3
  have c3b1 : ((l0.length : Int) != (l1.length : Int)) = false := bne_eq_false_iff_eq.mpr c3
  have c3b2 : (l0.length == l1.length) = true := by first | simpa using c3 | (simp at c3 ⊢; omega)
  clear c3
  have H' := Aside0.mk H
  clear H
  go_enter Tryd.func45, Tryd.ntmps45
  go_wp2
  repeat (go_quiet (fail); try go_wp2)
  go_loopg [5] k (fun kq v5 w' => ∃ (x5_1 : Int), v5 = .int .i64 x5_1 ∧ Aside0 (api_Header.l0 kq l0 l1 x5_1 = some r) ∧ Aside0 (kq ≤ k) ∧ Drawn0 w w')
  case atStart => exact ⟨(0), rS, H', ⟨Nat.le_refl _⟩, by repeat (first | exact Drawn0.refl _ | apply Drawn0.step)⟩
  case round =>
   clear H'
   try clear c1
   try clear p2
   try clear c3
   try clear c3b0
   try clear c3b1
   try clear c3b2
   obtain ⟨x5_1, rfl, HA, HK1, ⟨m1, rfl⟩⟩ := hrel
   cases gk with
   | zero => exact absurd HA.out (by simp [api_Header.l0])
   | succ k1 =>
    have H := HA.out
    clear HA
    simp only [api_Header.l0] at H
    by_cases c4 : x5_1 < (l0.length : Int)
    ·rw [if_pos c4] at H
     have c4b0 : decide (x5_1 < (l0.length : Int)) = true := decide_eq_true c4
     clear c4
     by_cases c5 : 0 ≤ x5_1
     ·rw [if_pos c5] at H
      have c5b0 : decide (0 ≤ x5_1) = true := decide_eq_true c5
      clear c5
      by_cases c6 : x5_1 < (l1.length : Int)
      ·rw [if_pos c6] at H
       have c6b0 : decide (x5_1 < (l1.length : Int)) = true := decide_eq_true c6
       clear c6
       by_cases c7 : (!((((rd_T72 l0 x5_1).f0).toList) == (((rd_T72 l1 x5_1).f0).toList)) || (!((((rd_T72 l0 x5_1).f1).toList) == (((rd_T72 l1 x5_1).f1).toList)))) = true
       ·rw [if_pos c7] at H
        have c7b0 : (!((((rd_T72 l0 x5_1).f0).toList) == (((rd_T72 l1 x5_1).f0).toList)) || (!((((rd_T72 l0 x5_1).f1).toList) == (((rd_T72 l1 x5_1).f1).toList)))) = true := c7
        clear c7
        obtain rfl := Option.some.inj H
        have p102 : 0 ≤ (x5_1 : Int) := of_decide_eq_true aS
        have q102 : x5_1 < (l0.length : Int) := of_decide_eq_true aS
        obtain ⟨ad102, e102, hx102_0, hx102_1⟩ := at_T72 HR0.out x5_1 p102 q102
        cases e102
        replace p102 := eq_true p102
        replace q102 := eq_true q102
        have p103 : 0 ≤ (x5_1 : Int) := of_decide_eq_true aS
        have q103 : x5_1 < (l1.length : Int) := of_decide_eq_true aS
        obtain ⟨ad103, e103, hx103_0, hx103_1⟩ := at_T72 HR1.out x5_1 p103 q103
        cases e103
        replace p103 := eq_true p103
        replace q103 := eq_true q103
        go_wp2
        repeat (go_quiet (fail); try go_wp2)
        go_ret
        exact ⟨rS, by repeat (first | exact Drawn0.refl _ | apply Drawn0.step)⟩
       ·rw [if_neg c7] at H
        have c7b0 : (!((((rd_T72 l0 x5_1).f0).toList) == (((rd_T72 l1 x5_1).f0).toList)) || (!((((rd_T72 l0 x5_1).f1).toList) == (((rd_T72 l1 x5_1).f1).toList)))) = false := by simpa using c7
        clear c7
        have H' := Aside0.mk H
        clear H
        have p102 : 0 ≤ (x5_1 : Int) := of_decide_eq_true aS
        have q102 : x5_1 < (l0.length : Int) := of_decide_eq_true aS
        obtain ⟨ad102, e102, hx102_0, hx102_1⟩ := at_T72 HR0.out x5_1 p102 q102
        cases e102
        replace p102 := eq_true p102
        replace q102 := eq_true q102
        have p103 : 0 ≤ (x5_1 : Int) := of_decide_eq_true aS
        have q103 : x5_1 < (l1.length : Int) := of_decide_eq_true aS
        obtain ⟨ad103, e103, hx103_0, hx103_1⟩ := at_T72 HR1.out x5_1 p103 q103
        cases e103
        replace p103 := eq_true p103
        replace q103 := eq_true q103
        go_wp2
        repeat (go_quiet (fail); try go_wp2)
        go_roundg k1
        case measure => have := HK1.out; omega
        case rel => exact ⟨(wrap64 (x5_1 + 1)), rS, H', ⟨by have := HK1.out; omega⟩, by repeat (first | exact Drawn0.refl _ | apply Drawn0.step)⟩
      ·rw [if_neg c6] at H
       exact absurd H (by simp)
     ·rw [if_neg c5] at H
      exact absurd H (by simp)
    ·rw [if_neg c4] at H
     have c4b0 : decide (x5_1 < (l0.length : Int)) = false := decide_eq_false c4
     clear c4
     obtain rfl := Option.some.inj H
     go_wp2
     repeat (go_quiet (fail); try go_wp2)
     go_ret
     exact ⟨rS, by repeat (first | exact Drawn0.refl _ | apply Drawn0.step)⟩
 ·rw [if_neg c3] at H
  have c3b0 : ((l0.length : Int) == (l1.length : Int)) = false := beq_eq_false_iff_ne.mpr c3
  have c3b1 : ((l0.length : Int) != (l1.length : Int)) = true := bne_iff_ne.mpr c3
  have c3b2 : (l0.length == l1.length) = false := by first | simpa using c3 | (simp at c3 ⊢; omega)
  obtain rfl := Option.some.inj H
  go_enter Tryd.func45, Tryd.ntmps45
  go_wp2
  repeat (go_quiet (fail); try go_wp2)
  go_ret
  exact ⟨rS, by repeat (first | exact Drawn0.refl _ | apply Drawn0.step)⟩
end Go.Proofs.YtifmkgkiipckbaaDoor.P
namespace Go.Proofs.YtifmkgkiipckbaaDoor.P
open Go.RowKit Go.Proofs.YtifmkgkiipckbaaDoorW.PrintWords Go.Proofs.YtifmkgkiipckbaaDoorW.PrintLast Go.Proofs.YtifmkgkiipckbaaDoorW.PrintMore
attribute [local go_sem] max2_int min2_int max_two min_two max_three min_three max_four min_four
set_option linter.unusedVariables false
set_option linter.unusedSimpArgs false
def ostiarybook_Same_byte.l0 : Nat → List Int → List Int → Int → Option (Bool)
 | 0, _, _, _ => none
 | k + 1, x0, x1, x5 => if x5 < (x0.length : Int) then (if 0 ≤ x5 then (if x5 < (x1.length : Int) then (if (rd x0 x5) = (rd x1 x5) then (ostiarybook_Same_byte.l0 k x0 x1 (wrap64 (x5 + 1))) else (some false)) else (none)) else (none)) else (some true)
def ostiarybook_Same_byte.f (k : Nat) (l0 : List Int) (l1 : List Int) : Option (Bool) := if (l0.length : Int) = (l1.length : Int) then (ostiarybook_Same_byte.l0 k l0 l1 0) else (some false)
theorem ostiarybook_Same_byte.mono_l : ∀ k, (∀ y0 y1 y2, LeO (ostiarybook_Same_byte.l0 k y0 y1 y2) (ostiarybook_Same_byte.l0 (k + 1) y0 y1 y2))
 | 0 => fun _ _ _ r h => by simp [ostiarybook_Same_byte.l0] at h
 | k + 1 => by
  have ih0 := ostiarybook_Same_byte.mono_l k
  ·intro y0 y1 y2
   unfold ostiarybook_Same_byte.l0
   exact lO
theorem ostiarybook_Same_byte.mono : ∀ a0 a1 k, LeO (ostiarybook_Same_byte.f k a0 a1) (ostiarybook_Same_byte.f (k + 1) a0 a1) := by
 intro a0 a1 k
 have ih0 := ostiarybook_Same_byte.mono_l k
 unfold ostiarybook_Same_byte.f
 exact lO
set_option maxHeartbeats 8000000 in
set_option maxRecDepth 100000 in
theorem ostiarybook_Same_byte.calls (k : Nat) (A0 : Option Addr) (c0 : Nat) (l0 : List Int) (A1 : Option Addr) (c1 : Nat) (l1 : List Int) (r : Bool) (w : World) (hr0 : Kd.C (Kd.int .u8) w A0 l0.length l0) (hc0 : l0.length ≤ c0) (hr1 : Kd.C (Kd.int .u8) w A1 l1.length l1) (hc1 : l1.length ≤ c1) (h : ostiarybook_Same_byte.f k l0 l1 = some r) :
  Calls Tryd.prog 81 #[.slice A0 l0.length c0, .slice A1 l1.length c1] w fun e w' => e = .returned (.bool r) ∧ Drawn0 w w' := by
 have HR0 := Aside0.mk hr0
 have HC0 := Aside0.mk hc0
 clear hr0 hc0
 have HR1 := Aside0.mk hr1
 have HC1 := Aside0.mk hc1
 clear hr1 hc1
 have H : (if (l0.length : Int) = (l1.length : Int) then (ostiarybook_Same_byte.l0 k l0 l1 0) else (some false)) = some r := h
 clear h
 by_cases c3 : (l0.length : Int) = (l1.length : Int)
 ·rw [if_pos c3] at H
  have c3b0 : ((l0.length : Int) == (l1.length : Int)) = true := beq_iff_eq.mpr c3
  have c3b1 : ((l0.length : Int) != (l1.length : Int)) = false := bne_eq_false_iff_eq.mpr c3
  have c3b2 : (l0.length == l1.length) = true := by first | simpa using c3 | (simp at c3 ⊢; omega)
  clear c3
  have H' := Aside0.mk H
  clear H
  go_enter Tryd.func81, Tryd.ntmps81
  go_wp2
  repeat (go_quiet (fail); try go_wp2)
  go_loopg [5] k (fun kq v5 w' => ∃ (x5_1 : Int), v5 = .int .i64 x5_1 ∧ Aside0 (ostiarybook_Same_byte.l0 kq l0 l1 x5_1 = some r) ∧ Aside0 (kq ≤ k) ∧ Drawn0 w w')
  case atStart => exact ⟨(0), rS, H', ⟨Nat.le_refl _⟩, by repeat (first | exact Drawn0.refl _ | apply Drawn0.step)⟩
  case round =>
   clear H'
   try clear c1
   try clear p2
   try clear c3
   try clear c3b0
   try clear c3b1
   try clear c3b2
   obtain ⟨x5_1, rfl, HA, HK1, ⟨m1, rfl⟩⟩ := hrel
   cases gk with
   | zero => exact absurd HA.out (by simp [ostiarybook_Same_byte.l0])
   | succ k1 =>
    have H := HA.out
    clear HA
    simp only [ostiarybook_Same_byte.l0] at H
    by_cases c4 : x5_1 < (l0.length : Int)
    ·rw [if_pos c4] at H
     have c4b0 : decide (x5_1 < (l0.length : Int)) = true := decide_eq_true c4
     clear c4
     by_cases c5 : 0 ≤ x5_1
     ·rw [if_pos c5] at H
      have c5b0 : decide (0 ≤ x5_1) = true := decide_eq_true c5
      clear c5
      by_cases c6 : x5_1 < (l1.length : Int)
      ·rw [if_pos c6] at H
       have c6b0 : decide (x5_1 < (l1.length : Int)) = true := decide_eq_true c6
       clear c6
       by_cases c7 : (rd l0 x5_1) = (rd l1 x5_1)
       ·rw [if_pos c7] at H
        have c7b0 : ((rd l0 x5_1) == (rd l1 x5_1)) = true := beq_iff_eq.mpr c7
        have c7b1 : ((rd l0 x5_1) != (rd l1 x5_1)) = false := bne_eq_false_iff_eq.mpr c7
        clear c7
        have H' := Aside0.mk H
        clear H
        have p104 : 0 ≤ (x5_1 : Int) := of_decide_eq_true aS
        have q104 : x5_1 < (l0.length : Int) := of_decide_eq_true aS
        obtain ⟨ad104, e104, hx104_0⟩ := Kd.at_int HR0.out x5_1 p104 q104
        cases e104
        replace p104 := eq_true p104
        replace q104 := eq_true q104
        have p105 : 0 ≤ (x5_1 : Int) := of_decide_eq_true aS
        have q105 : x5_1 < (l1.length : Int) := of_decide_eq_true aS
        obtain ⟨ad105, e105, hx105_0⟩ := Kd.at_int HR1.out x5_1 p105 q105
        cases e105
        replace p105 := eq_true p105
        replace q105 := eq_true q105
        go_wp2
        repeat (go_quiet (fail); try go_wp2)
        go_roundg k1
        case measure => have := HK1.out; omega
        case rel => exact ⟨(wrap64 (x5_1 + 1)), rS, H', ⟨by have := HK1.out; omega⟩, by repeat (first | exact Drawn0.refl _ | apply Drawn0.step)⟩
       ·rw [if_neg c7] at H
        have c7b0 : ((rd l0 x5_1) == (rd l1 x5_1)) = false := beq_eq_false_iff_ne.mpr c7
        have c7b1 : ((rd l0 x5_1) != (rd l1 x5_1)) = true := bne_iff_ne.mpr c7
        obtain rfl := Option.some.inj H
        have p104 : 0 ≤ (x5_1 : Int) := of_decide_eq_true aS
        have q104 : x5_1 < (l0.length : Int) := of_decide_eq_true aS
        obtain ⟨ad104, e104, hx104_0⟩ := Kd.at_int HR0.out x5_1 p104 q104
        cases e104
        replace p104 := eq_true p104
        replace q104 := eq_true q104
        have p105 : 0 ≤ (x5_1 : Int) := of_decide_eq_true aS
        have q105 : x5_1 < (l1.length : Int) := of_decide_eq_true aS
        obtain ⟨ad105, e105, hx105_0⟩ := Kd.at_int HR1.out x5_1 p105 q105
        cases e105
        replace p105 := eq_true p105
        replace q105 := eq_true q105
        go_wp2
        repeat (go_quiet (fail); try go_wp2)
        go_ret
        exact ⟨rS, by repeat (first | exact Drawn0.refl _ | apply Drawn0.step)⟩
      ·rw [if_neg c6] at H
       exact absurd H (by simp)
     ·rw [if_neg c5] at H
      exact absurd H (by simp)
    ·rw [if_neg c4] at H
     have c4b0 : decide (x5_1 < (l0.length : Int)) = false := decide_eq_false c4
     clear c4
     obtain rfl := Option.some.inj H
     go_wp2
     repeat (go_quiet (fail); try go_wp2)
     go_ret
     exact ⟨rS, by repeat (first | exact Drawn0.refl _ | apply Drawn0.step)⟩
 ·rw [if_neg c3] at H
  have c3b0 : ((l0.length : Int) == (l1.length : Int)) = false := beq_eq_false_iff_ne.mpr c3
  have c3b1 : ((l0.length : Int) != (l1.length : Int)) = true := bne_iff_ne.mpr c3
  have c3b2 : (l0.length == l1.length) = false := by first | simpa using c3 | (simp at c3 ⊢; omega)
  obtain rfl := Option.some.inj H
  go_enter Tryd.func81, Tryd.ntmps81
  go_wp2
  repeat (go_quiet (fail); try go_wp2)
  go_ret
  exact ⟨rS, by repeat (first | exact Drawn0.refl _ | apply Drawn0.step)⟩
end Go.Proofs.YtifmkgkiipckbaaDoor.P
