/- A part of the proof of CorsLess: texts of walks and plain lemmas. -/
import Derived.Test.YtifmkgkiipckbaaDoorX1
import Derived.Test.YtifmkgkiipckbaaDoorX3
namespace Go.Proofs.YtifmkgkiipckbaaDoor.P
open Go.RowKit Go.Proofs.YtifmkgkiipckbaaDoorW.PrintWords Go.Proofs.YtifmkgkiipckbaaDoorW.PrintLast Go.Proofs.YtifmkgkiipckbaaDoorW.PrintMore
attribute [local go_sem] max2_int min2_int max_two min_two max_three min_three max_four min_four
set_option linter.unusedVariables false
set_option linter.unusedSimpArgs false
mutual
def ostiaryref1_Unpercent.l0 : Nat → ByteArray → List Int → Int → Option (ByteArray)
 | 0, _, _, _ => none
 | k + 1, x0, x3, x4 => if x4 < (x0.size : Int) then (if 0 ≤ x4 then (if (bt x0 x4) = 37 then (if (wrap64 (x4 + 2)) < (x0.size : Int) then (if 0 ≤ (wrap64 (x4 + 1)) then (if (wrap64 (x4 + 1)) < (x0.size : Int) then ((ostiaryref1_Hex.f k (bt x0 (wrap64 (x4 + 1)))).bind fun t375 => (if t375 ≥ 0 then (if 0 ≤ (wrap64 (x4 + 2)) then ((ostiaryref1_Hex.f k (bt x0 (wrap64 (x4 + 2)))).bind fun t376 => (ostiaryref1_Unpercent.j1 k x0 x3 x4 (decide (t376 ≥ 0)))) else (none)) else (ostiaryref1_Unpercent.j1 k x0 x3 x4 false))) else (none)) else (none)) else (ostiaryref1_Unpercent.j1 k x0 x3 x4 false)) else (ostiaryref1_Unpercent.j1 k x0 x3 x4 false)) else (none)) else (some (strOfNums x3))
def ostiaryref1_Unpercent.j1 : Nat → ByteArray → List Int → Int → Bool → Option (ByteArray)
 | 0, _, _, _, _ => none
 | k + 1, x0, x3, x4, x37 => if x37 = true then (if 0 ≤ (wrap64 (x4 + 1)) then (if (wrap64 (x4 + 1)) < (x0.size : Int) then ((ostiaryref1_Hex.f k (bt x0 (wrap64 (x4 + 1)))).bind fun t377 => (if 0 ≤ (wrap64 (x4 + 2)) then (if (wrap64 (x4 + 2)) < (x0.size : Int) then ((ostiaryref1_Hex.f k (bt x0 (wrap64 (x4 + 2)))).bind fun t378 => (if x3.length < 140737488355328 then (ostiaryref1_Unpercent.l0 k x0 (x3 ++ [(wrap64 ((wrap64 (16 * t377)) + t378)) % 256]) (wrap64 ((wrap64 (x4 + 2)) + 1))) else (none))) else (none)) else (none))) else (none)) else (none)) else (if 0 ≤ x4 then (if x4 < (x0.size : Int) then (if x3.length < 140737488355328 then (ostiaryref1_Unpercent.l0 k x0 (x3 ++ [bt x0 x4]) (wrap64 (x4 + 1))) else (none)) else (none)) else (none))
end
def ostiaryref1_Unpercent.f (k : Nat) (a0 : ByteArray) : Option (ByteArray) := ostiaryref1_Unpercent.l0 k a0 ([] : List Int) 0
theorem ostiaryref1_Unpercent.mono_l : ∀ k, (∀ y0 y1 y2, LeO (ostiaryref1_Unpercent.l0 k y0 y1 y2) (ostiaryref1_Unpercent.l0 (k + 1) y0 y1 y2)) ∧ (∀ y0 y1 y2 y3, LeO (ostiaryref1_Unpercent.j1 k y0 y1 y2 y3) (ostiaryref1_Unpercent.j1 (k + 1) y0 y1 y2 y3))
 | 0 => ⟨fun _ _ _ r h => by simp [ostiaryref1_Unpercent.l0] at h, fun _ _ _ _ r h => by simp [ostiaryref1_Unpercent.j1] at h⟩
 | k + 1 => by
  obtain ⟨ih0, ih1⟩ := ostiaryref1_Unpercent.mono_l k
  refine ⟨?_, ?_⟩
  ·intro y0 y1 y2
   unfold ostiaryref1_Unpercent.l0
   repeat' first
   | (with_reducible exact ih0 _ _ _)
   | (with_reducible exact ih1 _ _ _ _)
   | (with_reducible exact ostiaryref1_Hex.mono _ _)
   | (with_reducible exact LeO.refl _)
   | (with_reducible exact LeO.none _)
   | (with_reducible refine LeO.ite ?_ ?_)
   | (with_reducible refine LeO.bind ?_ (fun _ => ?_))
   | exact ih0 _ _ _
   | exact ih1 _ _ _ _
   | exact ostiaryref1_Hex.mono _ _
   | exact LeO.none _
   | refine LeO.ite ?_ ?_
   | refine LeO.bind ?_ (fun _ => ?_)
  ·intro y0 y1 y2 y3
   unfold ostiaryref1_Unpercent.j1
   repeat' first
   | (with_reducible exact ih0 _ _ _)
   | (with_reducible exact ih1 _ _ _ _)
   | (with_reducible exact ostiaryref1_Hex.mono _ _)
   | (with_reducible exact LeO.refl _)
   | (with_reducible exact LeO.none _)
   | (with_reducible refine LeO.ite ?_ ?_)
   | (with_reducible refine LeO.bind ?_ (fun _ => ?_))
   | exact ih0 _ _ _
   | exact ih1 _ _ _ _
   | exact ostiaryref1_Hex.mono _ _
   | exact LeO.none _
   | refine LeO.ite ?_ ?_
   | refine LeO.bind ?_ (fun _ => ?_)
theorem ostiaryref1_Unpercent.mono : ∀ a0 k, LeO (ostiaryref1_Unpercent.f k a0) (ostiaryref1_Unpercent.f (k + 1) a0) := by
 intro a0 k
 obtain ⟨ih0, ih1⟩ := ostiaryref1_Unpercent.mono_l k
 unfold ostiaryref1_Unpercent.f
 repeat' first
   | (with_reducible exact ih0 _ _ _)
   | (with_reducible exact ih1 _ _ _ _)
   | (with_reducible exact ostiaryref1_Hex.mono _ _)
   | (with_reducible exact LeO.refl _)
   | (with_reducible exact LeO.none _)
   | (with_reducible refine LeO.ite ?_ ?_)
   | (with_reducible refine LeO.bind ?_ (fun _ => ?_))
   | exact ih0 _ _ _
   | exact ih1 _ _ _ _
   | exact ostiaryref1_Hex.mono _ _
   | exact LeO.none _
   | refine LeO.ite ?_ ?_
   | refine LeO.bind ?_ (fun _ => ?_)
def ostiaryref1_Unpercent.T6 : Bool × List (List Nat × List Nat) := (true, [([], []), ([], []), ([], []), ([2], [2]), ([1, 3], [1, 3]), ([4], [4]), ([5], [5]), ([], []), ([], []), ([8], [8]), ([7, 9], [7, 9]), ([10, 5], [10]), ([6, 11], [6, 11]), ([12], [12]), ([13], [13]), ([0, 14, 11], [0, 14]), ([15, 15, 0, 1, 2, 3, 4, 5, 6, 7, 8, 9, 10, 11, 12, 13, 14, 15], [0, 15])])
def ostiaryref1_Unpercent.B6 : List Nat := [0, 0, 0, 4, 14, 30, 62, 0, 0, 256, 896, 1982, 4094, 8190, 16382, 32767, 65535]
theorem ostiaryref1_Unpercent.tab6 : rtab .any (opsOf Tryd.f203 6) = ostiaryref1_Unpercent.T6 := by kernel_rfl
theorem ostiaryref1_Unpercent.bits6 : waitsOk ostiaryref1_Unpercent.T6.2 ostiaryref1_Unpercent.B6 = true := by kernel_rfl
set_option maxHeartbeats 8000000 in
set_option maxRecDepth 100000 in
theorem ostiaryref1_Unpercent.calls (k : Nat) (a0 : ByteArray) (r : ByteArray) (w : World) (h : ostiaryref1_Unpercent.f k a0 = some r) :
  Calls Tryd.prog 203 #[.string a0] w fun e w' => e = .returned (.string r) ∧ Below w.heap.size w w' := by
 have HB := Aside0.mk (Below.refl w.heap.size w)
 have H : (ostiaryref1_Unpercent.l0 k a0 ([] : List Int) 0) = some r := h
 clear h
 have H' := Aside0.mk H
 clear H
 go_enter Tryd.func203, Tryd.ntmps203
 go_wp2
 go_loopg [3, 4] k (fun kq v3 v4 w' => ∃ (x3_1 : List Int) (x4_1 : Int), v4 = .int .i64 x4_1 ∧ Aside0 (ostiaryref1_Unpercent.l0 kq a0 x3_1 x4_1 = some r) ∧ Aside0 (kq ≤ k) ∧ Aside0 (Kd.R (Kd.int .u8) 5 w' w.heap.size (fun _ => True) v3 x3_1) ∧ Aside0 (Below w.heap.size w w'))
 case atStart => exact ⟨(([] : List Int)), (0), rS, H', ⟨Nat.le_refl _⟩, ⟨by first | exact Kd.R_nil _ _ _ _ _ | exact Kd.N_nil _ _ _ _ _ | exact Kd.V_nil _ _ _ _ _ | exact Kd.Q_nil _ _ _ _ _ | exact Kd.S_nil _ _ _ _ _⟩, ⟨by repeat (first | (with_reducible first | exact HB.out | apply below_alloc | apply pw_below_drewN | apply below_drew1) | exact HB.out)⟩⟩
 case round =>
  clear H'
  obtain ⟨x3_1, x4_1, rfl, HA, HK1, HO_3, HB⟩ := hrel
  cases gk with
  | zero => exact absurd HA.out (by simp [ostiaryref1_Unpercent.l0])
  | succ k1 =>
   have H := HA.out
   clear HA
   simp only [ostiaryref1_Unpercent.l0] at H
   by_cases c2 : x4_1 < (a0.size : Int)
   ·rw [if_pos c2] at H
    have c2b0 : decide (x4_1 < (a0.size : Int)) = true := decide_eq_true c2
    clear c2
    have HC3 := Aside0.mk H
    clear H
    go_upto_region 5 with (fail)
    go_cut [37] (fun v37 wc => ∃ (kq : Nat) (x37_2 : Bool), v37 = .bool x37_2 ∧ Aside0 (ostiaryref1_Unpercent.j1 kq a0 x3_1 x4_1 x37_2 = some r) ∧ Aside0 (kq ≤ k1) ∧ Aside0 (Kd.R (Kd.int .u8) 5 wc w.heap.size (fun _ => True) u3 x3_1) ∧ Aside0 (Below w.heap.size w wc))
    case first =>
     have H := HC3.out
     clear HC3
     by_cases c4 : 0 ≤ x4_1
     ·rw [if_pos c4] at H
      have c4b0 : decide (0 ≤ x4_1) = true := decide_eq_true c4
      clear c4
      (first | rw [c4b0] | (simp only [i64_w, i32_w]; rw [c4b0]) | skip)
      by_cases c6 : (bt a0 x4_1) = 37
      ·rw [if_pos c6] at H
       have c6b0 : ((bt a0 x4_1) == 37) = true := beq_iff_eq.mpr c6
       have c6b1 : ((bt a0 x4_1) != 37) = false := bne_eq_false_iff_eq.mpr c6
       clear c6
       by_cases c7 : (wrap64 (x4_1 + 2)) < (a0.size : Int)
       ·rw [if_pos c7] at H
        have c7b0 : decide ((wrap64 (x4_1 + 2)) < (a0.size : Int)) = true := decide_eq_true c7
        clear c7
        obtain ⟨ji8, hji8⟩ : ∃ j_ : Int, (wrap64 (x4_1 + 1)) = j_ := ⟨_, rfl⟩
        replace H : (if 0 ≤ (ji8) then (if (ji8) < (a0.size : Int) then ((ostiaryref1_Hex.f k1 (bt a0 (ji8))).bind fun t375 => (if t375 ≥ 0 then (if 0 ≤ (wrap64 (x4_1 + 2)) then ((ostiaryref1_Hex.f k1 (bt a0 (wrap64 (x4_1 + 2)))).bind fun t376 => (ostiaryref1_Unpercent.j1 k1 a0 x3_1 x4_1 (decide (t376 ≥ 0)))) else (none)) else (ostiaryref1_Unpercent.j1 k1 a0 x3_1 x4_1 false))) else (none)) else (none)) = some r := by first | (rw [hji8] at H; exact H) | (simp only [hji8] at H ⊢; exact H)
        have hji8w : (IntKind.i64.wrap (x4_1 + 1)) = ji8 := (i64_w _).trans hji8
        by_cases c9 : 0 ≤ (ji8)
        ·rw [if_pos c9] at H
         have c9b0 : decide (0 ≤ (ji8)) = true := decide_eq_true c9
         clear c9
         by_cases c10 : (ji8) < (a0.size : Int)
         ·rw [if_pos c10] at H
          have c10b0 : decide ((ji8) < (a0.size : Int)) = true := decide_eq_true c10
          clear c10
          replace H := Option.bind_eq_some_iff.mp H
          obtain ⟨t375, A120, H⟩ := H
          replace H : (if t375 ≥ 0 then (if 0 ≤ (wrap64 (x4_1 + 2)) then ((ostiaryref1_Hex.f k1 (bt a0 (wrap64 (x4_1 + 2)))).bind fun t376 => (ostiaryref1_Unpercent.j1 k1 a0 x3_1 x4_1 (decide (t376 ≥ 0)))) else (none)) else (ostiaryref1_Unpercent.j1 k1 a0 x3_1 x4_1 false)) = some r := H
          have A12 := Aside0.mk A120
          clear A120
          by_cases c13 : t375 ≥ 0
          ·rw [if_pos c13] at H
           have c13b0 : decide (0 ≤ t375) = true := decide_eq_true c13
           clear c13
           obtain ⟨ji14, hji14⟩ : ∃ j_ : Int, (wrap64 (x4_1 + 2)) = j_ := ⟨_, rfl⟩
           replace H : (if 0 ≤ (ji14) then ((ostiaryref1_Hex.f k1 (bt a0 (ji14))).bind fun t376 => (ostiaryref1_Unpercent.j1 k1 a0 x3_1 x4_1 (decide (t376 ≥ 0)))) else (none)) = some r := by first | (rw [hji14] at H; exact H) | (simp only [hji14] at H ⊢; exact H)
           (try rw [hji14] at c7b0)
           (try rw [hji14] at A12)
           have hji14w : (IntKind.i64.wrap (x4_1 + 2)) = ji14 := (i64_w _).trans hji14
           by_cases c15 : 0 ≤ (ji14)
           ·rw [if_pos c15] at H
            have c15b0 : decide (0 ≤ (ji14)) = true := decide_eq_true c15
            clear c15
            replace H := Option.bind_eq_some_iff.mp H
            obtain ⟨t376, A170, H⟩ := H
            replace H : (ostiaryref1_Unpercent.j1 k1 a0 x3_1 x4_1 (decide (t376 ≥ 0))) = some r := H
            have A17 := Aside0.mk A170
            clear A170
            have H' := Aside0.mk H
            clear H
            have p5 : 0 ≤ (x4_1 : Int) := of_decide_eq_true aS
            have q5 : x4_1 < (a0.size : Int) := of_decide_eq_true aS
            have hx5 := bt_at a0 x4_1
            replace p5 := eq_true p5
            replace q5 := eq_true q5
            have p11 : 0 ≤ ((ji8) : Int) := of_decide_eq_true aS
            have q11 : (ji8) < (a0.size : Int) := of_decide_eq_true aS
            have hx11 := bt_at a0 (ji8)
            replace p11 := eq_true p11
            replace q11 := eq_true q11
            have tok0 : True := trivial
            have tok1 : True := trivial
            go_wp2_with (first | (revert tok0; intro tok0; go_at_call 215; (with_reducible refine (ostiaryref1_Hex.calls k1 (bt a0 (ji8)) t375 _ A12.out).mono ?_); rintro e w' ⟨rfl, ⟨nd, rfl⟩⟩; have p16 : 0 ≤ ((ji14) : Int) := of_decide_eq_true aS; have q16 : (ji14) < (a0.size : Int) := of_decide_eq_true aS; have hx16 := bt_at a0 (ji14); replace p16 := eq_true p16; replace q16 := eq_true q16; clear tok0) | (revert tok1; intro tok1; go_at_call 215; (with_reducible refine (ostiaryref1_Hex.calls k1 (bt a0 (ji14)) t376 _ A17.out).mono ?_); rintro e w' ⟨rfl, ⟨nd, rfl⟩⟩; clear tok1))
            go_meet
            case rel => exact ⟨_, (decide (t376 ≥ 0)), rS, H', ⟨by have := HK1.out; first | omega | exact Nat.le_refl _⟩, ⟨by (with_reducible repeat (first | apply Kd.R_alloc | apply Kd.R_drewN | apply Kd.R_drew)); exact HO_3.out⟩, ⟨by repeat (first | (with_reducible first | exact HB.out | apply below_alloc | apply pw_below_drewN | apply below_drew1) | exact HB.out)⟩⟩
           ·rw [if_neg c15] at H
            exact absurd H (by simp)
          ·rw [if_neg c13] at H
           have c13b0 : decide (0 ≤ t375) = false := decide_eq_false c13
           clear c13
           have H' := Aside0.mk H
           clear H
           have p5 : 0 ≤ (x4_1 : Int) := of_decide_eq_true aS
           have q5 : x4_1 < (a0.size : Int) := of_decide_eq_true aS
           have hx5 := bt_at a0 x4_1
           replace p5 := eq_true p5
           replace q5 := eq_true q5
           have p11 : 0 ≤ ((ji8) : Int) := of_decide_eq_true aS
           have q11 : (ji8) < (a0.size : Int) := of_decide_eq_true aS
           have hx11 := bt_at a0 (ji8)
           replace p11 := eq_true p11
           replace q11 := eq_true q11
           go_wp2_with (first | (go_at_call 215; (with_reducible refine (ostiaryref1_Hex.calls k1 (bt a0 (ji8)) t375 _ A12.out).mono ?_); rintro e w' ⟨rfl, ⟨nd, rfl⟩⟩))
           go_meet
           case rel => exact ⟨_, (false), rS, H', ⟨by have := HK1.out; first | omega | exact Nat.le_refl _⟩, ⟨by (with_reducible repeat (first | apply Kd.R_alloc | apply Kd.R_drewN | apply Kd.R_drew)); exact HO_3.out⟩, ⟨by repeat (first | (with_reducible first | exact HB.out | apply below_alloc | apply pw_below_drewN | apply below_drew1) | exact HB.out)⟩⟩
         ·rw [if_neg c10] at H
          exact absurd H (by simp)
        ·rw [if_neg c9] at H
         exact absurd H (by simp)
       ·rw [if_neg c7] at H
        have c7b0 : decide ((wrap64 (x4_1 + 2)) < (a0.size : Int)) = false := decide_eq_false c7
        clear c7
        have H' := Aside0.mk H
        clear H
        have p5 : 0 ≤ (x4_1 : Int) := of_decide_eq_true aS
        have q5 : x4_1 < (a0.size : Int) := of_decide_eq_true aS
        have hx5 := bt_at a0 x4_1
        replace p5 := eq_true p5
        replace q5 := eq_true q5
        go_wp2
        go_meet
        case rel => exact ⟨_, (false), rS, H', ⟨by have := HK1.out; first | omega | exact Nat.le_refl _⟩, ⟨by (with_reducible repeat (first | apply Kd.R_alloc | apply Kd.R_drewN | apply Kd.R_drew)); exact HO_3.out⟩, ⟨by repeat (first | (with_reducible first | exact HB.out | apply below_alloc | apply pw_below_drewN | apply below_drew1) | exact HB.out)⟩⟩
      ·rw [if_neg c6] at H
       have c6b0 : ((bt a0 x4_1) == 37) = false := beq_eq_false_iff_ne.mpr c6
       have c6b1 : ((bt a0 x4_1) != 37) = true := bne_iff_ne.mpr c6
       have H' := Aside0.mk H
       clear H
       have p5 : 0 ≤ (x4_1 : Int) := of_decide_eq_true aS
       have q5 : x4_1 < (a0.size : Int) := of_decide_eq_true aS
       have hx5 := bt_at a0 x4_1
       replace p5 := eq_true p5
       replace q5 := eq_true q5
       go_wp2
       go_meet
       case rel => exact ⟨_, (false), rS, H', ⟨by have := HK1.out; first | omega | exact Nat.le_refl _⟩, ⟨by (with_reducible repeat (first | apply Kd.R_alloc | apply Kd.R_drewN | apply Kd.R_drew)); exact HO_3.out⟩, ⟨by repeat (first | (with_reducible first | exact HB.out | apply below_alloc | apply pw_below_drewN | apply below_drew1) | exact HB.out)⟩⟩
     ·rw [if_neg c4] at H
      exact absurd H (by simp)
    case rest =>
     clear HC3
     try clear c1
     try clear p1
     try clear q1
     try clear hx1
     try clear c2
     try clear c2b0
     try clear p2
     try clear c4
     try clear c4b0
     try clear p5
     try clear q5
     try clear hx5
     try clear c6
     try clear c6b0
     try clear c6b1
     try clear p6
     try clear c7
     try clear c7b0
     try clear c9
     try clear c9b0
     try clear c10
     try clear c10b0
     try clear p11
     try clear q11
     try clear hx11
     try clear c13
     try clear c13b0
     try clear c15
     try clear c15b0
     try clear p16
     try clear q16
     try clear hx16
     try clear p11
     try clear p16
     try clear p5
     try clear q11
     try clear q16
     try clear q5
     obtain ⟨kq, x37_2, rfl, HA, HJ2, HO_3, HB⟩ := hcut
     cases kq with
     | zero => exact absurd HA.out (by simp [ostiaryref1_Unpercent.j1])
     | succ kj2 =>
      have H := HA.out
      clear HA
      simp only [ostiaryref1_Unpercent.j1] at H
      by_cases c18 : x37_2 = true
      ·subst c18
       have H1 : (if 0 ≤ (wrap64 (x4_1 + 1)) then (if (wrap64 (x4_1 + 1)) < (a0.size : Int) then ((ostiaryref1_Hex.f kj2 (bt a0 (wrap64 (x4_1 + 1)))).bind fun t377 => (if 0 ≤ (wrap64 (x4_1 + 2)) then (if (wrap64 (x4_1 + 2)) < (a0.size : Int) then ((ostiaryref1_Hex.f kj2 (bt a0 (wrap64 (x4_1 + 2)))).bind fun t378 => (if x3_1.length < 140737488355328 then (ostiaryref1_Unpercent.l0 kj2 a0 (x3_1 ++ [(wrap64 ((wrap64 (16 * t377)) + t378)) % 256]) (wrap64 ((wrap64 (x4_1 + 2)) + 1))) else (none))) else (none)) else (none))) else (none)) else (none)) = some r := by rw [if_pos rfl] at H; exact H
       clear H
       have H := H1
       clear H1
       obtain ⟨ji19, hji19⟩ : ∃ j_ : Int, (wrap64 (x4_1 + 1)) = j_ := ⟨_, rfl⟩
       replace H : (if 0 ≤ (ji19) then (if (ji19) < (a0.size : Int) then ((ostiaryref1_Hex.f kj2 (bt a0 (ji19))).bind fun t377 => (if 0 ≤ (wrap64 (x4_1 + 2)) then (if (wrap64 (x4_1 + 2)) < (a0.size : Int) then ((ostiaryref1_Hex.f kj2 (bt a0 (wrap64 (x4_1 + 2)))).bind fun t378 => (if x3_1.length < 140737488355328 then (ostiaryref1_Unpercent.l0 kj2 a0 (x3_1 ++ [(wrap64 ((wrap64 (16 * t377)) + t378)) % 256]) (wrap64 ((wrap64 (x4_1 + 2)) + 1))) else (none))) else (none)) else (none))) else (none)) else (none)) = some r := by first | (rw [hji19] at H; exact H) | (simp only [hji19] at H ⊢; exact H)
       have hji19w : (IntKind.i64.wrap (x4_1 + 1)) = ji19 := (i64_w _).trans hji19
       by_cases c20 : 0 ≤ (ji19)
       ·rw [if_pos c20] at H
        have c20b0 : decide (0 ≤ (ji19)) = true := decide_eq_true c20
        clear c20
        by_cases c21 : (ji19) < (a0.size : Int)
        ·rw [if_pos c21] at H
         have c21b0 : decide ((ji19) < (a0.size : Int)) = true := decide_eq_true c21
         clear c21
         replace H := Option.bind_eq_some_iff.mp H
         obtain ⟨t377, A230, H⟩ := H
         replace H : (if 0 ≤ (wrap64 (x4_1 + 2)) then (if (wrap64 (x4_1 + 2)) < (a0.size : Int) then ((ostiaryref1_Hex.f kj2 (bt a0 (wrap64 (x4_1 + 2)))).bind fun t378 => (if x3_1.length < 140737488355328 then (ostiaryref1_Unpercent.l0 kj2 a0 (x3_1 ++ [(wrap64 ((wrap64 (16 * t377)) + t378)) % 256]) (wrap64 ((wrap64 (x4_1 + 2)) + 1))) else (none))) else (none)) else (none)) = some r := H
         have A23 := Aside0.mk A230
         clear A230
         obtain ⟨ji24, hji24⟩ : ∃ j_ : Int, (wrap64 (x4_1 + 2)) = j_ := ⟨_, rfl⟩
         replace H : (if 0 ≤ (ji24) then (if (ji24) < (a0.size : Int) then ((ostiaryref1_Hex.f kj2 (bt a0 (ji24))).bind fun t378 => (if x3_1.length < 140737488355328 then (ostiaryref1_Unpercent.l0 kj2 a0 (x3_1 ++ [(wrap64 ((wrap64 (16 * t377)) + t378)) % 256]) (wrap64 ((ji24) + 1))) else (none))) else (none)) else (none)) = some r := by first | (rw [hji24] at H; exact H) | (simp only [hji24] at H ⊢; exact H)
         (try rw [hji24] at A23)
         have hji24w : (IntKind.i64.wrap (x4_1 + 2)) = ji24 := (i64_w _).trans hji24
         by_cases c25 : 0 ≤ (ji24)
         ·rw [if_pos c25] at H
          have c25b0 : decide (0 ≤ (ji24)) = true := decide_eq_true c25
          clear c25
          by_cases c26 : (ji24) < (a0.size : Int)
          ·rw [if_pos c26] at H
           have c26b0 : decide ((ji24) < (a0.size : Int)) = true := decide_eq_true c26
           clear c26
           replace H := Option.bind_eq_some_iff.mp H
           obtain ⟨t378, A280, H⟩ := H
           replace H : (if x3_1.length < 140737488355328 then (ostiaryref1_Unpercent.l0 kj2 a0 (x3_1 ++ [(wrap64 ((wrap64 (16 * t377)) + t378)) % 256]) (wrap64 ((ji24) + 1))) else (none)) = some r := H
           have A28 := Aside0.mk A280
           clear A280
           by_cases c29 : x3_1.length < 140737488355328
           ·rw [if_pos c29] at H
            have LMc29 := Aside0.mk c29
            clear c29
            obtain ⟨y379, hy379⟩ : ∃ y_ : List Int, y_ = (x3_1 ++ [(wrap64 ((wrap64 (16 * t377)) + t378)) % 256]) := ⟨_, rfl⟩
            replace H : (ostiaryref1_Unpercent.l0 kj2 a0 y379 (wrap64 ((ji24) + 1))) = some r := by first | (rw [hy379]; with_reducible exact H) | (have H2_ := (Option.bind_some _ _).symm.trans H; rw [hy379]; with_reducible exact H2_) | (have H2_ := (Option.bind_some _ _).symm.trans H; with_reducible exact H2_) | with_reducible exact H | (rw [hy379]; exact H) | exact H
            have Ny379 := Aside0.mk hy379
            clear hy379
            have H' := Aside0.mk H
            clear H
            try go_wp2
            have n0_ := Aside0.mk (Kd.R_drew HO_3.out)
            have n1_ := Aside0.mk (below_drew1 HB.out)
            clear HO_3
            clear HB
            have HO_3 := n0_
            have HB := n1_
            clear n0_ n1_
            have p22 : 0 ≤ ((ji19) : Int) := of_decide_eq_true aS
            have q22 : (ji19) < (a0.size : Int) := of_decide_eq_true aS
            have hx22 := bt_at a0 (ji19)
            replace p22 := eq_true p22
            replace q22 := eq_true q22
            have p27 : 0 ≤ ((ji24) : Int) := of_decide_eq_true aS
            have q27 : (ji24) < (a0.size : Int) := of_decide_eq_true aS
            have hx27 := bt_at a0 (ji24)
            replace p27 := eq_true p27
            replace q27 := eq_true q27
            refine start_ (n := 17) (S := fun w' => True) (ds := []) #[false, false, false, false, false, false, false, false, false, false, false, false, false, false, false, false, false] q2_ rfl rfl trivial (fun hHeld => ?_); refine with_tabW ostiaryref1_Unpercent.tab6 ostiaryref1_Unpercent.bits6 (fun HT_ HW_ => ?_)
            generalize wc.drew = w30 at HO_3 HB hHeld ⊢
            refine pure_ (i := 0) (N := some 38) (v := ?_) (a' := ?_) #[true, false, false, false, false, false, false, false, false, false, false, false, false, false, false, false, false] rfl rfl (any_of HT_.out q2_) (fun _ _ _ h => h) (Or.inl ⟨by rfl, ?_⟩) ?_ ?_
            rotate_left
            ·intro w'
             go_simp
             with_reducible rfl
            rotate_left
            ·simp only [Act.put, List.setIfInBounds_toArray, List.set_cons_zero, List.set_cons_succ, i64_w, i32_w]
             rfl
            refine pure_ (i := 1) (N := some 39) (v := ?_) (a' := ?_) #[true, true, false, false, false, false, false, false, false, false, false, false, false, false, false, false, false] rfl rfl (any_of HT_.out q2_) (fun _ _ _ h => h) (Or.inl ⟨by rfl, ?_⟩) ?_ ?_
            rotate_left
            ·intro w'
             go_simp
             with_reducible rfl
            rotate_left
            ·simp only [Act.put, List.setIfInBounds_toArray, List.set_cons_zero, List.set_cons_succ, i64_w, i32_w]
             rfl
            refine pure_ (i := 2) (N := some 40) (v := ?_) (a' := ?_) #[true, true, true, false, false, false, false, false, false, false, false, false, false, false, false, false, false] rfl rfl (any_of HT_.out q2_) (fun _ _ _ h => h) (Or.inl ⟨by rfl, ?_⟩) ?_ ?_
            rotate_left
            ·intro w'
             go_simp
             with_reducible rfl
            rotate_left
            ·simp only [Act.put, List.setIfInBounds_toArray, List.set_cons_zero, List.set_cons_succ, i64_w, i32_w]
             rfl
            refine pure_ (i := 3) (N := some 41) (v := ?_) (a' := ?_) #[true, true, true, true, false, false, false, false, false, false, false, false, false, false, false, false, false] rfl rfl (any_of HT_.out q2_) (fun _ _ _ h => h) (Or.inl ⟨by rfl, ?_⟩) ?_ ?_
            rotate_left
            ·intro w'
             go_simp
             with_reducible rfl
            rotate_left
            ·simp only [Act.put, List.setIfInBounds_toArray, List.set_cons_zero, List.set_cons_succ, i64_w, i32_w]
             rfl
            refine pure_ (i := 7) (N := some 45) (v := ?_) (a' := ?_) #[true, true, true, true, false, false, false, true, false, false, false, false, false, false, false, false, false] rfl rfl (any_of HT_.out q2_) (fun _ _ _ h => h) (Or.inl ⟨by rfl, ?_⟩) ?_ ?_
            rotate_left
            ·intro w'
             go_simp
             with_reducible rfl
            rotate_left
            ·simp only [Act.put, List.setIfInBounds_toArray, List.set_cons_zero, List.set_cons_succ, i64_w, i32_w]
             rfl
            refine pure_ (i := 8) (N := some 46) (v := ?_) (a' := ?_) #[true, true, true, true, false, false, false, true, true, false, false, false, false, false, false, false, false] rfl rfl (any_of HT_.out q2_) (fun _ _ _ h => h) (Or.inl ⟨by rfl, ?_⟩) ?_ ?_
            rotate_left
            ·intro w'
             go_simp
             with_reducible rfl
            rotate_left
            ·simp only [Act.put, List.setIfInBounds_toArray, List.set_cons_zero, List.set_cons_succ, i64_w, i32_w]
             rfl
            refine pure_ (i := 9) (N := some 47) (v := ?_) (a' := ?_) #[true, true, true, true, false, false, false, true, true, true, false, false, false, false, false, false, false] rfl rfl (any_of HT_.out q2_) (fun _ _ _ h => h) (Or.inl ⟨by rfl, ?_⟩) ?_ ?_
            rotate_left
            ·intro w'
             go_simp
             with_reducible rfl
            rotate_left
            ·simp only [Act.put, List.setIfInBounds_toArray, List.set_cons_zero, List.set_cons_succ, i64_w, i32_w]
             rfl
            refine take_ (i := 4) (N := some 42) (v := ?_) (a' := ?_) #[true, true, true, true, true, false, false, true, true, true, false, false, false, false, false, false, false] rfl rfl (take_ofW HT_.out HW_.out q2_) (fun _ _ _ h => h) (Or.inl ⟨by rfl, ?_⟩) hHeld ?_ ?_
            rotate_left
            ·intro w' _
             go_simp
             with_reducible rfl
            rotate_left
            ·simp only [Act.put, List.setIfInBounds_toArray, List.set_cons_zero, List.set_cons_succ, i64_w, i32_w]
             rfl
            refine take_ (i := 10) (N := some 48) (v := ?_) (a' := ?_) #[true, true, true, true, true, false, false, true, true, true, true, false, false, false, false, false, false] rfl rfl (take_ofW HT_.out HW_.out q2_) (fun _ _ _ h => h) (Or.inl ⟨by rfl, ?_⟩) hHeld ?_ ?_
            rotate_left
            ·intro w' _
             go_simp
             with_reducible rfl
            rotate_left
            ·simp only [Act.put, List.setIfInBounds_toArray, List.set_cons_zero, List.set_cons_succ, i64_w, i32_w]
             rfl
            refine one_ (i := 5) (N := some 43) #[true, true, true, true, true, true, false, true, true, true, true, false, false, false, false, false, false] rfl rfl (one_of HT_.out q2_) (by decide) (fun K hK => ?_)
            refine goes_ Tryd.func215 q2_ rfl #[.int .u8 (bt a0 (ji19))] (by rfl) rfl rfl (by (try simp only [List.map_toArray, List.map_cons, List.map_nil]); first | done | (simp only [hji19]; rfl) | rfl | (simp only [List.length_drop, List.length_take]; rfl)) ?_
            with_reducible refine (ostiaryref1_Hex.calls kj2 (bt a0 (ji19)) t377 _ A23.out).mono ?_
            rintro e w' ⟨rfl, ⟨nd, rfl⟩⟩
            refine ⟨_, rfl, ?_⟩
            refine hK.out _ _ trivial (fun hHeld => ?_)
            clear hK K
            refine norm_ (a' := ?_) ?_ ?_
            rotate_left
            ·show Act.put _ (some 43) _ = _
             simp only [Act.put, List.setIfInBounds_toArray, List.set_cons_zero, List.set_cons_succ, i64_w, i32_w]
             rfl
            refine pure_ (i := 6) (N := some 44) (v := ?_) (a' := ?_) #[true, true, true, true, true, true, true, true, true, true, true, false, false, false, false, false, false] rfl rfl (any_of HT_.out q2_) (fun _ _ _ h => h) (Or.inl ⟨by rfl, ?_⟩) ?_ ?_
            rotate_left
            ·intro w'
             go_simp
             with_reducible rfl
            rotate_left
            ·simp only [Act.put, List.setIfInBounds_toArray, List.set_cons_zero, List.set_cons_succ, i64_w, i32_w]
             rfl
            refine one_ (i := 11) (N := some 49) #[true, true, true, true, true, true, true, true, true, true, true, true, false, false, false, false, false] rfl rfl (one_of HT_.out q2_) (by decide) (fun K hK => ?_)
            refine goes_ Tryd.func215 q2_ rfl #[.int .u8 (bt a0 (ji24))] (by rfl) rfl rfl (by (try simp only [List.map_toArray, List.map_cons, List.map_nil]); first | done | (simp only [hji24]; rfl) | rfl | (simp only [List.length_drop, List.length_take]; rfl)) ?_
            with_reducible refine (ostiaryref1_Hex.calls kj2 (bt a0 (ji24)) t378 _ A28.out).mono ?_
            rintro e w' ⟨rfl, ⟨nd, rfl⟩⟩
            refine ⟨_, rfl, ?_⟩
            refine hK.out _ _ trivial (fun hHeld => ?_)
            clear hK K
            refine norm_ (a' := ?_) ?_ ?_
            rotate_left
            ·show Act.put _ (some 49) _ = _
             simp only [Act.put, List.setIfInBounds_toArray, List.set_cons_zero, List.set_cons_succ, i64_w, i32_w]
             rfl
            refine pure_ (i := 12) (N := some 50) (v := ?_) (a' := ?_) #[true, true, true, true, true, true, true, true, true, true, true, true, true, false, false, false, false] rfl rfl (any_of HT_.out q2_) (fun _ _ _ h => h) (Or.inl ⟨by rfl, ?_⟩) ?_ ?_
            rotate_left
            ·intro w'
             go_simp
             with_reducible rfl
            rotate_left
            ·simp only [Act.put, List.setIfInBounds_toArray, List.set_cons_zero, List.set_cons_succ, i64_w, i32_w]
             rfl
            refine pure_ (i := 13) (N := some 51) (v := ?_) (a' := ?_) #[true, true, true, true, true, true, true, true, true, true, true, true, true, true, false, false, false] rfl rfl (any_of HT_.out q2_) (fun _ _ _ h => h) (Or.inl ⟨by rfl, ?_⟩) ?_ ?_
            rotate_left
            ·intro w'
             go_simp
             with_reducible rfl
            rotate_left
            ·simp only [Act.put, List.setIfInBounds_toArray, List.set_cons_zero, List.set_cons_succ, i64_w, i32_w]
             rfl
            refine one_ (i := 14) (N := some 52) #[true, true, true, true, true, true, true, true, true, true, true, true, true, true, true, false, false] rfl rfl (one_of HT_.out q2_) (by decide) (fun K hK => ?_)
            refine value_ (w1 := ?_) (v := ?_) (by rfl) rfl ?_ ?_
            rotate_left 2
            ·go_simp
             constructor
             ·rfl
             ·rfl
            refine hK.out _ _ trivial (fun hHeld => ?_)
            clear hK K
            refine norm_ (a' := ?_) ?_ ?_
            rotate_left
            ·show Act.put _ (some 52) _ = _
             simp only [Act.put, List.setIfInBounds_toArray, List.set_cons_zero, List.set_cons_succ, i64_w, i32_w]
             rfl
            refine one_ (i := 15) (N := some 53) #[true, true, true, true, true, true, true, true, true, true, true, true, true, true, true, true, false] rfl rfl (one_of HT_.out q2_) (by decide) (fun K hK => ?_)
            refine Kd.R_append_step (Kd.int .u8) (w0 := w) w.heap.size (by rfl) (.tmp 38) (.tmp 52) 34 5 (.int .u8 0) 1 rfl Tryd.underlying34 info5 rfl (by decide) (by omega) u3 x3_1 ((wrap64 ((wrap64 (16 * t377)) + t378)) % 256) [.int .u8 ((wrap64 ((wrap64 (16 * t377)) + t378)) % 256)] (fun _ => True) (fun _ => False) rfl rfl ?aP (fun _ hk => hk.elim) ?aF ?aO ?aB ?aS ?aL ?_
            (case aP => exact rfl)
            (case aB => exact hB)
            (case aF => exact (fun _ _ => trivial))
            (case aO => exact (by (with_reducible repeat (first | apply Kd.R_alloc | apply Kd.R_drewN | apply Kd.R_drew)); exact HO_3.out))
            (case aS => exact (below_size hB))
            (case aL => have := LMc29.out; omega)
            intro v380 w31 ho hb hg hat
            rw [← Ny379.out] at ho
            have n0_ := Aside0.mk (hb)
            have n1_ := Aside0.mk (ho)
            clear HB
            clear HO_3
            have HB := n0_
            have HO381 := n1_
            clear n0_ n1_
            clear ho hb hg hat
            refine hK.out _ _ trivial (fun hHeld => ?_)
            clear hK K
            refine norm_ (a' := ?_) ?_ ?_
            rotate_left
            ·show Act.put _ (some 53) _ = _
             simp only [Act.put, List.setIfInBounds_toArray, List.set_cons_zero, List.set_cons_succ, i64_w, i32_w]
             rfl
            refine pure_ (i := 16) (N := some 3) (v := ?_) (a' := ?_) #[true, true, true, true, true, true, true, true, true, true, true, true, true, true, true, true, true] rfl rfl (any_of HT_.out q2_) (fun _ _ _ h => h) (Or.inl ⟨by rfl, ?_⟩) ?_ ?_
            rotate_left
            ·intro w'
             go_simp
             with_reducible rfl
            rotate_left
            ·simp only [Act.put, List.setIfInBounds_toArray, List.set_cons_zero, List.set_cons_succ, i64_w, i32_w]
             rfl
            refine done_ (done_of HT_.out q2_) ?_
            try go_wp2
            go_roundg kj2
            case measure => have := HK1.out; have := HJ2.out; omega
            case rel => exact ⟨(y379), (wrap64 ((ji24) + 1)), (by first | rfl | (simp; done) | (simp only [← hji24] <;> (first | rfl | simp)) | (simp [*]; done)), H', ⟨by have := HK1.out; have := HJ2.out; omega⟩, ⟨by (with_reducible repeat (first | apply Kd.R_alloc | apply Kd.R_drewN | apply Kd.R_drew)); exact HO381.out⟩, ⟨by repeat (first | (with_reducible first | exact HB.out | apply below_alloc | apply pw_below_drewN | apply below_drew1) | exact HB.out)⟩⟩
           ·rw [if_neg c29] at H
            exact absurd H (by simp)
          ·rw [if_neg c26] at H
           exact absurd H (by simp)
         ·rw [if_neg c25] at H
          exact absurd H (by simp)
        ·rw [if_neg c21] at H
         exact absurd H (by simp)
       ·rw [if_neg c20] at H
        exact absurd H (by simp)
      ·replace c18 := Bool.eq_false_iff.mpr c18
       subst c18
       have H1 : (if 0 ≤ x4_1 then (if x4_1 < (a0.size : Int) then (if x3_1.length < 140737488355328 then (ostiaryref1_Unpercent.l0 kj2 a0 (x3_1 ++ [bt a0 x4_1]) (wrap64 (x4_1 + 1))) else (none)) else (none)) else (none)) = some r := by rw [if_neg (show ¬ (false = true) by decide)] at H; exact H
       clear H
       have H := H1
       clear H1
       by_cases c32 : 0 ≤ x4_1
       ·rw [if_pos c32] at H
        have c32b0 : decide (0 ≤ x4_1) = true := decide_eq_true c32
        clear c32
        by_cases c33 : x4_1 < (a0.size : Int)
        ·rw [if_pos c33] at H
         have c33b0 : decide (x4_1 < (a0.size : Int)) = true := decide_eq_true c33
         clear c33
         by_cases c35 : x3_1.length < 140737488355328
         ·rw [if_pos c35] at H
          have LMc35 := Aside0.mk c35
          clear c35
          obtain ⟨y382, hy382⟩ : ∃ y_ : List Int, y_ = (x3_1 ++ [bt a0 x4_1]) := ⟨_, rfl⟩
          replace H : (ostiaryref1_Unpercent.l0 kj2 a0 y382 (wrap64 (x4_1 + 1))) = some r := by first | (rw [hy382]; with_reducible exact H) | (have H2_ := (Option.bind_some _ _).symm.trans H; rw [hy382]; with_reducible exact H2_) | (have H2_ := (Option.bind_some _ _).symm.trans H; with_reducible exact H2_) | with_reducible exact H | (rw [hy382]; exact H) | exact H
          have Ny382 := Aside0.mk hy382
          clear hy382
          have H' := Aside0.mk H
          clear H
          have p34 : 0 ≤ (x4_1 : Int) := of_decide_eq_true aS
          have q34 : x4_1 < (a0.size : Int) := of_decide_eq_true aS
          have hx34 := bt_at a0 x4_1
          replace p34 := eq_true p34
          replace q34 := eq_true q34
          go_wp2_with (first | ((with_reducible refine gate_builtin (b := .append) (xs := #[.tmp 56, .tmp 60]) rfl ?_); (try (refine gate_guard (by rfl) ?_; dsimp only)); at_builtin; refine Kd.R_append (Kd.int .u8) (w0 := w) w.heap.size rfl (.tmp 56) (.tmp 60) 34 5 (.int .u8 0) 1 rfl Tryd.underlying34 info5 rfl (by decide) (by omega) u3 x3_1 (bt a0 x4_1) [.int .u8 (bt a0 x4_1)] (fun _ => True) (fun _ => False) rfl rfl ?aP (fun _ hk => hk.elim) ?aF ?aO ?aB ?aS ?aL ?_; (case aP => exact rfl); (case aB => exact hB); (case aF => exact (fun _ _ => trivial)); (case aO => exact (by (with_reducible repeat (first | apply Kd.R_alloc | apply Kd.R_drewN | apply Kd.R_drew)); exact HO_3.out)); (case aS => exact (below_size hB)); (case aL => have := LMc35.out; omega); intro v383 w36 ho hb hg hat; rw [← Ny382.out] at ho; have n0_ := Aside0.mk (hb); have n1_ := Aside0.mk (ho); clear HB; clear HO_3; have HB := n0_; have HO384 := n1_; clear n0_ n1_; clear ho hb hg hat))
          go_roundg kj2
          case measure => have := HK1.out; have := HJ2.out; omega
          case rel => exact ⟨(y382), (wrap64 (x4_1 + 1)), rS, H', ⟨by have := HK1.out; have := HJ2.out; omega⟩, ⟨by (with_reducible repeat (first | apply Kd.R_alloc | apply Kd.R_drewN | apply Kd.R_drew)); exact HO384.out⟩, ⟨by repeat (first | (with_reducible first | exact HB.out | apply below_alloc | apply pw_below_drewN | apply below_drew1) | exact HB.out)⟩⟩
         ·rw [if_neg c35] at H
          exact absurd H (by simp)
        ·rw [if_neg c33] at H
         exact absurd H (by simp)
       ·rw [if_neg c32] at H
        exact absurd H (by simp)
   ·rw [if_neg c2] at H
    have c2b0 : decide (x4_1 < (a0.size : Int)) = false := decide_eq_false c2
    clear c2
    obtain rfl := Option.some.inj H
    have hcv37 := own_string (P := Tryd.prog) Tryd.underlying34 Tryd.underlying5 Tryd.underlying9 (Kd.own_of_R HO_3.out)
    go_wp2
    go_ret
    exact ⟨by first | rfl | (simp [errW_none, errW_some] <;> rfl) | (simp [*, errW_none, errW_some] <;> rfl), by repeat (first | (with_reducible first | exact HB.out | apply below_alloc | apply pw_below_drewN | apply below_drew1) | exact HB.out)⟩
end Go.Proofs.YtifmkgkiipckbaaDoor.P
namespace Go.Proofs.YtifmkgkiipckbaaDoor.P
open Go.RowKit Go.Proofs.YtifmkgkiipckbaaDoorW.PrintWords Go.Proofs.YtifmkgkiipckbaaDoorW.PrintLast Go.Proofs.YtifmkgkiipckbaaDoorW.PrintMore
attribute [local go_sem] max2_int min2_int max_two min_two max_three min_three max_four min_four
set_option linter.unusedVariables false
set_option linter.unusedSimpArgs false
def ostiaryref2_labels.f (k : Nat) (a0 : ByteArray) : Option (List ByteArray) := (ostiaryref1_Cut.f k a0 46).bind fun t297 => (if (t297.length : Int) > 1 then (if 0 ≤ (wrap64 ((t297.length : Int) - 1)) then (if (wrap64 ((t297.length : Int) - 1)) < (t297.length : Int) then (if (rdOf ByteArray.empty t297 (wrap64 ((t297.length : Int) - 1))).toList = ([] : List UInt8) then (if (wrap64 ((t297.length : Int) - 1)) ≤ (t297.length : Int) then (some (t297.take ((wrap64 ((t297.length : Int) - 1)) : Int).toNat)) else (none)) else (some t297)) else (none)) else (none)) else (some t297))
theorem ostiaryref2_labels.mono : ∀ a0 k, LeO (ostiaryref2_labels.f k a0) (ostiaryref2_labels.f (k + 1) a0) := by
 intro a0 k
 unfold ostiaryref2_labels.f
 repeat' first
   | (with_reducible exact ostiaryref1_Cut.mono _ _ _)
   | (with_reducible exact LeO.refl _)
   | (with_reducible exact LeO.none _)
   | (with_reducible refine LeO.ite ?_ ?_)
   | (with_reducible refine LeO.bind ?_ (fun _ => ?_))
   | exact ostiaryref1_Cut.mono _ _ _
   | exact LeO.none _
   | refine LeO.ite ?_ ?_
   | refine LeO.bind ?_ (fun _ => ?_)
set_option maxHeartbeats 8000000 in
set_option maxRecDepth 100000 in
theorem ostiaryref2_labels.calls (k : Nat) (a0 : ByteArray) (r : List ByteArray) (w : World) (h : ostiaryref2_labels.f k a0 = some r) :
  Calls Tryd.prog 216 #[.string a0] w fun e w' => ∃ v0_ : Value, e = .returned (v0_) ∧ Kd.R Kd.string 9 w' w.heap.size (fun _ => True) v0_ r ∧ Below w.heap.size w w' := by
 have HB := Aside0.mk (Below.refl w.heap.size w)
 have H : ((ostiaryref1_Cut.f k a0 46).bind fun t297 => (if (t297.length : Int) > 1 then (if 0 ≤ (wrap64 ((t297.length : Int) - 1)) then (if (wrap64 ((t297.length : Int) - 1)) < (t297.length : Int) then (if (rdOf ByteArray.empty t297 (wrap64 ((t297.length : Int) - 1))).toList = ([] : List UInt8) then (if (wrap64 ((t297.length : Int) - 1)) ≤ (t297.length : Int) then (some (t297.take ((wrap64 ((t297.length : Int) - 1)) : Int).toNat)) else (none)) else (some t297)) else (none)) else (none)) else (some t297))) = some r := h
 clear h
 replace H := Option.bind_eq_some_iff.mp H
 obtain ⟨t297, A20, H⟩ := H
 replace H : (if (t297.length : Int) > 1 then (if 0 ≤ (wrap64 ((t297.length : Int) - 1)) then (if (wrap64 ((t297.length : Int) - 1)) < (t297.length : Int) then (if (rdOf ByteArray.empty t297 (wrap64 ((t297.length : Int) - 1))).toList = ([] : List UInt8) then (if (wrap64 ((t297.length : Int) - 1)) ≤ (t297.length : Int) then (some (t297.take ((wrap64 ((t297.length : Int) - 1)) : Int).toNat)) else (none)) else (some t297)) else (none)) else (none)) else (some t297)) = some r := H
 have A2 := Aside0.mk A20
 clear A20
 by_cases c3 : (t297.length : Int) > 1
 ·rw [if_pos c3] at H
  have c3b0 : decide (1 < (t297.length : Int)) = true := decide_eq_true c3
  have c3b1 : decide (1 < t297.length) = true := decide_eq_true (by omega)
  clear c3
  obtain ⟨ji4, hji4⟩ : ∃ j_ : Int, (wrap64 ((t297.length : Int) - 1)) = j_ := ⟨_, rfl⟩
  replace H : (if 0 ≤ (ji4) then (if (ji4) < (t297.length : Int) then (if (rdOf ByteArray.empty t297 (ji4)).toList = ([] : List UInt8) then (if (ji4) ≤ (t297.length : Int) then (some (t297.take ((ji4) : Int).toNat)) else (none)) else (some t297)) else (none)) else (none)) = some r := by first | (rw [hji4] at H; exact H) | (simp only [hji4] at H ⊢; exact H)
  (try rw [hji4] at A2)
  have hji4w : (IntKind.i64.wrap ((t297.length : Int) - 1)) = ji4 := (i64_w _).trans hji4
  by_cases c5 : 0 ≤ (ji4)
  ·rw [if_pos c5] at H
   have c5b0 : decide (0 ≤ (ji4)) = true := decide_eq_true c5
   clear c5
   by_cases c6 : (ji4) < (t297.length : Int)
   ·rw [if_pos c6] at H
    have c6b0 : decide ((ji4) < (t297.length : Int)) = true := decide_eq_true c6
    clear c6
    by_cases c7 : (rdOf ByteArray.empty t297 (ji4)).toList = ([] : List UInt8)
    ·rw [if_pos c7] at H
     have c7b0 : ((rdOf ByteArray.empty t297 (ji4)).toList == ([] : List UInt8)) = true := beq_iff_eq.mpr c7
     have c7b1 : ((rdOf ByteArray.empty t297 (ji4)).toList != ([] : List UInt8)) = false := bne_eq_false_iff_eq.mpr c7
     clear c7
     by_cases c8 : (ji4) ≤ (t297.length : Int)
     ·rw [if_pos c8] at H
      have c8b0 := eq_true c8
      have c8b1 : decide ((ji4) ≤ (t297.length : Int)) = true := decide_eq_true c8
      clear c8
      obtain ⟨y301, hy301⟩ : ∃ y_ : List ByteArray, y_ = (t297.take ((ji4) : Int).toNat) := ⟨_, rfl⟩
      replace H : (some y301) = some r := by first | (rw [hy301]; with_reducible exact H) | (have H2_ := (Option.bind_some _ _).symm.trans H; rw [hy301]; with_reducible exact H2_) | (have H2_ := (Option.bind_some _ _).symm.trans H; with_reducible exact H2_) | with_reducible exact H | (rw [hy301]; exact H) | exact H
      have Ny301 := Aside0.mk hy301
      clear hy301
      obtain rfl := Option.some.inj H
      go_enter Tryd.func216, Tryd.ntmps216
      go_wp2_with (first | ((with_reducible refine gate_callee (f := 183) rfl ?_); refine goesL_ (some 5) rfl rfl Tryd.func183 q2_ rfl #[.string a0, .int .u8 46] rfl tS ?_; (with_reducible refine (ostiaryref1_Cut.calls k a0 46 t297 _ A2.out).mono ?_); rintro e w9 ⟨v298, rfl, ho0, hb⟩; refine ⟨_, rfl, ?_⟩; have n0_ := Aside0.mk (Kd.R_lower ho0 (below_size hB)); have n1_ := Aside0.mk (below_step hB hb); clear HB; have HO299 := n0_; have HB := n1_; clear n0_ n1_; (try clear hb); (try clear hb2); (try clear hk); (try clear hi); (try clear ho0); obtain ⟨Ao10, co10, eo10⟩ := Kd.R_slice HO299.out; subst eo10; have p300 : 0 ≤ ((ji4) : Int) := of_decide_eq_true aS; have q300 : (ji4) < (t297.length : Int) := of_decide_eq_true aS; obtain ⟨ad300, e300, hx300_0⟩ := Kd.at_string (Kd.R_reads' HO299.out).2.2 (ji4) p300 q300; cases e300; replace p300 := eq_true p300; replace q300 := eq_true q300; have q11 : ((ji4) : Int) ≤ ((t297.length : Int) : Int) := of_decide_eq_true aS; obtain ⟨i011, hi011, _, hsz11, _⟩ := info_parts info9; have hcut11 := cut_to (P := Tryd.prog) 84 9 .i64 Tryd.underlying84 hi011 (some ad300) t297.length co10 (ji4) (of_decide_eq_true aS) q11 (Kd.R_reads' HO299.out).2.1; have hr11 := Kd.R_take (m := ((ji4) : Int).toNat) HO299.out (by omega); have hy11 : y301.length = ((ji4) : Int).toNat := (by rw [Ny301.out, List.length_take]; omega); rw [← Ny301.out] at hr11; rw [← hy11] at hr11 hcut11; clear hy11 hi011 hsz11 HO299; have HO303 := Aside0.mk hr11; clear hr11; replace q11 := eq_true q11))
      go_ret
      exact ⟨_, by first | rfl | (simp [errW_none, errW_some] <;> rfl) | (simp only [← hji4]; first | rfl | (simp [errW_none, errW_some] <;> rfl)) | (simp [*, errW_none, errW_some] <;> rfl), by (with_reducible repeat (first | apply Kd.R_alloc | apply Kd.R_drewN | apply Kd.R_drew)); exact HO303.out, by repeat (first | (with_reducible first | exact HB.out | apply below_alloc | apply pw_below_drewN | apply below_drew1) | exact HB.out)⟩
     ·rw [if_neg c8] at H
      exact absurd H (by simp)
    ·rw [if_neg c7] at H
     have c7b0 : ((rdOf ByteArray.empty t297 (ji4)).toList == ([] : List UInt8)) = false := beq_eq_false_iff_ne.mpr c7
     have c7b1 : ((rdOf ByteArray.empty t297 (ji4)).toList != ([] : List UInt8)) = true := bne_iff_ne.mpr c7
     obtain rfl := Option.some.inj H
     go_enter Tryd.func216, Tryd.ntmps216
     go_wp2_with (first | ((with_reducible refine gate_callee (f := 183) rfl ?_); refine goesL_ (some 5) rfl rfl Tryd.func183 q2_ rfl #[.string a0, .int .u8 46] rfl tS ?_; (with_reducible refine (ostiaryref1_Cut.calls k a0 46 t297 _ A2.out).mono ?_); rintro e w12 ⟨v298, rfl, ho0, hb⟩; refine ⟨_, rfl, ?_⟩; have n0_ := Aside0.mk (Kd.R_lower ho0 (below_size hB)); have n1_ := Aside0.mk (below_step hB hb); clear HB; have HO299 := n0_; have HB := n1_; clear n0_ n1_; (try clear hb); (try clear hb2); (try clear hk); (try clear hi); (try clear ho0); obtain ⟨Ao13, co13, eo13⟩ := Kd.R_slice HO299.out; subst eo13; have p300 : 0 ≤ ((ji4) : Int) := of_decide_eq_true aS; have q300 : (ji4) < (t297.length : Int) := of_decide_eq_true aS; obtain ⟨ad300, e300, hx300_0⟩ := Kd.at_string (Kd.R_reads' HO299.out).2.2 (ji4) p300 q300; cases e300; replace p300 := eq_true p300; replace q300 := eq_true q300))
     go_ret
     exact ⟨_, by first | rfl | (simp [errW_none, errW_some] <;> rfl) | (simp only [← hji4]; first | rfl | (simp [errW_none, errW_some] <;> rfl)) | (simp [*, errW_none, errW_some] <;> rfl), by (with_reducible repeat (first | apply Kd.R_alloc | apply Kd.R_drewN | apply Kd.R_drew)); exact HO299.out, by repeat (first | (with_reducible first | exact HB.out | apply below_alloc | apply pw_below_drewN | apply below_drew1) | exact HB.out)⟩
   ·rw [if_neg c6] at H
    exact absurd H (by simp)
  ·rw [if_neg c5] at H
   exact absurd H (by simp)
 ·rw [if_neg c3] at H
  have c3b0 : decide (1 < (t297.length : Int)) = false := decide_eq_false c3
  have c3b1 : decide (1 < t297.length) = false := decide_eq_false (by omega)
  clear c3
  obtain rfl := Option.some.inj H
  go_enter Tryd.func216, Tryd.ntmps216
  go_wp2_with (first | ((with_reducible refine gate_callee (f := 183) rfl ?_); refine goesL_ (some 5) rfl rfl Tryd.func183 q2_ rfl #[.string a0, .int .u8 46] rfl tS ?_; (with_reducible refine (ostiaryref1_Cut.calls k a0 46 t297 _ A2.out).mono ?_); rintro e w14 ⟨v298, rfl, ho0, hb⟩; refine ⟨_, rfl, ?_⟩; have n0_ := Aside0.mk (Kd.R_lower ho0 (below_size hB)); have n1_ := Aside0.mk (below_step hB hb); clear HB; have HO299 := n0_; have HB := n1_; clear n0_ n1_; (try clear hb); (try clear hb2); (try clear hk); (try clear hi); (try clear ho0); obtain ⟨Ao15, co15, eo15⟩ := Kd.R_slice HO299.out; subst eo15))
  go_ret
  exact ⟨_, by first | rfl | (simp [errW_none, errW_some] <;> rfl) | (simp [*, errW_none, errW_some] <;> rfl), by (with_reducible repeat (first | apply Kd.R_alloc | apply Kd.R_drewN | apply Kd.R_drew)); exact HO299.out, by repeat (first | (with_reducible first | exact HB.out | apply below_alloc | apply pw_below_drewN | apply below_drew1) | exact HB.out)⟩
end Go.Proofs.YtifmkgkiipckbaaDoor.P
