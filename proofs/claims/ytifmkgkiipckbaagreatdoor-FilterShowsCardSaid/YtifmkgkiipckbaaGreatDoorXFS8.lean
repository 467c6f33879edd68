/- A part of the proof of FS: texts of walks and plain lemmas. -/
import Derived.Test.YtifmkgkiipckbaaGreatDoorXFS1
import Derived.Test.YtifmkgkiipckbaaGreatDoorXFS7
namespace Go.Proofs.YtifmkgkiipckbaaGreatDoor.P
open Go.RowKit Go.Proofs.YtifmkgkiipckbaaGreatDoorW.PrintWords Go.Proofs.YtifmkgkiipckbaaGreatDoorW.PrintLast Go.Proofs.YtifmkgkiipckbaaGreatDoorW.PrintMore
attribute [local go_sem] max2_int min2_int max_two min_two max_three min_three max_four min_four
set_option linter.unusedVariables false
set_option linter.unusedSimpArgs false
mutual
def ostiaryref5_Split.l0 : Nat → ByteArray → List ByteArray → Int → Bool → Int → Option (List ByteArray × Bool)
 | 0, _, _, _, _, _ => none
 | k + 1, x6, x8, x9, x10, x11 => if x11 ≤ (x6.size : Int) then (if x11 = (x6.size : Int) then (ostiaryref5_Split.j1 k x6 x8 x9 x10 x11 true) else (if 0 ≤ x11 then (if x11 < (x6.size : Int) then (if (bt x6 x11) = 44 then (ostiaryref5_Split.j1 k x6 x8 x9 x10 x11 (!x10)) else (ostiaryref5_Split.j1 k x6 x8 x9 x10 x11 false)) else (none)) else (none))) else (some (x8, true))
def ostiaryref5_Split.j1 : Nat → ByteArray → List ByteArray → Int → Bool → Int → Bool → Option (List ByteArray × Bool)
 | 0, _, _, _, _, _, _ => none
 | k + 1, x6, x8, x9, x10, x11, x39 => if x39 = true then (if 0 ≤ x9 then (if x9 ≤ x11 then (if x11 ≤ (x6.size : Int) then ((ostiaryref1_Trim.f k (x6.extract (x9 : Int).toNat (x11 : Int).toNat) true).bind fun t156 => (if x8.length < 8796093022208 then (ostiaryref5_Split.l0 k x6 (x8 ++ [t156]) (wrap64 (x11 + 1)) x10 (wrap64 (x11 + 1))) else (none))) else (none)) else (none)) else (none)) else (if 0 ≤ x11 then (if x11 < (x6.size : Int) then (if (bt x6 x11) = 92 then (ostiaryref5_Split.j2 k x6 x8 x9 x10 x11 x10) else (ostiaryref5_Split.j2 k x6 x8 x9 x10 x11 false)) else (none)) else (none))
def ostiaryref5_Split.j2 : Nat → ByteArray → List ByteArray → Int → Bool → Int → Bool → Option (List ByteArray × Bool)
 | 0, _, _, _, _, _, _ => none
 | k + 1, x6, x8, x9, x10, x11, x56 => if x56 = true then (if (wrap64 (x11 + 1)) ≥ (x6.size : Int) then (ostiaryref5_Split.l0 k x6 x8 x9 x10 (wrap64 ((wrap64 ((x6.size : Int) - 1)) + 1))) else (ostiaryref5_Split.l0 k x6 x8 x9 x10 (wrap64 ((wrap64 (x11 + 1)) + 1)))) else (if 0 ≤ x11 then (if x11 < (x6.size : Int) then (if (bt x6 x11) = 34 then (ostiaryref5_Split.l0 k x6 x8 x9 (!x10) (wrap64 (x11 + 1))) else (ostiaryref5_Split.l0 k x6 x8 x9 x10 (wrap64 (x11 + 1)))) else (none)) else (none))
end
def ostiaryref5_Split.f (k : Nat) (l0 : List (S30)) (a1 : ByteArray) : Option (List ByteArray × Bool) := (ostiaryref5_Get.f k l0 a1).bind fun bt154 => (if bt154.2 = true then (ostiaryref5_Split.l0 k bt154.1 ([] : List ByteArray) 0 false 0) else (some (([] : List ByteArray), false)))
theorem ostiaryref5_Split.mono_l : ∀ k, (∀ y0 y1 y2 y3 y4, LeO (ostiaryref5_Split.l0 k y0 y1 y2 y3 y4) (ostiaryref5_Split.l0 (k + 1) y0 y1 y2 y3 y4)) ∧ (∀ y0 y1 y2 y3 y4 y5, LeO (ostiaryref5_Split.j1 k y0 y1 y2 y3 y4 y5) (ostiaryref5_Split.j1 (k + 1) y0 y1 y2 y3 y4 y5)) ∧ (∀ y0 y1 y2 y3 y4 y5, LeO (ostiaryref5_Split.j2 k y0 y1 y2 y3 y4 y5) (ostiaryref5_Split.j2 (k + 1) y0 y1 y2 y3 y4 y5))
 | 0 => ⟨fun _ _ _ _ _ r h => by simp [ostiaryref5_Split.l0] at h, fun _ _ _ _ _ _ r h => by simp [ostiaryref5_Split.j1] at h, fun _ _ _ _ _ _ r h => by simp [ostiaryref5_Split.j2] at h⟩
 | k + 1 => by
  obtain ⟨ih0, ih1, ih2⟩ := ostiaryref5_Split.mono_l k
  refine ⟨?_, ?_, ?_⟩
  ·intro y0 y1 y2 y3 y4
   unfold ostiaryref5_Split.l0
   repeat' first
   | (with_reducible exact ih0 _ _ _ _ _)
   | (with_reducible exact ih1 _ _ _ _ _ _)
   | (with_reducible exact ih2 _ _ _ _ _ _)
   | (with_reducible exact ostiaryref1_Trim.mono _ _ _)
   | (with_reducible exact ostiaryref5_Get.mono _ _ _)
   | (with_reducible exact LeO.refl _)
   | (with_reducible exact LeO.none _)
   | (with_reducible refine LeO.ite ?_ ?_)
   | (with_reducible refine LeO.bind ?_ (fun _ => ?_))
   | exact ih0 _ _ _ _ _
   | exact ih1 _ _ _ _ _ _
   | exact ih2 _ _ _ _ _ _
   | exact ostiaryref1_Trim.mono _ _ _
   | exact ostiaryref5_Get.mono _ _ _
   | exact LeO.none _
   | refine LeO.ite ?_ ?_
   | refine LeO.bind ?_ (fun _ => ?_)
  ·intro y0 y1 y2 y3 y4 y5
   unfold ostiaryref5_Split.j1
   repeat' first
   | (with_reducible exact ih0 _ _ _ _ _)
   | (with_reducible exact ih1 _ _ _ _ _ _)
   | (with_reducible exact ih2 _ _ _ _ _ _)
   | (with_reducible exact ostiaryref1_Trim.mono _ _ _)
   | (with_reducible exact ostiaryref5_Get.mono _ _ _)
   | (with_reducible exact LeO.refl _)
   | (with_reducible exact LeO.none _)
   | (with_reducible refine LeO.ite ?_ ?_)
   | (with_reducible refine LeO.bind ?_ (fun _ => ?_))
   | exact ih0 _ _ _ _ _
   | exact ih1 _ _ _ _ _ _
   | exact ih2 _ _ _ _ _ _
   | exact ostiaryref1_Trim.mono _ _ _
   | exact ostiaryref5_Get.mono _ _ _
   | exact LeO.none _
   | refine LeO.ite ?_ ?_
   | refine LeO.bind ?_ (fun _ => ?_)
  ·intro y0 y1 y2 y3 y4 y5
   unfold ostiaryref5_Split.j2
   repeat' first
   | (with_reducible exact ih0 _ _ _ _ _)
   | (with_reducible exact ih1 _ _ _ _ _ _)
   | (with_reducible exact ih2 _ _ _ _ _ _)
   | (with_reducible exact ostiaryref1_Trim.mono _ _ _)
   | (with_reducible exact ostiaryref5_Get.mono _ _ _)
   | (with_reducible exact LeO.refl _)
   | (with_reducible exact LeO.none _)
   | (with_reducible refine LeO.ite ?_ ?_)
   | (with_reducible refine LeO.bind ?_ (fun _ => ?_))
   | exact ih0 _ _ _ _ _
   | exact ih1 _ _ _ _ _ _
   | exact ih2 _ _ _ _ _ _
   | exact ostiaryref1_Trim.mono _ _ _
   | exact ostiaryref5_Get.mono _ _ _
   | exact LeO.none _
   | refine LeO.ite ?_ ?_
   | refine LeO.bind ?_ (fun _ => ?_)
theorem ostiaryref5_Split.mono : ∀ a0 a1 k, LeO (ostiaryref5_Split.f k a0 a1) (ostiaryref5_Split.f (k + 1) a0 a1) := by
 intro a0 a1 k
 obtain ⟨ih0, ih1, ih2⟩ := ostiaryref5_Split.mono_l k
 unfold ostiaryref5_Split.f
 repeat' first
   | (with_reducible exact ih0 _ _ _ _ _)
   | (with_reducible exact ih1 _ _ _ _ _ _)
   | (with_reducible exact ih2 _ _ _ _ _ _)
   | (with_reducible exact ostiaryref1_Trim.mono _ _ _)
   | (with_reducible exact ostiaryref5_Get.mono _ _ _)
   | (with_reducible exact LeO.refl _)
   | (with_reducible exact LeO.none _)
   | (with_reducible refine LeO.ite ?_ ?_)
   | (with_reducible refine LeO.bind ?_ (fun _ => ?_))
   | exact ih0 _ _ _ _ _
   | exact ih1 _ _ _ _ _ _
   | exact ih2 _ _ _ _ _ _
   | exact ostiaryref1_Trim.mono _ _ _
   | exact ostiaryref5_Get.mono _ _ _
   | exact LeO.none _
   | refine LeO.ite ?_ ?_
   | refine LeO.bind ?_ (fun _ => ?_)
set_option maxHeartbeats 8000000 in
set_option maxRecDepth 100000 in
theorem ostiaryref5_Split.calls (k : Nat) (A0 : Option Addr) (c0 : Nat) (l0 : List (S30)) (a1 : ByteArray) (r1 : List ByteArray) (r2 : Bool) (w : World) (hr0 : Kd.C k30 w A0 l0.length l0) (hc0 : l0.length ≤ c0) (h : ostiaryref5_Split.f k l0 a1 = some (r1, r2)) :
  Calls Tryz.prog 148 #[.slice A0 l0.length c0, .string a1] w fun e w' => ∃ v0_ : Value, e = .returned (.tuple #[v0_, .bool r2]) ∧ Kd.R Kd.string 9 w' w.heap.size (fun _ => True) v0_ r1 ∧ Below w.heap.size w w' := by
 have HR0 := Aside0.mk hr0
 have HC0 := Aside0.mk hc0
 clear hr0 hc0
 have HB := Aside0.mk (Below.refl w.heap.size w)
 have H : ((ostiaryref5_Get.f k l0 a1).bind fun bt154 => (if bt154.2 = true then (ostiaryref5_Split.l0 k bt154.1 ([] : List ByteArray) 0 false 0) else (some (([] : List ByteArray), false)))) = some (r1, r2) := h
 clear h
 replace H := Option.bind_eq_some_iff.mp H
 obtain ⟨⟨t154, t155⟩, A30, H⟩ := H
 replace H : (if t155 = true then (ostiaryref5_Split.l0 k t154 ([] : List ByteArray) 0 false 0) else (some (([] : List ByteArray), false))) = some (r1, r2) := H
 have A3 := Aside0.mk A30
 clear A30
 by_cases c4 : t155 = true
 ·subst c4
  have H1 : (ostiaryref5_Split.l0 k t154 ([] : List ByteArray) 0 false 0) = some (r1, r2) := by rw [if_pos rfl] at H; exact H
  clear H
  have H := H1
  clear H1
  have H' := Aside0.mk H
  clear H
  go_enter Tryz.func148, Tryz.ntmps148
  go_wp2_with (first | ((with_reducible refine gate_callee (f := 93) rfl ?_); refine goesL_ (some 15) rfl rfl Tryz.func93 q9_ rfl #[.slice A0 l0.length c0, .string a1] rfl tS ?_; (with_reducible refine (ostiaryref5_Get.calls k _ _ l0 a1 t154 true _ ?side1 ?side2 A3.out).mono ?_); (case side1 => repeat (first | exact HR0.out | (with_reducible refine Kd.C_alloc ?_ _) | (with_reducible refine Kd.C_drewN ?_ _) | (with_reducible refine Kd.C_drew ?_))); (case side2 => exact HC0.out); rintro e w5 ⟨rfl, hb⟩; refine ⟨_, rfl, ?_⟩; have n0_ := Aside0.mk (below_step hB hb); clear HB; have HB := n0_; clear n0_; (try clear hb); (try clear hb2); (try clear hk); (try clear hi)))
  go_loopg [8, 9, 10, 11] k (fun kq v8 v9 v10 v11 w' => ∃ (x8_1 : List ByteArray) (x9_1 : Int) (x10_1 : Bool) (x11_1 : Int), v9 = .int .i64 x9_1 ∧ v10 = .bool x10_1 ∧ v11 = .int .i64 x11_1 ∧ Aside0 (ostiaryref5_Split.l0 kq t154 x8_1 x9_1 x10_1 x11_1 = some (r1, r2)) ∧ Aside0 (kq ≤ k) ∧ Aside0 (Kd.R Kd.string 9 w' w.heap.size (fun _ => True) v8 x8_1) ∧ Aside0 (Below w.heap.size w w'))
  case atStart => exact ⟨(([] : List ByteArray)), (0), (false), (0), rS, rS, rS, H', ⟨Nat.le_refl _⟩, ⟨by first | exact Kd.R_nil _ _ _ _ _ | exact Kd.N_nil _ _ _ _ _ | exact Kd.V_nil _ _ _ _ _ | exact Kd.Q_nil _ _ _ _ _ | exact Kd.S_nil _ _ _ _ _⟩, ⟨by repeat (first | (with_reducible first | exact HB.out | apply below_alloc | apply pw_below_drewN | apply below_drew1) | exact HB.out)⟩⟩
  case round =>
   clear H'
   try clear c1
   try clear p2
   try clear c4
   obtain ⟨x8_1, x9_1, x10_1, x11_1, rfl, rfl, rfl, HA, HK1, HO_8, HB⟩ := hrel
   cases gk with
   | zero => exact absurd HA.out (by simp [ostiaryref5_Split.l0])
   | succ k1 =>
    have H := HA.out
    clear HA
    simp only [ostiaryref5_Split.l0] at H
    by_cases c6 : x11_1 ≤ (t154.size : Int)
    ·rw [if_pos c6] at H
     have c6b0 : decide (x11_1 ≤ (t154.size : Int)) = true := decide_eq_true c6
     clear c6
     have HC7 := Aside0.mk H
     clear H
     go_upto_region 10 with (fail)
     go_cut [39] (fun v39 wc => ∃ (kq : Nat) (x39_6 : Bool), v39 = .bool x39_6 ∧ Aside0 (ostiaryref5_Split.j1 kq t154 x8_1 x9_1 x10_1 x11_1 x39_6 = some (r1, r2)) ∧ Aside0 (kq ≤ k1) ∧ Aside0 (Kd.R Kd.string 9 wc w.heap.size (fun _ => True) u8 x8_1) ∧ Aside0 (Below w.heap.size w wc))
     case first =>
      have H := HC7.out
      clear HC7
      by_cases c8 : x11_1 = (t154.size : Int)
      ·rw [if_pos c8] at H
       have c8b0 : (x11_1 == (t154.size : Int)) = true := beq_iff_eq.mpr c8
       have c8b1 : (x11_1 != (t154.size : Int)) = false := bne_eq_false_iff_eq.mpr c8
       clear c8
       (first | rw [c8b0] | (simp only [i64_w, i32_w]; rw [c8b0]) | skip)
       have H' := Aside0.mk H
       clear H
       go_wp2
       go_meet
       case rel => exact ⟨_, (true), rS, H', ⟨by have := HK1.out; first | omega | exact Nat.le_refl _⟩, ⟨by (with_reducible repeat (first | apply Kd.R_alloc | apply Kd.R_drewN | apply Kd.R_drew)); exact HO_8.out⟩, ⟨by repeat (first | (with_reducible first | exact HB.out | apply below_alloc | apply pw_below_drewN | apply below_drew1) | exact HB.out)⟩⟩
      ·rw [if_neg c8] at H
       have c8b0 : (x11_1 == (t154.size : Int)) = false := beq_eq_false_iff_ne.mpr c8
       have c8b1 : (x11_1 != (t154.size : Int)) = true := bne_iff_ne.mpr c8
       (first | rw [c8b0] | (simp only [i64_w, i32_w]; rw [c8b0]) | skip)
       by_cases c9 : 0 ≤ x11_1
       ·rw [if_pos c9] at H
        have c9b0 : decide (0 ≤ x11_1) = true := decide_eq_true c9
        clear c9
        by_cases c10 : x11_1 < (t154.size : Int)
        ·rw [if_pos c10] at H
         have c10b0 : decide (x11_1 < (t154.size : Int)) = true := decide_eq_true c10
         clear c10
         by_cases c12 : (bt t154 x11_1) = 44
         ·rw [if_pos c12] at H
          have c12b0 : ((bt t154 x11_1) == 44) = true := beq_iff_eq.mpr c12
          have c12b1 : ((bt t154 x11_1) != 44) = false := bne_eq_false_iff_eq.mpr c12
          clear c12
          have H' := Aside0.mk H
          clear H
          have p11 : 0 ≤ (x11_1 : Int) := of_decide_eq_true aS
          have q11 : x11_1 < (t154.size : Int) := of_decide_eq_true aS
          have hx11 := bt_at t154 x11_1
          replace p11 := eq_true p11
          replace q11 := eq_true q11
          go_wp2
          go_meet
          case rel => exact ⟨_, (!x10_1), rS, H', ⟨by have := HK1.out; first | omega | exact Nat.le_refl _⟩, ⟨by (with_reducible repeat (first | apply Kd.R_alloc | apply Kd.R_drewN | apply Kd.R_drew)); exact HO_8.out⟩, ⟨by repeat (first | (with_reducible first | exact HB.out | apply below_alloc | apply pw_below_drewN | apply below_drew1) | exact HB.out)⟩⟩
         ·rw [if_neg c12] at H
          have c12b0 : ((bt t154 x11_1) == 44) = false := beq_eq_false_iff_ne.mpr c12
          have c12b1 : ((bt t154 x11_1) != 44) = true := bne_iff_ne.mpr c12
          have H' := Aside0.mk H
          clear H
          have p11 : 0 ≤ (x11_1 : Int) := of_decide_eq_true aS
          have q11 : x11_1 < (t154.size : Int) := of_decide_eq_true aS
          have hx11 := bt_at t154 x11_1
          replace p11 := eq_true p11
          replace q11 := eq_true q11
          go_wp2
          go_meet
          case rel => exact ⟨_, (false), rS, H', ⟨by have := HK1.out; first | omega | exact Nat.le_refl _⟩, ⟨by (with_reducible repeat (first | apply Kd.R_alloc | apply Kd.R_drewN | apply Kd.R_drew)); exact HO_8.out⟩, ⟨by repeat (first | (with_reducible first | exact HB.out | apply below_alloc | apply pw_below_drewN | apply below_drew1) | exact HB.out)⟩⟩
        ·rw [if_neg c10] at H
         exact absurd H (by simp)
       ·rw [if_neg c9] at H
        exact absurd H (by simp)
     case rest =>
      clear HC7
      try clear c1
      try clear p1
      try clear q1
      try clear hx1
      try clear p2
      try clear c4
      try clear c6
      try clear c6b0
      try clear c8
      try clear c8b0
      try clear c8b1
      try clear c9
      try clear c9b0
      try clear c10
      try clear c10b0
      try clear p11
      try clear q11
      try clear hx11
      try clear c12
      try clear c12b0
      try clear c12b1
      try clear p11
      try clear p2
      try clear q11
      obtain ⟨kq, x39_6, rfl, HA, HJ6, HO_8, HB⟩ := hcut
      cases kq with
      | zero => exact absurd HA.out (by simp [ostiaryref5_Split.j1])
      | succ kj6 =>
       have H := HA.out
       clear HA
       simp only [ostiaryref5_Split.j1] at H
       by_cases c13 : x39_6 = true
       ·subst c13
        have H1 : (if 0 ≤ x9_1 then (if x9_1 ≤ x11_1 then (if x11_1 ≤ (t154.size : Int) then ((ostiaryref1_Trim.f kj6 (t154.extract (x9_1 : Int).toNat (x11_1 : Int).toNat) true).bind fun t156 => (if x8_1.length < 8796093022208 then (ostiaryref5_Split.l0 kj6 t154 (x8_1 ++ [t156]) (wrap64 (x11_1 + 1)) x10_1 (wrap64 (x11_1 + 1))) else (none))) else (none)) else (none)) else (none)) = some (r1, r2) := by rw [if_pos rfl] at H; exact H
        clear H
        have H := H1
        clear H1
        by_cases c14 : 0 ≤ x9_1
        ·rw [if_pos c14] at H
         have c14b0 := eq_true c14
         have c14b1 : decide (0 ≤ x9_1) = true := decide_eq_true c14
         clear c14
         by_cases c15 : x9_1 ≤ x11_1
         ·rw [if_pos c15] at H
          have c15b0 := eq_true c15
          have c15b1 : decide (x9_1 ≤ x11_1) = true := decide_eq_true c15
          clear c15
          by_cases c16 : x11_1 ≤ (t154.size : Int)
          ·rw [if_pos c16] at H
           have c16b0 := eq_true c16
           have c16b1 : decide (x11_1 ≤ (t154.size : Int)) = true := decide_eq_true c16
           clear c16
           replace H := Option.bind_eq_some_iff.mp H
           obtain ⟨t156, A170, H⟩ := H
           replace H : (if x8_1.length < 8796093022208 then (ostiaryref5_Split.l0 kj6 t154 (x8_1 ++ [t156]) (wrap64 (x11_1 + 1)) x10_1 (wrap64 (x11_1 + 1))) else (none)) = some (r1, r2) := H
           have A17 := Aside0.mk A170
           clear A170
           by_cases c18 : x8_1.length < 8796093022208
           ·rw [if_pos c18] at H
            have LMc18 := Aside0.mk c18
            clear c18
            obtain ⟨y157, hy157⟩ : ∃ y_ : List ByteArray, y_ = (x8_1 ++ [t156]) := ⟨_, rfl⟩
            replace H : (ostiaryref5_Split.l0 kj6 t154 y157 (wrap64 (x11_1 + 1)) x10_1 (wrap64 (x11_1 + 1))) = some (r1, r2) := by first | (rw [hy157]; with_reducible exact H) | (have H2_ := (Option.bind_some _ _).symm.trans H; rw [hy157]; with_reducible exact H2_) | (have H2_ := (Option.bind_some _ _).symm.trans H; with_reducible exact H2_) | with_reducible exact H | (rw [hy157]; exact H) | exact H
            have Ny157 := Aside0.mk hy157
            clear hy157
            have H' := Aside0.mk H
            clear H
            go_wp2_with (first | ((with_reducible refine gate_callee (f := 156) rfl ?_); refine goesL_ (some 45) rfl rfl Tryz.func156 q9_ rfl #[.string (t154.extract (x9_1 : Int).toNat (x11_1 : Int).toNat), .bool true] rfl tS ?_; (with_reducible refine (ostiaryref1_Trim.calls kj6 (t154.extract (x9_1 : Int).toNat (x11_1 : Int).toNat) true t156 _ A17.out).mono ?_); rintro e w' ⟨rfl, ⟨nd, rfl⟩⟩; refine ⟨_, rfl, ?_⟩) | ((with_reducible refine gate_builtin (b := .append) (xs := #[.tmp 40, .tmp 46]) rfl ?_); at_builtin; refine Kd.R_append Kd.string (w0 := w) w.heap.size rfl (.tmp 40) (.tmp 46) 39 9 (.string ⟨#[]⟩) 16 rfl Tryz.underlying39 info9 rfl (by decide) (by omega) u8 x8_1 t156 [.string t156] (fun _ => True) (fun _ => False) rfl rfl ?aP (fun _ hk => hk.elim) ?aF ?aO ?aB ?aS ?aL ?_; (case aP => exact rfl); (case aB => exact hB); (case aF => exact (fun _ _ => trivial)); (case aO => exact q33_); (case aS => exact (below_size hB)); (case aL => have := LMc18.out; omega); intro v158 w19 ho hb hg hat; rw [← Ny157.out] at ho; have n0_ := Aside0.mk (hb); have n1_ := Aside0.mk (ho); clear HB; clear HO_8; have HB := n0_; have HO159 := n1_; clear n0_ n1_; clear ho hb hg hat))
            go_roundg kj6
            case measure => have := HK1.out; have := HJ6.out; omega
            case rel => exact ⟨(y157), (wrap64 (x11_1 + 1)), (x10_1), (wrap64 (x11_1 + 1)), rS, rS, rS, H', ⟨by have := HK1.out; have := HJ6.out; omega⟩, ⟨by (with_reducible repeat (first | apply Kd.R_alloc | apply Kd.R_drewN | apply Kd.R_drew)); exact HO159.out⟩, ⟨by repeat (first | (with_reducible first | exact HB.out | apply below_alloc | apply pw_below_drewN | apply below_drew1) | exact HB.out)⟩⟩
           ·rw [if_neg c18] at H
            exact absurd H (by simp)
          ·rw [if_neg c16] at H
           exact absurd H (by simp)
         ·rw [if_neg c15] at H
          exact absurd H (by simp)
        ·rw [if_neg c14] at H
         exact absurd H (by simp)
       ·replace c13 := Bool.eq_false_iff.mpr c13
        subst c13
        have H1 : (if 0 ≤ x11_1 then (if x11_1 < (t154.size : Int) then (if (bt t154 x11_1) = 92 then (ostiaryref5_Split.j2 kj6 t154 x8_1 x9_1 x10_1 x11_1 x10_1) else (ostiaryref5_Split.j2 kj6 t154 x8_1 x9_1 x10_1 x11_1 false)) else (none)) else (none)) = some (r1, r2) := by rw [if_neg (show ¬ (false = true) by decide)] at H; exact H
        clear H
        have H := H1
        clear H1
        have HC20 := Aside0.mk H
        clear H
        go_upto_region 13 with (fail)
        go_cut [56] (fun v56 wc => ∃ (kq : Nat) (x56_19 : Bool), v56 = .bool x56_19 ∧ Aside0 (ostiaryref5_Split.j2 kq t154 x8_1 x9_1 x10_1 x11_1 x56_19 = some (r1, r2)) ∧ Aside0 (kq ≤ kj6) ∧ Aside0 (Kd.R Kd.string 9 wc w.heap.size (fun _ => True) u8 x8_1) ∧ Aside0 (Below w.heap.size w wc))
        case first =>
         have H := HC20.out
         clear HC20
         by_cases c21 : 0 ≤ x11_1
         ·rw [if_pos c21] at H
          have c21b0 : decide (0 ≤ x11_1) = true := decide_eq_true c21
          clear c21
          (first | rw [c21b0] | (simp only [i64_w, i32_w]; rw [c21b0]) | skip)
          by_cases c22 : x11_1 < (t154.size : Int)
          ·rw [if_pos c22] at H
           have c22b0 : decide (x11_1 < (t154.size : Int)) = true := decide_eq_true c22
           clear c22
           by_cases c24 : (bt t154 x11_1) = 92
           ·rw [if_pos c24] at H
            have c24b0 : ((bt t154 x11_1) == 92) = true := beq_iff_eq.mpr c24
            have c24b1 : ((bt t154 x11_1) != 92) = false := bne_eq_false_iff_eq.mpr c24
            clear c24
            have H' := Aside0.mk H
            clear H
            have p23 : 0 ≤ (x11_1 : Int) := of_decide_eq_true aS
            have q23 : x11_1 < (t154.size : Int) := of_decide_eq_true aS
            have hx23 := bt_at t154 x11_1
            replace p23 := eq_true p23
            replace q23 := eq_true q23
            go_wp2
            go_meet
            case rel => exact ⟨_, (x10_1), rS, H', ⟨by have := HK1.out; have := HJ6.out; first | omega | exact Nat.le_refl _⟩, ⟨by (with_reducible repeat (first | apply Kd.R_alloc | apply Kd.R_drewN | apply Kd.R_drew)); exact HO_8.out⟩, ⟨by repeat (first | (with_reducible first | exact HB.out | apply below_alloc | apply pw_below_drewN | apply below_drew1) | exact HB.out)⟩⟩
           ·rw [if_neg c24] at H
            have c24b0 : ((bt t154 x11_1) == 92) = false := beq_eq_false_iff_ne.mpr c24
            have c24b1 : ((bt t154 x11_1) != 92) = true := bne_iff_ne.mpr c24
            have H' := Aside0.mk H
            clear H
            have p23 : 0 ≤ (x11_1 : Int) := of_decide_eq_true aS
            have q23 : x11_1 < (t154.size : Int) := of_decide_eq_true aS
            have hx23 := bt_at t154 x11_1
            replace p23 := eq_true p23
            replace q23 := eq_true q23
            go_wp2
            go_meet
            case rel => exact ⟨_, (false), rS, H', ⟨by have := HK1.out; have := HJ6.out; first | omega | exact Nat.le_refl _⟩, ⟨by (with_reducible repeat (first | apply Kd.R_alloc | apply Kd.R_drewN | apply Kd.R_drew)); exact HO_8.out⟩, ⟨by repeat (first | (with_reducible first | exact HB.out | apply below_alloc | apply pw_below_drewN | apply below_drew1) | exact HB.out)⟩⟩
          ·rw [if_neg c22] at H
           exact absurd H (by simp)
         ·rw [if_neg c21] at H
          exact absurd H (by simp)
        case rest =>
         clear HC20
         try clear c1
         try clear p1
         try clear q1
         try clear hx1
         try clear c2
         try clear p2
         try clear q2
         try clear hx2
         try clear c4
         try clear c6
         try clear c6b0
         try clear p6
         try clear c8
         try clear c8b0
         try clear c8b1
         try clear c9
         try clear c9b0
         try clear c10
         try clear c10b0
         try clear p11
         try clear q11
         try clear hx11
         try clear c12
         try clear c12b0
         try clear c12b1
         try clear c13
         try clear c14
         try clear c14b0
         try clear c14b1
         try clear c15
         try clear c15b0
         try clear c15b1
         try clear c16
         try clear c16b0
         try clear c16b1
         try clear c18
         try clear c21
         try clear c21b0
         try clear c22
         try clear c22b0
         try clear p23
         try clear q23
         try clear hx23
         try clear c24
         try clear c24b0
         try clear c24b1
         try clear p1
         try clear p11
         try clear p2
         try clear p23
         try clear q1
         try clear q11
         try clear q23
         obtain ⟨kq, x56_19, rfl, HA, HJ19, HO_8, HB⟩ := hcut
         cases kq with
         | zero => exact absurd HA.out (by simp [ostiaryref5_Split.j2])
         | succ kj19 =>
          have H := HA.out
          clear HA
          simp only [ostiaryref5_Split.j2] at H
          by_cases c25 : x56_19 = true
          ·subst c25
           have H1 : (if (wrap64 (x11_1 + 1)) ≥ (t154.size : Int) then (ostiaryref5_Split.l0 kj19 t154 x8_1 x9_1 x10_1 (wrap64 ((wrap64 ((t154.size : Int) - 1)) + 1))) else (ostiaryref5_Split.l0 kj19 t154 x8_1 x9_1 x10_1 (wrap64 ((wrap64 (x11_1 + 1)) + 1)))) = some (r1, r2) := by rw [if_pos rfl] at H; exact H
           clear H
           have H := H1
           clear H1
           by_cases c26 : (wrap64 (x11_1 + 1)) ≥ (t154.size : Int)
           ·rw [if_pos c26] at H
            have c26b0 : decide ((t154.size : Int) ≤ (wrap64 (x11_1 + 1))) = true := decide_eq_true c26
            clear c26
            have H' := Aside0.mk H
            clear H
            go_wp2
            go_roundg kj19
            case measure => have := HK1.out; have := HJ6.out; have := HJ19.out; omega
            case rel => exact ⟨(x8_1), (x9_1), (x10_1), (wrap64 ((wrap64 ((t154.size : Int) - 1)) + 1)), rS, rS, rS, H', ⟨by have := HK1.out; have := HJ6.out; have := HJ19.out; omega⟩, ⟨by (with_reducible repeat (first | apply Kd.R_alloc | apply Kd.R_drewN | apply Kd.R_drew)); exact HO_8.out⟩, ⟨by repeat (first | (with_reducible first | exact HB.out | apply below_alloc | apply pw_below_drewN | apply below_drew1) | exact HB.out)⟩⟩
           ·rw [if_neg c26] at H
            have c26b0 : decide ((t154.size : Int) ≤ (wrap64 (x11_1 + 1))) = false := decide_eq_false c26
            clear c26
            have H' := Aside0.mk H
            clear H
            go_wp2
            go_roundg kj19
            case measure => have := HK1.out; have := HJ6.out; have := HJ19.out; omega
            case rel => exact ⟨(x8_1), (x9_1), (x10_1), (wrap64 ((wrap64 (x11_1 + 1)) + 1)), rS, rS, rS, H', ⟨by have := HK1.out; have := HJ6.out; have := HJ19.out; omega⟩, ⟨by (with_reducible repeat (first | apply Kd.R_alloc | apply Kd.R_drewN | apply Kd.R_drew)); exact HO_8.out⟩, ⟨by repeat (first | (with_reducible first | exact HB.out | apply below_alloc | apply pw_below_drewN | apply below_drew1) | exact HB.out)⟩⟩
          ·replace c25 := Bool.eq_false_iff.mpr c25
           subst c25
           have H1 : (if 0 ≤ x11_1 then (if x11_1 < (t154.size : Int) then (if (bt t154 x11_1) = 34 then (ostiaryref5_Split.l0 kj19 t154 x8_1 x9_1 (!x10_1) (wrap64 (x11_1 + 1))) else (ostiaryref5_Split.l0 kj19 t154 x8_1 x9_1 x10_1 (wrap64 (x11_1 + 1)))) else (none)) else (none)) = some (r1, r2) := by rw [if_neg (show ¬ (false = true) by decide)] at H; exact H
           clear H
           have H := H1
           clear H1
           by_cases c27 : 0 ≤ x11_1
           ·rw [if_pos c27] at H
            have c27b0 : decide (0 ≤ x11_1) = true := decide_eq_true c27
            clear c27
            by_cases c28 : x11_1 < (t154.size : Int)
            ·rw [if_pos c28] at H
             have c28b0 : decide (x11_1 < (t154.size : Int)) = true := decide_eq_true c28
             clear c28
             by_cases c30 : (bt t154 x11_1) = 34
             ·rw [if_pos c30] at H
              have c30b0 : ((bt t154 x11_1) == 34) = true := beq_iff_eq.mpr c30
              have c30b1 : ((bt t154 x11_1) != 34) = false := bne_eq_false_iff_eq.mpr c30
              clear c30
              have H' := Aside0.mk H
              clear H
              have p29 : 0 ≤ (x11_1 : Int) := of_decide_eq_true aS
              have q29 : x11_1 < (t154.size : Int) := of_decide_eq_true aS
              have hx29 := bt_at t154 x11_1
              replace p29 := eq_true p29
              replace q29 := eq_true q29
              go_wp2
              go_roundg kj19
              case measure => have := HK1.out; have := HJ6.out; have := HJ19.out; omega
              case rel => exact ⟨(x8_1), (x9_1), (!x10_1), (wrap64 (x11_1 + 1)), rS, rS, rS, H', ⟨by have := HK1.out; have := HJ6.out; have := HJ19.out; omega⟩, ⟨by (with_reducible repeat (first | apply Kd.R_alloc | apply Kd.R_drewN | apply Kd.R_drew)); exact HO_8.out⟩, ⟨by repeat (first | (with_reducible first | exact HB.out | apply below_alloc | apply pw_below_drewN | apply below_drew1) | exact HB.out)⟩⟩
             ·rw [if_neg c30] at H
              have c30b0 : ((bt t154 x11_1) == 34) = false := beq_eq_false_iff_ne.mpr c30
              have c30b1 : ((bt t154 x11_1) != 34) = true := bne_iff_ne.mpr c30
              have H' := Aside0.mk H
              clear H
              have p29 : 0 ≤ (x11_1 : Int) := of_decide_eq_true aS
              have q29 : x11_1 < (t154.size : Int) := of_decide_eq_true aS
              have hx29 := bt_at t154 x11_1
              replace p29 := eq_true p29
              replace q29 := eq_true q29
              go_wp2
              go_roundg kj19
              case measure => have := HK1.out; have := HJ6.out; have := HJ19.out; omega
              case rel => exact ⟨(x8_1), (x9_1), (x10_1), (wrap64 (x11_1 + 1)), rS, rS, rS, H', ⟨by have := HK1.out; have := HJ6.out; have := HJ19.out; omega⟩, ⟨by (with_reducible repeat (first | apply Kd.R_alloc | apply Kd.R_drewN | apply Kd.R_drew)); exact HO_8.out⟩, ⟨by repeat (first | (with_reducible first | exact HB.out | apply below_alloc | apply pw_below_drewN | apply below_drew1) | exact HB.out)⟩⟩
            ·rw [if_neg c28] at H
             exact absurd H (by simp)
           ·rw [if_neg c27] at H
            exact absurd H (by simp)
    ·rw [if_neg c6] at H
     have c6b0 : decide (x11_1 ≤ (t154.size : Int)) = false := decide_eq_false c6
     clear c6
     simp only [Option.some.injEq, Prod.mk.injEq] at H
     obtain ⟨rfl, rfl⟩ := H
     go_wp2
     go_ret2
     exact ⟨_, by first | rfl | (simp [errW_none, errW_some] <;> rfl) | (simp [*, errW_none, errW_some] <;> rfl), by (with_reducible repeat (first | apply Kd.R_alloc | apply Kd.R_drewN | apply Kd.R_drew)); exact HO_8.out, by repeat (first | (with_reducible first | exact HB.out | apply below_alloc | apply pw_below_drewN | apply below_drew1) | exact HB.out)⟩
 ·replace c4 := Bool.eq_false_iff.mpr c4
  subst c4
  have H1 : (some (([] : List ByteArray), false)) = some (r1, r2) := by rw [if_neg (show ¬ (false = true) by decide)] at H; exact H
  clear H
  have H := H1
  clear H1
  simp only [Option.some.injEq, Prod.mk.injEq] at H
  obtain ⟨rfl, rfl⟩ := H
  go_enter Tryz.func148, Tryz.ntmps148
  go_wp2_with (first | ((with_reducible refine gate_callee (f := 93) rfl ?_); refine goesL_ (some 15) rfl rfl Tryz.func93 q9_ rfl #[.slice A0 l0.length c0, .string a1] rfl tS ?_; (with_reducible refine (ostiaryref5_Get.calls k _ _ l0 a1 t154 false _ ?side1 ?side2 A3.out).mono ?_); (case side1 => repeat (first | exact HR0.out | (with_reducible refine Kd.C_alloc ?_ _) | (with_reducible refine Kd.C_drewN ?_ _) | (with_reducible refine Kd.C_drew ?_))); (case side2 => exact HC0.out); rintro e w31 ⟨rfl, hb⟩; refine ⟨_, rfl, ?_⟩; have n0_ := Aside0.mk (below_step hB hb); clear HB; have HB := n0_; clear n0_; (try clear hb); (try clear hb2); (try clear hk); (try clear hi)))
  go_ret2
  exact ⟨_, by first | rfl | (simp [errW_none, errW_some] <;> rfl) | (simp [*, errW_none, errW_some] <;> rfl), by first | exact Kd.R_nil _ _ _ _ _ | exact Kd.N_nil _ _ _ _ _ | exact Kd.V_nil _ _ _ _ _ | exact Kd.Q_nil _ _ _ _ _ | exact Kd.S_nil _ _ _ _ _, by repeat (first | (with_reducible first | exact HB.out | apply below_alloc | apply pw_below_drewN | apply below_drew1) | exact HB.out)⟩
end Go.Proofs.YtifmkgkiipckbaaGreatDoor.P
namespace Go.Proofs.YtifmkgkiipckbaaGreatDoor.P
open Go.RowKit Go.Proofs.YtifmkgkiipckbaaGreatDoorW.PrintWords Go.Proofs.YtifmkgkiipckbaaGreatDoorW.PrintLast Go.Proofs.YtifmkgkiipckbaaGreatDoorW.PrintMore
attribute [local go_sem] max2_int min2_int max_two min_two max_three min_three max_four min_four
set_option linter.unusedVariables false
set_option linter.unusedSimpArgs false
def ostiaryref1_Digit.f (a0 : Int) : Option (Bool) := if a0 ≥ 48 then (some (decide (a0 ≤ 57))) else (some false)
set_option maxHeartbeats 8000000 in
set_option maxRecDepth 100000 in
theorem ostiaryref1_Digit.calls (a0 : Int) (r : Bool) (w : World) (h : ostiaryref1_Digit.f a0 = some r) :
  Calls Tryz.prog 189 #[.int .u8 a0] w fun e w' => e = .returned (.bool r) ∧ Drawn0 w w' := by
 have H : (if a0 ≥ 48 then (some (decide (a0 ≤ 57))) else (some false)) = some r := h
 clear h
 by_cases c2 : a0 ≥ 48
 ·rw [if_pos c2] at H
  have c2b0 : decide (48 ≤ a0) = true := decide_eq_true c2
  clear c2
  obtain rfl := Option.some.inj H
  go_enter Tryz.func189, Tryz.ntmps189
  go_wp2
  go_ret
  exact ⟨rS, by repeat (first | exact Drawn0.refl _ | apply Drawn0.step)⟩
 ·rw [if_neg c2] at H
  have c2b0 : decide (48 ≤ a0) = false := decide_eq_false c2
  clear c2
  obtain rfl := Option.some.inj H
  go_enter Tryz.func189, Tryz.ntmps189
  go_wp2
  go_ret
  exact ⟨rS, by repeat (first | exact Drawn0.refl _ | apply Drawn0.step)⟩
end Go.Proofs.YtifmkgkiipckbaaGreatDoor.P
namespace Go.Proofs.YtifmkgkiipckbaaGreatDoor.P
open Go.RowKit Go.Proofs.YtifmkgkiipckbaaGreatDoorW.PrintWords Go.Proofs.YtifmkgkiipckbaaGreatDoorW.PrintLast Go.Proofs.YtifmkgkiipckbaaGreatDoorW.PrintMore
attribute [local go_sem] max2_int min2_int max_two min_two max_three min_three max_four min_four
set_option linter.unusedVariables false
set_option linter.unusedSimpArgs false
def ostiaryref1_Letter.f (a0 : Int) : Option (Bool) := if a0 ≥ 97 then (if a0 ≤ 122 then (some true) else (if a0 ≥ 65 then (some (decide (a0 ≤ 90))) else (some false))) else (if a0 ≥ 65 then (some (decide (a0 ≤ 90))) else (some false))
set_option maxHeartbeats 8000000 in
set_option maxRecDepth 100000 in
theorem ostiaryref1_Letter.calls (a0 : Int) (r : Bool) (w : World) (h : ostiaryref1_Letter.f a0 = some r) :
  Calls Tryz.prog 194 #[.int .u8 a0] w fun e w' => e = .returned (.bool r) ∧ Drawn0 w w' := by
 have H : (if a0 ≥ 97 then (if a0 ≤ 122 then (some true) else (if a0 ≥ 65 then (some (decide (a0 ≤ 90))) else (some false))) else (if a0 ≥ 65 then (some (decide (a0 ≤ 90))) else (some false))) = some r := h
 clear h
 by_cases c2 : a0 ≥ 97
 ·rw [if_pos c2] at H
  have c2b0 : decide (97 ≤ a0) = true := decide_eq_true c2
  clear c2
  by_cases c3 : a0 ≤ 122
  ·rw [if_pos c3] at H
   have c3b0 : decide (a0 ≤ 122) = true := decide_eq_true c3
   clear c3
   obtain rfl := Option.some.inj H
   go_enter Tryz.func194, Tryz.ntmps194
   go_wp2
   go_ret
   exact ⟨rS, by repeat (first | exact Drawn0.refl _ | apply Drawn0.step)⟩
  ·rw [if_neg c3] at H
   have c3b0 : decide (a0 ≤ 122) = false := decide_eq_false c3
   clear c3
   by_cases c4 : a0 ≥ 65
   ·rw [if_pos c4] at H
    have c4b0 : decide (65 ≤ a0) = true := decide_eq_true c4
    clear c4
    obtain rfl := Option.some.inj H
    go_enter Tryz.func194, Tryz.ntmps194
    go_wp2
    go_ret
    exact ⟨rS, by repeat (first | exact Drawn0.refl _ | apply Drawn0.step)⟩
   ·rw [if_neg c4] at H
    have c4b0 : decide (65 ≤ a0) = false := decide_eq_false c4
    clear c4
    obtain rfl := Option.some.inj H
    go_enter Tryz.func194, Tryz.ntmps194
    go_wp2
    go_ret
    exact ⟨rS, by repeat (first | exact Drawn0.refl _ | apply Drawn0.step)⟩
 ·rw [if_neg c2] at H
  have c2b0 : decide (97 ≤ a0) = false := decide_eq_false c2
  clear c2
  by_cases c5 : a0 ≥ 65
  ·rw [if_pos c5] at H
   have c5b0 : decide (65 ≤ a0) = true := decide_eq_true c5
   clear c5
   obtain rfl := Option.some.inj H
   go_enter Tryz.func194, Tryz.ntmps194
   go_wp2
   go_ret
   exact ⟨rS, by repeat (first | exact Drawn0.refl _ | apply Drawn0.step)⟩
  ·rw [if_neg c5] at H
   have c5b0 : decide (65 ≤ a0) = false := decide_eq_false c5
   clear c5
   obtain rfl := Option.some.inj H
   go_enter Tryz.func194, Tryz.ntmps194
   go_wp2
   go_ret
   exact ⟨rS, by repeat (first | exact Drawn0.refl _ | apply Drawn0.step)⟩
end Go.Proofs.YtifmkgkiipckbaaGreatDoor.P
namespace Go.Proofs.YtifmkgkiipckbaaGreatDoor.P
open Go.RowKit Go.Proofs.YtifmkgkiipckbaaGreatDoorW.PrintWords Go.Proofs.YtifmkgkiipckbaaGreatDoorW.PrintLast Go.Proofs.YtifmkgkiipckbaaGreatDoorW.PrintMore
attribute [local go_sem] max2_int min2_int max_two min_two max_three min_three max_four min_four
set_option linter.unusedVariables false
set_option linter.unusedSimpArgs false
mutual
def ostiaryref1_Token.l0 : Nat → ByteArray → Int → Option (Bool)
 | 0, _, _ => none
 | k + 1, x0, x3 => if x3 < (x0.size : Int) then (if 0 ≤ x3 then ((ostiaryref1_Letter.f (bt x0 x3)).bind fun t160 => (if t160 = true then (ostiaryref1_Token.j1 k x0 x3 (bt x0 x3) true) else ((ostiaryref1_Digit.f (bt x0 x3)).bind fun t161 => (ostiaryref1_Token.j1 k x0 x3 (bt x0 x3) t161)))) else (none)) else (some (decide ((x0.size : Int) > 0)))
def ostiaryref1_Token.j1 : Nat → ByteArray → Int → Int → Bool → Option (Bool)
 | 0, _, _, _, _ => none
 | k + 1, x0, x3, x4, x5 => ostiaryref1_Token.l1 k x0 x3 x4 x5 0
def ostiaryref1_Token.l1 : Nat → ByteArray → Int → Int → Bool → Int → Option (Bool)
 | 0, _, _, _, _, _ => none
 | k + 1, x0, x3, x4, x5, x6 => if x6 < 15 then (if x5 = true then (ostiaryref1_Token.l1 k x0 x3 x4 true (wrap64 (x6 + 1))) else (if 0 ≤ x6 then (ostiaryref1_Token.l1 k x0 x3 x4 (x4 == (bt (⟨#[33, 35, 36, 37, 38, 39, 42, 43, 45, 46, 94, 95, 96, 124, 126]⟩ : ByteArray) x6)) (wrap64 (x6 + 1))) else (none))) else (if x5 = true then (ostiaryref1_Token.l0 k x0 (wrap64 (x3 + 1))) else (some false))
end
def ostiaryref1_Token.f (k : Nat) (a0 : ByteArray) : Option (Bool) := ostiaryref1_Token.l0 k a0 0
theorem ostiaryref1_Token.mono_l : ∀ k, (∀ y0 y1, LeO (ostiaryref1_Token.l0 k y0 y1) (ostiaryref1_Token.l0 (k + 1) y0 y1)) ∧ (∀ y0 y1 y2 y3, LeO (ostiaryref1_Token.j1 k y0 y1 y2 y3) (ostiaryref1_Token.j1 (k + 1) y0 y1 y2 y3)) ∧ (∀ y0 y1 y2 y3 y4, LeO (ostiaryref1_Token.l1 k y0 y1 y2 y3 y4) (ostiaryref1_Token.l1 (k + 1) y0 y1 y2 y3 y4))
 | 0 => ⟨fun _ _ r h => by simp [ostiaryref1_Token.l0] at h, fun _ _ _ _ r h => by simp [ostiaryref1_Token.j1] at h, fun _ _ _ _ _ r h => by simp [ostiaryref1_Token.l1] at h⟩
 | k + 1 => by
  obtain ⟨ih0, ih1, ih2⟩ := ostiaryref1_Token.mono_l k
  refine ⟨?_, ?_, ?_⟩
  ·intro y0 y1
   unfold ostiaryref1_Token.l0
   exact lO
  ·intro y0 y1 y2 y3
   unfold ostiaryref1_Token.j1
   exact lO
  ·intro y0 y1 y2 y3 y4
   unfold ostiaryref1_Token.l1
   exact lO
theorem ostiaryref1_Token.mono : ∀ a0 k, LeO (ostiaryref1_Token.f k a0) (ostiaryref1_Token.f (k + 1) a0) := by
 intro a0 k
 obtain ⟨ih0, ih1, ih2⟩ := ostiaryref1_Token.mono_l k
 unfold ostiaryref1_Token.f
 exact lO
set_option maxHeartbeats 8000000 in
set_option maxRecDepth 100000 in
theorem ostiaryref1_Token.calls (k : Nat) (a0 : ByteArray) (r : Bool) (w : World) (h : ostiaryref1_Token.f k a0 = some r) :
  Calls Tryz.prog 162 #[.string a0] w fun e w' => e = .returned (.bool r) ∧ Drawn0 w w' := by
 have H : (ostiaryref1_Token.l0 k a0 0) = some r := h
 clear h
 have H' := Aside0.mk H
 clear H
 go_enter Tryz.func162, Tryz.ntmps162
 go_wp2
 go_loopg [3] k (fun kq v3 w' => ∃ (x3_1 : Int), v3 = .int .i64 x3_1 ∧ Aside0 (ostiaryref1_Token.l0 kq a0 x3_1 = some r) ∧ Aside0 (kq ≤ k) ∧ Drawn0 w w')
 case atStart => exact ⟨(0), rS, H', ⟨Nat.le_refl _⟩, by repeat (first | exact Drawn0.refl _ | apply Drawn0.step)⟩
 case round =>
  clear H'
  try clear c1
  obtain ⟨x3_1, rfl, HA, HK1, ⟨m1, rfl⟩⟩ := hrel
  cases gk with
  | zero => exact absurd HA.out (by simp [ostiaryref1_Token.l0])
  | succ k1 =>
   have H := HA.out
   clear HA
   simp only [ostiaryref1_Token.l0] at H
   by_cases c2 : x3_1 < (a0.size : Int)
   ·rw [if_pos c2] at H
    have c2b0 : decide (x3_1 < (a0.size : Int)) = true := decide_eq_true c2
    clear c2
    by_cases c3 : 0 ≤ x3_1
    ·rw [if_pos c3] at H
     have c3b0 : decide (0 ≤ x3_1) = true := decide_eq_true c3
     clear c3
     have HC5 := Aside0.mk H
     clear H
     have p4 : 0 ≤ (x3_1 : Int) := of_decide_eq_true aS
     have q4 : x3_1 < (a0.size : Int) := of_decide_eq_true aS
     have hx4 := bt_at a0 x3_1
     replace p4 := eq_true p4
     replace q4 := eq_true q4
     go_upto_region 5 with (fail)
     go_cut [5] (fun v5 wc => ∃ (kq : Nat) (x5_4 : Bool), v5 = .bool x5_4 ∧ Aside0 (ostiaryref1_Token.j1 kq a0 x3_1 (bt a0 x3_1) x5_4 = some r) ∧ Aside0 (kq ≤ k1) ∧ Drawn0 w wc)
     case first =>
      have H := HC5.out
      clear HC5
      replace H := Option.bind_eq_some_iff.mp H
      obtain ⟨t160, A60, H⟩ := H
      replace H : (if t160 = true then (ostiaryref1_Token.j1 k1 a0 x3_1 (bt a0 x3_1) true) else ((ostiaryref1_Digit.f (bt a0 x3_1)).bind fun t161 => (ostiaryref1_Token.j1 k1 a0 x3_1 (bt a0 x3_1) t161))) = some r := H
      have A6 := Aside0.mk A60
      clear A60
      by_cases c7 : t160 = true
      ·subst c7
       have H1 : (ostiaryref1_Token.j1 k1 a0 x3_1 (bt a0 x3_1) true) = some r := by rw [if_pos rfl] at H; exact H
       clear H
       have H := H1
       clear H1
       have H' := Aside0.mk H
       clear H
       go_wp2_with (first | ((with_reducible refine gate_callee (f := 194) rfl ?_); refine goesL_ (some 17) rfl rfl Tryz.func194 q9_ rfl #[.int .u8 (bt a0 x3_1)] rfl tS ?_; (with_reducible refine (ostiaryref1_Letter.calls (bt a0 x3_1) true _ A6.out).mono ?_); rintro e w' ⟨rfl, ⟨nd, rfl⟩⟩; refine ⟨_, rfl, ?_⟩))
       go_meet
       case rel => exact ⟨_, (true), rS, H', ⟨by have := HK1.out; first | omega | exact Nat.le_refl _⟩, by repeat (first | exact Drawn0.refl _ | apply Drawn0.step)⟩
      ·replace c7 := Bool.eq_false_iff.mpr c7
       subst c7
       have H1 : ((ostiaryref1_Digit.f (bt a0 x3_1)).bind fun t161 => (ostiaryref1_Token.j1 k1 a0 x3_1 (bt a0 x3_1) t161)) = some r := by rw [if_neg (show ¬ (false = true) by decide)] at H; exact H
       clear H
       have H := H1
       clear H1
       replace H := Option.bind_eq_some_iff.mp H
       obtain ⟨t161, A80, H⟩ := H
       replace H : (ostiaryref1_Token.j1 k1 a0 x3_1 (bt a0 x3_1) t161) = some r := H
       have A8 := Aside0.mk A80
       clear A80
       have H' := Aside0.mk H
       clear H
       go_wp2_with (first | ((with_reducible refine gate_callee (f := 194) rfl ?_); refine goesL_ (some 17) rfl rfl Tryz.func194 q9_ rfl #[.int .u8 (bt a0 x3_1)] rfl tS ?_; (with_reducible refine (ostiaryref1_Letter.calls (bt a0 x3_1) false _ A6.out).mono ?_); rintro e w' ⟨rfl, ⟨nd, rfl⟩⟩; refine ⟨_, rfl, ?_⟩) | (go_at_call 189; (with_reducible refine (ostiaryref1_Digit.calls (bt a0 x3_1) t161 _ A8.out).mono ?_); rintro e w' ⟨rfl, ⟨nd, rfl⟩⟩))
       go_meet
       case rel => exact ⟨_, (t161), rS, H', ⟨by have := HK1.out; first | omega | exact Nat.le_refl _⟩, by repeat (first | exact Drawn0.refl _ | apply Drawn0.step)⟩
     case rest =>
      clear HC5
      try clear c1
      try clear c2
      try clear c2b0
      try clear p2
      try clear c3
      try clear c3b0
      try clear p4
      try clear q4
      try clear hx4
      try clear c7
      try clear p4
      try clear q4
      obtain ⟨kq, x5_4, rfl, HA, HJ4, ⟨mc4, rfl⟩⟩ := hcut
      cases kq with
      | zero => exact absurd HA.out (by simp [ostiaryref1_Token.j1])
      | succ kj4 =>
       have H := HA.out
       clear HA
       simp only [ostiaryref1_Token.j1] at H
       have H' := Aside0.mk H
       clear H
       go_wp2
       go_loopg [5, 6] kj4 (fun kq v5 v6 w' => ∃ (x5_3 : Bool) (x6_3 : Int), v5 = .bool x5_3 ∧ v6 = .int .i64 x6_3 ∧ Aside0 (ostiaryref1_Token.l1 kq a0 x3_1 (bt a0 x3_1) x5_3 x6_3 = some r) ∧ Aside0 (kq ≤ kj4) ∧ Drawn0 w w')
       case atStart => exact ⟨(x5_4), (0), rS, rS, H', ⟨Nat.le_refl _⟩, by repeat (first | exact Drawn0.refl _ | apply Drawn0.step)⟩
       case round =>
        clear H'
        try clear c1
        try clear c2
        try clear c2b0
        try clear p2
        try clear c3
        try clear c3b0
        try clear c4
        try clear p4
        try clear q4
        try clear hx4
        try clear c7
        try clear p2
        try clear p4
        try clear q4
        obtain ⟨x5_3, x6_3, rfl, rfl, HA, HK3, ⟨m3, rfl⟩⟩ := hrel
        cases gk with
        | zero => exact absurd HA.out (by simp [ostiaryref1_Token.l1])
        | succ k3 =>
         have H := HA.out
         clear HA
         simp only [ostiaryref1_Token.l1] at H
         by_cases c9 : x6_3 < 15
         ·rw [if_pos c9] at H
          have c9b0 : decide (x6_3 < 15) = true := decide_eq_true c9
          clear c9
          by_cases c10 : x5_3 = true
          ·subst c10
           have H1 : (ostiaryref1_Token.l1 k3 a0 x3_1 (bt a0 x3_1) true (wrap64 (x6_3 + 1))) = some r := by rw [if_pos rfl] at H; exact H
           clear H
           have H := H1
           clear H1
           have H' := Aside0.mk H
           clear H
           go_wp2
           go_roundg k3
           case measure => have := HK1.out; have := HJ4.out; have := HK3.out; omega
           case rel => exact ⟨(true), (wrap64 (x6_3 + 1)), rS, rS, H', ⟨by have := HK1.out; have := HJ4.out; have := HK3.out; omega⟩, by repeat (first | exact Drawn0.refl _ | apply Drawn0.step)⟩
          ·replace c10 := Bool.eq_false_iff.mpr c10
           subst c10
           have H1 : (if 0 ≤ x6_3 then (ostiaryref1_Token.l1 k3 a0 x3_1 (bt a0 x3_1) ((bt a0 x3_1) == (bt (⟨#[33, 35, 36, 37, 38, 39, 42, 43, 45, 46, 94, 95, 96, 124, 126]⟩ : ByteArray) x6_3)) (wrap64 (x6_3 + 1))) else (none)) = some r := by rw [if_neg (show ¬ (false = true) by decide)] at H; exact H
           clear H
           have H := H1
           clear H1
           by_cases c11 : 0 ≤ x6_3
           ·rw [if_pos c11] at H
            have c11b0 : decide (0 ≤ x6_3) = true := decide_eq_true c11
            clear c11
            have H' := Aside0.mk H
            clear H
            have p12 : 0 ≤ (x6_3 : Int) := of_decide_eq_true aS
            have q12 : x6_3 < (15 : Int) := of_decide_eq_true aS
            have hx12 := bt_at (⟨#[33, 35, 36, 37, 38, 39, 42, 43, 45, 46, 94, 95, 96, 124, 126]⟩ : ByteArray) x6_3
            replace p12 := eq_true p12
            replace q12 := eq_true q12
            go_wp2
            go_roundg k3
            case measure => have := HK1.out; have := HJ4.out; have := HK3.out; omega
            case rel => exact ⟨(((bt a0 x3_1) == (bt (⟨#[33, 35, 36, 37, 38, 39, 42, 43, 45, 46, 94, 95, 96, 124, 126]⟩ : ByteArray) x6_3))), (wrap64 (x6_3 + 1)), rS, rS, H', ⟨by have := HK1.out; have := HJ4.out; have := HK3.out; omega⟩, by repeat (first | exact Drawn0.refl _ | apply Drawn0.step)⟩
           ·rw [if_neg c11] at H
            exact absurd H (by simp)
         ·rw [if_neg c9] at H
          have c9b0 : decide (x6_3 < 15) = false := decide_eq_false c9
          clear c9
          by_cases c13 : x5_3 = true
          ·subst c13
           have H1 : (ostiaryref1_Token.l0 k3 a0 (wrap64 (x3_1 + 1))) = some r := by rw [if_pos rfl] at H; exact H
           clear H
           have H := H1
           clear H1
           have H' := Aside0.mk H
           clear H
           go_wp2
           go_roundg k3
           case measure => have := HK1.out; have := HJ4.out; have := HK3.out; omega
           case rel => exact ⟨(wrap64 (x3_1 + 1)), rS, H', ⟨by have := HK1.out; have := HJ4.out; have := HK3.out; omega⟩, by repeat (first | exact Drawn0.refl _ | apply Drawn0.step)⟩
          ·replace c13 := Bool.eq_false_iff.mpr c13
           subst c13
           have H1 : (some false) = some r := by rw [if_neg (show ¬ (false = true) by decide)] at H; exact H
           clear H
           have H := H1
           clear H1
           obtain rfl := Option.some.inj H
           go_wp2
           go_ret
           exact ⟨rS, by repeat (first | exact Drawn0.refl _ | apply Drawn0.step)⟩
    ·rw [if_neg c3] at H
     exact absurd H (by simp)
   ·rw [if_neg c2] at H
    have c2b0 : decide (x3_1 < (a0.size : Int)) = false := decide_eq_false c2
    clear c2
    obtain rfl := Option.some.inj H
    go_wp2
    go_ret
    exact ⟨rS, by repeat (first | exact Drawn0.refl _ | apply Drawn0.step)⟩
end Go.Proofs.YtifmkgkiipckbaaGreatDoor.P
