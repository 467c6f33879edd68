/- A part of the proof of CorsLess: texts of walks and plain lemmas. -/
import Derived.Test.YtifmkgkiipckbaaDoorX1
import Derived.Test.YtifmkgkiipckbaaDoorX3
import Derived.Test.YtifmkgkiipckbaaDoorX7
namespace Go.Proofs.YtifmkgkiipckbaaDoor.P
open Go.RowKit Go.Proofs.YtifmkgkiipckbaaDoorW.PrintWords Go.Proofs.YtifmkgkiipckbaaDoorW.PrintLast Go.Proofs.YtifmkgkiipckbaaDoorW.PrintMore
attribute [local go_sem] max2_int min2_int max_two min_two max_three min_three max_four min_four
set_option linter.unusedVariables false
set_option linter.unusedSimpArgs false
mutual
def ostiaryref2_pieces.l0 : Nat → Bool → List Int → List ByteArray → Int → Option (List Int × Bool)
 | 0, _, _, _, _ => none
 | k + 1, x1, x6, x7, x8 => if x8 < (x7.length : Int) then (if x1 = true then (if x8 = (wrap64 ((x7.length : Int) - 1)) then (if 0 ≤ x8 then ((ostiaryref1_Cut.f k (rdOf ByteArray.empty x7 x8) 46).bind fun t356 => (ostiaryref2_pieces.j1 k x1 x6 x7 x8 ((t356.length : Int) == 4))) else (none)) else (ostiaryref2_pieces.j1 k x1 x6 x7 x8 false)) else (ostiaryref2_pieces.j1 k x1 x6 x7 x8 false)) else (some (x6, true))
def ostiaryref2_pieces.j1 : Nat → Bool → List Int → List ByteArray → Int → Bool → Option (List Int × Bool)
 | 0, _, _, _, _, _ => none
 | k + 1, x1, x6, x7, x8, x40 => if x40 = true then (if 0 ≤ x8 then (if x8 < (x7.length : Int) then ((ostiaryref2_decimals.f k (rdOf ByteArray.empty x7 x8)).bind fun bt360 => (if bt360.2 = true then (if x6.length + bt360.1.length < 70368744177664 then (some ((x6 ++ bt360.1), true)) else (none)) else (some (([] : List Int), false)))) else (none)) else (none)) else (if 0 ≤ x8 then (if x8 < (x7.length : Int) then (if ((rdOf ByteArray.empty x7 x8).size : Int) < 1 then (ostiaryref2_pieces.j2 k x1 x6 x7 x8 true) else (ostiaryref2_pieces.j2 k x1 x6 x7 x8 (decide (((rdOf ByteArray.empty x7 x8).size : Int) > 4)))) else (none)) else (none))
def ostiaryref2_pieces.j2 : Nat → Bool → List Int → List ByteArray → Int → Bool → Option (List Int × Bool)
 | 0, _, _, _, _, _ => none
 | k + 1, x1, x6, x7, x8, x67 => if x67 = true then (some (([] : List Int), false)) else (ostiaryref2_pieces.l1 k x1 x6 x7 x8 0 0)
def ostiaryref2_pieces.l1 : Nat → Bool → List Int → List ByteArray → Int → Int → Int → Option (List Int × Bool)
 | 0, _, _, _, _, _, _ => none
 | k + 1, x1, x6, x7, x8, x11, x12 => if 0 ≤ x8 then (if x8 < (x7.length : Int) then (if x12 < ((rdOf ByteArray.empty x7 x8).size : Int) then (if 0 ≤ x12 then ((ostiaryref1_Hex.f k (bt (rdOf ByteArray.empty x7 x8) x12)).bind fun t371 => (if t371 < 0 then (some (([] : List Int), false)) else (ostiaryref2_pieces.l1 k x1 x6 x7 x8 (wrap64 ((wrap64 (x11 * 16)) + t371)) (wrap64 (x12 + 1))))) else (none)) else (if x6.length < 70368744177664 then (ostiaryref2_pieces.l0 k x1 (x6 ++ [IntKind.u16.wrap (x11)]) x7 (wrap64 (x8 + 1))) else (none))) else (none)) else (none)
end
def ostiaryref2_pieces.f (k : Nat) (a0 : ByteArray) (a1 : Bool) : Option (List Int × Bool) := if a0.toList = ([] : List UInt8) then (some (([] : List Int), true)) else ((ostiaryref1_Cut.f k a0 58).bind fun t352 => (ostiaryref2_pieces.l0 k a1 ([] : List Int) t352 0))
theorem ostiaryref2_pieces.mono_l : ∀ k, (∀ y0 y1 y2 y3, LeO (ostiaryref2_pieces.l0 k y0 y1 y2 y3) (ostiaryref2_pieces.l0 (k + 1) y0 y1 y2 y3)) ∧ (∀ y0 y1 y2 y3 y4, LeO (ostiaryref2_pieces.j1 k y0 y1 y2 y3 y4) (ostiaryref2_pieces.j1 (k + 1) y0 y1 y2 y3 y4)) ∧ (∀ y0 y1 y2 y3 y4, LeO (ostiaryref2_pieces.j2 k y0 y1 y2 y3 y4) (ostiaryref2_pieces.j2 (k + 1) y0 y1 y2 y3 y4)) ∧ (∀ y0 y1 y2 y3 y4 y5, LeO (ostiaryref2_pieces.l1 k y0 y1 y2 y3 y4 y5) (ostiaryref2_pieces.l1 (k + 1) y0 y1 y2 y3 y4 y5))
 | 0 => ⟨fun _ _ _ _ r h => by simp [ostiaryref2_pieces.l0] at h, fun _ _ _ _ _ r h => by simp [ostiaryref2_pieces.j1] at h, fun _ _ _ _ _ r h => by simp [ostiaryref2_pieces.j2] at h, fun _ _ _ _ _ _ r h => by simp [ostiaryref2_pieces.l1] at h⟩
 | k + 1 => by
  obtain ⟨ih0, ih1, ih2, ih3⟩ := ostiaryref2_pieces.mono_l k
  refine ⟨?_, ?_, ?_, ?_⟩
  ·intro y0 y1 y2 y3
   unfold ostiaryref2_pieces.l0
   repeat' first
   | (with_reducible exact ih0 _ _ _ _)
   | (with_reducible exact ih1 _ _ _ _ _)
   | (with_reducible exact ih2 _ _ _ _ _)
   | (with_reducible exact ih3 _ _ _ _ _ _)
   | (with_reducible exact ostiaryref1_Cut.mono _ _ _)
   | (with_reducible exact ostiaryref1_Hex.mono _ _)
   | (with_reducible exact ostiaryref2_decimals.mono _ _)
   | (with_reducible exact LeO.refl _)
   | (with_reducible exact LeO.none _)
   | (with_reducible refine LeO.ite ?_ ?_)
   | (with_reducible refine LeO.bind ?_ (fun _ => ?_))
   | exact ih0 _ _ _ _
   | exact ih1 _ _ _ _ _
   | exact ih2 _ _ _ _ _
   | exact ih3 _ _ _ _ _ _
   | exact ostiaryref1_Cut.mono _ _ _
   | exact ostiaryref1_Hex.mono _ _
   | exact ostiaryref2_decimals.mono _ _
   | exact LeO.none _
   | refine LeO.ite ?_ ?_
   | refine LeO.bind ?_ (fun _ => ?_)
  ·intro y0 y1 y2 y3 y4
   unfold ostiaryref2_pieces.j1
   repeat' first
   | (with_reducible exact ih0 _ _ _ _)
   | (with_reducible exact ih1 _ _ _ _ _)
   | (with_reducible exact ih2 _ _ _ _ _)
   | (with_reducible exact ih3 _ _ _ _ _ _)
   | (with_reducible exact ostiaryref1_Cut.mono _ _ _)
   | (with_reducible exact ostiaryref1_Hex.mono _ _)
   | (with_reducible exact ostiaryref2_decimals.mono _ _)
   | (with_reducible exact LeO.refl _)
   | (with_reducible exact LeO.none _)
   | (with_reducible refine LeO.ite ?_ ?_)
   | (with_reducible refine LeO.bind ?_ (fun _ => ?_))
   | exact ih0 _ _ _ _
   | exact ih1 _ _ _ _ _
   | exact ih2 _ _ _ _ _
   | exact ih3 _ _ _ _ _ _
   | exact ostiaryref1_Cut.mono _ _ _
   | exact ostiaryref1_Hex.mono _ _
   | exact ostiaryref2_decimals.mono _ _
   | exact LeO.none _
   | refine LeO.ite ?_ ?_
   | refine LeO.bind ?_ (fun _ => ?_)
  ·intro y0 y1 y2 y3 y4
   unfold ostiaryref2_pieces.j2
   repeat' first
   | (with_reducible exact ih0 _ _ _ _)
   | (with_reducible exact ih1 _ _ _ _ _)
   | (with_reducible exact ih2 _ _ _ _ _)
   | (with_reducible exact ih3 _ _ _ _ _ _)
   | (with_reducible exact ostiaryref1_Cut.mono _ _ _)
   | (with_reducible exact ostiaryref1_Hex.mono _ _)
   | (with_reducible exact ostiaryref2_decimals.mono _ _)
   | (with_reducible exact LeO.refl _)
   | (with_reducible exact LeO.none _)
   | (with_reducible refine LeO.ite ?_ ?_)
   | (with_reducible refine LeO.bind ?_ (fun _ => ?_))
   | exact ih0 _ _ _ _
   | exact ih1 _ _ _ _ _
   | exact ih2 _ _ _ _ _
   | exact ih3 _ _ _ _ _ _
   | exact ostiaryref1_Cut.mono _ _ _
   | exact ostiaryref1_Hex.mono _ _
   | exact ostiaryref2_decimals.mono _ _
   | exact LeO.none _
   | refine LeO.ite ?_ ?_
   | refine LeO.bind ?_ (fun _ => ?_)
  ·intro y0 y1 y2 y3 y4 y5
   unfold ostiaryref2_pieces.l1
   repeat' first
   | (with_reducible exact ih0 _ _ _ _)
   | (with_reducible exact ih1 _ _ _ _ _)
   | (with_reducible exact ih2 _ _ _ _ _)
   | (with_reducible exact ih3 _ _ _ _ _ _)
   | (with_reducible exact ostiaryref1_Cut.mono _ _ _)
   | (with_reducible exact ostiaryref1_Hex.mono _ _)
   | (with_reducible exact ostiaryref2_decimals.mono _ _)
   | (with_reducible exact LeO.refl _)
   | (with_reducible exact LeO.none _)
   | (with_reducible refine LeO.ite ?_ ?_)
   | (with_reducible refine LeO.bind ?_ (fun _ => ?_))
   | exact ih0 _ _ _ _
   | exact ih1 _ _ _ _ _
   | exact ih2 _ _ _ _ _
   | exact ih3 _ _ _ _ _ _
   | exact ostiaryref1_Cut.mono _ _ _
   | exact ostiaryref1_Hex.mono _ _
   | exact ostiaryref2_decimals.mono _ _
   | exact LeO.none _
   | refine LeO.ite ?_ ?_
   | refine LeO.bind ?_ (fun _ => ?_)
theorem ostiaryref2_pieces.mono : ∀ a0 a1 k, LeO (ostiaryref2_pieces.f k a0 a1) (ostiaryref2_pieces.f (k + 1) a0 a1) := by
 intro a0 a1 k
 obtain ⟨ih0, ih1, ih2, ih3⟩ := ostiaryref2_pieces.mono_l k
 unfold ostiaryref2_pieces.f
 repeat' first
   | (with_reducible exact ih0 _ _ _ _)
   | (with_reducible exact ih1 _ _ _ _ _)
   | (with_reducible exact ih2 _ _ _ _ _)
   | (with_reducible exact ih3 _ _ _ _ _ _)
   | (with_reducible exact ostiaryref1_Cut.mono _ _ _)
   | (with_reducible exact ostiaryref1_Hex.mono _ _)
   | (with_reducible exact ostiaryref2_decimals.mono _ _)
   | (with_reducible exact LeO.refl _)
   | (with_reducible exact LeO.none _)
   | (with_reducible refine LeO.ite ?_ ?_)
   | (with_reducible refine LeO.bind ?_ (fun _ => ?_))
   | exact ih0 _ _ _ _
   | exact ih1 _ _ _ _ _
   | exact ih2 _ _ _ _ _
   | exact ih3 _ _ _ _ _ _
   | exact ostiaryref1_Cut.mono _ _ _
   | exact ostiaryref1_Hex.mono _ _
   | exact ostiaryref2_decimals.mono _ _
   | exact LeO.none _
   | refine LeO.ite ?_ ?_
   | refine LeO.bind ?_ (fun _ => ?_)
set_option maxHeartbeats 8000000 in
set_option maxRecDepth 100000 in
theorem ostiaryref2_pieces.calls (k : Nat) (a0 : ByteArray) (a1 : Bool) (r1 : List Int) (r2 : Bool) (w : World) (h : ostiaryref2_pieces.f k a0 a1 = some (r1, r2)) :
  Calls Tryd.prog 213 #[.string a0, .bool a1] w fun e w' => ∃ v0_ : Value, e = .returned (.tuple #[v0_, .bool r2]) ∧ Kd.R (Kd.int .u16) 245 w' w.heap.size (fun _ => True) v0_ r1 ∧ Below w.heap.size w w' := by
 have HB := Aside0.mk (Below.refl w.heap.size w)
 have H : (if a0.toList = ([] : List UInt8) then (some (([] : List Int), true)) else ((ostiaryref1_Cut.f k a0 58).bind fun t352 => (ostiaryref2_pieces.l0 k a1 ([] : List Int) t352 0))) = some (r1, r2) := h
 clear h
 by_cases c3 : a0.toList = ([] : List UInt8)
 ·rw [if_pos c3] at H
  have c3b0 : (a0.toList == ([] : List UInt8)) = true := beq_iff_eq.mpr c3
  have c3b1 : (a0.toList != ([] : List UInt8)) = false := bne_eq_false_iff_eq.mpr c3
  clear c3
  simp only [Option.some.injEq, Prod.mk.injEq] at H
  obtain ⟨rfl, rfl⟩ := H
  go_enter Tryd.func213, Tryd.ntmps213
  go_wp2
  go_ret2
  exact ⟨_, by first | rfl | (simp [errW_none, errW_some] <;> rfl) | (simp [*, errW_none, errW_some] <;> rfl), by first | exact Kd.R_nil _ _ _ _ _ | exact Kd.N_nil _ _ _ _ _ | exact Kd.V_nil _ _ _ _ _ | exact Kd.Q_nil _ _ _ _ _ | exact Kd.S_nil _ _ _ _ _, by repeat (first | (with_reducible first | exact HB.out | apply below_alloc | apply pw_below_drewN | apply below_drew1) | exact HB.out)⟩
 ·rw [if_neg c3] at H
  have c3b0 : (a0.toList == ([] : List UInt8)) = false := beq_eq_false_iff_ne.mpr c3
  have c3b1 : (a0.toList != ([] : List UInt8)) = true := bne_iff_ne.mpr c3
  replace H := Option.bind_eq_some_iff.mp H
  obtain ⟨t352, A40, H⟩ := H
  replace H : (ostiaryref2_pieces.l0 k a1 ([] : List Int) t352 0) = some (r1, r2) := H
  have A4 := Aside0.mk A40
  clear A40
  have H' := Aside0.mk H
  clear H
  go_enter Tryd.func213, Tryd.ntmps213
  go_wp2_with (first | ((with_reducible refine gate_callee (f := 183) rfl ?_); refine goesL_ (some 17) rfl rfl Tryd.func183 q2_ rfl #[.string a0, .int .u8 58] rfl tS ?_; (with_reducible refine (ostiaryref1_Cut.calls k a0 58 t352 _ A4.out).mono ?_); rintro e w5 ⟨v353, rfl, ho0, hb⟩; refine ⟨_, rfl, ?_⟩; have n0_ := Aside0.mk (Kd.R_lower ho0 (below_size hB)); have n1_ := Aside0.mk (below_step hB hb); clear HB; have HO354 := n0_; have HB := n1_; clear n0_ n1_; (try clear hb); (try clear hb2); (try clear hk); (try clear hi); (try clear ho0)))
  go_loopg [6, 8] k (fun kq v6 v8 w' => ∃ (x6_1 : List Int) (x8_1 : Int), v8 = .int .i64 x8_1 ∧ Aside0 (ostiaryref2_pieces.l0 kq a1 x6_1 t352 x8_1 = some (r1, r2)) ∧ Aside0 (kq ≤ k) ∧ Aside0 (Kd.R (Kd.int .u16) 245 w' w.heap.size (fun _ => True) v6 x6_1) ∧ Aside0 (Kd.R Kd.string 9 w' w.heap.size (fun _ => True) v353 t352) ∧ Aside0 (Below w.heap.size w w'))
  case atStart => exact ⟨(([] : List Int)), (0), rS, H', ⟨Nat.le_refl _⟩, ⟨by first | exact Kd.R_nil _ _ _ _ _ | exact Kd.N_nil _ _ _ _ _ | exact Kd.V_nil _ _ _ _ _ | exact Kd.Q_nil _ _ _ _ _ | exact Kd.S_nil _ _ _ _ _⟩, ⟨by (with_reducible repeat (first | apply Kd.R_alloc | apply Kd.R_drewN | apply Kd.R_drew)); exact HO354.out⟩, ⟨by repeat (first | (with_reducible first | exact HB.out | apply below_alloc | apply pw_below_drewN | apply below_drew1) | exact HB.out)⟩⟩
  case round =>
   clear H'
   try clear c1
   try clear c2
   try clear p2
   try clear c3
   try clear c3b0
   try clear c3b1
   obtain ⟨x6_1, x8_1, rfl, HA, HK1, HO_6, HO_7, HB⟩ := hrel
   cases gk with
   | zero => exact absurd HA.out (by simp [ostiaryref2_pieces.l0])
   | succ k1 =>
    have H := HA.out
    clear HA
    simp only [ostiaryref2_pieces.l0] at H
    by_cases c6 : x8_1 < (t352.length : Int)
    ·rw [if_pos c6] at H
     have c6b0 : decide (x8_1 < (t352.length : Int)) = true := decide_eq_true c6
     clear c6
     have HC7 := Aside0.mk H
     clear H
     obtain ⟨Ao8, co8, eo8⟩ := Kd.R_slice HO_7.out
     subst eo8
     go_upto_region 8 with (fail)
     go_cut [40] (fun v40 wc => ∃ (kq : Nat) (x40_6 : Bool), v40 = .bool x40_6 ∧ Aside0 (ostiaryref2_pieces.j1 kq a1 x6_1 t352 x8_1 x40_6 = some (r1, r2)) ∧ Aside0 (kq ≤ k1) ∧ Aside0 (Kd.R (Kd.int .u16) 245 wc w.heap.size (fun _ => True) u6 x6_1) ∧ Aside0 (Kd.R Kd.string 9 wc w.heap.size (fun _ => True) (.slice Ao8 t352.length co8) t352) ∧ Aside0 (Below w.heap.size w wc))
     case first =>
      have H := HC7.out
      clear HC7
      by_cases c9 : a1 = true
      ·subst c9
       have H1 : (if x8_1 = (wrap64 ((t352.length : Int) - 1)) then (if 0 ≤ x8_1 then ((ostiaryref1_Cut.f k1 (rdOf ByteArray.empty t352 x8_1) 46).bind fun t356 => (ostiaryref2_pieces.j1 k1 true x6_1 t352 x8_1 ((t356.length : Int) == 4))) else (none)) else (ostiaryref2_pieces.j1 k1 true x6_1 t352 x8_1 false)) = some (r1, r2) := by rw [if_pos rfl] at H; exact H
       clear H
       have H := H1
       clear H1
       by_cases c10 : x8_1 = (wrap64 ((t352.length : Int) - 1))
       ·rw [if_pos c10] at H
        have c10b0 : (x8_1 == (wrap64 ((t352.length : Int) - 1))) = true := beq_iff_eq.mpr c10
        have c10b1 : (x8_1 != (wrap64 ((t352.length : Int) - 1))) = false := bne_eq_false_iff_eq.mpr c10
        clear c10
        (first | rw [c10b0] | (simp only [i64_w, i32_w]; rw [c10b0]) | skip)
        by_cases c11 : 0 ≤ x8_1
        ·rw [if_pos c11] at H
         have c11b0 : decide (0 ≤ x8_1) = true := decide_eq_true c11
         clear c11
         replace H := Option.bind_eq_some_iff.mp H
         obtain ⟨t356, A120, H⟩ := H
         replace H : (ostiaryref2_pieces.j1 k1 true x6_1 t352 x8_1 ((t356.length : Int) == 4)) = some (r1, r2) := H
         have A12 := Aside0.mk A120
         clear A120
         have H' := Aside0.mk H
         clear H
         have p355 : 0 ≤ (x8_1 : Int) := of_decide_eq_true aS
         have q355 : x8_1 < (t352.length : Int) := of_decide_eq_true aS
         obtain ⟨ad355, e355, hx355_0⟩ := Kd.at_string (Kd.R_reads' HO_7.out).2.2 x8_1 p355 q355
         cases e355
         replace p355 := eq_true p355
         replace q355 := eq_true q355
         go_wp2_with (first | (go_at_call 183; (with_reducible refine (ostiaryref1_Cut.calls k1 (rdOf ByteArray.empty t352 x8_1) 46 t356 _ A12.out).mono ?_); rintro e w13 ⟨v357, rfl, ho0, hb⟩; have n0_ := Aside0.mk (Kd.R_below q7_ hb); have n1_ := Aside0.mk (Kd.R_elder' (by (with_reducible repeat (first | apply Kd.R_alloc | apply Kd.R_drewN | apply Kd.R_drew)); exact HO_7.out) (Kd.R_base ho0) hb); have n2_ := Aside0.mk (Kd.R_lower (Kd.R_new' ho0 (Kd.R_lt (by (with_reducible repeat (first | apply Kd.R_alloc | apply Kd.R_drewN | apply Kd.R_drew)); exact HO_7.out))) (below_size hB)); have n3_ := Aside0.mk (below_step hB hb); clear HO_6; clear HO_7; clear HB; have HO_6 := n0_; have HO_7 := n1_; have HO358 := n2_; have HB := n3_; clear n0_ n1_ n2_ n3_; (try clear hb); (try clear hb2); (try clear hk); (try clear hi); (try clear ho0); obtain ⟨Ao14, co14, eo14⟩ := Kd.R_slice HO358.out; subst eo14))
         go_meet
         case rel => exact ⟨_, (((t356.length : Int) == 4)), rS, H', ⟨by have := HK1.out; first | omega | exact Nat.le_refl _⟩, ⟨by (with_reducible repeat (first | apply Kd.R_alloc | apply Kd.R_drewN | apply Kd.R_drew)); exact HO_6.out⟩, ⟨by (with_reducible repeat (first | apply Kd.R_alloc | apply Kd.R_drewN | apply Kd.R_drew)); exact Kd.R_mono HO_7.out (fun _ hk => trivial)⟩, ⟨by repeat (first | (with_reducible first | exact HB.out | apply below_alloc | apply pw_below_drewN | apply below_drew1) | exact HB.out)⟩⟩
        ·rw [if_neg c11] at H
         exact absurd H (by simp)
       ·rw [if_neg c10] at H
        have c10b0 : (x8_1 == (wrap64 ((t352.length : Int) - 1))) = false := beq_eq_false_iff_ne.mpr c10
        have c10b1 : (x8_1 != (wrap64 ((t352.length : Int) - 1))) = true := bne_iff_ne.mpr c10
        (first | rw [c10b0] | (simp only [i64_w, i32_w]; rw [c10b0]) | skip)
        have H' := Aside0.mk H
        clear H
        go_wp2
        go_meet
        case rel => exact ⟨_, (false), rS, H', ⟨by have := HK1.out; first | omega | exact Nat.le_refl _⟩, ⟨by (with_reducible repeat (first | apply Kd.R_alloc | apply Kd.R_drewN | apply Kd.R_drew)); exact HO_6.out⟩, ⟨by (with_reducible repeat (first | apply Kd.R_alloc | apply Kd.R_drewN | apply Kd.R_drew)); exact HO_7.out⟩, ⟨by repeat (first | (with_reducible first | exact HB.out | apply below_alloc | apply pw_below_drewN | apply below_drew1) | exact HB.out)⟩⟩
      ·replace c9 := Bool.eq_false_iff.mpr c9
       subst c9
       have H1 : (ostiaryref2_pieces.j1 k1 false x6_1 t352 x8_1 false) = some (r1, r2) := by rw [if_neg (show ¬ (false = true) by decide)] at H; exact H
       clear H
       have H := H1
       clear H1
       have H' := Aside0.mk H
       clear H
       go_wp2
       go_meet
       case rel => exact ⟨_, (false), rS, H', ⟨by have := HK1.out; first | omega | exact Nat.le_refl _⟩, ⟨by (with_reducible repeat (first | apply Kd.R_alloc | apply Kd.R_drewN | apply Kd.R_drew)); exact HO_6.out⟩, ⟨by (with_reducible repeat (first | apply Kd.R_alloc | apply Kd.R_drewN | apply Kd.R_drew)); exact HO_7.out⟩, ⟨by repeat (first | (with_reducible first | exact HB.out | apply below_alloc | apply pw_below_drewN | apply below_drew1) | exact HB.out)⟩⟩
     case rest =>
      clear HC7
      try clear c1
      try clear c2
      try clear p2
      try clear c3
      try clear c3b0
      try clear c3b1
      try clear p3
      try clear q3
      try clear hx3
      try clear c6
      try clear c6b0
      try clear p6
      try clear c9
      try clear c10
      try clear c10b0
      try clear c10b1
      try clear c11
      try clear c11b0
      try clear hx355_0
      try clear p2
      try clear p355
      try clear q355
      obtain ⟨kq, x40_6, rfl, HA, HJ6, HO_6, HO_7, HB⟩ := hcut
      cases kq with
      | zero => exact absurd HA.out (by simp [ostiaryref2_pieces.j1])
      | succ kj6 =>
       have H := HA.out
       clear HA
       simp only [ostiaryref2_pieces.j1] at H
       by_cases c15 : x40_6 = true
       ·subst c15
        have H1 : (if 0 ≤ x8_1 then (if x8_1 < (t352.length : Int) then ((ostiaryref2_decimals.f kj6 (rdOf ByteArray.empty t352 x8_1)).bind fun bt360 => (if bt360.2 = true then (if x6_1.length + bt360.1.length < 70368744177664 then (some ((x6_1 ++ bt360.1), true)) else (none)) else (some (([] : List Int), false)))) else (none)) else (none)) = some (r1, r2) := by rw [if_pos rfl] at H; exact H
        clear H
        have H := H1
        clear H1
        by_cases c16 : 0 ≤ x8_1
        ·rw [if_pos c16] at H
         have c16b0 : decide (0 ≤ x8_1) = true := decide_eq_true c16
         clear c16
         by_cases c17 : x8_1 < (t352.length : Int)
         ·rw [if_pos c17] at H
          have c17b0 : decide (x8_1 < (t352.length : Int)) = true := decide_eq_true c17
          clear c17
          replace H := Option.bind_eq_some_iff.mp H
          obtain ⟨⟨t360, t361⟩, A180, H⟩ := H
          replace H : (if t361 = true then (if x6_1.length + t360.length < 70368744177664 then (some ((x6_1 ++ t360), true)) else (none)) else (some (([] : List Int), false))) = some (r1, r2) := H
          have A18 := Aside0.mk A180
          clear A180
          by_cases c19 : t361 = true
          ·subst c19
           have H1 : (if x6_1.length + t360.length < 70368744177664 then (some ((x6_1 ++ t360), true)) else (none)) = some (r1, r2) := by rw [if_pos rfl] at H; exact H
           clear H
           have H := H1
           clear H1
           by_cases c20 : x6_1.length + t360.length < 70368744177664
           ·rw [if_pos c20] at H
            have LMc20 := Aside0.mk c20
            clear c20
            obtain ⟨y364, hy364⟩ : ∃ y_ : List Int, y_ = (x6_1 ++ t360) := ⟨_, rfl⟩
            replace H : (some (y364, true)) = some (r1, r2) := by first | (rw [hy364]; with_reducible exact H) | (have H2_ := (Option.bind_some _ _).symm.trans H; rw [hy364]; with_reducible exact H2_) | (have H2_ := (Option.bind_some _ _).symm.trans H; with_reducible exact H2_) | with_reducible exact H | (rw [hy364]; exact H) | exact H
            have Ny364 := Aside0.mk hy364
            clear hy364
            simp only [Option.some.injEq, Prod.mk.injEq] at H
            obtain ⟨rfl, rfl⟩ := H
            have p359 : 0 ≤ (x8_1 : Int) := of_decide_eq_true aS
            have q359 : x8_1 < (t352.length : Int) := of_decide_eq_true aS
            obtain ⟨ad359, e359, hx359_0⟩ := Kd.at_string (Kd.R_reads' HO_7.out).2.2 x8_1 p359 q359
            cases e359
            replace p359 := eq_true p359
            replace q359 := eq_true q359
            go_wp2_with (first | ((with_reducible refine gate_callee (f := 219) rfl ?_); refine goesL_ (some 46) rfl rfl Tryd.func219 q2_ rfl #[.string (rdOf ByteArray.empty t352 x8_1)] rfl tS ?_; (with_reducible refine (ostiaryref2_decimals.calls kj6 (rdOf ByteArray.empty t352 x8_1) t360 true _ A18.out).mono ?_); rintro e w21 ⟨v362, rfl, ho0, hb⟩; refine ⟨_, rfl, ?_⟩; have n0_ := Aside0.mk (Kd.R_elder' q7_ (Kd.R_base ho0) hb); have n1_ := Aside0.mk (Kd.R_below (by (with_reducible repeat (first | apply Kd.R_alloc | apply Kd.R_drewN | apply Kd.R_drew)); exact HO_7.out) hb); have n2_ := Aside0.mk (Kd.R_lower (Kd.R_new' ho0 (Kd.R_lt q7_)) (below_size hB)); have n3_ := Aside0.mk (below_step hB hb); clear HO_6; clear HO_7; clear HB; have HO_6 := n0_; have HO_7 := n1_; have HO363 := n2_; have HB := n3_; clear n0_ n1_ n2_ n3_; (try clear hb); (try clear hb2); (try clear hk); (try clear hi); (try clear ho0); obtain ⟨Ao23, co23, eo23⟩ := Kd.R_slice HO363.out; subst eo23) | ((with_reducible refine gate_builtin (b := .append) (xs := #[.tmp 51, .tmp 52]) rfl ?_); (try (refine gate_guard (by rfl) ?_; dsimp only)); at_builtin; refine Kd.R_append_rows (Kd.int .u16) (w0 := w) w.heap.size rfl (.tmp 51) (.tmp 52) 265 245 (.int .u16 0) 2 rfl Tryd.underlying265 info245 rfl (by decide) (by omega) u6 x6_1 t360 _ _ _ (fun k_ => some k_ ≠ (.slice Ao23 t360.length co23 : Value).ownBlock) (fun _ => False) rfl rfl ?aO ?aR (fun _ _ h => h) (fun _ h => h.elim) ?aF ?aB ?aS ?aL ?_; (case aR => repeat (first | exact (Kd.R_reads' HO363.out).2.2 | (with_reducible refine Kd.C_alloc ?_ _) | (with_reducible refine Kd.C_drewN ?_ _) | (with_reducible refine Kd.C_drew ?_))); (case aB => exact hB); (case aF => exact (fun k_ hk => Kd.fresh' (Kd.R_lt (by (with_reducible repeat (first | apply Kd.R_alloc | apply Kd.R_drewN | apply Kd.R_drew)); exact HO363.out)) k_ hk)); (case aO => exact (by (with_reducible repeat (first | apply Kd.R_alloc | apply Kd.R_drewN | apply Kd.R_drew)); exact Kd.R_mono HO_6.out (fun _ hk => hk.2))); (case aS => exact (below_size hB)); (case aL => have := LMc20.out; omega); intro v365 w22 ho hb hg hat; rw [← Ny364.out] at ho; have n0_ := Aside0.mk (Kd.R_over' (by (with_reducible repeat (first | apply Kd.R_alloc | apply Kd.R_drewN | apply Kd.R_drew)); exact HO_7.out) (Kd.R_typed q7_) (by decide) hg); have n1_ := Aside0.mk (Kd.R_after (ok := (fun _ => True)) (by (with_reducible repeat (first | apply Kd.R_alloc | apply Kd.R_drewN | apply Kd.R_drew)); exact HO363.out) hg hat); have n2_ := Aside0.mk (hb); have n3_ := Aside0.mk (ho); clear HO_7; clear HO363; clear HB; clear HO_6; have HO_7 := n0_; have HO363 := n1_; have HB := n2_; have HO366 := n3_; clear n0_ n1_ n2_ n3_; clear ho hb hg hat))
            go_ret2
            exact ⟨_, by first | rfl | (simp [errW_none, errW_some] <;> rfl) | (simp [*, errW_none, errW_some] <;> rfl), by (with_reducible repeat (first | apply Kd.R_alloc | apply Kd.R_drewN | apply Kd.R_drew)); exact Kd.R_mono HO366.out (fun _ hk => trivial), by repeat (first | (with_reducible first | exact HB.out | apply below_alloc | apply pw_below_drewN | apply below_drew1) | exact HB.out)⟩
           ·rw [if_neg c20] at H
            exact absurd H (by simp)
          ·replace c19 := Bool.eq_false_iff.mpr c19
           subst c19
           have H1 : (some (([] : List Int), false)) = some (r1, r2) := by rw [if_neg (show ¬ (false = true) by decide)] at H; exact H
           clear H
           have H := H1
           clear H1
           simp only [Option.some.injEq, Prod.mk.injEq] at H
           obtain ⟨rfl, rfl⟩ := H
           have p359 : 0 ≤ (x8_1 : Int) := of_decide_eq_true aS
           have q359 : x8_1 < (t352.length : Int) := of_decide_eq_true aS
           obtain ⟨ad359, e359, hx359_0⟩ := Kd.at_string (Kd.R_reads' HO_7.out).2.2 x8_1 p359 q359
           cases e359
           replace p359 := eq_true p359
           replace q359 := eq_true q359
           go_wp2_with (first | ((with_reducible refine gate_callee (f := 219) rfl ?_); refine goesL_ (some 46) rfl rfl Tryd.func219 q2_ rfl #[.string (rdOf ByteArray.empty t352 x8_1)] rfl tS ?_; (with_reducible refine (ostiaryref2_decimals.calls kj6 (rdOf ByteArray.empty t352 x8_1) t360 false _ A18.out).mono ?_); rintro e w24 ⟨v362, rfl, ho0, hb⟩; refine ⟨_, rfl, ?_⟩; have n0_ := Aside0.mk (Kd.R_elder' q7_ (Kd.R_base ho0) hb); have n1_ := Aside0.mk (Kd.R_below (by (with_reducible repeat (first | apply Kd.R_alloc | apply Kd.R_drewN | apply Kd.R_drew)); exact HO_7.out) hb); have n2_ := Aside0.mk (Kd.R_lower (Kd.R_new' ho0 (Kd.R_lt q7_)) (below_size hB)); have n3_ := Aside0.mk (below_step hB hb); clear HO_6; clear HO_7; clear HB; have HO_6 := n0_; have HO_7 := n1_; have HO363 := n2_; have HB := n3_; clear n0_ n1_ n2_ n3_; (try clear hb); (try clear hb2); (try clear hk); (try clear hi); (try clear ho0)))
           go_ret2
           exact ⟨_, by first | rfl | (simp [errW_none, errW_some] <;> rfl) | (simp [*, errW_none, errW_some] <;> rfl), by first | exact Kd.R_nil _ _ _ _ _ | exact Kd.N_nil _ _ _ _ _ | exact Kd.V_nil _ _ _ _ _ | exact Kd.Q_nil _ _ _ _ _ | exact Kd.S_nil _ _ _ _ _, by repeat (first | (with_reducible first | exact HB.out | apply below_alloc | apply pw_below_drewN | apply below_drew1) | exact HB.out)⟩
         ·rw [if_neg c17] at H
          exact absurd H (by simp)
        ·rw [if_neg c16] at H
         exact absurd H (by simp)
       ·replace c15 := Bool.eq_false_iff.mpr c15
        subst c15
        have H1 : (if 0 ≤ x8_1 then (if x8_1 < (t352.length : Int) then (if ((rdOf ByteArray.empty t352 x8_1).size : Int) < 1 then (ostiaryref2_pieces.j2 kj6 a1 x6_1 t352 x8_1 true) else (ostiaryref2_pieces.j2 kj6 a1 x6_1 t352 x8_1 (decide (((rdOf ByteArray.empty t352 x8_1).size : Int) > 4)))) else (none)) else (none)) = some (r1, r2) := by rw [if_neg (show ¬ (false = true) by decide)] at H; exact H
        clear H
        have H := H1
        clear H1
        have HC25 := Aside0.mk H
        clear H
        go_upto_region 13 with (fail)
        go_cut [67] (fun v67 wc => ∃ (kq : Nat) (x67_24 : Bool), v67 = .bool x67_24 ∧ Aside0 (ostiaryref2_pieces.j2 kq a1 x6_1 t352 x8_1 x67_24 = some (r1, r2)) ∧ Aside0 (kq ≤ kj6) ∧ Aside0 (Kd.R (Kd.int .u16) 245 wc w.heap.size (fun _ => True) u6 x6_1) ∧ Aside0 (Kd.R Kd.string 9 wc w.heap.size (fun _ => True) (.slice Ao8 t352.length co8) t352) ∧ Aside0 (Below w.heap.size w wc))
        case first =>
         have H := HC25.out
         clear HC25
         by_cases c26 : 0 ≤ x8_1
         ·rw [if_pos c26] at H
          have c26b0 : decide (0 ≤ x8_1) = true := decide_eq_true c26
          clear c26
          (first | rw [c26b0] | (simp only [i64_w, i32_w]; rw [c26b0]) | skip)
          by_cases c27 : x8_1 < (t352.length : Int)
          ·rw [if_pos c27] at H
           have c27b0 : decide (x8_1 < (t352.length : Int)) = true := decide_eq_true c27
           clear c27
           by_cases c28 : ((rdOf ByteArray.empty t352 x8_1).size : Int) < 1
           ·rw [if_pos c28] at H
            have c28b0 : decide (((rdOf ByteArray.empty t352 x8_1).size : Int) < 1) = true := decide_eq_true c28
            have c28b1 : decide ((rdOf ByteArray.empty t352 x8_1).size < 1) = true := decide_eq_true (by omega)
            clear c28
            have H' := Aside0.mk H
            clear H
            have p367 : 0 ≤ (x8_1 : Int) := of_decide_eq_true aS
            have q367 : x8_1 < (t352.length : Int) := of_decide_eq_true aS
            obtain ⟨ad367, e367, hx367_0⟩ := Kd.at_string (Kd.R_reads' HO_7.out).2.2 x8_1 p367 q367
            cases e367
            replace p367 := eq_true p367
            replace q367 := eq_true q367
            go_wp2
            go_meet
            case rel => exact ⟨_, (true), rS, H', ⟨by have := HK1.out; have := HJ6.out; first | omega | exact Nat.le_refl _⟩, ⟨by (with_reducible repeat (first | apply Kd.R_alloc | apply Kd.R_drewN | apply Kd.R_drew)); exact HO_6.out⟩, ⟨by (with_reducible repeat (first | apply Kd.R_alloc | apply Kd.R_drewN | apply Kd.R_drew)); exact HO_7.out⟩, ⟨by repeat (first | (with_reducible first | exact HB.out | apply below_alloc | apply pw_below_drewN | apply below_drew1) | exact HB.out)⟩⟩
           ·rw [if_neg c28] at H
            have c28b0 : decide (((rdOf ByteArray.empty t352 x8_1).size : Int) < 1) = false := decide_eq_false c28
            have c28b1 : decide ((rdOf ByteArray.empty t352 x8_1).size < 1) = false := decide_eq_false (by omega)
            clear c28
            have H' := Aside0.mk H
            clear H
            have p367 : 0 ≤ (x8_1 : Int) := of_decide_eq_true aS
            have q367 : x8_1 < (t352.length : Int) := of_decide_eq_true aS
            obtain ⟨ad367, e367, hx367_0⟩ := Kd.at_string (Kd.R_reads' HO_7.out).2.2 x8_1 p367 q367
            cases e367
            replace p367 := eq_true p367
            replace q367 := eq_true q367
            have p368 : 0 ≤ (x8_1 : Int) := of_decide_eq_true aS
            have q368 : x8_1 < (t352.length : Int) := of_decide_eq_true aS
            obtain ⟨ad368, e368, hx368_0⟩ := Kd.at_string (Kd.R_reads' HO_7.out).2.2 x8_1 p368 q368
            obtain rfl : ad367 = ad368 := (by injection e368)
            replace p368 := eq_true p368
            replace q368 := eq_true q368
            go_wp2
            go_meet
            case rel => exact ⟨_, (decide (((rdOf ByteArray.empty t352 x8_1).size : Int) > 4)), rS, H', ⟨by have := HK1.out; have := HJ6.out; first | omega | exact Nat.le_refl _⟩, ⟨by (with_reducible repeat (first | apply Kd.R_alloc | apply Kd.R_drewN | apply Kd.R_drew)); exact HO_6.out⟩, ⟨by (with_reducible repeat (first | apply Kd.R_alloc | apply Kd.R_drewN | apply Kd.R_drew)); exact HO_7.out⟩, ⟨by repeat (first | (with_reducible first | exact HB.out | apply below_alloc | apply pw_below_drewN | apply below_drew1) | exact HB.out)⟩⟩
          ·rw [if_neg c27] at H
           exact absurd H (by simp)
         ·rw [if_neg c26] at H
          exact absurd H (by simp)
        case rest =>
         clear HC25
         try clear c1
         try clear c2
         try clear p2
         try clear c3
         try clear c3b0
         try clear c3b1
         try clear p3
         try clear q3
         try clear hx3
         try clear c6
         try clear c6b0
         try clear p6
         try clear c9
         try clear c10
         try clear c10b0
         try clear c10b1
         try clear c11
         try clear c11b0
         try clear c15
         try clear c16
         try clear c16b0
         try clear c17
         try clear c17b0
         try clear c18
         try clear c19
         try clear c20
         try clear c21
         try clear c26
         try clear c26b0
         try clear c27
         try clear c27b0
         try clear c28
         try clear c28b0
         try clear c28b1
         try clear hx355_0
         try clear hx359_0
         try clear hx367_0
         try clear hx368_0
         try clear p2
         try clear p3
         try clear p355
         try clear p359
         try clear p367
         try clear p368
         try clear p6
         try clear q3
         try clear q355
         try clear q359
         try clear q367
         try clear q368
         obtain ⟨kq, x67_24, rfl, HA, HJ24, HO_6, HO_7, HB⟩ := hcut
         cases kq with
         | zero => exact absurd HA.out (by simp [ostiaryref2_pieces.j2])
         | succ kj24 =>
          have H := HA.out
          clear HA
          simp only [ostiaryref2_pieces.j2] at H
          by_cases c29 : x67_24 = true
          ·subst c29
           have H1 : (some (([] : List Int), false)) = some (r1, r2) := by rw [if_pos rfl] at H; exact H
           clear H
           have H := H1
           clear H1
           simp only [Option.some.injEq, Prod.mk.injEq] at H
           obtain ⟨rfl, rfl⟩ := H
           go_wp2
           go_ret2
           exact ⟨_, by first | rfl | (simp [errW_none, errW_some] <;> rfl) | (simp [*, errW_none, errW_some] <;> rfl), by first | exact Kd.R_nil _ _ _ _ _ | exact Kd.N_nil _ _ _ _ _ | exact Kd.V_nil _ _ _ _ _ | exact Kd.Q_nil _ _ _ _ _ | exact Kd.S_nil _ _ _ _ _, by repeat (first | (with_reducible first | exact HB.out | apply below_alloc | apply pw_below_drewN | apply below_drew1) | exact HB.out)⟩
          ·replace c29 := Bool.eq_false_iff.mpr c29
           subst c29
           have H1 : (ostiaryref2_pieces.l1 kj24 a1 x6_1 t352 x8_1 0 0) = some (r1, r2) := by rw [if_neg (show ¬ (false = true) by decide)] at H; exact H
           clear H
           have H := H1
           clear H1
           have H' := Aside0.mk H
           clear H
           go_wp2
           go_loopg [11, 12] kj24 (fun kq v11 v12 w' => ∃ (x11_4 : Int) (x12_4 : Int), v11 = .int .i64 x11_4 ∧ v12 = .int .i64 x12_4 ∧ Aside0 (ostiaryref2_pieces.l1 kq a1 x6_1 t352 x8_1 x11_4 x12_4 = some (r1, r2)) ∧ Aside0 (kq ≤ kj24) ∧ Aside0 (Kd.R (Kd.int .u16) 245 w' w.heap.size (fun _ => True) u6 x6_1) ∧ Aside0 (Kd.R Kd.string 9 w' w.heap.size (fun _ => True) (.slice Ao8 t352.length co8) t352) ∧ Aside0 (Below w.heap.size w w'))
           case atStart => exact ⟨(0), (0), rS, rS, H', ⟨Nat.le_refl _⟩, ⟨by (with_reducible repeat (first | apply Kd.R_alloc | apply Kd.R_drewN | apply Kd.R_drew)); exact HO_6.out⟩, ⟨by (with_reducible repeat (first | apply Kd.R_alloc | apply Kd.R_drewN | apply Kd.R_drew)); exact HO_7.out⟩, ⟨by repeat (first | (with_reducible first | exact HB.out | apply below_alloc | apply pw_below_drewN | apply below_drew1) | exact HB.out)⟩⟩
           case round =>
            clear H'
            try clear c1
            try clear c2
            try clear p2
            try clear c3
            try clear c3b0
            try clear c3b1
            try clear p3
            try clear q3
            try clear hx3
            try clear c6
            try clear c6b0
            try clear p6
            try clear c9
            try clear c10
            try clear c10b0
            try clear c10b1
            try clear c11
            try clear c11b0
            try clear c15
            try clear c16
            try clear c16b0
            try clear c17
            try clear c17b0
            try clear c18
            try clear c19
            try clear c20
            try clear c21
            try clear c26
            try clear c26b0
            try clear c27
            try clear c27b0
            try clear c28
            try clear c28b0
            try clear c28b1
            try clear c29
            try clear hx355_0
            try clear hx359_0
            try clear hx367_0
            try clear hx368_0
            try clear p2
            try clear p3
            try clear p355
            try clear p359
            try clear p367
            try clear p368
            try clear p6
            try clear q3
            try clear q355
            try clear q359
            try clear q367
            try clear q368
            obtain ⟨x11_4, x12_4, rfl, rfl, HA, HK4, HO_6, HO_7, HB⟩ := hrel
            cases gk with
            | zero => exact absurd HA.out (by simp [ostiaryref2_pieces.l1])
            | succ k4 =>
             have H := HA.out
             clear HA
             simp only [ostiaryref2_pieces.l1] at H
             by_cases c30 : 0 ≤ x8_1
             ·rw [if_pos c30] at H
              have c30b0 : decide (0 ≤ x8_1) = true := decide_eq_true c30
              clear c30
              by_cases c31 : x8_1 < (t352.length : Int)
              ·rw [if_pos c31] at H
               have c31b0 : decide (x8_1 < (t352.length : Int)) = true := decide_eq_true c31
               clear c31
               by_cases c32 : x12_4 < ((rdOf ByteArray.empty t352 x8_1).size : Int)
               ·rw [if_pos c32] at H
                have c32b0 : decide (x12_4 < ((rdOf ByteArray.empty t352 x8_1).size : Int)) = true := decide_eq_true c32
                clear c32
                by_cases c33 : 0 ≤ x12_4
                ·rw [if_pos c33] at H
                 have c33b0 : decide (0 ≤ x12_4) = true := decide_eq_true c33
                 clear c33
                 replace H := Option.bind_eq_some_iff.mp H
                 obtain ⟨t371, A350, H⟩ := H
                 replace H : (if t371 < 0 then (some (([] : List Int), false)) else (ostiaryref2_pieces.l1 k4 a1 x6_1 t352 x8_1 (wrap64 ((wrap64 (x11_4 * 16)) + t371)) (wrap64 (x12_4 + 1)))) = some (r1, r2) := H
                 have A35 := Aside0.mk A350
                 clear A350
                 by_cases c36 : t371 < 0
                 ·rw [if_pos c36] at H
                  have c36b0 : decide (t371 < 0) = true := decide_eq_true c36
                  clear c36
                  simp only [Option.some.injEq, Prod.mk.injEq] at H
                  obtain ⟨rfl, rfl⟩ := H
                  have p369 : 0 ≤ (x8_1 : Int) := of_decide_eq_true aS
                  have q369 : x8_1 < (t352.length : Int) := of_decide_eq_true aS
                  obtain ⟨ad369, e369, hx369_0⟩ := Kd.at_string (Kd.R_reads' HO_7.out).2.2 x8_1 p369 q369
                  cases e369
                  replace p369 := eq_true p369
                  replace q369 := eq_true q369
                  have p370 : 0 ≤ (x8_1 : Int) := of_decide_eq_true aS
                  have q370 : x8_1 < (t352.length : Int) := of_decide_eq_true aS
                  obtain ⟨ad370, e370, hx370_0⟩ := Kd.at_string (Kd.R_reads' HO_7.out).2.2 x8_1 p370 q370
                  obtain rfl : ad369 = ad370 := (by injection e370)
                  replace p370 := eq_true p370
                  replace q370 := eq_true q370
                  have p34 : 0 ≤ (x12_4 : Int) := of_decide_eq_true aS
                  have q34 : x12_4 < ((rdOf ByteArray.empty t352 x8_1).size : Int) := of_decide_eq_true aS
                  have hx34 := bt_at (rdOf ByteArray.empty t352 x8_1) x12_4
                  replace p34 := eq_true p34
                  replace q34 := eq_true q34
                  go_wp2_with (first | ((with_reducible refine gate_callee (f := 215) rfl ?_); refine goesL_ (some 83) rfl rfl Tryd.func215 q2_ rfl #[.int .u8 (bt (rdOf ByteArray.empty t352 x8_1) x12_4)] rfl tS ?_; (with_reducible refine (ostiaryref1_Hex.calls k4 (bt (rdOf ByteArray.empty t352 x8_1) x12_4) t371 _ A35.out).mono ?_); rintro e w' ⟨rfl, ⟨nd, rfl⟩⟩; refine ⟨_, rfl, ?_⟩))
                  go_ret2
                  exact ⟨_, by first | rfl | (simp [errW_none, errW_some] <;> rfl) | (simp [*, errW_none, errW_some] <;> rfl), by first | exact Kd.R_nil _ _ _ _ _ | exact Kd.N_nil _ _ _ _ _ | exact Kd.V_nil _ _ _ _ _ | exact Kd.Q_nil _ _ _ _ _ | exact Kd.S_nil _ _ _ _ _, by repeat (first | (with_reducible first | exact HB.out | apply below_alloc | apply pw_below_drewN | apply below_drew1) | exact HB.out)⟩
                 ·rw [if_neg c36] at H
                  have c36b0 : decide (t371 < 0) = false := decide_eq_false c36
                  clear c36
                  have H' := Aside0.mk H
                  clear H
                  have p369 : 0 ≤ (x8_1 : Int) := of_decide_eq_true aS
                  have q369 : x8_1 < (t352.length : Int) := of_decide_eq_true aS
                  obtain ⟨ad369, e369, hx369_0⟩ := Kd.at_string (Kd.R_reads' HO_7.out).2.2 x8_1 p369 q369
                  cases e369
                  replace p369 := eq_true p369
                  replace q369 := eq_true q369
                  have p370 : 0 ≤ (x8_1 : Int) := of_decide_eq_true aS
                  have q370 : x8_1 < (t352.length : Int) := of_decide_eq_true aS
                  obtain ⟨ad370, e370, hx370_0⟩ := Kd.at_string (Kd.R_reads' HO_7.out).2.2 x8_1 p370 q370
                  obtain rfl : ad369 = ad370 := (by injection e370)
                  replace p370 := eq_true p370
                  replace q370 := eq_true q370
                  have p34 : 0 ≤ (x12_4 : Int) := of_decide_eq_true aS
                  have q34 : x12_4 < ((rdOf ByteArray.empty t352 x8_1).size : Int) := of_decide_eq_true aS
                  have hx34 := bt_at (rdOf ByteArray.empty t352 x8_1) x12_4
                  replace p34 := eq_true p34
                  replace q34 := eq_true q34
                  go_wp2_with (first | ((with_reducible refine gate_callee (f := 215) rfl ?_); refine goesL_ (some 83) rfl rfl Tryd.func215 q2_ rfl #[.int .u8 (bt (rdOf ByteArray.empty t352 x8_1) x12_4)] rfl tS ?_; (with_reducible refine (ostiaryref1_Hex.calls k4 (bt (rdOf ByteArray.empty t352 x8_1) x12_4) t371 _ A35.out).mono ?_); rintro e w' ⟨rfl, ⟨nd, rfl⟩⟩; refine ⟨_, rfl, ?_⟩))
                  go_roundg k4
                  case measure => have := HK1.out; have := HJ6.out; have := HJ24.out; have := HK4.out; omega
                  case rel => exact ⟨(wrap64 ((wrap64 (x11_4 * 16)) + t371)), (wrap64 (x12_4 + 1)), rS, rS, H', ⟨by have := HK1.out; have := HJ6.out; have := HJ24.out; have := HK4.out; omega⟩, ⟨by (with_reducible repeat (first | apply Kd.R_alloc | apply Kd.R_drewN | apply Kd.R_drew)); exact HO_6.out⟩, ⟨by (with_reducible repeat (first | apply Kd.R_alloc | apply Kd.R_drewN | apply Kd.R_drew)); exact HO_7.out⟩, ⟨by repeat (first | (with_reducible first | exact HB.out | apply below_alloc | apply pw_below_drewN | apply below_drew1) | exact HB.out)⟩⟩
                ·rw [if_neg c33] at H
                 exact absurd H (by simp)
               ·rw [if_neg c32] at H
                have c32b0 : decide (x12_4 < ((rdOf ByteArray.empty t352 x8_1).size : Int)) = false := decide_eq_false c32
                clear c32
                by_cases c37 : x6_1.length < 70368744177664
                ·rw [if_pos c37] at H
                 have LMc37 := Aside0.mk c37
                 clear c37
                 obtain ⟨y372, hy372⟩ : ∃ y_ : List Int, y_ = (x6_1 ++ [IntKind.u16.wrap (x11_4)]) := ⟨_, rfl⟩
                 replace H : (ostiaryref2_pieces.l0 k4 a1 y372 t352 (wrap64 (x8_1 + 1))) = some (r1, r2) := by first | (rw [hy372]; with_reducible exact H) | (have H2_ := (Option.bind_some _ _).symm.trans H; rw [hy372]; with_reducible exact H2_) | (have H2_ := (Option.bind_some _ _).symm.trans H; with_reducible exact H2_) | with_reducible exact H | (rw [hy372]; exact H) | exact H
                 have Ny372 := Aside0.mk hy372
                 clear hy372
                 have H' := Aside0.mk H
                 clear H
                 have p369 : 0 ≤ (x8_1 : Int) := of_decide_eq_true aS
                 have q369 : x8_1 < (t352.length : Int) := of_decide_eq_true aS
                 obtain ⟨ad369, e369, hx369_0⟩ := Kd.at_string (Kd.R_reads' HO_7.out).2.2 x8_1 p369 q369
                 cases e369
                 replace p369 := eq_true p369
                 replace q369 := eq_true q369
                 go_wp2_with (first | ((with_reducible refine gate_builtin (b := .append) (xs := #[.tmp 90, .tmp 93]) rfl ?_); (try (refine gate_guard (by rfl) ?_; dsimp only)); at_builtin; refine Kd.R_append (Kd.int .u16) (w0 := w) w.heap.size rfl (.tmp 90) (.tmp 93) 265 245 (.int .u16 0) 2 rfl Tryd.underlying265 info245 rfl (by decide) (by omega) u6 x6_1 (IntKind.u16.wrap (x11_4)) [.int .u16 (IntKind.u16.wrap (x11_4))] (fun _ => True) (fun _ => False) rfl rfl ?aP (fun _ hk => hk.elim) ?aF ?aO ?aB ?aS ?aL ?_; (case aP => exact rfl); (case aB => exact hB); (case aF => exact (fun _ _ => trivial)); (case aO => exact q7_); (case aS => exact (below_size hB)); (case aL => have := LMc37.out; omega); intro v373 w38 ho hb hg hat; rw [← Ny372.out] at ho; have n0_ := Aside0.mk (Kd.R_over' (by (with_reducible repeat (first | apply Kd.R_alloc | apply Kd.R_drewN | apply Kd.R_drew)); exact HO_7.out) (Kd.R_typed q7_) (by decide) hg); have n1_ := Aside0.mk (hb); have n2_ := Aside0.mk (ho); clear HO_7; clear HB; clear HO_6; have HO_7 := n0_; have HB := n1_; have HO374 := n2_; clear n0_ n1_ n2_; clear ho hb hg hat))
                 go_roundg k4
                 case measure => have := HK1.out; have := HJ6.out; have := HJ24.out; have := HK4.out; omega
                 case rel => exact ⟨(y372), (wrap64 (x8_1 + 1)), rS, H', ⟨by have := HK1.out; have := HJ6.out; have := HJ24.out; have := HK4.out; omega⟩, ⟨by (with_reducible repeat (first | apply Kd.R_alloc | apply Kd.R_drewN | apply Kd.R_drew)); exact HO374.out⟩, ⟨by (with_reducible repeat (first | apply Kd.R_alloc | apply Kd.R_drewN | apply Kd.R_drew)); exact HO_7.out⟩, ⟨by repeat (first | (with_reducible first | exact HB.out | apply below_alloc | apply pw_below_drewN | apply below_drew1) | exact HB.out)⟩⟩
                ·rw [if_neg c37] at H
                 exact absurd H (by simp)
              ·rw [if_neg c31] at H
               exact absurd H (by simp)
             ·rw [if_neg c30] at H
              exact absurd H (by simp)
    ·rw [if_neg c6] at H
     have c6b0 : decide (x8_1 < (t352.length : Int)) = false := decide_eq_false c6
     clear c6
     simp only [Option.some.injEq, Prod.mk.injEq] at H
     obtain ⟨rfl, rfl⟩ := H
     obtain ⟨Ao39, co39, eo39⟩ := Kd.R_slice HO_7.out
     subst eo39
     go_wp2
     go_ret2
     exact ⟨_, by first | rfl | (simp [errW_none, errW_some] <;> rfl) | (simp [*, errW_none, errW_some] <;> rfl), by (with_reducible repeat (first | apply Kd.R_alloc | apply Kd.R_drewN | apply Kd.R_drew)); exact HO_6.out, by repeat (first | (with_reducible first | exact HB.out | apply below_alloc | apply pw_below_drewN | apply below_drew1) | exact HB.out)⟩
end Go.Proofs.YtifmkgkiipckbaaDoor.P
namespace Go.Proofs.YtifmkgkiipckbaaDoor.P
open Go.RowKit Go.Proofs.YtifmkgkiipckbaaDoorW.PrintWords Go.Proofs.YtifmkgkiipckbaaDoorW.PrintLast Go.Proofs.YtifmkgkiipckbaaDoorW.PrintMore
attribute [local go_sem] max2_int min2_int max_two min_two max_three min_three max_four min_four
set_option linter.unusedVariables false
set_option linter.unusedSimpArgs false
def ostiaryref2_digits.l0 : Nat → Int → ByteArray → Option (ByteArray)
 | 0, _, _ => none
 | k + 1, x0, x3 => if x0 > 0 then (if 0 ≤ (Int.tmod x0 16) then (if (Int.tmod x0 16) ≤ (IntKind.u16.wrap ((Int.tmod x0 16) + 1)) then (if (IntKind.u16.wrap ((Int.tmod x0 16) + 1)) ≤ 16 then (if ((⟨#[48, 49, 50, 51, 52, 53, 54, 55, 56, 57, 97, 98, 99, 100, 101, 102]⟩ : ByteArray).extract ((Int.tmod x0 16) : Int).toNat ((IntKind.u16.wrap ((Int.tmod x0 16) + 1)) : Int).toNat).size + x3.size ≤ 9223372036854775807 then (ostiaryref2_digits.l0 k (IntKind.u16.wrap (Int.tdiv x0 16)) (((⟨#[48, 49, 50, 51, 52, 53, 54, 55, 56, 57, 97, 98, 99, 100, 101, 102]⟩ : ByteArray).extract ((Int.tmod x0 16) : Int).toNat ((IntKind.u16.wrap ((Int.tmod x0 16) + 1)) : Int).toNat) ++ x3)) else (none)) else (none)) else (none)) else (none)) else (if x3.toList = ([] : List UInt8) then (if 0 ≤ (Int.tmod x0 16) then (if (Int.tmod x0 16) ≤ (IntKind.u16.wrap ((Int.tmod x0 16) + 1)) then (if (IntKind.u16.wrap ((Int.tmod x0 16) + 1)) ≤ 16 then (if ((⟨#[48, 49, 50, 51, 52, 53, 54, 55, 56, 57, 97, 98, 99, 100, 101, 102]⟩ : ByteArray).extract ((Int.tmod x0 16) : Int).toNat ((IntKind.u16.wrap ((Int.tmod x0 16) + 1)) : Int).toNat).size + x3.size ≤ 9223372036854775807 then (ostiaryref2_digits.l0 k (IntKind.u16.wrap (Int.tdiv x0 16)) (((⟨#[48, 49, 50, 51, 52, 53, 54, 55, 56, 57, 97, 98, 99, 100, 101, 102]⟩ : ByteArray).extract ((Int.tmod x0 16) : Int).toNat ((IntKind.u16.wrap ((Int.tmod x0 16) + 1)) : Int).toNat) ++ x3)) else (none)) else (none)) else (none)) else (none)) else (some x3))
def ostiaryref2_digits.f (k : Nat) (a0 : Int) : Option (ByteArray) := ostiaryref2_digits.l0 k a0 (⟨#[]⟩ : ByteArray)
theorem ostiaryref2_digits.mono_l : ∀ k, (∀ y0 y1, LeO (ostiaryref2_digits.l0 k y0 y1) (ostiaryref2_digits.l0 (k + 1) y0 y1))
 | 0 => fun _ _ r h => by simp [ostiaryref2_digits.l0] at h
 | k + 1 => by
  have ih0 := ostiaryref2_digits.mono_l k
  ·intro y0 y1
   unfold ostiaryref2_digits.l0
   exact lO
theorem ostiaryref2_digits.mono : ∀ a0 k, LeO (ostiaryref2_digits.f k a0) (ostiaryref2_digits.f (k + 1) a0) := by
 intro a0 k
 have ih0 := ostiaryref2_digits.mono_l k
 unfold ostiaryref2_digits.f
 exact lO
set_option maxHeartbeats 8000000 in
set_option maxRecDepth 100000 in
theorem ostiaryref2_digits.calls (k : Nat) (a0 : Int) (r : ByteArray) (w : World) (h : ostiaryref2_digits.f k a0 = some r) :
  Calls Tryd.prog 214 #[.int .u16 a0] w fun e w' => e = .returned (.string r) ∧ Drawn0 w w' := by
 have H : (ostiaryref2_digits.l0 k a0 (⟨#[]⟩ : ByteArray)) = some r := h
 clear h
 have H' := Aside0.mk H
 clear H
 go_enter Tryd.func214, Tryd.ntmps214
 go_wp2
 go_loopg [0, 3] k (fun kq v0 v3 w' => ∃ (x0_1 : Int) (x3_1 : ByteArray), v0 = .int .u16 x0_1 ∧ v3 = .string x3_1 ∧ Aside0 (ostiaryref2_digits.l0 kq x0_1 x3_1 = some r) ∧ Aside0 (kq ≤ k) ∧ Drawn0 w w')
 case atStart => exact ⟨(a0), ((⟨#[]⟩ : ByteArray)), rS, rS, H', ⟨Nat.le_refl _⟩, by repeat (first | exact Drawn0.refl _ | apply Drawn0.step)⟩
 case round =>
  clear H'
  obtain ⟨x0_1, x3_1, rfl, rfl, HA, HK1, ⟨m1, rfl⟩⟩ := hrel
  cases gk with
  | zero => exact absurd HA.out (by simp [ostiaryref2_digits.l0])
  | succ k1 =>
   have H := HA.out
   clear HA
   simp only [ostiaryref2_digits.l0] at H
   by_cases c2 : x0_1 > 0
   ·rw [if_pos c2] at H
    have c2b0 : decide (0 < x0_1) = true := decide_eq_true c2
    clear c2
    obtain ⟨ji3, hji3⟩ : ∃ j_ : Int, (Int.tmod x0_1 16) = j_ := ⟨_, rfl⟩
    replace H : (if 0 ≤ (ji3) then (if (ji3) ≤ (IntKind.u16.wrap ((ji3) + 1)) then (if (IntKind.u16.wrap ((ji3) + 1)) ≤ 16 then (if ((⟨#[48, 49, 50, 51, 52, 53, 54, 55, 56, 57, 97, 98, 99, 100, 101, 102]⟩ : ByteArray).extract ((ji3) : Int).toNat ((IntKind.u16.wrap ((ji3) + 1)) : Int).toNat).size + x3_1.size ≤ 9223372036854775807 then (ostiaryref2_digits.l0 k1 (IntKind.u16.wrap (Int.tdiv x0_1 16)) (((⟨#[48, 49, 50, 51, 52, 53, 54, 55, 56, 57, 97, 98, 99, 100, 101, 102]⟩ : ByteArray).extract ((ji3) : Int).toNat ((IntKind.u16.wrap ((ji3) + 1)) : Int).toNat) ++ x3_1)) else (none)) else (none)) else (none)) else (none)) = some r := by first | (rw [hji3] at H; exact H) | (simp only [hji3] at H ⊢; exact H)
    by_cases c4 : 0 ≤ (ji3)
    ·rw [if_pos c4] at H
     have c4b0 := eq_true c4
     have c4b1 : decide (0 ≤ (ji3)) = true := decide_eq_true c4
     clear c4
     by_cases c5 : (ji3) ≤ (IntKind.u16.wrap ((ji3) + 1))
     ·rw [if_pos c5] at H
      have c5b0 := eq_true c5
      have c5b1 : decide ((ji3) ≤ (IntKind.u16.wrap ((ji3) + 1))) = true := decide_eq_true c5
      by_cases c6 : (IntKind.u16.wrap ((ji3) + 1)) ≤ 16
      ·rw [if_pos c6] at H
       have c6b0 := eq_true c6
       have c6b1 : decide ((IntKind.u16.wrap ((ji3) + 1)) ≤ 16) = true := decide_eq_true c6
       by_cases c7 : ((⟨#[48, 49, 50, 51, 52, 53, 54, 55, 56, 57, 97, 98, 99, 100, 101, 102]⟩ : ByteArray).extract ((ji3) : Int).toNat ((IntKind.u16.wrap ((ji3) + 1)) : Int).toNat).size + x3_1.size ≤ 9223372036854775807
       ·rw [if_pos c7] at H
        have c7b0 := eq_true c7
        have c7b1 : decide (((⟨#[48, 49, 50, 51, 52, 53, 54, 55, 56, 57, 97, 98, 99, 100, 101, 102]⟩ : ByteArray).extract ((ji3) : Int).toNat ((IntKind.u16.wrap ((ji3) + 1)) : Int).toNat).size + x3_1.size ≤ 9223372036854775807) = true := decide_eq_true c7
        try have c7b2 : (9223372036854775807 < ((⟨#[48, 49, 50, 51, 52, 53, 54, 55, 56, 57, 97, 98, 99, 100, 101, 102]⟩ : ByteArray).extract ((ji3) : Int).toNat ((IntKind.u16.wrap ((ji3) + 1)) : Int).toNat).size + x3_1.size) = False := eq_false (Nat.not_lt.2 c7)
        have H' := Aside0.mk H
        clear H
        go_wp2
        go_roundg k1
        case measure => have := HK1.out; omega
        case rel => exact ⟨(IntKind.u16.wrap (Int.tdiv x0_1 16)), (((⟨#[48, 49, 50, 51, 52, 53, 54, 55, 56, 57, 97, 98, 99, 100, 101, 102]⟩ : ByteArray).extract ((ji3) : Int).toNat ((IntKind.u16.wrap ((ji3) + 1)) : Int).toNat) ++ x3_1), rS, (by first | rfl | (simp; done) | (simp only [← hji3] <;> (first | rfl | simp)) | (simp [*]; done)), H', ⟨by have := HK1.out; omega⟩, by repeat (first | exact Drawn0.refl _ | apply Drawn0.step)⟩
       ·rw [if_neg c7] at H
        exact absurd H (by simp)
      ·rw [if_neg c6] at H
       exact absurd H (by simp)
     ·rw [if_neg c5] at H
      exact absurd H (by simp)
    ·rw [if_neg c4] at H
     exact absurd H (by simp)
   ·rw [if_neg c2] at H
    have c2b0 : decide (0 < x0_1) = false := decide_eq_false c2
    clear c2
    by_cases c8 : x3_1.toList = ([] : List UInt8)
    ·rw [if_pos c8] at H
     have c8b0 : (x3_1.toList == ([] : List UInt8)) = true := beq_iff_eq.mpr c8
     have c8b1 : (x3_1.toList != ([] : List UInt8)) = false := bne_eq_false_iff_eq.mpr c8
     clear c8
     obtain ⟨ji9, hji9⟩ : ∃ j_ : Int, (Int.tmod x0_1 16) = j_ := ⟨_, rfl⟩
     replace H : (if 0 ≤ (ji9) then (if (ji9) ≤ (IntKind.u16.wrap ((ji9) + 1)) then (if (IntKind.u16.wrap ((ji9) + 1)) ≤ 16 then (if ((⟨#[48, 49, 50, 51, 52, 53, 54, 55, 56, 57, 97, 98, 99, 100, 101, 102]⟩ : ByteArray).extract ((ji9) : Int).toNat ((IntKind.u16.wrap ((ji9) + 1)) : Int).toNat).size + x3_1.size ≤ 9223372036854775807 then (ostiaryref2_digits.l0 k1 (IntKind.u16.wrap (Int.tdiv x0_1 16)) (((⟨#[48, 49, 50, 51, 52, 53, 54, 55, 56, 57, 97, 98, 99, 100, 101, 102]⟩ : ByteArray).extract ((ji9) : Int).toNat ((IntKind.u16.wrap ((ji9) + 1)) : Int).toNat) ++ x3_1)) else (none)) else (none)) else (none)) else (none)) = some r := by first | (rw [hji9] at H; exact H) | (simp only [hji9] at H ⊢; exact H)
     by_cases c10 : 0 ≤ (ji9)
     ·rw [if_pos c10] at H
      have c10b0 := eq_true c10
      have c10b1 : decide (0 ≤ (ji9)) = true := decide_eq_true c10
      clear c10
      by_cases c11 : (ji9) ≤ (IntKind.u16.wrap ((ji9) + 1))
      ·rw [if_pos c11] at H
       have c11b0 := eq_true c11
       have c11b1 : decide ((ji9) ≤ (IntKind.u16.wrap ((ji9) + 1))) = true := decide_eq_true c11
       by_cases c12 : (IntKind.u16.wrap ((ji9) + 1)) ≤ 16
       ·rw [if_pos c12] at H
        have c12b0 := eq_true c12
        have c12b1 : decide ((IntKind.u16.wrap ((ji9) + 1)) ≤ 16) = true := decide_eq_true c12
        by_cases c13 : ((⟨#[48, 49, 50, 51, 52, 53, 54, 55, 56, 57, 97, 98, 99, 100, 101, 102]⟩ : ByteArray).extract ((ji9) : Int).toNat ((IntKind.u16.wrap ((ji9) + 1)) : Int).toNat).size + x3_1.size ≤ 9223372036854775807
        ·rw [if_pos c13] at H
         have c13b0 := eq_true c13
         have c13b1 : decide (((⟨#[48, 49, 50, 51, 52, 53, 54, 55, 56, 57, 97, 98, 99, 100, 101, 102]⟩ : ByteArray).extract ((ji9) : Int).toNat ((IntKind.u16.wrap ((ji9) + 1)) : Int).toNat).size + x3_1.size ≤ 9223372036854775807) = true := decide_eq_true c13
         try have c13b2 : (9223372036854775807 < ((⟨#[48, 49, 50, 51, 52, 53, 54, 55, 56, 57, 97, 98, 99, 100, 101, 102]⟩ : ByteArray).extract ((ji9) : Int).toNat ((IntKind.u16.wrap ((ji9) + 1)) : Int).toNat).size + x3_1.size) = False := eq_false (Nat.not_lt.2 c13)
         have H' := Aside0.mk H
         clear H
         go_wp2
         go_roundg k1
         case measure => have := HK1.out; omega
         case rel => exact ⟨(IntKind.u16.wrap (Int.tdiv x0_1 16)), (((⟨#[48, 49, 50, 51, 52, 53, 54, 55, 56, 57, 97, 98, 99, 100, 101, 102]⟩ : ByteArray).extract ((ji9) : Int).toNat ((IntKind.u16.wrap ((ji9) + 1)) : Int).toNat) ++ x3_1), rS, (by first | rfl | (simp; done) | (simp only [← hji9] <;> (first | rfl | simp)) | (simp [*]; done)), H', ⟨by have := HK1.out; omega⟩, by repeat (first | exact Drawn0.refl _ | apply Drawn0.step)⟩
        ·rw [if_neg c13] at H
         exact absurd H (by simp)
       ·rw [if_neg c12] at H
        exact absurd H (by simp)
      ·rw [if_neg c11] at H
       exact absurd H (by simp)
     ·rw [if_neg c10] at H
      exact absurd H (by simp)
    ·rw [if_neg c8] at H
     have c8b0 : (x3_1.toList == ([] : List UInt8)) = false := beq_eq_false_iff_ne.mpr c8
     have c8b1 : (x3_1.toList != ([] : List UInt8)) = true := bne_iff_ne.mpr c8
     obtain rfl := Option.some.inj H
     go_wp2
     go_ret
     exact ⟨rS, by repeat (first | exact Drawn0.refl _ | apply Drawn0.step)⟩
end Go.Proofs.YtifmkgkiipckbaaDoor.P
