/- A part of the proof of CorsLess: texts of walks and plain lemmas. -/
import Derived.Test.YtifmkgkiipckbaaDoorX1
import Derived.Test.YtifmkgkiipckbaaDoorX2
import Derived.Test.YtifmkgkiipckbaaDoorX3
import Derived.Test.YtifmkgkiipckbaaDoorX4
namespace Go.Proofs.YtifmkgkiipckbaaDoor.P
open Go.RowKit Go.Proofs.YtifmkgkiipckbaaDoorW.PrintWords Go.Proofs.YtifmkgkiipckbaaDoorW.PrintLast Go.Proofs.YtifmkgkiipckbaaDoorW.PrintMore
attribute [local go_sem] max2_int min2_int max_two min_two max_three min_three max_four min_four
set_option linter.unusedVariables false
set_option linter.unusedSimpArgs false
mutual
def ostiaryref2_Numbered.l0 : Nat → ByteArray → Bool → Int → Option (Bool)
 | 0, _, _, _ => none
 | k + 1, x4, x5, x6 => if x6 < (x4.size : Int) then (if x5 = true then (if 0 ≤ x6 then ((ostiaryref1_Digit.f (bt x4 x6)).bind fun t326 => (ostiaryref2_Numbered.l0 k x4 t326 (wrap64 (x6 + 1)))) else (none)) else (ostiaryref2_Numbered.l0 k x4 false (wrap64 (x6 + 1)))) else (if x5 = true then (some true) else ((ostiaryref1_Begins.f x4 (⟨#[48, 120]⟩ : ByteArray)).bind fun t327 => (if t327 = true then (ostiaryref2_Numbered.j1 k x4 false) else ((ostiaryref1_Begins.f x4 (⟨#[48, 88]⟩ : ByteArray)).bind fun t328 => (ostiaryref2_Numbered.j1 k x4 (!t328))))))
def ostiaryref2_Numbered.j1 : Nat → ByteArray → Bool → Option (Bool)
 | 0, _, _ => none
 | k + 1, x4, x40 => if x40 = true then (some false) else (ostiaryref2_Numbered.l1 k x4 2)
def ostiaryref2_Numbered.l1 : Nat → ByteArray → Int → Option (Bool)
 | 0, _, _ => none
 | k + 1, x4, x7 => if x7 < (x4.size : Int) then (if 0 ≤ x7 then ((ostiaryref1_Hex.f k (bt x4 x7)).bind fun t329 => (if t329 < 0 then (some false) else (ostiaryref2_Numbered.l1 k x4 (wrap64 (x7 + 1))))) else (none)) else (some true)
end
def ostiaryref2_Numbered.f (k : Nat) (a0 : ByteArray) : Option (Bool) := (ostiaryref2_labels.f k a0).bind fun t322 => (if 0 ≤ (wrap64 ((t322.length : Int) - 1)) then (if (wrap64 ((t322.length : Int) - 1)) < (t322.length : Int) then (ostiaryref2_Numbered.l0 k (rdOf ByteArray.empty t322 (wrap64 ((t322.length : Int) - 1))) (decide (((rdOf ByteArray.empty t322 (wrap64 ((t322.length : Int) - 1))).size : Int) > 0)) 0) else (none)) else (none))
theorem ostiaryref2_Numbered.mono_l : ∀ k, (∀ y0 y1 y2, LeO (ostiaryref2_Numbered.l0 k y0 y1 y2) (ostiaryref2_Numbered.l0 (k + 1) y0 y1 y2)) ∧ (∀ y0 y1, LeO (ostiaryref2_Numbered.j1 k y0 y1) (ostiaryref2_Numbered.j1 (k + 1) y0 y1)) ∧ (∀ y0 y1, LeO (ostiaryref2_Numbered.l1 k y0 y1) (ostiaryref2_Numbered.l1 (k + 1) y0 y1))
 | 0 => ⟨fun _ _ _ r h => by simp [ostiaryref2_Numbered.l0] at h, fun _ _ r h => by simp [ostiaryref2_Numbered.j1] at h, fun _ _ r h => by simp [ostiaryref2_Numbered.l1] at h⟩
 | k + 1 => by
  obtain ⟨ih0, ih1, ih2⟩ := ostiaryref2_Numbered.mono_l k
  refine ⟨?_, ?_, ?_⟩
  ·intro y0 y1 y2
   unfold ostiaryref2_Numbered.l0
   repeat' first
   | (with_reducible exact ih0 _ _ _)
   | (with_reducible exact ih1 _ _)
   | (with_reducible exact ih2 _ _)
   | (with_reducible exact ostiaryref1_Hex.mono _ _)
   | (with_reducible exact ostiaryref2_labels.mono _ _)
   | (with_reducible exact LeO.refl _)
   | (with_reducible exact LeO.none _)
   | (with_reducible refine LeO.ite ?_ ?_)
   | (with_reducible refine LeO.bind ?_ (fun _ => ?_))
   | exact ih0 _ _ _
   | exact ih1 _ _
   | exact ih2 _ _
   | exact ostiaryref1_Hex.mono _ _
   | exact ostiaryref2_labels.mono _ _
   | exact LeO.none _
   | refine LeO.ite ?_ ?_
   | refine LeO.bind ?_ (fun _ => ?_)
  ·intro y0 y1
   unfold ostiaryref2_Numbered.j1
   repeat' first
   | (with_reducible exact ih0 _ _ _)
   | (with_reducible exact ih1 _ _)
   | (with_reducible exact ih2 _ _)
   | (with_reducible exact ostiaryref1_Hex.mono _ _)
   | (with_reducible exact ostiaryref2_labels.mono _ _)
   | (with_reducible exact LeO.refl _)
   | (with_reducible exact LeO.none _)
   | (with_reducible refine LeO.ite ?_ ?_)
   | (with_reducible refine LeO.bind ?_ (fun _ => ?_))
   | exact ih0 _ _ _
   | exact ih1 _ _
   | exact ih2 _ _
   | exact ostiaryref1_Hex.mono _ _
   | exact ostiaryref2_labels.mono _ _
   | exact LeO.none _
   | refine LeO.ite ?_ ?_
   | refine LeO.bind ?_ (fun _ => ?_)
  ·intro y0 y1
   unfold ostiaryref2_Numbered.l1
   repeat' first
   | (with_reducible exact ih0 _ _ _)
   | (with_reducible exact ih1 _ _)
   | (with_reducible exact ih2 _ _)
   | (with_reducible exact ostiaryref1_Hex.mono _ _)
   | (with_reducible exact ostiaryref2_labels.mono _ _)
   | (with_reducible exact LeO.refl _)
   | (with_reducible exact LeO.none _)
   | (with_reducible refine LeO.ite ?_ ?_)
   | (with_reducible refine LeO.bind ?_ (fun _ => ?_))
   | exact ih0 _ _ _
   | exact ih1 _ _
   | exact ih2 _ _
   | exact ostiaryref1_Hex.mono _ _
   | exact ostiaryref2_labels.mono _ _
   | exact LeO.none _
   | refine LeO.ite ?_ ?_
   | refine LeO.bind ?_ (fun _ => ?_)
theorem ostiaryref2_Numbered.mono : ∀ a0 k, LeO (ostiaryref2_Numbered.f k a0) (ostiaryref2_Numbered.f (k + 1) a0) := by
 intro a0 k
 obtain ⟨ih0, ih1, ih2⟩ := ostiaryref2_Numbered.mono_l k
 unfold ostiaryref2_Numbered.f
 repeat' first
   | (with_reducible exact ih0 _ _ _)
   | (with_reducible exact ih1 _ _)
   | (with_reducible exact ih2 _ _)
   | (with_reducible exact ostiaryref1_Hex.mono _ _)
   | (with_reducible exact ostiaryref2_labels.mono _ _)
   | (with_reducible exact LeO.refl _)
   | (with_reducible exact LeO.none _)
   | (with_reducible refine LeO.ite ?_ ?_)
   | (with_reducible refine LeO.bind ?_ (fun _ => ?_))
   | exact ih0 _ _ _
   | exact ih1 _ _
   | exact ih2 _ _
   | exact ostiaryref1_Hex.mono _ _
   | exact ostiaryref2_labels.mono _ _
   | exact LeO.none _
   | refine LeO.ite ?_ ?_
   | refine LeO.bind ?_ (fun _ => ?_)
set_option maxHeartbeats 8000000 in
set_option maxRecDepth 100000 in
theorem ostiaryref2_Numbered.calls (k : Nat) (a0 : ByteArray) (r : Bool) (w : World) (h : ostiaryref2_Numbered.f k a0 = some r) :
  Calls Tryd.prog 204 #[.string a0] w fun e w' => e = .returned (.bool r) ∧ Below w.heap.size w w' := by
 have HB := Aside0.mk (Below.refl w.heap.size w)
 have H : ((ostiaryref2_labels.f k a0).bind fun t322 => (if 0 ≤ (wrap64 ((t322.length : Int) - 1)) then (if (wrap64 ((t322.length : Int) - 1)) < (t322.length : Int) then (ostiaryref2_Numbered.l0 k (rdOf ByteArray.empty t322 (wrap64 ((t322.length : Int) - 1))) (decide (((rdOf ByteArray.empty t322 (wrap64 ((t322.length : Int) - 1))).size : Int) > 0)) 0) else (none)) else (none))) = some r := h
 clear h
 replace H := Option.bind_eq_some_iff.mp H
 obtain ⟨t322, A20, H⟩ := H
 replace H : (if 0 ≤ (wrap64 ((t322.length : Int) - 1)) then (if (wrap64 ((t322.length : Int) - 1)) < (t322.length : Int) then (ostiaryref2_Numbered.l0 k (rdOf ByteArray.empty t322 (wrap64 ((t322.length : Int) - 1))) (decide (((rdOf ByteArray.empty t322 (wrap64 ((t322.length : Int) - 1))).size : Int) > 0)) 0) else (none)) else (none)) = some r := H
 have A2 := Aside0.mk A20
 clear A20
 obtain ⟨ji3, hji3⟩ : ∃ j_ : Int, (wrap64 ((t322.length : Int) - 1)) = j_ := ⟨_, rfl⟩
 replace H : (if 0 ≤ (ji3) then (if (ji3) < (t322.length : Int) then (ostiaryref2_Numbered.l0 k (rdOf ByteArray.empty t322 (ji3)) (decide (((rdOf ByteArray.empty t322 (ji3)).size : Int) > 0)) 0) else (none)) else (none)) = some r := by first | (rw [hji3] at H; exact H) | (simp only [hji3] at H ⊢; exact H)
 (try rw [hji3] at A2)
 have hji3w : (IntKind.i64.wrap ((t322.length : Int) - 1)) = ji3 := (i64_w _).trans hji3
 by_cases c4 : 0 ≤ (ji3)
 ·rw [if_pos c4] at H
  have c4b0 : decide (0 ≤ (ji3)) = true := decide_eq_true c4
  clear c4
  by_cases c5 : (ji3) < (t322.length : Int)
  ·rw [if_pos c5] at H
   have c5b0 : decide ((ji3) < (t322.length : Int)) = true := decide_eq_true c5
   clear c5
   have H' := Aside0.mk H
   clear H
   go_enter Tryd.func204, Tryd.ntmps204
   go_wp2_with (first | ((with_reducible refine gate_callee (f := 216) rfl ?_); refine goesL_ (some 9) rfl rfl Tryd.func216 q2_ rfl #[.string a0] rfl tS ?_; (with_reducible refine (ostiaryref2_labels.calls k a0 t322 _ A2.out).mono ?_); rintro e w6 ⟨v323, rfl, ho0, hb⟩; refine ⟨_, rfl, ?_⟩; have n0_ := Aside0.mk (Kd.R_lower ho0 (below_size hB)); have n1_ := Aside0.mk (below_step hB hb); clear HB; have HO324 := n0_; have HB := n1_; clear n0_ n1_; (try clear hb); (try clear hb2); (try clear hk); (try clear hi); (try clear ho0); obtain ⟨Ao7, co7, eo7⟩ := Kd.R_slice HO324.out; subst eo7; have p325 : 0 ≤ ((ji3) : Int) := of_decide_eq_true aS; have q325 : (ji3) < (t322.length : Int) := of_decide_eq_true aS; obtain ⟨ad325, e325, hx325_0⟩ := Kd.at_string (Kd.R_reads' HO324.out).2.2 (ji3) p325 q325; cases e325; replace p325 := eq_true p325; replace q325 := eq_true q325))
   go_loopg [5, 6] k (fun kq v5 v6 w' => ∃ (x5_1 : Bool) (x6_1 : Int), v5 = .bool x5_1 ∧ v6 = .int .i64 x6_1 ∧ Aside0 (ostiaryref2_Numbered.l0 kq (rdOf ByteArray.empty t322 (ji3)) x5_1 x6_1 = some r) ∧ Aside0 (kq ≤ k) ∧ Aside0 (Below w.heap.size w w'))
   case atStart => exact ⟨(decide (((rdOf ByteArray.empty t322 (ji3)).size : Int) > 0)), (0), (by first | rfl | (simp; done) | (simp only [← hji3] <;> (first | rfl | simp)) | (simp [*]; done)), rS, H', ⟨Nat.le_refl _⟩, ⟨by repeat (first | (with_reducible first | exact HB.out | apply below_alloc | apply pw_below_drewN | apply below_drew1) | exact HB.out)⟩⟩
   case round =>
    clear H'
    try clear c2
    try clear p2
    try clear p3
    try clear q3
    try clear hx3
    try clear c4
    try clear c4b0
    try clear c5
    try clear c5b0
    try clear p6
    try clear hx325_0
    try clear p325
    try clear q325
    obtain ⟨x5_1, x6_1, rfl, rfl, HA, HK1, HB⟩ := hrel
    cases gk with
    | zero => exact absurd HA.out (by simp [ostiaryref2_Numbered.l0])
    | succ k1 =>
     have H := HA.out
     clear HA
     simp only [ostiaryref2_Numbered.l0] at H
     by_cases c8 : x6_1 < ((rdOf ByteArray.empty t322 (ji3)).size : Int)
     ·rw [if_pos c8] at H
      have c8b0 : decide (x6_1 < ((rdOf ByteArray.empty t322 (ji3)).size : Int)) = true := decide_eq_true c8
      clear c8
      by_cases c9 : x5_1 = true
      ·subst c9
       have H1 : (if 0 ≤ x6_1 then ((ostiaryref1_Digit.f (bt (rdOf ByteArray.empty t322 (ji3)) x6_1)).bind fun t326 => (ostiaryref2_Numbered.l0 k1 (rdOf ByteArray.empty t322 (ji3)) t326 (wrap64 (x6_1 + 1)))) else (none)) = some r := by rw [if_pos rfl] at H; exact H
       clear H
       have H := H1
       clear H1
       by_cases c10 : 0 ≤ x6_1
       ·rw [if_pos c10] at H
        have c10b0 : decide (0 ≤ x6_1) = true := decide_eq_true c10
        clear c10
        replace H := Option.bind_eq_some_iff.mp H
        obtain ⟨t326, A120, H⟩ := H
        replace H : (ostiaryref2_Numbered.l0 k1 (rdOf ByteArray.empty t322 (ji3)) t326 (wrap64 (x6_1 + 1))) = some r := H
        have A12 := Aside0.mk A120
        clear A120
        have H' := Aside0.mk H
        clear H
        have p11 : 0 ≤ (x6_1 : Int) := of_decide_eq_true aS
        have q11 : x6_1 < ((rdOf ByteArray.empty t322 (ji3)).size : Int) := of_decide_eq_true aS
        have hx11 := bt_at (rdOf ByteArray.empty t322 (ji3)) x6_1
        replace p11 := eq_true p11
        replace q11 := eq_true q11
        go_wp2_with (first | (go_at_call 130; (with_reducible refine (ostiaryref1_Digit.calls (bt (rdOf ByteArray.empty t322 (ji3)) x6_1) t326 _ A12.out).mono ?_); rintro e w' ⟨rfl, ⟨nd, rfl⟩⟩))
        go_roundg k1
        case measure => have := HK1.out; omega
        case rel => exact ⟨(t326), (wrap64 (x6_1 + 1)), rS, rS, H', ⟨by have := HK1.out; omega⟩, ⟨by repeat (first | (with_reducible first | exact HB.out | apply below_alloc | apply pw_below_drewN | apply below_drew1) | exact HB.out)⟩⟩
       ·rw [if_neg c10] at H
        exact absurd H (by simp)
      ·replace c9 := Bool.eq_false_iff.mpr c9
       subst c9
       have H1 : (ostiaryref2_Numbered.l0 k1 (rdOf ByteArray.empty t322 (ji3)) false (wrap64 (x6_1 + 1))) = some r := by rw [if_neg (show ¬ (false = true) by decide)] at H; exact H
       clear H
       have H := H1
       clear H1
       have H' := Aside0.mk H
       clear H
       go_wp2
       go_roundg k1
       case measure => have := HK1.out; omega
       case rel => exact ⟨(false), (wrap64 (x6_1 + 1)), rS, rS, H', ⟨by have := HK1.out; omega⟩, ⟨by repeat (first | (with_reducible first | exact HB.out | apply below_alloc | apply pw_below_drewN | apply below_drew1) | exact HB.out)⟩⟩
     ·rw [if_neg c8] at H
      have c8b0 : decide (x6_1 < ((rdOf ByteArray.empty t322 (ji3)).size : Int)) = false := decide_eq_false c8
      clear c8
      by_cases c13 : x5_1 = true
      ·subst c13
       have H1 : (some true) = some r := by rw [if_pos rfl] at H; exact H
       clear H
       have H := H1
       clear H1
       obtain rfl := Option.some.inj H
       go_wp2
       go_ret
       exact ⟨by first | rfl | (simp [errW_none, errW_some] <;> rfl) | (simp only [← hji3]; first | rfl | (simp [errW_none, errW_some] <;> rfl)) | (simp [*, errW_none, errW_some] <;> rfl), by repeat (first | (with_reducible first | exact HB.out | apply below_alloc | apply pw_below_drewN | apply below_drew1) | exact HB.out)⟩
      ·replace c13 := Bool.eq_false_iff.mpr c13
       subst c13
       have H1 : ((ostiaryref1_Begins.f (rdOf ByteArray.empty t322 (ji3)) (⟨#[48, 120]⟩ : ByteArray)).bind fun t327 => (if t327 = true then (ostiaryref2_Numbered.j1 k1 (rdOf ByteArray.empty t322 (ji3)) false) else ((ostiaryref1_Begins.f (rdOf ByteArray.empty t322 (ji3)) (⟨#[48, 88]⟩ : ByteArray)).bind fun t328 => (ostiaryref2_Numbered.j1 k1 (rdOf ByteArray.empty t322 (ji3)) (!t328))))) = some r := by rw [if_neg (show ¬ (false = true) by decide)] at H; exact H
       clear H
       have H := H1
       clear H1
       have HC14 := Aside0.mk H
       clear H
       go_upto_region 10 with (fail)
       go_cut [40] (fun v40 wc => ∃ (kq : Nat) (x40_13 : Bool), v40 = .bool x40_13 ∧ Aside0 (ostiaryref2_Numbered.j1 kq (rdOf ByteArray.empty t322 (ji3)) x40_13 = some r) ∧ Aside0 (kq ≤ k1) ∧ Aside0 (Below w.heap.size w wc))
       case first =>
        have H := HC14.out
        clear HC14
        replace H := Option.bind_eq_some_iff.mp H
        obtain ⟨t327, A150, H⟩ := H
        replace H : (if t327 = true then (ostiaryref2_Numbered.j1 k1 (rdOf ByteArray.empty t322 (ji3)) false) else ((ostiaryref1_Begins.f (rdOf ByteArray.empty t322 (ji3)) (⟨#[48, 88]⟩ : ByteArray)).bind fun t328 => (ostiaryref2_Numbered.j1 k1 (rdOf ByteArray.empty t322 (ji3)) (!t328)))) = some r := H
        have A15 := Aside0.mk A150
        clear A150
        by_cases c16 : t327 = true
        ·subst c16
         have H1 : (ostiaryref2_Numbered.j1 k1 (rdOf ByteArray.empty t322 (ji3)) false) = some r := by rw [if_pos rfl] at H; exact H
         clear H
         have H := H1
         clear H1
         have H' := Aside0.mk H
         clear H
         go_wp2_with (first | ((with_reducible refine gate_callee (f := 134) rfl ?_); refine goesL_ (some 34) rfl rfl Tryd.func134 q2_ rfl #[.string (rdOf ByteArray.empty t322 (ji3)), .string (⟨#[48, 120]⟩ : ByteArray)] rfl (by (try simp only [List.map_toArray, List.map_cons, List.map_nil]); first | done | (simp only [hji3]; rfl) | rfl | (simp only [List.length_drop, List.length_take]; rfl)) ?_; (with_reducible refine (ostiaryref1_Begins.calls (rdOf ByteArray.empty t322 (ji3)) (⟨#[48, 120]⟩ : ByteArray) true _ A15.out).mono ?_); rintro e w' ⟨rfl, ⟨nd, rfl⟩⟩; refine ⟨_, rfl, ?_⟩))
         go_meet
         case rel => exact ⟨_, (false), rS, H', ⟨by have := HK1.out; first | omega | exact Nat.le_refl _⟩, ⟨by repeat (first | (with_reducible first | exact HB.out | apply below_alloc | apply pw_below_drewN | apply below_drew1) | exact HB.out)⟩⟩
        ·replace c16 := Bool.eq_false_iff.mpr c16
         subst c16
         have H1 : ((ostiaryref1_Begins.f (rdOf ByteArray.empty t322 (ji3)) (⟨#[48, 88]⟩ : ByteArray)).bind fun t328 => (ostiaryref2_Numbered.j1 k1 (rdOf ByteArray.empty t322 (ji3)) (!t328))) = some r := by rw [if_neg (show ¬ (false = true) by decide)] at H; exact H
         clear H
         have H := H1
         clear H1
         replace H := Option.bind_eq_some_iff.mp H
         obtain ⟨t328, A170, H⟩ := H
         replace H : (ostiaryref2_Numbered.j1 k1 (rdOf ByteArray.empty t322 (ji3)) (!t328)) = some r := H
         have A17 := Aside0.mk A170
         clear A170
         have H' := Aside0.mk H
         clear H
         have tok0 : True := trivial
         have tok1 : True := trivial
         go_wp2_with (first | (revert tok0; intro tok0; (with_reducible refine gate_callee (f := 134) rfl ?_); refine goesL_ (some 34) rfl rfl Tryd.func134 q2_ rfl #[.string (rdOf ByteArray.empty t322 (ji3)), .string (⟨#[48, 120]⟩ : ByteArray)] rfl (by (try simp only [List.map_toArray, List.map_cons, List.map_nil]); first | done | (simp only [hji3]; rfl) | rfl | (simp only [List.length_drop, List.length_take]; rfl)) ?_; (with_reducible refine (ostiaryref1_Begins.calls (rdOf ByteArray.empty t322 (ji3)) (⟨#[48, 120]⟩ : ByteArray) false _ A15.out).mono ?_); rintro e w' ⟨rfl, ⟨nd, rfl⟩⟩; refine ⟨_, rfl, ?_⟩; clear tok0) | (revert tok1; intro tok1; go_at_call 134; (with_reducible refine (ostiaryref1_Begins.calls (rdOf ByteArray.empty t322 (ji3)) (⟨#[48, 88]⟩ : ByteArray) t328 _ A17.out).mono ?_); rintro e w' ⟨rfl, ⟨nd, rfl⟩⟩; clear tok1))
         go_meet
         case rel => exact ⟨_, (!t328), rS, H', ⟨by have := HK1.out; first | omega | exact Nat.le_refl _⟩, ⟨by repeat (first | (with_reducible first | exact HB.out | apply below_alloc | apply pw_below_drewN | apply below_drew1) | exact HB.out)⟩⟩
       case rest =>
        clear HC14
        try clear c1
        try clear p1
        try clear q1
        try clear hx1
        try clear c2
        try clear p2
        try clear p3
        try clear q3
        try clear hx3
        try clear c4
        try clear c4b0
        try clear c5
        try clear c5b0
        try clear p6
        try clear c8
        try clear c8b0
        try clear c9
        try clear c10
        try clear c10b0
        try clear p11
        try clear q11
        try clear hx11
        try clear c13
        try clear c16
        try clear hx325_0
        try clear p11
        try clear p2
        try clear p3
        try clear p325
        try clear p6
        try clear q11
        try clear q3
        try clear q325
        obtain ⟨kq, x40_13, rfl, HA, HJ13, HB⟩ := hcut
        cases kq with
        | zero => exact absurd HA.out (by simp [ostiaryref2_Numbered.j1])
        | succ kj13 =>
         have H := HA.out
         clear HA
         simp only [ostiaryref2_Numbered.j1] at H
         by_cases c18 : x40_13 = true
         ·subst c18
          have H1 : (some false) = some r := by rw [if_pos rfl] at H; exact H
          clear H
          have H := H1
          clear H1
          obtain rfl := Option.some.inj H
          go_wp2
          go_ret
          exact ⟨by first | rfl | (simp [errW_none, errW_some] <;> rfl) | (simp only [← hji3]; first | rfl | (simp [errW_none, errW_some] <;> rfl)) | (simp [*, errW_none, errW_some] <;> rfl), by repeat (first | (with_reducible first | exact HB.out | apply below_alloc | apply pw_below_drewN | apply below_drew1) | exact HB.out)⟩
         ·replace c18 := Bool.eq_false_iff.mpr c18
          subst c18
          have H1 : (ostiaryref2_Numbered.l1 kj13 (rdOf ByteArray.empty t322 (ji3)) 2) = some r := by rw [if_neg (show ¬ (false = true) by decide)] at H; exact H
          clear H
          have H := H1
          clear H1
          have H' := Aside0.mk H
          clear H
          go_wp2
          go_loopg [7] kj13 (fun kq v7 w' => ∃ (x7_3 : Int), v7 = .int .i64 x7_3 ∧ Aside0 (ostiaryref2_Numbered.l1 kq (rdOf ByteArray.empty t322 (ji3)) x7_3 = some r) ∧ Aside0 (kq ≤ kj13) ∧ Aside0 (Below w.heap.size w w'))
          case atStart => exact ⟨(2), rS, H', ⟨Nat.le_refl _⟩, ⟨by repeat (first | (with_reducible first | exact HB.out | apply below_alloc | apply pw_below_drewN | apply below_drew1) | exact HB.out)⟩⟩
          case round =>
           clear H'
           try clear c1
           try clear p1
           try clear q1
           try clear hx1
           try clear c2
           try clear p2
           try clear p3
           try clear q3
           try clear hx3
           try clear c4
           try clear c4b0
           try clear c5
           try clear c5b0
           try clear p6
           try clear c8
           try clear c8b0
           try clear c9
           try clear c10
           try clear c10b0
           try clear p11
           try clear q11
           try clear hx11
           try clear c13
           try clear c16
           try clear c18
           try clear hx325_0
           try clear p1
           try clear p11
           try clear p2
           try clear p3
           try clear p325
           try clear p6
           try clear q1
           try clear q11
           try clear q3
           try clear q325
           obtain ⟨x7_3, rfl, HA, HK3, HB⟩ := hrel
           cases gk with
           | zero => exact absurd HA.out (by simp [ostiaryref2_Numbered.l1])
           | succ k3 =>
            have H := HA.out
            clear HA
            simp only [ostiaryref2_Numbered.l1] at H
            by_cases c19 : x7_3 < ((rdOf ByteArray.empty t322 (ji3)).size : Int)
            ·rw [if_pos c19] at H
             have c19b0 : decide (x7_3 < ((rdOf ByteArray.empty t322 (ji3)).size : Int)) = true := decide_eq_true c19
             clear c19
             by_cases c20 : 0 ≤ x7_3
             ·rw [if_pos c20] at H
              have c20b0 : decide (0 ≤ x7_3) = true := decide_eq_true c20
              clear c20
              replace H := Option.bind_eq_some_iff.mp H
              obtain ⟨t329, A220, H⟩ := H
              replace H : (if t329 < 0 then (some false) else (ostiaryref2_Numbered.l1 k3 (rdOf ByteArray.empty t322 (ji3)) (wrap64 (x7_3 + 1)))) = some r := H
              have A22 := Aside0.mk A220
              clear A220
              by_cases c23 : t329 < 0
              ·rw [if_pos c23] at H
               have c23b0 : decide (t329 < 0) = true := decide_eq_true c23
               clear c23
               obtain rfl := Option.some.inj H
               have p21 : 0 ≤ (x7_3 : Int) := of_decide_eq_true aS
               have q21 : x7_3 < ((rdOf ByteArray.empty t322 (ji3)).size : Int) := of_decide_eq_true aS
               have hx21 := bt_at (rdOf ByteArray.empty t322 (ji3)) x7_3
               replace p21 := eq_true p21
               replace q21 := eq_true q21
               go_wp2_with (first | ((with_reducible refine gate_callee (f := 215) rfl ?_); refine goesL_ (some 50) rfl rfl Tryd.func215 q2_ rfl #[.int .u8 (bt (rdOf ByteArray.empty t322 (ji3)) x7_3)] rfl (by (try simp only [List.map_toArray, List.map_cons, List.map_nil]); first | done | (simp only [hji3]; rfl) | rfl | (simp only [List.length_drop, List.length_take]; rfl)) ?_; (with_reducible refine (ostiaryref1_Hex.calls k3 (bt (rdOf ByteArray.empty t322 (ji3)) x7_3) t329 _ A22.out).mono ?_); rintro e w' ⟨rfl, ⟨nd, rfl⟩⟩; refine ⟨_, rfl, ?_⟩))
               go_ret
               exact ⟨by first | rfl | (simp [errW_none, errW_some] <;> rfl) | (simp only [← hji3]; first | rfl | (simp [errW_none, errW_some] <;> rfl)) | (simp [*, errW_none, errW_some] <;> rfl), by repeat (first | (with_reducible first | exact HB.out | apply below_alloc | apply pw_below_drewN | apply below_drew1) | exact HB.out)⟩
              ·rw [if_neg c23] at H
               have c23b0 : decide (t329 < 0) = false := decide_eq_false c23
               clear c23
               have H' := Aside0.mk H
               clear H
               have p21 : 0 ≤ (x7_3 : Int) := of_decide_eq_true aS
               have q21 : x7_3 < ((rdOf ByteArray.empty t322 (ji3)).size : Int) := of_decide_eq_true aS
               have hx21 := bt_at (rdOf ByteArray.empty t322 (ji3)) x7_3
               replace p21 := eq_true p21
               replace q21 := eq_true q21
               go_wp2_with (first | ((with_reducible refine gate_callee (f := 215) rfl ?_); refine goesL_ (some 50) rfl rfl Tryd.func215 q2_ rfl #[.int .u8 (bt (rdOf ByteArray.empty t322 (ji3)) x7_3)] rfl (by (try simp only [List.map_toArray, List.map_cons, List.map_nil]); first | done | (simp only [hji3]; rfl) | rfl | (simp only [List.length_drop, List.length_take]; rfl)) ?_; (with_reducible refine (ostiaryref1_Hex.calls k3 (bt (rdOf ByteArray.empty t322 (ji3)) x7_3) t329 _ A22.out).mono ?_); rintro e w' ⟨rfl, ⟨nd, rfl⟩⟩; refine ⟨_, rfl, ?_⟩))
               go_roundg k3
               case measure => have := HK1.out; have := HJ13.out; have := HK3.out; omega
               case rel => exact ⟨(wrap64 (x7_3 + 1)), rS, H', ⟨by have := HK1.out; have := HJ13.out; have := HK3.out; omega⟩, ⟨by repeat (first | (with_reducible first | exact HB.out | apply below_alloc | apply pw_below_drewN | apply below_drew1) | exact HB.out)⟩⟩
             ·rw [if_neg c20] at H
              exact absurd H (by simp)
            ·rw [if_neg c19] at H
             have c19b0 : decide (x7_3 < ((rdOf ByteArray.empty t322 (ji3)).size : Int)) = false := decide_eq_false c19
             clear c19
             obtain rfl := Option.some.inj H
             go_wp2
             go_ret
             exact ⟨by first | rfl | (simp [errW_none, errW_some] <;> rfl) | (simp only [← hji3]; first | rfl | (simp [errW_none, errW_some] <;> rfl)) | (simp [*, errW_none, errW_some] <;> rfl), by repeat (first | (with_reducible first | exact HB.out | apply below_alloc | apply pw_below_drewN | apply below_drew1) | exact HB.out)⟩
  ·rw [if_neg c5] at H
   exact absurd H (by simp)
 ·rw [if_neg c4] at H
  exact absurd H (by simp)
end Go.Proofs.YtifmkgkiipckbaaDoor.P
namespace Go.Proofs.YtifmkgkiipckbaaDoor.P
open Go.RowKit Go.Proofs.YtifmkgkiipckbaaDoorW.PrintWords Go.Proofs.YtifmkgkiipckbaaDoorW.PrintLast Go.Proofs.YtifmkgkiipckbaaDoorW.PrintMore
attribute [local go_sem] max2_int min2_int max_two min_two max_three min_three max_four min_four
set_option linter.unusedVariables false
set_option linter.unusedSimpArgs false
mutual
def ostiaryref2_number.j0 : Nat → ByteArray → Int → Bool → Option (Int × Bool)
 | 0, _, _, _ => none
 | k + 1, x0, x4, x13 => if x13 = true then (if 2 ≤ (x0.size : Int) then (if (x0.extract 2 x0.size).toList = ([] : List UInt8) then (some (0, true)) else (ostiaryref2_number.j1 k (x0.extract 2 x0.size) 16)) else (none)) else (if (x0.size : Int) > 1 then (if 0 < (x0.size : Int) then (if (bt x0 0) = 48 then (if 1 ≤ (x0.size : Int) then (ostiaryref2_number.j1 k (x0.extract 1 x0.size) 8) else (none)) else (ostiaryref2_number.j1 k x0 x4)) else (none)) else (ostiaryref2_number.j1 k x0 x4))
def ostiaryref2_number.j1 : Nat → ByteArray → Int → Option (Int × Bool)
 | 0, _, _ => none
 | k + 1, x0, x4 => ostiaryref2_number.l0 k x0 x4 0 0
def ostiaryref2_number.l0 : Nat → ByteArray → Int → Int → Int → Option (Int × Bool)
 | 0, _, _, _, _ => none
 | k + 1, x0, x4, x5, x6 => if x6 < (x0.size : Int) then (if 0 ≤ x6 then ((ostiaryref1_Hex.f k (bt x0 x6)).bind fun t307 => (if t307 < 0 then (ostiaryref2_number.j3 k x0 x4 x5 x6 t307 true) else (ostiaryref2_number.j3 k x0 x4 x5 x6 t307 (decide ((IntKind.u64.wrap (t307)) ≥ x4))))) else (none)) else (some (x5, decide ((x0.size : Int) > 0)))
def ostiaryref2_number.j3 : Nat → ByteArray → Int → Int → Int → Int → Bool → Option (Int × Bool)
 | 0, _, _, _, _, _, _ => none
 | k + 1, x0, x4, x5, x6, x7, x45 => if x45 = true then (some (0, false)) else (if (IntKind.u64.wrap ((IntKind.u64.wrap (x5 * x4)) + (IntKind.u64.wrap (x7)))) > 1099511627776 then (ostiaryref2_number.l0 k x0 x4 1099511627776 (wrap64 (x6 + 1))) else (ostiaryref2_number.l0 k x0 x4 (IntKind.u64.wrap ((IntKind.u64.wrap (x5 * x4)) + (IntKind.u64.wrap (x7)))) (wrap64 (x6 + 1))))
end
def ostiaryref2_number.f (k : Nat) (a0 : ByteArray) : Option (Int × Bool) := (ostiaryref1_Begins.f a0 (⟨#[48, 120]⟩ : ByteArray)).bind fun t305 => (if t305 = true then (ostiaryref2_number.j0 k a0 10 true) else ((ostiaryref1_Begins.f a0 (⟨#[48, 88]⟩ : ByteArray)).bind fun t306 => (ostiaryref2_number.j0 k a0 10 t306)))
theorem ostiaryref2_number.mono_l : ∀ k, (∀ y0 y1 y2, LeO (ostiaryref2_number.j0 k y0 y1 y2) (ostiaryref2_number.j0 (k + 1) y0 y1 y2)) ∧ (∀ y0 y1, LeO (ostiaryref2_number.j1 k y0 y1) (ostiaryref2_number.j1 (k + 1) y0 y1)) ∧ (∀ y0 y1 y2 y3, LeO (ostiaryref2_number.l0 k y0 y1 y2 y3) (ostiaryref2_number.l0 (k + 1) y0 y1 y2 y3)) ∧ (∀ y0 y1 y2 y3 y4 y5, LeO (ostiaryref2_number.j3 k y0 y1 y2 y3 y4 y5) (ostiaryref2_number.j3 (k + 1) y0 y1 y2 y3 y4 y5))
 | 0 => ⟨fun _ _ _ r h => by simp [ostiaryref2_number.j0] at h, fun _ _ r h => by simp [ostiaryref2_number.j1] at h, fun _ _ _ _ r h => by simp [ostiaryref2_number.l0] at h, fun _ _ _ _ _ _ r h => by simp [ostiaryref2_number.j3] at h⟩
 | k + 1 => by
  obtain ⟨ih0, ih1, ih2, ih3⟩ := ostiaryref2_number.mono_l k
  refine ⟨?_, ?_, ?_, ?_⟩
  ·intro y0 y1 y2
   unfold ostiaryref2_number.j0
   repeat' first
   | (with_reducible exact ih0 _ _ _)
   | (with_reducible exact ih1 _ _)
   | (with_reducible exact ih2 _ _ _ _)
   | (with_reducible exact ih3 _ _ _ _ _ _)
   | (with_reducible exact ostiaryref1_Hex.mono _ _)
   | (with_reducible exact LeO.refl _)
   | (with_reducible exact LeO.none _)
   | (with_reducible refine LeO.ite ?_ ?_)
   | (with_reducible refine LeO.bind ?_ (fun _ => ?_))
   | exact ih0 _ _ _
   | exact ih1 _ _
   | exact ih2 _ _ _ _
   | exact ih3 _ _ _ _ _ _
   | exact ostiaryref1_Hex.mono _ _
   | exact LeO.none _
   | refine LeO.ite ?_ ?_
   | refine LeO.bind ?_ (fun _ => ?_)
  ·intro y0 y1
   unfold ostiaryref2_number.j1
   repeat' first
   | (with_reducible exact ih0 _ _ _)
   | (with_reducible exact ih1 _ _)
   | (with_reducible exact ih2 _ _ _ _)
   | (with_reducible exact ih3 _ _ _ _ _ _)
   | (with_reducible exact ostiaryref1_Hex.mono _ _)
   | (with_reducible exact LeO.refl _)
   | (with_reducible exact LeO.none _)
   | (with_reducible refine LeO.ite ?_ ?_)
   | (with_reducible refine LeO.bind ?_ (fun _ => ?_))
   | exact ih0 _ _ _
   | exact ih1 _ _
   | exact ih2 _ _ _ _
   | exact ih3 _ _ _ _ _ _
   | exact ostiaryref1_Hex.mono _ _
   | exact LeO.none _
   | refine LeO.ite ?_ ?_
   | refine LeO.bind ?_ (fun _ => ?_)
  ·intro y0 y1 y2 y3
   unfold ostiaryref2_number.l0
   repeat' first
   | (with_reducible exact ih0 _ _ _)
   | (with_reducible exact ih1 _ _)
   | (with_reducible exact ih2 _ _ _ _)
   | (with_reducible exact ih3 _ _ _ _ _ _)
   | (with_reducible exact ostiaryref1_Hex.mono _ _)
   | (with_reducible exact LeO.refl _)
   | (with_reducible exact LeO.none _)
   | (with_reducible refine LeO.ite ?_ ?_)
   | (with_reducible refine LeO.bind ?_ (fun _ => ?_))
   | exact ih0 _ _ _
   | exact ih1 _ _
   | exact ih2 _ _ _ _
   | exact ih3 _ _ _ _ _ _
   | exact ostiaryref1_Hex.mono _ _
   | exact LeO.none _
   | refine LeO.ite ?_ ?_
   | refine LeO.bind ?_ (fun _ => ?_)
  ·intro y0 y1 y2 y3 y4 y5
   unfold ostiaryref2_number.j3
   repeat' first
   | (with_reducible exact ih0 _ _ _)
   | (with_reducible exact ih1 _ _)
   | (with_reducible exact ih2 _ _ _ _)
   | (with_reducible exact ih3 _ _ _ _ _ _)
   | (with_reducible exact ostiaryref1_Hex.mono _ _)
   | (with_reducible exact LeO.refl _)
   | (with_reducible exact LeO.none _)
   | (with_reducible refine LeO.ite ?_ ?_)
   | (with_reducible refine LeO.bind ?_ (fun _ => ?_))
   | exact ih0 _ _ _
   | exact ih1 _ _
   | exact ih2 _ _ _ _
   | exact ih3 _ _ _ _ _ _
   | exact ostiaryref1_Hex.mono _ _
   | exact LeO.none _
   | refine LeO.ite ?_ ?_
   | refine LeO.bind ?_ (fun _ => ?_)
theorem ostiaryref2_number.mono : ∀ a0 k, LeO (ostiaryref2_number.f k a0) (ostiaryref2_number.f (k + 1) a0) := by
 intro a0 k
 obtain ⟨ih0, ih1, ih2, ih3⟩ := ostiaryref2_number.mono_l k
 unfold ostiaryref2_number.f
 repeat' first
   | (with_reducible exact ih0 _ _ _)
   | (with_reducible exact ih1 _ _)
   | (with_reducible exact ih2 _ _ _ _)
   | (with_reducible exact ih3 _ _ _ _ _ _)
   | (with_reducible exact ostiaryref1_Hex.mono _ _)
   | (with_reducible exact LeO.refl _)
   | (with_reducible exact LeO.none _)
   | (with_reducible refine LeO.ite ?_ ?_)
   | (with_reducible refine LeO.bind ?_ (fun _ => ?_))
   | exact ih0 _ _ _
   | exact ih1 _ _
   | exact ih2 _ _ _ _
   | exact ih3 _ _ _ _ _ _
   | exact ostiaryref1_Hex.mono _ _
   | exact LeO.none _
   | refine LeO.ite ?_ ?_
   | refine LeO.bind ?_ (fun _ => ?_)
set_option maxHeartbeats 8000000 in
set_option maxRecDepth 100000 in
theorem ostiaryref2_number.calls (k : Nat) (a0 : ByteArray) (r1 : Int) (r2 : Bool) (w : World) (h : ostiaryref2_number.f k a0 = some (r1, r2)) :
  Calls Tryd.prog 217 #[.string a0] w fun e w' => e = .returned (.tuple #[.int .u64 r1, .bool r2]) ∧ Drawn0 w w' := by
 have H : ((ostiaryref1_Begins.f a0 (⟨#[48, 120]⟩ : ByteArray)).bind fun t305 => (if t305 = true then (ostiaryref2_number.j0 k a0 10 true) else ((ostiaryref1_Begins.f a0 (⟨#[48, 88]⟩ : ByteArray)).bind fun t306 => (ostiaryref2_number.j0 k a0 10 t306)))) = some (r1, r2) := h
 clear h
 have HC2 := Aside0.mk H
 clear H
 go_enter Tryd.func217, Tryd.ntmps217
 go_upto_region 2 with (fail)
 go_cut [13] (fun v13 wc => ∃ (kq : Nat) (x13_1 : Bool), v13 = .bool x13_1 ∧ Aside0 (ostiaryref2_number.j0 kq a0 10 x13_1 = some (r1, r2)) ∧ Aside0 (kq ≤ k) ∧ Drawn0 w wc)
 case first =>
  have H := HC2.out
  clear HC2
  replace H := Option.bind_eq_some_iff.mp H
  obtain ⟨t305, A30, H⟩ := H
  replace H : (if t305 = true then (ostiaryref2_number.j0 k a0 10 true) else ((ostiaryref1_Begins.f a0 (⟨#[48, 88]⟩ : ByteArray)).bind fun t306 => (ostiaryref2_number.j0 k a0 10 t306))) = some (r1, r2) := H
  have A3 := Aside0.mk A30
  clear A30
  by_cases c4 : t305 = true
  ·subst c4
   have H1 : (ostiaryref2_number.j0 k a0 10 true) = some (r1, r2) := by rw [if_pos rfl] at H; exact H
   clear H
   have H := H1
   clear H1
   have H' := Aside0.mk H
   clear H
   go_wp2_with (first | ((with_reducible refine gate_callee (f := 134) rfl ?_); refine goesL_ (some 9) rfl rfl Tryd.func134 q2_ rfl #[.string a0, .string (⟨#[48, 120]⟩ : ByteArray)] rfl tS ?_; (with_reducible refine (ostiaryref1_Begins.calls a0 (⟨#[48, 120]⟩ : ByteArray) true _ A3.out).mono ?_); rintro e w' ⟨rfl, ⟨nd, rfl⟩⟩; refine ⟨_, rfl, ?_⟩))
   go_meet
   case rel => exact ⟨_, (true), rS, H', ⟨by first | omega | exact Nat.le_refl _⟩, by repeat (first | exact Drawn0.refl _ | apply Drawn0.step)⟩
  ·replace c4 := Bool.eq_false_iff.mpr c4
   subst c4
   have H1 : ((ostiaryref1_Begins.f a0 (⟨#[48, 88]⟩ : ByteArray)).bind fun t306 => (ostiaryref2_number.j0 k a0 10 t306)) = some (r1, r2) := by rw [if_neg (show ¬ (false = true) by decide)] at H; exact H
   clear H
   have H := H1
   clear H1
   replace H := Option.bind_eq_some_iff.mp H
   obtain ⟨t306, A50, H⟩ := H
   replace H : (ostiaryref2_number.j0 k a0 10 t306) = some (r1, r2) := H
   have A5 := Aside0.mk A50
   clear A50
   have H' := Aside0.mk H
   clear H
   have tok0 : True := trivial
   have tok1 : True := trivial
   go_wp2_with (first | (revert tok0; intro tok0; (with_reducible refine gate_callee (f := 134) rfl ?_); refine goesL_ (some 9) rfl rfl Tryd.func134 q2_ rfl #[.string a0, .string (⟨#[48, 120]⟩ : ByteArray)] rfl tS ?_; (with_reducible refine (ostiaryref1_Begins.calls a0 (⟨#[48, 120]⟩ : ByteArray) false _ A3.out).mono ?_); rintro e w' ⟨rfl, ⟨nd, rfl⟩⟩; refine ⟨_, rfl, ?_⟩; clear tok0) | (revert tok1; intro tok1; go_at_call 134; (with_reducible refine (ostiaryref1_Begins.calls a0 (⟨#[48, 88]⟩ : ByteArray) t306 _ A5.out).mono ?_); rintro e w' ⟨rfl, ⟨nd, rfl⟩⟩; clear tok1))
   go_meet
   case rel => exact ⟨_, (t306), rS, H', ⟨by first | omega | exact Nat.le_refl _⟩, by repeat (first | exact Drawn0.refl _ | apply Drawn0.step)⟩
 case rest =>
  clear HC2
  try clear c1
  try clear c2
  try clear p2
  try clear c4
  obtain ⟨kq, x13_1, rfl, HA, HJ1, ⟨mc1, rfl⟩⟩ := hcut
  cases kq with
  | zero => exact absurd HA.out (by simp [ostiaryref2_number.j0])
  | succ kj1 =>
   have H := HA.out
   clear HA
   simp only [ostiaryref2_number.j0] at H
   have HC6 := Aside0.mk H
   clear H
   go_upto_if 13 with (fail)
   go_cut [0, 4] (fun v0 v4 wc => ∃ (kq : Nat) (x0_5 : ByteArray) (x4_5 : Int), v0 = .string x0_5 ∧ v4 = .int .u64 x4_5 ∧ Aside0 (ostiaryref2_number.j1 kq x0_5 x4_5 = some (r1, r2)) ∧ Aside0 (kq ≤ kj1) ∧ Drawn0 w wc)
   case first =>
    have H := HC6.out
    clear HC6
    by_cases c7 : x13_1 = true
    ·subst c7
     have H1 : (if 2 ≤ (a0.size : Int) then (if (a0.extract 2 a0.size).toList = ([] : List UInt8) then (some (0, true)) else (ostiaryref2_number.j1 kj1 (a0.extract 2 a0.size) 16)) else (none)) = some (r1, r2) := by rw [if_pos rfl] at H; exact H
     clear H
     have H := H1
     clear H1
     by_cases c8 : 2 ≤ (a0.size : Int)
     ·rw [if_pos c8] at H
      have c8b0 := eq_true c8
      have c8b1 : decide (2 ≤ (a0.size : Int)) = true := decide_eq_true c8
      clear c8
      by_cases c9 : (a0.extract 2 a0.size).toList = ([] : List UInt8)
      ·rw [if_pos c9] at H
       have c9b0 : ((a0.extract 2 a0.size).toList == ([] : List UInt8)) = true := beq_iff_eq.mpr c9
       have c9b1 : ((a0.extract 2 a0.size).toList != ([] : List UInt8)) = false := bne_eq_false_iff_eq.mpr c9
       clear c9
       (first | rw [c9b0] | (simp only [i64_w, i32_w]; rw [c9b0]) | skip)
       simp only [Option.some.injEq, Prod.mk.injEq] at H
       obtain ⟨rfl, rfl⟩ := H
       go_wp2
       go_ret2
       exact ⟨rS, by repeat (first | exact Drawn0.refl _ | apply Drawn0.step)⟩
      ·rw [if_neg c9] at H
       have c9b0 : ((a0.extract 2 a0.size).toList == ([] : List UInt8)) = false := beq_eq_false_iff_ne.mpr c9
       have c9b1 : ((a0.extract 2 a0.size).toList != ([] : List UInt8)) = true := bne_iff_ne.mpr c9
       (first | rw [c9b0] | (simp only [i64_w, i32_w]; rw [c9b0]) | skip)
       have H' := Aside0.mk H
       clear H
       go_wp2
       go_meet
       case rel => exact ⟨_, (a0.extract 2 a0.size), (16), rS, rS, H', ⟨by have := HJ1.out; first | omega | exact Nat.le_refl _⟩, by repeat (first | exact Drawn0.refl _ | apply Drawn0.step)⟩
     ·rw [if_neg c8] at H
      exact absurd H (by simp)
    ·replace c7 := Bool.eq_false_iff.mpr c7
     subst c7
     have H1 : (if (a0.size : Int) > 1 then (if 0 < (a0.size : Int) then (if (bt a0 0) = 48 then (if 1 ≤ (a0.size : Int) then (ostiaryref2_number.j1 kj1 (a0.extract 1 a0.size) 8) else (none)) else (ostiaryref2_number.j1 kj1 a0 10)) else (none)) else (ostiaryref2_number.j1 kj1 a0 10)) = some (r1, r2) := by rw [if_neg (show ¬ (false = true) by decide)] at H; exact H
     clear H
     have H := H1
     clear H1
     by_cases c10 : (a0.size : Int) > 1
     ·rw [if_pos c10] at H
      have c10b0 : decide (1 < (a0.size : Int)) = true := decide_eq_true c10
      have c10b1 : decide (1 < a0.size) = true := decide_eq_true (by omega)
      clear c10
      by_cases c11 : 0 < (a0.size : Int)
      ·rw [if_pos c11] at H
       have c11b0 : decide (0 < (a0.size : Int)) = true := decide_eq_true c11
       have c11b1 : decide (0 < a0.size) = true := decide_eq_true (by omega)
       clear c11
       by_cases c13 : (bt a0 0) = 48
       ·rw [if_pos c13] at H
        have c13b0 : ((bt a0 0) == 48) = true := beq_iff_eq.mpr c13
        have c13b1 : ((bt a0 0) != 48) = false := bne_eq_false_iff_eq.mpr c13
        clear c13
        by_cases c14 : 1 ≤ (a0.size : Int)
        ·rw [if_pos c14] at H
         have c14b0 := eq_true c14
         have c14b1 : decide (1 ≤ (a0.size : Int)) = true := decide_eq_true c14
         clear c14
         have H' := Aside0.mk H
         clear H
         have p12 : 0 ≤ (0 : Int) := (by omega)
         have q12 : 0 < a0.size := (by have : (0 : Int) < (a0.size : Int) := of_decide_eq_true aS; omega)
         have hx12 : ∀ h : 0 < a0.size, ((a0[0]'h).toNat : Int) = bt a0 0 := bt_at a0 0
         clear p12
         have qi12 : (0 < (a0.size : Int)) = True := eq_true (of_decide_eq_true aS)
         replace q12 := eq_true q12
         go_wp2
         go_meet
         case rel => exact ⟨_, (a0.extract 1 a0.size), (8), rS, rS, H', ⟨by have := HJ1.out; first | omega | exact Nat.le_refl _⟩, by repeat (first | exact Drawn0.refl _ | apply Drawn0.step)⟩
        ·rw [if_neg c14] at H
         exact absurd H (by simp)
       ·rw [if_neg c13] at H
        have c13b0 : ((bt a0 0) == 48) = false := beq_eq_false_iff_ne.mpr c13
        have c13b1 : ((bt a0 0) != 48) = true := bne_iff_ne.mpr c13
        have H' := Aside0.mk H
        clear H
        have p12 : 0 ≤ (0 : Int) := (by omega)
        have q12 : 0 < a0.size := (by have : (0 : Int) < (a0.size : Int) := of_decide_eq_true aS; omega)
        have hx12 : ∀ h : 0 < a0.size, ((a0[0]'h).toNat : Int) = bt a0 0 := bt_at a0 0
        clear p12
        have qi12 : (0 < (a0.size : Int)) = True := eq_true (of_decide_eq_true aS)
        replace q12 := eq_true q12
        go_wp2
        go_meet
        case rel => exact ⟨_, (a0), (10), rS, rS, H', ⟨by have := HJ1.out; first | omega | exact Nat.le_refl _⟩, by repeat (first | exact Drawn0.refl _ | apply Drawn0.step)⟩
      ·rw [if_neg c11] at H
       exact absurd H (by simp)
     ·rw [if_neg c10] at H
      have c10b0 : decide (1 < (a0.size : Int)) = false := decide_eq_false c10
      have c10b1 : decide (1 < a0.size) = false := decide_eq_false (by omega)
      clear c10
      have H' := Aside0.mk H
      clear H
      go_wp2
      go_meet
      case rel => exact ⟨_, (a0), (10), rS, rS, H', ⟨by have := HJ1.out; first | omega | exact Nat.le_refl _⟩, by repeat (first | exact Drawn0.refl _ | apply Drawn0.step)⟩
   case rest =>
    clear HC6
    try clear c1
    try clear p1
    try clear q1
    try clear hx1
    try clear qi1
    try clear c2
    try clear p2
    try clear c4
    try clear c7
    try clear c8
    try clear c8b0
    try clear c8b1
    try clear c9
    try clear c9b0
    try clear c9b1
    try clear c10
    try clear c10b0
    try clear c10b1
    try clear c11
    try clear c11b0
    try clear c11b1
    try clear p12
    try clear q12
    try clear hx12
    try clear qi12
    try clear c13
    try clear c13b0
    try clear c13b1
    try clear c14
    try clear c14b0
    try clear c14b1
    try clear p12
    try clear p2
    try clear q12
    obtain ⟨kq, x0_5, x4_5, rfl, rfl, HA, HJ5, ⟨mc5, rfl⟩⟩ := hcut
    cases kq with
    | zero => exact absurd HA.out (by simp [ostiaryref2_number.j1])
    | succ kj5 =>
     have H := HA.out
     clear HA
     simp only [ostiaryref2_number.j1] at H
     have H' := Aside0.mk H
     clear H
     go_wp2
     go_loopg [5, 6] kj5 (fun kq v5 v6 w' => ∃ (x5_3 : Int) (x6_3 : Int), v5 = .int .u64 x5_3 ∧ v6 = .int .i64 x6_3 ∧ Aside0 (ostiaryref2_number.l0 kq x0_5 x4_5 x5_3 x6_3 = some (r1, r2)) ∧ Aside0 (kq ≤ kj5) ∧ Drawn0 w w')
     case atStart => exact ⟨(0), (0), rS, rS, H', ⟨Nat.le_refl _⟩, by repeat (first | exact Drawn0.refl _ | apply Drawn0.step)⟩
     case round =>
      clear H'
      try clear c1
      try clear p1
      try clear q1
      try clear hx1
      try clear qi1
      try clear c2
      try clear p2
      try clear c4
      try clear c5
      try clear c7
      try clear c8
      try clear c8b0
      try clear c8b1
      try clear c9
      try clear c9b0
      try clear c9b1
      try clear c10
      try clear c10b0
      try clear c10b1
      try clear c11
      try clear c11b0
      try clear c11b1
      try clear p12
      try clear q12
      try clear hx12
      try clear qi12
      try clear c13
      try clear c13b0
      try clear c13b1
      try clear c14
      try clear c14b0
      try clear c14b1
      try clear p1
      try clear p12
      try clear p2
      try clear q1
      try clear q12
      obtain ⟨x5_3, x6_3, rfl, rfl, HA, HK3, ⟨m3, rfl⟩⟩ := hrel
      cases gk with
      | zero => exact absurd HA.out (by simp [ostiaryref2_number.l0])
      | succ k3 =>
       have H := HA.out
       clear HA
       simp only [ostiaryref2_number.l0] at H
       by_cases c15 : x6_3 < (x0_5.size : Int)
       ·rw [if_pos c15] at H
        have c15b0 : decide (x6_3 < (x0_5.size : Int)) = true := decide_eq_true c15
        clear c15
        by_cases c16 : 0 ≤ x6_3
        ·rw [if_pos c16] at H
         have c16b0 : decide (0 ≤ x6_3) = true := decide_eq_true c16
         clear c16
         replace H := Option.bind_eq_some_iff.mp H
         obtain ⟨t307, A180, H⟩ := H
         replace H : (if t307 < 0 then (ostiaryref2_number.j3 k3 x0_5 x4_5 x5_3 x6_3 t307 true) else (ostiaryref2_number.j3 k3 x0_5 x4_5 x5_3 x6_3 t307 (decide ((IntKind.u64.wrap (t307)) ≥ x4_5)))) = some (r1, r2) := H
         have A18 := Aside0.mk A180
         clear A180
         have HC19 := Aside0.mk H
         clear H
         have p17 : 0 ≤ (x6_3 : Int) := of_decide_eq_true aS
         have q17 : x6_3 < (x0_5.size : Int) := of_decide_eq_true aS
         have hx17 := bt_at x0_5 x6_3
         replace p17 := eq_true p17
         replace q17 := eq_true q17
         go_upto_region 15 with (first | ((with_reducible refine gate_callee (f := 215) rfl ?_); refine goesL_ (some 37) rfl rfl Tryd.func215 q2_ rfl #[.int .u8 (bt x0_5 x6_3)] rfl tS ?_; (with_reducible refine (ostiaryref1_Hex.calls k3 (bt x0_5 x6_3) t307 _ A18.out).mono ?_); rintro e w' ⟨rfl, ⟨nd, rfl⟩⟩; refine ⟨_, rfl, ?_⟩))
         (try simp only [Act.put, List.setIfInBounds_toArray, List.set_cons_zero, List.set_cons_succ])
         go_cut [45] (fun v45 wc => ∃ (kq : Nat) (x45_18 : Bool), v45 = .bool x45_18 ∧ Aside0 (ostiaryref2_number.j3 kq x0_5 x4_5 x5_3 x6_3 t307 x45_18 = some (r1, r2)) ∧ Aside0 (kq ≤ k3) ∧ Drawn0 w wc)
         case first =>
          have H := HC19.out
          clear HC19
          by_cases c20 : t307 < 0
          ·rw [if_pos c20] at H
           have c20b0 : decide (t307 < 0) = true := decide_eq_true c20
           clear c20
           (first | rw [c20b0] | (simp only [i64_w, i32_w]; rw [c20b0]) | skip)
           have H' := Aside0.mk H
           clear H
           go_wp2
           go_meet
           case rel => exact ⟨_, (true), rS, H', ⟨by have := HJ1.out; have := HJ5.out; have := HK3.out; first | omega | exact Nat.le_refl _⟩, by repeat (first | exact Drawn0.refl _ | apply Drawn0.step)⟩
          ·rw [if_neg c20] at H
           have c20b0 : decide (t307 < 0) = false := decide_eq_false c20
           clear c20
           (first | rw [c20b0] | (simp only [i64_w, i32_w]; rw [c20b0]) | skip)
           have H' := Aside0.mk H
           clear H
           go_wp2
           go_meet
           case rel => exact ⟨_, (decide ((IntKind.u64.wrap (t307)) ≥ x4_5)), rS, H', ⟨by have := HJ1.out; have := HJ5.out; have := HK3.out; first | omega | exact Nat.le_refl _⟩, by repeat (first | exact Drawn0.refl _ | apply Drawn0.step)⟩
         case rest =>
          clear HC19
          try clear c1
          try clear p1
          try clear q1
          try clear hx1
          try clear qi1
          try clear c2
          try clear p2
          try clear c4
          try clear c5
          try clear c7
          try clear c8
          try clear c8b0
          try clear c8b1
          try clear c9
          try clear c9b0
          try clear c9b1
          try clear c10
          try clear c10b0
          try clear c10b1
          try clear c11
          try clear c11b0
          try clear c11b1
          try clear p12
          try clear q12
          try clear hx12
          try clear qi12
          try clear c13
          try clear c13b0
          try clear c13b1
          try clear c14
          try clear c14b0
          try clear c14b1
          try clear c15
          try clear c15b0
          try clear c16
          try clear c16b0
          try clear p17
          try clear q17
          try clear hx17
          try clear c20
          try clear c20b0
          try clear p1
          try clear p12
          try clear p17
          try clear p2
          try clear q1
          try clear q12
          try clear q17
          obtain ⟨kq, x45_18, rfl, HA, HJ18, ⟨mc18, rfl⟩⟩ := hcut
          cases kq with
          | zero => exact absurd HA.out (by simp [ostiaryref2_number.j3])
          | succ kj18 =>
           have H := HA.out
           clear HA
           simp only [ostiaryref2_number.j3] at H
           by_cases c21 : x45_18 = true
           ·subst c21
            have H1 : (some (0, false)) = some (r1, r2) := by rw [if_pos rfl] at H; exact H
            clear H
            have H := H1
            clear H1
            simp only [Option.some.injEq, Prod.mk.injEq] at H
            obtain ⟨rfl, rfl⟩ := H
            go_wp2
            go_ret2
            exact ⟨rS, by repeat (first | exact Drawn0.refl _ | apply Drawn0.step)⟩
           ·replace c21 := Bool.eq_false_iff.mpr c21
            subst c21
            have H1 : (if (IntKind.u64.wrap ((IntKind.u64.wrap (x5_3 * x4_5)) + (IntKind.u64.wrap (t307)))) > 1099511627776 then (ostiaryref2_number.l0 kj18 x0_5 x4_5 1099511627776 (wrap64 (x6_3 + 1))) else (ostiaryref2_number.l0 kj18 x0_5 x4_5 (IntKind.u64.wrap ((IntKind.u64.wrap (x5_3 * x4_5)) + (IntKind.u64.wrap (t307)))) (wrap64 (x6_3 + 1)))) = some (r1, r2) := by rw [if_neg (show ¬ (false = true) by decide)] at H; exact H
            clear H
            have H := H1
            clear H1
            by_cases c22 : (IntKind.u64.wrap ((IntKind.u64.wrap (x5_3 * x4_5)) + (IntKind.u64.wrap (t307)))) > 1099511627776
            ·rw [if_pos c22] at H
             have c22b0 : decide (1099511627776 < (IntKind.u64.wrap ((IntKind.u64.wrap (x5_3 * x4_5)) + (IntKind.u64.wrap (t307))))) = true := decide_eq_true c22
             clear c22
             have H' := Aside0.mk H
             clear H
             go_wp2
             go_roundg kj18
             case measure => have := HJ1.out; have := HJ5.out; have := HK3.out; have := HJ18.out; omega
             case rel => exact ⟨(1099511627776), (wrap64 (x6_3 + 1)), rS, rS, H', ⟨by have := HJ1.out; have := HJ5.out; have := HK3.out; have := HJ18.out; omega⟩, by repeat (first | exact Drawn0.refl _ | apply Drawn0.step)⟩
            ·rw [if_neg c22] at H
             have c22b0 : decide (1099511627776 < (IntKind.u64.wrap ((IntKind.u64.wrap (x5_3 * x4_5)) + (IntKind.u64.wrap (t307))))) = false := decide_eq_false c22
             clear c22
             have H' := Aside0.mk H
             clear H
             go_wp2
             go_roundg kj18
             case measure => have := HJ1.out; have := HJ5.out; have := HK3.out; have := HJ18.out; omega
             case rel => exact ⟨(IntKind.u64.wrap ((IntKind.u64.wrap (x5_3 * x4_5)) + (IntKind.u64.wrap (t307)))), (wrap64 (x6_3 + 1)), rS, rS, H', ⟨by have := HJ1.out; have := HJ5.out; have := HK3.out; have := HJ18.out; omega⟩, by repeat (first | exact Drawn0.refl _ | apply Drawn0.step)⟩
        ·rw [if_neg c16] at H
         exact absurd H (by simp)
       ·rw [if_neg c15] at H
        have c15b0 : decide (x6_3 < (x0_5.size : Int)) = false := decide_eq_false c15
        clear c15
        simp only [Option.some.injEq, Prod.mk.injEq] at H
        obtain ⟨rfl, rfl⟩ := H
        go_wp2
        go_ret2
        exact ⟨rS, by repeat (first | exact Drawn0.refl _ | apply Drawn0.step)⟩
end Go.Proofs.YtifmkgkiipckbaaDoor.P
