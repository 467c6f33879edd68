/- A part of the proof of CorsLess: texts of walks and plain lemmas. -/
import Derived.Test.YtifmkgkiipckbaaDoorX1
import Derived.Test.YtifmkgkiipckbaaDoorX4
import Derived.Test.YtifmkgkiipckbaaDoorX5
namespace Go.Proofs.YtifmkgkiipckbaaDoor.P
open Go.RowKit Go.Proofs.YtifmkgkiipckbaaDoorW.PrintWords Go.Proofs.YtifmkgkiipckbaaDoorW.PrintLast Go.Proofs.YtifmkgkiipckbaaDoorW.PrintMore
attribute [local go_sem] max2_int min2_int max_two min_two max_three min_three max_four min_four
set_option linter.unusedVariables false
set_option linter.unusedSimpArgs false
mutual
def ostiaryref2_Four.l0 : Nat → List ByteArray → List Int → Int → Option (Int × Bool)
 | 0, _, _, _ => none
 | k + 1, x4, x5, x6 => if x6 < (x4.length : Int) then (if 0 ≤ x6 then ((ostiaryref2_number.f k (rdOf ByteArray.empty x4 x6)).bind fun bt312 => (if bt312.2 = true then (if x5.length < 17592186044416 then (ostiaryref2_Four.l0 k x4 (x5 ++ [bt312.1]) (wrap64 (x6 + 1))) else (none)) else (some (0, false)))) else (none)) else (ostiaryref2_Four.l1 k x5 0 0)
def ostiaryref2_Four.l1 : Nat → List Int → Int → Int → Option (Int × Bool)
 | 0, _, _, _ => none
 | k + 1, x5, x9, x10 => if x10 < (wrap64 ((x5.length : Int) - 1)) then (if 0 ≤ x10 then (if x10 < (x5.length : Int) then (if (rd x5 x10) > 255 then (some (0, false)) else (if 0 ≤ (IntKind.u64.wrap (wrap64 (24 - (wrap64 (8 * x10))))) then (ostiaryref2_Four.l1 k x5 (Go.bits .or .u64 x9 (shl .u64 (rd x5 x10) (IntKind.u64.wrap (wrap64 (24 - (wrap64 (8 * x10))))))) (wrap64 (x10 + 1))) else (none))) else (none)) else (none)) else (if 0 ≤ (wrap64 ((x5.length : Int) - 1)) then (if (wrap64 ((x5.length : Int) - 1)) < (x5.length : Int) then (if 0 ≤ (IntKind.u64.wrap (wrap64 (8 * (wrap64 (5 - (x5.length : Int)))))) then (if (rd x5 (wrap64 ((x5.length : Int) - 1))) ≥ (shl .u64 1 (IntKind.u64.wrap (wrap64 (8 * (wrap64 (5 - (x5.length : Int))))))) then (some (0, false)) else (some ((Go.bits .or .u64 x9 (rd x5 (wrap64 ((x5.length : Int) - 1)))) % 4294967296, true))) else (none)) else (none)) else (none))
end
def ostiaryref2_Four.f (k : Nat) (a0 : ByteArray) : Option (Int × Bool) := (ostiaryref2_labels.f k a0).bind fun t308 => (if (t308.length : Int) > 4 then (some (0, false)) else (ostiaryref2_Four.l0 k t308 ([] : List Int) 0))
theorem ostiaryref2_Four.mono_l : ∀ k, (∀ y0 y1 y2, LeO (ostiaryref2_Four.l0 k y0 y1 y2) (ostiaryref2_Four.l0 (k + 1) y0 y1 y2)) ∧ (∀ y0 y1 y2, LeO (ostiaryref2_Four.l1 k y0 y1 y2) (ostiaryref2_Four.l1 (k + 1) y0 y1 y2))
 | 0 => ⟨fun _ _ _ r h => by simp [ostiaryref2_Four.l0] at h, fun _ _ _ r h => by simp [ostiaryref2_Four.l1] at h⟩
 | k + 1 => by
  obtain ⟨ih0, ih1⟩ := ostiaryref2_Four.mono_l k
  refine ⟨?_, ?_⟩
  ·intro y0 y1 y2
   unfold ostiaryref2_Four.l0
   repeat' first
   | (with_reducible exact ih0 _ _ _)
   | (with_reducible exact ih1 _ _ _)
   | (with_reducible exact ostiaryref2_labels.mono _ _)
   | (with_reducible exact ostiaryref2_number.mono _ _)
   | (with_reducible exact LeO.refl _)
   | (with_reducible exact LeO.none _)
   | (with_reducible refine LeO.ite ?_ ?_)
   | (with_reducible refine LeO.bind ?_ (fun _ => ?_))
   | exact ih0 _ _ _
   | exact ih1 _ _ _
   | exact ostiaryref2_labels.mono _ _
   | exact ostiaryref2_number.mono _ _
   | exact LeO.none _
   | refine LeO.ite ?_ ?_
   | refine LeO.bind ?_ (fun _ => ?_)
  ·intro y0 y1 y2
   unfold ostiaryref2_Four.l1
   repeat' first
   | (with_reducible exact ih0 _ _ _)
   | (with_reducible exact ih1 _ _ _)
   | (with_reducible exact ostiaryref2_labels.mono _ _)
   | (with_reducible exact ostiaryref2_number.mono _ _)
   | (with_reducible exact LeO.refl _)
   | (with_reducible exact LeO.none _)
   | (with_reducible refine LeO.ite ?_ ?_)
   | (with_reducible refine LeO.bind ?_ (fun _ => ?_))
   | exact ih0 _ _ _
   | exact ih1 _ _ _
   | exact ostiaryref2_labels.mono _ _
   | exact ostiaryref2_number.mono _ _
   | exact LeO.none _
   | refine LeO.ite ?_ ?_
   | refine LeO.bind ?_ (fun _ => ?_)
theorem ostiaryref2_Four.mono : ∀ a0 k, LeO (ostiaryref2_Four.f k a0) (ostiaryref2_Four.f (k + 1) a0) := by
 intro a0 k
 obtain ⟨ih0, ih1⟩ := ostiaryref2_Four.mono_l k
 unfold ostiaryref2_Four.f
 repeat' first
   | (with_reducible exact ih0 _ _ _)
   | (with_reducible exact ih1 _ _ _)
   | (with_reducible exact ostiaryref2_labels.mono _ _)
   | (with_reducible exact ostiaryref2_number.mono _ _)
   | (with_reducible exact LeO.refl _)
   | (with_reducible exact LeO.none _)
   | (with_reducible refine LeO.ite ?_ ?_)
   | (with_reducible refine LeO.bind ?_ (fun _ => ?_))
   | exact ih0 _ _ _
   | exact ih1 _ _ _
   | exact ostiaryref2_labels.mono _ _
   | exact ostiaryref2_number.mono _ _
   | exact LeO.none _
   | refine LeO.ite ?_ ?_
   | refine LeO.bind ?_ (fun _ => ?_)
set_option maxHeartbeats 8000000 in
set_option maxRecDepth 100000 in
theorem ostiaryref2_Four.calls (k : Nat) (a0 : ByteArray) (r1 : Int) (r2 : Bool) (w : World) (h : ostiaryref2_Four.f k a0 = some (r1, r2)) :
  Calls Tryd.prog 205 #[.string a0] w fun e w' => e = .returned (.tuple #[.int .u32 r1, .bool r2]) ∧ Below w.heap.size w w' := by
 have HB := Aside0.mk (Below.refl w.heap.size w)
 have H : ((ostiaryref2_labels.f k a0).bind fun t308 => (if (t308.length : Int) > 4 then (some (0, false)) else (ostiaryref2_Four.l0 k t308 ([] : List Int) 0))) = some (r1, r2) := h
 clear h
 replace H := Option.bind_eq_some_iff.mp H
 obtain ⟨t308, A20, H⟩ := H
 replace H : (if (t308.length : Int) > 4 then (some (0, false)) else (ostiaryref2_Four.l0 k t308 ([] : List Int) 0)) = some (r1, r2) := H
 have A2 := Aside0.mk A20
 clear A20
 by_cases c3 : (t308.length : Int) > 4
 ·rw [if_pos c3] at H
  have c3b0 : decide (4 < (t308.length : Int)) = true := decide_eq_true c3
  have c3b1 : decide (4 < t308.length) = true := decide_eq_true (by omega)
  clear c3
  simp only [Option.some.injEq, Prod.mk.injEq] at H
  obtain ⟨rfl, rfl⟩ := H
  go_enter Tryd.func205, Tryd.ntmps205
  go_wp2_with (first | ((with_reducible refine gate_callee (f := 216) rfl ?_); refine goesL_ (some 13) rfl rfl Tryd.func216 q2_ rfl #[.string a0] rfl tS ?_; (with_reducible refine (ostiaryref2_labels.calls k a0 t308 _ A2.out).mono ?_); rintro e w4 ⟨v309, rfl, ho0, hb⟩; refine ⟨_, rfl, ?_⟩; have n0_ := Aside0.mk (Kd.R_lower ho0 (below_size hB)); have n1_ := Aside0.mk (below_step hB hb); clear HB; have HO310 := n0_; have HB := n1_; clear n0_ n1_; (try clear hb); (try clear hb2); (try clear hk); (try clear hi); (try clear ho0); obtain ⟨Ao5, co5, eo5⟩ := Kd.R_slice HO310.out; subst eo5))
  go_ret2
  exact ⟨by first | rfl | (simp [errW_none, errW_some] <;> rfl) | (simp [*, errW_none, errW_some] <;> rfl), by repeat (first | (with_reducible first | exact HB.out | apply below_alloc | apply pw_below_drewN | apply below_drew1) | exact HB.out)⟩
 ·rw [if_neg c3] at H
  have c3b0 : decide (4 < (t308.length : Int)) = false := decide_eq_false c3
  have c3b1 : decide (4 < t308.length) = false := decide_eq_false (by omega)
  clear c3
  have H' := Aside0.mk H
  clear H
  go_enter Tryd.func205, Tryd.ntmps205
  go_wp2_with (first | ((with_reducible refine gate_callee (f := 216) rfl ?_); refine goesL_ (some 13) rfl rfl Tryd.func216 q2_ rfl #[.string a0] rfl tS ?_; (with_reducible refine (ostiaryref2_labels.calls k a0 t308 _ A2.out).mono ?_); rintro e w6 ⟨v309, rfl, ho0, hb⟩; refine ⟨_, rfl, ?_⟩; have n0_ := Aside0.mk (Kd.R_lower ho0 (below_size hB)); have n1_ := Aside0.mk (below_step hB hb); clear HB; have HO310 := n0_; have HB := n1_; clear n0_ n1_; (try clear hb); (try clear hb2); (try clear hk); (try clear hi); (try clear ho0); obtain ⟨Ao7, co7, eo7⟩ := Kd.R_slice HO310.out; subst eo7))
  go_loopg [5, 6] k (fun kq v5 v6 w' => ∃ (x5_1 : List Int) (x6_1 : Int), v6 = .int .i64 x6_1 ∧ Aside0 (ostiaryref2_Four.l0 kq t308 x5_1 x6_1 = some (r1, r2)) ∧ Aside0 (kq ≤ k) ∧ Aside0 (Kd.R Kd.string 9 w' w.heap.size (fun _ => True) (.slice Ao7 t308.length co7) t308) ∧ Aside0 (Kd.R (Kd.int .u64) 111 w' w.heap.size (fun _ => True) v5 x5_1) ∧ Aside0 (Below w.heap.size w w'))
  case atStart => exact ⟨(([] : List Int)), (0), rS, H', ⟨Nat.le_refl _⟩, ⟨by (with_reducible repeat (first | apply Kd.R_alloc | apply Kd.R_drewN | apply Kd.R_drew)); exact HO310.out⟩, ⟨by first | exact Kd.R_nil _ _ _ _ _ | exact Kd.N_nil _ _ _ _ _ | exact Kd.V_nil _ _ _ _ _ | exact Kd.Q_nil _ _ _ _ _ | exact Kd.S_nil _ _ _ _ _⟩, ⟨by repeat (first | (with_reducible first | exact HB.out | apply below_alloc | apply pw_below_drewN | apply below_drew1) | exact HB.out)⟩⟩
  case round =>
   clear H'
   try clear c2
   try clear p2
   try clear c3
   try clear c3b0
   try clear c3b1
   obtain ⟨x5_1, x6_1, rfl, HA, HK1, HO_4, HO_5, HB⟩ := hrel
   cases gk with
   | zero => exact absurd HA.out (by simp [ostiaryref2_Four.l0])
   | succ k1 =>
    have H := HA.out
    clear HA
    simp only [ostiaryref2_Four.l0] at H
    by_cases c8 : x6_1 < (t308.length : Int)
    ·rw [if_pos c8] at H
     have c8b0 : decide (x6_1 < (t308.length : Int)) = true := decide_eq_true c8
     clear c8
     by_cases c9 : 0 ≤ x6_1
     ·rw [if_pos c9] at H
      have c9b0 : decide (0 ≤ x6_1) = true := decide_eq_true c9
      clear c9
      replace H := Option.bind_eq_some_iff.mp H
      obtain ⟨⟨t312, t313⟩, A100, H⟩ := H
      replace H : (if t313 = true then (if x5_1.length < 17592186044416 then (ostiaryref2_Four.l0 k1 t308 (x5_1 ++ [t312]) (wrap64 (x6_1 + 1))) else (none)) else (some (0, false))) = some (r1, r2) := H
      have A10 := Aside0.mk A100
      clear A100
      by_cases c11 : t313 = true
      ·subst c11
       have H1 : (if x5_1.length < 17592186044416 then (ostiaryref2_Four.l0 k1 t308 (x5_1 ++ [t312]) (wrap64 (x6_1 + 1))) else (none)) = some (r1, r2) := by rw [if_pos rfl] at H; exact H
       clear H
       have H := H1
       clear H1
       by_cases c12 : x5_1.length < 17592186044416
       ·rw [if_pos c12] at H
        have LMc12 := Aside0.mk c12
        clear c12
        obtain ⟨y314, hy314⟩ : ∃ y_ : List Int, y_ = (x5_1 ++ [t312]) := ⟨_, rfl⟩
        replace H : (ostiaryref2_Four.l0 k1 t308 y314 (wrap64 (x6_1 + 1))) = some (r1, r2) := by first | (rw [hy314]; with_reducible exact H) | (have H2_ := (Option.bind_some _ _).symm.trans H; rw [hy314]; with_reducible exact H2_) | (have H2_ := (Option.bind_some _ _).symm.trans H; with_reducible exact H2_) | with_reducible exact H | (rw [hy314]; exact H) | exact H
        have Ny314 := Aside0.mk hy314
        clear hy314
        have H' := Aside0.mk H
        clear H
        have p311 : 0 ≤ (x6_1 : Int) := of_decide_eq_true aS
        have q311 : x6_1 < (t308.length : Int) := of_decide_eq_true aS
        obtain ⟨ad311, e311, hx311_0⟩ := Kd.at_string (Kd.R_reads' HO_4.out).2.2 x6_1 p311 q311
        cases e311
        replace p311 := eq_true p311
        replace q311 := eq_true q311
        go_wp2_with (first | ((with_reducible refine gate_callee (f := 217) rfl ?_); refine goesL_ (some 28) rfl rfl Tryd.func217 q2_ rfl #[.string (rdOf ByteArray.empty t308 x6_1)] rfl tS ?_; (with_reducible refine (ostiaryref2_number.calls k1 (rdOf ByteArray.empty t308 x6_1) t312 true _ A10.out).mono ?_); rintro e w' ⟨rfl, ⟨nd, rfl⟩⟩; refine ⟨_, rfl, ?_⟩) | ((with_reducible refine gate_builtin (b := .append) (xs := #[.tmp 33, .tmp 35]) rfl ?_); at_builtin; refine Kd.R_append (Kd.int .u64) (w0 := w) w.heap.size rfl (.tmp 33) (.tmp 35) 116 111 (.int .u64 0) 8 rfl Tryd.underlying116 info111 rfl (by decide) (by omega) u5 x5_1 t312 [.int .u64 t312] (fun _ => True) (fun _ => False) rfl rfl ?aP (fun _ hk => hk.elim) ?aF ?aO ?aB ?aS ?aL ?_; (case aP => exact rfl); (case aB => exact hB); (case aF => exact (fun _ _ => trivial)); (case aO => exact q10_); (case aS => exact (below_size hB)); (case aL => have := LMc12.out; omega); intro v315 w13 ho hb hg hat; rw [← Ny314.out] at ho; have n0_ := Aside0.mk (Kd.R_over' (by (with_reducible repeat (first | apply Kd.R_alloc | apply Kd.R_drewN | apply Kd.R_drew)); exact HO_4.out) (Kd.R_typed q10_) (by decide) hg); have n1_ := Aside0.mk (hb); have n2_ := Aside0.mk (ho); clear HO_4; clear HB; clear HO_5; have HO_4 := n0_; have HB := n1_; have HO316 := n2_; clear n0_ n1_ n2_; clear ho hb hg hat))
        go_roundg k1
        case measure => have := HK1.out; omega
        case rel => exact ⟨(y314), (wrap64 (x6_1 + 1)), rS, H', ⟨by have := HK1.out; omega⟩, ⟨by (with_reducible repeat (first | apply Kd.R_alloc | apply Kd.R_drewN | apply Kd.R_drew)); exact HO_4.out⟩, ⟨by (with_reducible repeat (first | apply Kd.R_alloc | apply Kd.R_drewN | apply Kd.R_drew)); exact HO316.out⟩, ⟨by repeat (first | (with_reducible first | exact HB.out | apply below_alloc | apply pw_below_drewN | apply below_drew1) | exact HB.out)⟩⟩
       ·rw [if_neg c12] at H
        exact absurd H (by simp)
      ·replace c11 := Bool.eq_false_iff.mpr c11
       subst c11
       have H1 : (some (0, false)) = some (r1, r2) := by rw [if_neg (show ¬ (false = true) by decide)] at H; exact H
       clear H
       have H := H1
       clear H1
       simp only [Option.some.injEq, Prod.mk.injEq] at H
       obtain ⟨rfl, rfl⟩ := H
       have p311 : 0 ≤ (x6_1 : Int) := of_decide_eq_true aS
       have q311 : x6_1 < (t308.length : Int) := of_decide_eq_true aS
       obtain ⟨ad311, e311, hx311_0⟩ := Kd.at_string (Kd.R_reads' HO_4.out).2.2 x6_1 p311 q311
       cases e311
       replace p311 := eq_true p311
       replace q311 := eq_true q311
       go_wp2_with (first | ((with_reducible refine gate_callee (f := 217) rfl ?_); refine goesL_ (some 28) rfl rfl Tryd.func217 q2_ rfl #[.string (rdOf ByteArray.empty t308 x6_1)] rfl tS ?_; (with_reducible refine (ostiaryref2_number.calls k1 (rdOf ByteArray.empty t308 x6_1) t312 false _ A10.out).mono ?_); rintro e w' ⟨rfl, ⟨nd, rfl⟩⟩; refine ⟨_, rfl, ?_⟩))
       go_ret2
       exact ⟨by first | rfl | (simp [errW_none, errW_some] <;> rfl) | (simp [*, errW_none, errW_some] <;> rfl), by repeat (first | (with_reducible first | exact HB.out | apply below_alloc | apply pw_below_drewN | apply below_drew1) | exact HB.out)⟩
     ·rw [if_neg c9] at H
      exact absurd H (by simp)
    ·rw [if_neg c8] at H
     have c8b0 : decide (x6_1 < (t308.length : Int)) = false := decide_eq_false c8
     clear c8
     have H' := Aside0.mk H
     clear H
     go_wp2
     go_loopg [9, 10] k1 (fun kq v9 v10 w' => ∃ (x9_2 : Int) (x10_2 : Int), v9 = .int .u64 x9_2 ∧ v10 = .int .i64 x10_2 ∧ Aside0 (ostiaryref2_Four.l1 kq x5_1 x9_2 x10_2 = some (r1, r2)) ∧ Aside0 (kq ≤ k1) ∧ Aside0 (Kd.R (Kd.int .u64) 111 w' w.heap.size (fun _ => True) u5 x5_1) ∧ Aside0 (Below w.heap.size w w'))
     case atStart => exact ⟨(0), (0), rS, rS, H', ⟨Nat.le_refl _⟩, ⟨by (with_reducible repeat (first | apply Kd.R_alloc | apply Kd.R_drewN | apply Kd.R_drew)); exact HO_5.out⟩, ⟨by repeat (first | (with_reducible first | exact HB.out | apply below_alloc | apply pw_below_drewN | apply below_drew1) | exact HB.out)⟩⟩
     case round =>
      clear H'
      try clear c1
      try clear c2
      try clear p2
      try clear c3
      try clear c3b0
      try clear c3b1
      try clear p3
      try clear q3
      try clear hx3
      try clear p6
      try clear c8
      try clear c8b0
      try clear c9
      try clear c9b0
      try clear c11
      try clear c12
      try clear hx311_0
      try clear p2
      try clear p311
      try clear q311
      obtain ⟨x9_2, x10_2, rfl, rfl, HA, HK2, HO_5, HB⟩ := hrel
      cases gk with
      | zero => exact absurd HA.out (by simp [ostiaryref2_Four.l1])
      | succ k2 =>
       have H := HA.out
       clear HA
       simp only [ostiaryref2_Four.l1] at H
       by_cases c14 : x10_2 < (wrap64 ((x5_1.length : Int) - 1))
       ·rw [if_pos c14] at H
        have c14b0 : decide (x10_2 < (wrap64 ((x5_1.length : Int) - 1))) = true := decide_eq_true c14
        clear c14
        by_cases c15 : 0 ≤ x10_2
        ·rw [if_pos c15] at H
         have c15b0 : decide (0 ≤ x10_2) = true := decide_eq_true c15
         clear c15
         by_cases c16 : x10_2 < (x5_1.length : Int)
         ·rw [if_pos c16] at H
          have c16b0 : decide (x10_2 < (x5_1.length : Int)) = true := decide_eq_true c16
          clear c16
          by_cases c17 : (rd x5_1 x10_2) > 255
          ·rw [if_pos c17] at H
           have c17b0 : decide (255 < (rd x5_1 x10_2)) = true := decide_eq_true c17
           clear c17
           simp only [Option.some.injEq, Prod.mk.injEq] at H
           obtain ⟨rfl, rfl⟩ := H
           obtain ⟨Ao18, co18, eo18⟩ := Kd.R_slice HO_5.out
           subst eo18
           have p317 : 0 ≤ (x10_2 : Int) := of_decide_eq_true aS
           have q317 : x10_2 < (x5_1.length : Int) := of_decide_eq_true aS
           obtain ⟨ad317, e317, hx317_0⟩ := Kd.at_int (Kd.R_reads' HO_5.out).2.2 x10_2 p317 q317
           cases e317
           replace p317 := eq_true p317
           replace q317 := eq_true q317
           go_wp2
           go_ret2
           exact ⟨by first | rfl | (simp [errW_none, errW_some] <;> rfl) | (simp [*, errW_none, errW_some] <;> rfl), by repeat (first | (with_reducible first | exact HB.out | apply below_alloc | apply pw_below_drewN | apply below_drew1) | exact HB.out)⟩
          ·rw [if_neg c17] at H
           have c17b0 : decide (255 < (rd x5_1 x10_2)) = false := decide_eq_false c17
           clear c17
           obtain ⟨ji19, hji19⟩ : ∃ j_ : Int, (IntKind.u64.wrap (wrap64 (24 - (wrap64 (8 * x10_2))))) = j_ := ⟨_, rfl⟩
           replace H : (if 0 ≤ (ji19) then (ostiaryref2_Four.l1 k2 x5_1 (Go.bits .or .u64 x9_2 (shl .u64 (rd x5_1 x10_2) (ji19))) (wrap64 (x10_2 + 1))) else (none)) = some (r1, r2) := by first | (rw [hji19] at H; exact H) | (simp only [hji19] at H ⊢; exact H)
           by_cases c20 : 0 ≤ (ji19)
           ·rw [if_pos c20] at H
            have c20b0 := eq_true c20
            have c20b1 : decide (0 ≤ (ji19)) = true := decide_eq_true c20
            clear c20
            obtain ⟨ji21, hji21⟩ : ∃ j_ : Int, (shl .u64 (rd x5_1 x10_2) (ji19)) = j_ := ⟨_, rfl⟩
            replace H : (ostiaryref2_Four.l1 k2 x5_1 (Go.bits .or .u64 x9_2 (ji21)) (wrap64 (x10_2 + 1))) = some (r1, r2) := by first | (rw [hji21] at H; exact H) | (simp only [hji21] at H ⊢; exact H)
            have hji21_ : (IntKind.u64.wrap ((rd x5_1 x10_2) * 2 ^ min (ji19).toNat 64)) = ji21 := hji21
            have hji21z : (ji19) ≤ 64 → (IntKind.u64.wrap ((rd x5_1 x10_2) * 2 ^ (ji19).toNat)) = ji21 := shl_small hji21
            have H' := Aside0.mk H
            clear H
            obtain ⟨Ao22, co22, eo22⟩ := Kd.R_slice HO_5.out
            subst eo22
            have p317 : 0 ≤ (x10_2 : Int) := of_decide_eq_true aS
            have q317 : x10_2 < (x5_1.length : Int) := of_decide_eq_true aS
            obtain ⟨ad317, e317, hx317_0⟩ := Kd.at_int (Kd.R_reads' HO_5.out).2.2 x10_2 p317 q317
            cases e317
            replace p317 := eq_true p317
            replace q317 := eq_true q317
            have p318 : 0 ≤ (x10_2 : Int) := of_decide_eq_true aS
            have q318 : x10_2 < (x5_1.length : Int) := of_decide_eq_true aS
            obtain ⟨ad318, e318, hx318_0⟩ := Kd.at_int (Kd.R_reads' HO_5.out).2.2 x10_2 p318 q318
            obtain rfl : ad317 = ad318 := (by injection e318)
            replace p318 := eq_true p318
            replace q318 := eq_true q318
            go_wp2
            go_roundg k2
            case measure => have := HK1.out; have := HK2.out; omega
            case rel => exact ⟨(Go.bits .or .u64 x9_2 (ji21)), (wrap64 (x10_2 + 1)), (by first | rfl | (simp; done) | (simp only [← hji21] <;> (first | rfl | simp)) | (simp [*]; done)), rS, H', ⟨by have := HK1.out; have := HK2.out; omega⟩, ⟨by (with_reducible repeat (first | apply Kd.R_alloc | apply Kd.R_drewN | apply Kd.R_drew)); exact HO_5.out⟩, ⟨by repeat (first | (with_reducible first | exact HB.out | apply below_alloc | apply pw_below_drewN | apply below_drew1) | exact HB.out)⟩⟩
           ·rw [if_neg c20] at H
            exact absurd H (by simp)
         ·rw [if_neg c16] at H
          exact absurd H (by simp)
        ·rw [if_neg c15] at H
         exact absurd H (by simp)
       ·rw [if_neg c14] at H
        have c14b0 : decide (x10_2 < (wrap64 ((x5_1.length : Int) - 1))) = false := decide_eq_false c14
        clear c14
        obtain ⟨ji23, hji23⟩ : ∃ j_ : Int, (wrap64 ((x5_1.length : Int) - 1)) = j_ := ⟨_, rfl⟩
        replace H : (if 0 ≤ (ji23) then (if (ji23) < (x5_1.length : Int) then (if 0 ≤ (IntKind.u64.wrap (wrap64 (8 * (wrap64 (5 - (x5_1.length : Int)))))) then (if (rd x5_1 (ji23)) ≥ (shl .u64 1 (IntKind.u64.wrap (wrap64 (8 * (wrap64 (5 - (x5_1.length : Int))))))) then (some (0, false)) else (some ((Go.bits .or .u64 x9_2 (rd x5_1 (ji23))) % 4294967296, true))) else (none)) else (none)) else (none)) = some (r1, r2) := by first | (rw [hji23] at H; exact H) | (simp only [hji23] at H ⊢; exact H)
        (try rw [hji23] at c14b0)
        have hji23w : (IntKind.i64.wrap ((x5_1.length : Int) - 1)) = ji23 := (i64_w _).trans hji23
        by_cases c24 : 0 ≤ (ji23)
        ·rw [if_pos c24] at H
         have c24b0 : decide (0 ≤ (ji23)) = true := decide_eq_true c24
         clear c24
         by_cases c25 : (ji23) < (x5_1.length : Int)
         ·rw [if_pos c25] at H
          have c25b0 : decide ((ji23) < (x5_1.length : Int)) = true := decide_eq_true c25
          clear c25
          obtain ⟨ji26, hji26⟩ : ∃ j_ : Int, (IntKind.u64.wrap (wrap64 (8 * (wrap64 (5 - (x5_1.length : Int)))))) = j_ := ⟨_, rfl⟩
          replace H : (if 0 ≤ (ji26) then (if (rd x5_1 (ji23)) ≥ (shl .u64 1 (ji26)) then (some (0, false)) else (some ((Go.bits .or .u64 x9_2 (rd x5_1 (ji23))) % 4294967296, true))) else (none)) = some (r1, r2) := by first | (rw [hji26] at H; exact H) | (simp only [hji26] at H ⊢; exact H)
          by_cases c27 : 0 ≤ (ji26)
          ·rw [if_pos c27] at H
           have c27b0 := eq_true c27
           have c27b1 : decide (0 ≤ (ji26)) = true := decide_eq_true c27
           clear c27
           obtain ⟨ji28, hji28⟩ : ∃ j_ : Int, (shl .u64 1 (ji26)) = j_ := ⟨_, rfl⟩
           replace H : (if (rd x5_1 (ji23)) ≥ (ji28) then (some (0, false)) else (some ((Go.bits .or .u64 x9_2 (rd x5_1 (ji23))) % 4294967296, true))) = some (r1, r2) := by first | (rw [hji28] at H; exact H) | (simp only [hji28] at H ⊢; exact H)
           have hji28_ : (IntKind.u64.wrap (1 * 2 ^ min (ji26).toNat 64)) = ji28 := hji28
           have hji28z : (ji26) ≤ 64 → (IntKind.u64.wrap (1 * 2 ^ (ji26).toNat)) = ji28 := shl_small hji28
           have hji28u : (IntKind.u64.wrap (2 ^ min (ji26).toNat 64)) = ji28 := by have h_ := hji28_; rw [Int.one_mul] at h_; exact h_
           have hji28v : (ji26) ≤ 64 → (IntKind.u64.wrap (2 ^ (ji26).toNat)) = ji28 := fun hle_ => by have h_ := hji28z hle_; rw [Int.one_mul] at h_; exact h_
           by_cases c29 : (rd x5_1 (ji23)) ≥ (ji28)
           ·rw [if_pos c29] at H
            have c29b0 : decide ((ji28) ≤ (rd x5_1 (ji23))) = true := decide_eq_true c29
            clear c29
            simp only [Option.some.injEq, Prod.mk.injEq] at H
            obtain ⟨rfl, rfl⟩ := H
            obtain ⟨Ao30, co30, eo30⟩ := Kd.R_slice HO_5.out
            subst eo30
            have p319 : 0 ≤ ((ji23) : Int) := of_decide_eq_true aS
            have q319 : (ji23) < (x5_1.length : Int) := of_decide_eq_true aS
            obtain ⟨ad319, e319, hx319_0⟩ := Kd.at_int (Kd.R_reads' HO_5.out).2.2 (ji23) p319 q319
            cases e319
            replace p319 := eq_true p319
            replace q319 := eq_true q319
            go_wp2
            go_ret2
            exact ⟨by first | rfl | (simp [errW_none, errW_some] <;> rfl) | (simp only [← hji23, ← hji26, ← hji28]; first | rfl | (simp [errW_none, errW_some] <;> rfl)) | (simp [*, errW_none, errW_some] <;> rfl), by repeat (first | (with_reducible first | exact HB.out | apply below_alloc | apply pw_below_drewN | apply below_drew1) | exact HB.out)⟩
           ·rw [if_neg c29] at H
            have c29b0 : decide ((ji28) ≤ (rd x5_1 (ji23))) = false := decide_eq_false c29
            clear c29
            simp only [Option.some.injEq, Prod.mk.injEq] at H
            obtain ⟨rfl, rfl⟩ := H
            obtain ⟨Ao31, co31, eo31⟩ := Kd.R_slice HO_5.out
            subst eo31
            have p319 : 0 ≤ ((ji23) : Int) := of_decide_eq_true aS
            have q319 : (ji23) < (x5_1.length : Int) := of_decide_eq_true aS
            obtain ⟨ad319, e319, hx319_0⟩ := Kd.at_int (Kd.R_reads' HO_5.out).2.2 (ji23) p319 q319
            cases e319
            replace p319 := eq_true p319
            replace q319 := eq_true q319
            go_wp2
            go_ret2
            exact ⟨by first | rfl | (simp [errW_none, errW_some] <;> rfl) | (simp only [← hji23, ← hji26, ← hji28]; first | rfl | (simp [errW_none, errW_some] <;> rfl)) | (simp [*, errW_none, errW_some] <;> rfl), by repeat (first | (with_reducible first | exact HB.out | apply below_alloc | apply pw_below_drewN | apply below_drew1) | exact HB.out)⟩
          ·rw [if_neg c27] at H
           exact absurd H (by simp)
         ·rw [if_neg c25] at H
          exact absurd H (by simp)
        ·rw [if_neg c24] at H
         exact absurd H (by simp)
end Go.Proofs.YtifmkgkiipckbaaDoor.P
namespace Go.Proofs.YtifmkgkiipckbaaDoor.P
open Go.RowKit Go.Proofs.YtifmkgkiipckbaaDoorW.PrintWords Go.Proofs.YtifmkgkiipckbaaDoorW.PrintLast Go.Proofs.YtifmkgkiipckbaaDoorW.PrintMore
attribute [local go_sem] max2_int min2_int max_two min_two max_three min_three max_four min_four
set_option linter.unusedVariables false
set_option linter.unusedSimpArgs false
mutual
def ostiaryref1_Numeral.l0 : Nat → Int → ByteArray → Option (ByteArray)
 | 0, _, _ => none
 | k + 1, x0, x3 => if x0 > 0 then (if 0 ≤ (Int.tmod x0 10) then (if (Int.tmod x0 10) ≤ (wrap64 ((Int.tmod x0 10) + 1)) then (if (wrap64 ((Int.tmod x0 10) + 1)) ≤ 10 then (if ((⟨#[48, 49, 50, 51, 52, 53, 54, 55, 56, 57]⟩ : ByteArray).extract ((Int.tmod x0 10) : Int).toNat ((wrap64 ((Int.tmod x0 10) + 1)) : Int).toNat).size + x3.size ≤ 9223372036854775807 then (ostiaryref1_Numeral.l0 k (wrap64 (Int.tdiv x0 10)) (((⟨#[48, 49, 50, 51, 52, 53, 54, 55, 56, 57]⟩ : ByteArray).extract ((Int.tmod x0 10) : Int).toNat ((wrap64 ((Int.tmod x0 10) + 1)) : Int).toNat) ++ x3)) else (none)) else (none)) else (none)) else (none)) else (if x3.toList = ([] : List UInt8) then (if 0 ≤ (Int.tmod x0 10) then (if (Int.tmod x0 10) ≤ (wrap64 ((Int.tmod x0 10) + 1)) then (if (wrap64 ((Int.tmod x0 10) + 1)) ≤ 10 then (if ((⟨#[48, 49, 50, 51, 52, 53, 54, 55, 56, 57]⟩ : ByteArray).extract ((Int.tmod x0 10) : Int).toNat ((wrap64 ((Int.tmod x0 10) + 1)) : Int).toNat).size + x3.size ≤ 9223372036854775807 then (ostiaryref1_Numeral.l0 k (wrap64 (Int.tdiv x0 10)) (((⟨#[48, 49, 50, 51, 52, 53, 54, 55, 56, 57]⟩ : ByteArray).extract ((Int.tmod x0 10) : Int).toNat ((wrap64 ((Int.tmod x0 10) + 1)) : Int).toNat) ++ x3)) else (none)) else (none)) else (none)) else (none)) else (some x3))
def ostiaryref1_Numeral.f : Nat → Int → Option (ByteArray)
 | 0, _ => none
 | k + 1, a0 => if a0 = (-9223372036854775808) then (some (⟨#[45, 57, 50, 50, 51, 51, 55, 50, 48, 51, 54, 56, 53, 52, 55, 55, 53, 56, 48, 56]⟩ : ByteArray)) else (if a0 < 0 then ((ostiaryref1_Numeral.f k (wrap64 (-a0))).bind fun t198 => (if 1 + t198.size ≤ 9223372036854775807 then (some ((⟨#[45]⟩ : ByteArray) ++ t198)) else (none))) else (ostiaryref1_Numeral.l0 k a0 (⟨#[]⟩ : ByteArray)))
end
theorem ostiaryref1_Numeral.mono_l : ∀ k, (∀ y0, LeO (ostiaryref1_Numeral.f k y0) (ostiaryref1_Numeral.f (k + 1) y0)) ∧ (∀ y0 y1, LeO (ostiaryref1_Numeral.l0 k y0 y1) (ostiaryref1_Numeral.l0 (k + 1) y0 y1))
 | 0 => ⟨fun _ r h => by simp [ostiaryref1_Numeral.f] at h, fun _ _ r h => by simp [ostiaryref1_Numeral.l0] at h⟩
 | k + 1 => by
  obtain ⟨ih0, ih1⟩ := ostiaryref1_Numeral.mono_l k
  refine ⟨?_, ?_⟩
  ·intro y0
   unfold ostiaryref1_Numeral.f
   exact lO
  ·intro y0 y1
   unfold ostiaryref1_Numeral.l0
   exact lO
theorem ostiaryref1_Numeral.mono : ∀ a0 k, LeO (ostiaryref1_Numeral.f k a0) (ostiaryref1_Numeral.f (k + 1) a0) := by
 intro a0 k
 obtain ⟨ih0, ih1⟩ := ostiaryref1_Numeral.mono_l k
 exact ih0 a0
set_option maxHeartbeats 8000000 in
set_option maxRecDepth 100000 in
theorem ostiaryref1_Numeral.calls (k : Nat) : ∀ (a0 : Int) (r : ByteArray) (w : World) (h : ostiaryref1_Numeral.f k a0 = some r),
  Calls Tryd.prog 51 #[.int .i64 a0] w fun e w' => e = .returned (.string r) ∧ Drawn0 w w' := by
 induction k using Nat.strongRecOn with
 | _ k ih =>
 intro a0 r w h
 cases k with
 | zero => exact absurd h (by simp [ostiaryref1_Numeral.f])
 | succ k =>
 simp only [ostiaryref1_Numeral.f] at h
 have H : (if a0 = (-9223372036854775808) then (some (⟨#[45, 57, 50, 50, 51, 51, 55, 50, 48, 51, 54, 56, 53, 52, 55, 55, 53, 56, 48, 56]⟩ : ByteArray)) else (if a0 < 0 then ((ostiaryref1_Numeral.f k (wrap64 (-a0))).bind fun t198 => (if 1 + t198.size ≤ 9223372036854775807 then (some ((⟨#[45]⟩ : ByteArray) ++ t198)) else (none))) else (ostiaryref1_Numeral.l0 k a0 (⟨#[]⟩ : ByteArray)))) = some r := h
 clear h
 by_cases c2 : a0 = (-9223372036854775808)
 ·rw [if_pos c2] at H
  have c2b0 : (a0 == (-9223372036854775808)) = true := beq_iff_eq.mpr c2
  have c2b1 : (a0 != (-9223372036854775808)) = false := bne_eq_false_iff_eq.mpr c2
  clear c2
  obtain rfl := Option.some.inj H
  go_enter Tryd.func51, Tryd.ntmps51
  go_wp2
  go_ret
  exact ⟨rS, by repeat (first | exact Drawn0.refl _ | apply Drawn0.step)⟩
 ·rw [if_neg c2] at H
  have c2b0 : (a0 == (-9223372036854775808)) = false := beq_eq_false_iff_ne.mpr c2
  have c2b1 : (a0 != (-9223372036854775808)) = true := bne_iff_ne.mpr c2
  by_cases c3 : a0 < 0
  ·rw [if_pos c3] at H
   have c3b0 : decide (a0 < 0) = true := decide_eq_true c3
   clear c3
   replace H := Option.bind_eq_some_iff.mp H
   obtain ⟨t198, A40, H⟩ := H
   replace H : (if 1 + t198.size ≤ 9223372036854775807 then (some ((⟨#[45]⟩ : ByteArray) ++ t198)) else (none)) = some r := H
   have A4 := Aside0.mk A40
   clear A40
   by_cases c5 : 1 + t198.size ≤ 9223372036854775807
   ·rw [if_pos c5] at H
    have c5b0 := eq_true c5
    have c5b1 : decide (1 + t198.size ≤ 9223372036854775807) = true := decide_eq_true c5
    try have c5b2 : (9223372036854775807 < 1 + t198.size) = False := eq_false (Nat.not_lt.2 c5)
    obtain rfl := Option.some.inj H
    go_enter Tryd.func51, Tryd.ntmps51
    go_wp2_with (first | ((with_reducible refine gate_callee (f := 51) rfl ?_); refine goesL_ (some 11) rfl rfl Tryd.func51 q2_ rfl #[.int .i64 (wrap64 (-a0))] rfl tS ?_; (with_reducible refine (ih k (by omega) (wrap64 (-a0)) t198 _ A4.out).mono ?_); rintro e w' ⟨rfl, ⟨nd, rfl⟩⟩; refine ⟨_, rfl, ?_⟩))
    go_ret
    exact ⟨rS, by repeat (first | exact Drawn0.refl _ | apply Drawn0.step)⟩
   ·rw [if_neg c5] at H
    exact absurd H (by simp)
  ·rw [if_neg c3] at H
   have c3b0 : decide (a0 < 0) = false := decide_eq_false c3
   clear c3
   have H' := Aside0.mk H
   clear H
   go_enter Tryd.func51, Tryd.ntmps51
   go_wp2
   go_loopg [0, 3] k (fun kq v0 v3 w' => ∃ (x0_1 : Int) (x3_1 : ByteArray), v0 = .int .i64 x0_1 ∧ v3 = .string x3_1 ∧ Aside0 (ostiaryref1_Numeral.l0 kq x0_1 x3_1 = some r) ∧ Aside0 (kq ≤ k) ∧ Drawn0 w w')
   case atStart => exact ⟨(a0), ((⟨#[]⟩ : ByteArray)), rS, rS, H', ⟨Nat.le_refl _⟩, by repeat (first | exact Drawn0.refl _ | apply Drawn0.step)⟩
   case round =>
    clear H'
    try clear c2
    try clear c2b0
    try clear c2b1
    try clear p2
    try clear c3
    try clear c3b0
    try clear c5
    try clear c5b0
    try clear c5b1
    try clear c5b2
    obtain ⟨x0_1, x3_1, rfl, rfl, HA, HK1, ⟨m1, rfl⟩⟩ := hrel
    cases gk with
    | zero => exact absurd HA.out (by simp [ostiaryref1_Numeral.l0])
    | succ k1 =>
     have H := HA.out
     clear HA
     simp only [ostiaryref1_Numeral.l0] at H
     by_cases c6 : x0_1 > 0
     ·rw [if_pos c6] at H
      have c6b0 : decide (0 < x0_1) = true := decide_eq_true c6
      clear c6
      obtain ⟨ji7, hji7⟩ : ∃ j_ : Int, (Int.tmod x0_1 10) = j_ := ⟨_, rfl⟩
      replace H : (if 0 ≤ (ji7) then (if (ji7) ≤ (wrap64 ((ji7) + 1)) then (if (wrap64 ((ji7) + 1)) ≤ 10 then (if ((⟨#[48, 49, 50, 51, 52, 53, 54, 55, 56, 57]⟩ : ByteArray).extract ((ji7) : Int).toNat ((wrap64 ((ji7) + 1)) : Int).toNat).size + x3_1.size ≤ 9223372036854775807 then (ostiaryref1_Numeral.l0 k1 (wrap64 (Int.tdiv x0_1 10)) (((⟨#[48, 49, 50, 51, 52, 53, 54, 55, 56, 57]⟩ : ByteArray).extract ((ji7) : Int).toNat ((wrap64 ((ji7) + 1)) : Int).toNat) ++ x3_1)) else (none)) else (none)) else (none)) else (none)) = some r := by first | (rw [hji7] at H; exact H) | (simp only [hji7] at H ⊢; exact H)
      by_cases c8 : 0 ≤ (ji7)
      ·rw [if_pos c8] at H
       have c8b0 := eq_true c8
       have c8b1 : decide (0 ≤ (ji7)) = true := decide_eq_true c8
       clear c8
       by_cases c9 : (ji7) ≤ (wrap64 ((ji7) + 1))
       ·rw [if_pos c9] at H
        have c9b0 := eq_true c9
        have c9b1 : decide ((ji7) ≤ (wrap64 ((ji7) + 1))) = true := decide_eq_true c9
        by_cases c10 : (wrap64 ((ji7) + 1)) ≤ 10
        ·rw [if_pos c10] at H
         have c10b0 := eq_true c10
         have c10b1 : decide ((wrap64 ((ji7) + 1)) ≤ 10) = true := decide_eq_true c10
         by_cases c11 : ((⟨#[48, 49, 50, 51, 52, 53, 54, 55, 56, 57]⟩ : ByteArray).extract ((ji7) : Int).toNat ((wrap64 ((ji7) + 1)) : Int).toNat).size + x3_1.size ≤ 9223372036854775807
         ·rw [if_pos c11] at H
          have c11b0 := eq_true c11
          have c11b1 : decide (((⟨#[48, 49, 50, 51, 52, 53, 54, 55, 56, 57]⟩ : ByteArray).extract ((ji7) : Int).toNat ((wrap64 ((ji7) + 1)) : Int).toNat).size + x3_1.size ≤ 9223372036854775807) = true := decide_eq_true c11
          try have c11b2 : (9223372036854775807 < ((⟨#[48, 49, 50, 51, 52, 53, 54, 55, 56, 57]⟩ : ByteArray).extract ((ji7) : Int).toNat ((wrap64 ((ji7) + 1)) : Int).toNat).size + x3_1.size) = False := eq_false (Nat.not_lt.2 c11)
          have H' := Aside0.mk H
          clear H
          go_wp2
          go_roundg k1
          case measure => have := HK1.out; omega
          case rel => exact ⟨(wrap64 (Int.tdiv x0_1 10)), (((⟨#[48, 49, 50, 51, 52, 53, 54, 55, 56, 57]⟩ : ByteArray).extract ((ji7) : Int).toNat ((wrap64 ((ji7) + 1)) : Int).toNat) ++ x3_1), rS, (by first | rfl | (simp; done) | (simp only [← hji7] <;> (first | rfl | simp)) | (simp [*]; done)), H', ⟨by have := HK1.out; omega⟩, by repeat (first | exact Drawn0.refl _ | apply Drawn0.step)⟩
         ·rw [if_neg c11] at H
          exact absurd H (by simp)
        ·rw [if_neg c10] at H
         exact absurd H (by simp)
       ·rw [if_neg c9] at H
        exact absurd H (by simp)
      ·rw [if_neg c8] at H
       exact absurd H (by simp)
     ·rw [if_neg c6] at H
      have c6b0 : decide (0 < x0_1) = false := decide_eq_false c6
      clear c6
      by_cases c12 : x3_1.toList = ([] : List UInt8)
      ·rw [if_pos c12] at H
       have c12b0 : (x3_1.toList == ([] : List UInt8)) = true := beq_iff_eq.mpr c12
       have c12b1 : (x3_1.toList != ([] : List UInt8)) = false := bne_eq_false_iff_eq.mpr c12
       clear c12
       obtain ⟨ji13, hji13⟩ : ∃ j_ : Int, (Int.tmod x0_1 10) = j_ := ⟨_, rfl⟩
       replace H : (if 0 ≤ (ji13) then (if (ji13) ≤ (wrap64 ((ji13) + 1)) then (if (wrap64 ((ji13) + 1)) ≤ 10 then (if ((⟨#[48, 49, 50, 51, 52, 53, 54, 55, 56, 57]⟩ : ByteArray).extract ((ji13) : Int).toNat ((wrap64 ((ji13) + 1)) : Int).toNat).size + x3_1.size ≤ 9223372036854775807 then (ostiaryref1_Numeral.l0 k1 (wrap64 (Int.tdiv x0_1 10)) (((⟨#[48, 49, 50, 51, 52, 53, 54, 55, 56, 57]⟩ : ByteArray).extract ((ji13) : Int).toNat ((wrap64 ((ji13) + 1)) : Int).toNat) ++ x3_1)) else (none)) else (none)) else (none)) else (none)) = some r := by first | (rw [hji13] at H; exact H) | (simp only [hji13] at H ⊢; exact H)
       by_cases c14 : 0 ≤ (ji13)
       ·rw [if_pos c14] at H
        have c14b0 := eq_true c14
        have c14b1 : decide (0 ≤ (ji13)) = true := decide_eq_true c14
        clear c14
        by_cases c15 : (ji13) ≤ (wrap64 ((ji13) + 1))
        ·rw [if_pos c15] at H
         have c15b0 := eq_true c15
         have c15b1 : decide ((ji13) ≤ (wrap64 ((ji13) + 1))) = true := decide_eq_true c15
         by_cases c16 : (wrap64 ((ji13) + 1)) ≤ 10
         ·rw [if_pos c16] at H
          have c16b0 := eq_true c16
          have c16b1 : decide ((wrap64 ((ji13) + 1)) ≤ 10) = true := decide_eq_true c16
          by_cases c17 : ((⟨#[48, 49, 50, 51, 52, 53, 54, 55, 56, 57]⟩ : ByteArray).extract ((ji13) : Int).toNat ((wrap64 ((ji13) + 1)) : Int).toNat).size + x3_1.size ≤ 9223372036854775807
          ·rw [if_pos c17] at H
           have c17b0 := eq_true c17
           have c17b1 : decide (((⟨#[48, 49, 50, 51, 52, 53, 54, 55, 56, 57]⟩ : ByteArray).extract ((ji13) : Int).toNat ((wrap64 ((ji13) + 1)) : Int).toNat).size + x3_1.size ≤ 9223372036854775807) = true := decide_eq_true c17
           try have c17b2 : (9223372036854775807 < ((⟨#[48, 49, 50, 51, 52, 53, 54, 55, 56, 57]⟩ : ByteArray).extract ((ji13) : Int).toNat ((wrap64 ((ji13) + 1)) : Int).toNat).size + x3_1.size) = False := eq_false (Nat.not_lt.2 c17)
           have H' := Aside0.mk H
           clear H
           go_wp2
           go_roundg k1
           case measure => have := HK1.out; omega
           case rel => exact ⟨(wrap64 (Int.tdiv x0_1 10)), (((⟨#[48, 49, 50, 51, 52, 53, 54, 55, 56, 57]⟩ : ByteArray).extract ((ji13) : Int).toNat ((wrap64 ((ji13) + 1)) : Int).toNat) ++ x3_1), rS, (by first | rfl | (simp; done) | (simp only [← hji13] <;> (first | rfl | simp)) | (simp [*]; done)), H', ⟨by have := HK1.out; omega⟩, by repeat (first | exact Drawn0.refl _ | apply Drawn0.step)⟩
          ·rw [if_neg c17] at H
           exact absurd H (by simp)
         ·rw [if_neg c16] at H
          exact absurd H (by simp)
        ·rw [if_neg c15] at H
         exact absurd H (by simp)
       ·rw [if_neg c14] at H
        exact absurd H (by simp)
      ·rw [if_neg c12] at H
       have c12b0 : (x3_1.toList == ([] : List UInt8)) = false := beq_eq_false_iff_ne.mpr c12
       have c12b1 : (x3_1.toList != ([] : List UInt8)) = true := bne_iff_ne.mpr c12
       obtain rfl := Option.some.inj H
       go_wp2
       go_ret
       exact ⟨rS, by repeat (first | exact Drawn0.refl _ | apply Drawn0.step)⟩
end Go.Proofs.YtifmkgkiipckbaaDoor.P
namespace Go.Proofs.YtifmkgkiipckbaaDoor.P
open Go.RowKit Go.Proofs.YtifmkgkiipckbaaDoorW.PrintWords Go.Proofs.YtifmkgkiipckbaaDoorW.PrintLast Go.Proofs.YtifmkgkiipckbaaDoorW.PrintMore
attribute [local go_sem] max2_int min2_int max_two min_two max_three min_three max_four min_four
set_option linter.unusedVariables false
set_option linter.unusedSimpArgs false
def ostiaryref2_Text4.l0 : Nat → Int → ByteArray → Int → Option (ByteArray)
 | 0, _, _, _ => none
 | k + 1, x0, x3, x4 => if x4 ≥ 0 then (if x3.toList = ([] : List UInt8) then (if 0 ≤ (IntKind.u64.wrap (x4)) then ((ostiaryref1_Numeral.f k (wrap64 (Go.bits .and .u32 (shr .u32 x0 (IntKind.u64.wrap (x4))) 255))).bind fun t320 => (if x3.size + t320.size ≤ 9223372036854775807 then (ostiaryref2_Text4.l0 k x0 (x3 ++ t320) (wrap64 (x4 - 8))) else (none))) else (none)) else (if x3.size + 1 ≤ 9223372036854775807 then (if 0 ≤ (IntKind.u64.wrap (x4)) then ((ostiaryref1_Numeral.f k (wrap64 (Go.bits .and .u32 (shr .u32 x0 (IntKind.u64.wrap (x4))) 255))).bind fun t321 => (if (x3 ++ (⟨#[46]⟩ : ByteArray)).size + t321.size ≤ 9223372036854775807 then (ostiaryref2_Text4.l0 k x0 ((x3 ++ (⟨#[46]⟩ : ByteArray)) ++ t321) (wrap64 (x4 - 8))) else (none))) else (none)) else (none))) else (some x3)
def ostiaryref2_Text4.f (k : Nat) (a0 : Int) : Option (ByteArray) := ostiaryref2_Text4.l0 k a0 (⟨#[]⟩ : ByteArray) 24
theorem ostiaryref2_Text4.mono_l : ∀ k, (∀ y0 y1 y2, LeO (ostiaryref2_Text4.l0 k y0 y1 y2) (ostiaryref2_Text4.l0 (k + 1) y0 y1 y2))
 | 0 => fun _ _ _ r h => by simp [ostiaryref2_Text4.l0] at h
 | k + 1 => by
  have ih0 := ostiaryref2_Text4.mono_l k
  ·intro y0 y1 y2
   unfold ostiaryref2_Text4.l0
   repeat' first
   | (with_reducible exact ih0 _ _ _)
   | (with_reducible exact ostiaryref1_Numeral.mono _ _)
   | (with_reducible exact LeO.refl _)
   | (with_reducible exact LeO.none _)
   | (with_reducible refine LeO.ite ?_ ?_)
   | (with_reducible refine LeO.bind ?_ (fun _ => ?_))
   | exact ih0 _ _ _
   | exact ostiaryref1_Numeral.mono _ _
   | exact LeO.none _
   | refine LeO.ite ?_ ?_
   | refine LeO.bind ?_ (fun _ => ?_)
theorem ostiaryref2_Text4.mono : ∀ a0 k, LeO (ostiaryref2_Text4.f k a0) (ostiaryref2_Text4.f (k + 1) a0) := by
 intro a0 k
 have ih0 := ostiaryref2_Text4.mono_l k
 unfold ostiaryref2_Text4.f
 repeat' first
   | (with_reducible exact ih0 _ _ _)
   | (with_reducible exact ostiaryref1_Numeral.mono _ _)
   | (with_reducible exact LeO.refl _)
   | (with_reducible exact LeO.none _)
   | (with_reducible refine LeO.ite ?_ ?_)
   | (with_reducible refine LeO.bind ?_ (fun _ => ?_))
   | exact ih0 _ _ _
   | exact ostiaryref1_Numeral.mono _ _
   | exact LeO.none _
   | refine LeO.ite ?_ ?_
   | refine LeO.bind ?_ (fun _ => ?_)
set_option maxHeartbeats 8000000 in
set_option maxRecDepth 100000 in
theorem ostiaryref2_Text4.calls (k : Nat) (a0 : Int) (r : ByteArray) (w : World) (h : ostiaryref2_Text4.f k a0 = some r) :
  Calls Tryd.prog 206 #[.int .u32 a0] w fun e w' => e = .returned (.string r) ∧ Drawn0 w w' := by
 have H : (ostiaryref2_Text4.l0 k a0 (⟨#[]⟩ : ByteArray) 24) = some r := h
 clear h
 have H' := Aside0.mk H
 clear H
 go_enter Tryd.func206, Tryd.ntmps206
 go_wp2
 go_loopg [3, 4] k (fun kq v3 v4 w' => ∃ (x3_1 : ByteArray) (x4_1 : Int), v3 = .string x3_1 ∧ v4 = .int .i64 x4_1 ∧ Aside0 (ostiaryref2_Text4.l0 kq a0 x3_1 x4_1 = some r) ∧ Aside0 (kq ≤ k) ∧ Drawn0 w w')
 case atStart => exact ⟨((⟨#[]⟩ : ByteArray)), (24), rS, rS, H', ⟨Nat.le_refl _⟩, by repeat (first | exact Drawn0.refl _ | apply Drawn0.step)⟩
 case round =>
  clear H'
  obtain ⟨x3_1, x4_1, rfl, rfl, HA, HK1, ⟨m1, rfl⟩⟩ := hrel
  cases gk with
  | zero => exact absurd HA.out (by simp [ostiaryref2_Text4.l0])
  | succ k1 =>
   have H := HA.out
   clear HA
   simp only [ostiaryref2_Text4.l0] at H
   by_cases c2 : x4_1 ≥ 0
   ·rw [if_pos c2] at H
    have c2b0 : decide (0 ≤ x4_1) = true := decide_eq_true c2
    clear c2
    by_cases c3 : x3_1.toList = ([] : List UInt8)
    ·rw [if_pos c3] at H
     have c3b0 : (x3_1.toList == ([] : List UInt8)) = true := beq_iff_eq.mpr c3
     have c3b1 : (x3_1.toList != ([] : List UInt8)) = false := bne_eq_false_iff_eq.mpr c3
     clear c3
     obtain ⟨ji4, hji4⟩ : ∃ j_ : Int, (IntKind.u64.wrap (x4_1)) = j_ := ⟨_, rfl⟩
     replace H : (if 0 ≤ (ji4) then ((ostiaryref1_Numeral.f k1 (wrap64 (Go.bits .and .u32 (shr .u32 a0 (ji4)) 255))).bind fun t320 => (if x3_1.size + t320.size ≤ 9223372036854775807 then (ostiaryref2_Text4.l0 k1 a0 (x3_1 ++ t320) (wrap64 (x4_1 - 8))) else (none))) else (none)) = some r := by first | (rw [hji4] at H; exact H) | (simp only [hji4] at H ⊢; exact H)
     by_cases c5 : 0 ≤ (ji4)
     ·rw [if_pos c5] at H
      have c5b0 := eq_true c5
      have c5b1 : decide (0 ≤ (ji4)) = true := decide_eq_true c5
      clear c5
      obtain ⟨ji6, hji6⟩ : ∃ j_ : Int, (shr .u32 a0 (ji4)) = j_ := ⟨_, rfl⟩
      replace H : ((ostiaryref1_Numeral.f k1 (wrap64 (Go.bits .and .u32 (ji6) 255))).bind fun t320 => (if x3_1.size + t320.size ≤ 9223372036854775807 then (ostiaryref2_Text4.l0 k1 a0 (x3_1 ++ t320) (wrap64 (x4_1 - 8))) else (none))) = some r := by first | (rw [hji6] at H; exact H) | (simp only [hji6] at H ⊢; exact H)
      have hji6_ : (a0 / 2 ^ min (ji4).toNat 32) = ji6 := hji6
      have hji6z : (ji4) ≤ 32 → (a0 / 2 ^ (ji4).toNat) = ji6 := shr_small hji6
      replace H := Option.bind_eq_some_iff.mp H
      obtain ⟨t320, A70, H⟩ := H
      replace H : (if x3_1.size + t320.size ≤ 9223372036854775807 then (ostiaryref2_Text4.l0 k1 a0 (x3_1 ++ t320) (wrap64 (x4_1 - 8))) else (none)) = some r := H
      have A7 := Aside0.mk A70
      clear A70
      by_cases c8 : x3_1.size + t320.size ≤ 9223372036854775807
      ·rw [if_pos c8] at H
       have c8b0 := eq_true c8
       have c8b1 : decide (x3_1.size + t320.size ≤ 9223372036854775807) = true := decide_eq_true c8
       try have c8b2 : (9223372036854775807 < x3_1.size + t320.size) = False := eq_false (Nat.not_lt.2 c8)
       have H' := Aside0.mk H
       clear H
       go_wp2_with (first | ((with_reducible refine gate_callee (f := 51) rfl ?_); refine goesL_ (some 20) rfl rfl Tryd.func51 q2_ rfl #[.int .i64 (wrap64 (Go.bits .and .u32 (ji6) 255))] rfl (by (try simp only [List.map_toArray, List.map_cons, List.map_nil]); first | done | (simp only [hji6]; rfl) | rfl | (simp only [List.length_drop, List.length_take]; rfl)) ?_; (with_reducible refine (ostiaryref1_Numeral.calls k1 (wrap64 (Go.bits .and .u32 (ji6) 255)) t320 _ A7.out).mono ?_); rintro e w' ⟨rfl, ⟨nd, rfl⟩⟩; refine ⟨_, rfl, ?_⟩))
       go_roundg k1
       case measure => have := HK1.out; omega
       case rel => exact ⟨(x3_1 ++ t320), (wrap64 (x4_1 - 8)), rS, rS, H', ⟨by have := HK1.out; omega⟩, by repeat (first | exact Drawn0.refl _ | apply Drawn0.step)⟩
      ·rw [if_neg c8] at H
       exact absurd H (by simp)
     ·rw [if_neg c5] at H
      exact absurd H (by simp)
    ·rw [if_neg c3] at H
     have c3b0 : (x3_1.toList == ([] : List UInt8)) = false := beq_eq_false_iff_ne.mpr c3
     have c3b1 : (x3_1.toList != ([] : List UInt8)) = true := bne_iff_ne.mpr c3
     by_cases c9 : x3_1.size + 1 ≤ 9223372036854775807
     ·rw [if_pos c9] at H
      have c9b0 := eq_true c9
      have c9b1 : decide (x3_1.size + 1 ≤ 9223372036854775807) = true := decide_eq_true c9
      try have c9b2 : (9223372036854775807 < x3_1.size + 1) = False := eq_false (Nat.not_lt.2 c9)
      obtain ⟨ji10, hji10⟩ : ∃ j_ : Int, (IntKind.u64.wrap (x4_1)) = j_ := ⟨_, rfl⟩
      replace H : (if 0 ≤ (ji10) then ((ostiaryref1_Numeral.f k1 (wrap64 (Go.bits .and .u32 (shr .u32 a0 (ji10)) 255))).bind fun t321 => (if (x3_1 ++ (⟨#[46]⟩ : ByteArray)).size + t321.size ≤ 9223372036854775807 then (ostiaryref2_Text4.l0 k1 a0 ((x3_1 ++ (⟨#[46]⟩ : ByteArray)) ++ t321) (wrap64 (x4_1 - 8))) else (none))) else (none)) = some r := by first | (rw [hji10] at H; exact H) | (simp only [hji10] at H ⊢; exact H)
      by_cases c11 : 0 ≤ (ji10)
      ·rw [if_pos c11] at H
       have c11b0 := eq_true c11
       have c11b1 : decide (0 ≤ (ji10)) = true := decide_eq_true c11
       clear c11
       obtain ⟨ji12, hji12⟩ : ∃ j_ : Int, (shr .u32 a0 (ji10)) = j_ := ⟨_, rfl⟩
       replace H : ((ostiaryref1_Numeral.f k1 (wrap64 (Go.bits .and .u32 (ji12) 255))).bind fun t321 => (if (x3_1 ++ (⟨#[46]⟩ : ByteArray)).size + t321.size ≤ 9223372036854775807 then (ostiaryref2_Text4.l0 k1 a0 ((x3_1 ++ (⟨#[46]⟩ : ByteArray)) ++ t321) (wrap64 (x4_1 - 8))) else (none))) = some r := by first | (rw [hji12] at H; exact H) | (simp only [hji12] at H ⊢; exact H)
       have hji12_ : (a0 / 2 ^ min (ji10).toNat 32) = ji12 := hji12
       have hji12z : (ji10) ≤ 32 → (a0 / 2 ^ (ji10).toNat) = ji12 := shr_small hji12
       replace H := Option.bind_eq_some_iff.mp H
       obtain ⟨t321, A130, H⟩ := H
       replace H : (if (x3_1 ++ (⟨#[46]⟩ : ByteArray)).size + t321.size ≤ 9223372036854775807 then (ostiaryref2_Text4.l0 k1 a0 ((x3_1 ++ (⟨#[46]⟩ : ByteArray)) ++ t321) (wrap64 (x4_1 - 8))) else (none)) = some r := H
       have A13 := Aside0.mk A130
       clear A130
       by_cases c14 : (x3_1 ++ (⟨#[46]⟩ : ByteArray)).size + t321.size ≤ 9223372036854775807
       ·rw [if_pos c14] at H
        have c14b0 := eq_true c14
        have c14b1 : decide ((x3_1 ++ (⟨#[46]⟩ : ByteArray)).size + t321.size ≤ 9223372036854775807) = true := decide_eq_true c14
        have c14q := c14
        try simp only [ByteArray.size_append', ByteArray.size_mk', List.size_toArray, List.length_cons, List.length_nil, Nat.zero_add] at c14q
        have c14q0 := eq_true c14q
        have c14q1 := decide_eq_true c14q
        try have c14q2 := eq_false (Nat.not_lt.2 c14q)
        clear c14q
        try have c14b2 : (9223372036854775807 < (x3_1 ++ (⟨#[46]⟩ : ByteArray)).size + t321.size) = False := eq_false (Nat.not_lt.2 c14)
        have H' := Aside0.mk H
        clear H
        go_wp2_with (first | ((with_reducible refine gate_callee (f := 51) rfl ?_); refine goesL_ (some 20) rfl rfl Tryd.func51 q2_ rfl #[.int .i64 (wrap64 (Go.bits .and .u32 (ji12) 255))] rfl (by (try simp only [List.map_toArray, List.map_cons, List.map_nil]); first | done | (simp only [hji12]; rfl) | rfl | (simp only [List.length_drop, List.length_take]; rfl)) ?_; (with_reducible refine (ostiaryref1_Numeral.calls k1 (wrap64 (Go.bits .and .u32 (ji12) 255)) t321 _ A13.out).mono ?_); rintro e w' ⟨rfl, ⟨nd, rfl⟩⟩; refine ⟨_, rfl, ?_⟩))
        go_roundg k1
        case measure => have := HK1.out; omega
        case rel => exact ⟨((x3_1 ++ (⟨#[46]⟩ : ByteArray)) ++ t321), (wrap64 (x4_1 - 8)), rS, rS, H', ⟨by have := HK1.out; omega⟩, by repeat (first | exact Drawn0.refl _ | apply Drawn0.step)⟩
       ·rw [if_neg c14] at H
        exact absurd H (by simp)
      ·rw [if_neg c11] at H
       exact absurd H (by simp)
     ·rw [if_neg c9] at H
      exact absurd H (by simp)
   ·rw [if_neg c2] at H
    have c2b0 : decide (0 ≤ x4_1) = false := decide_eq_false c2
    clear c2
    obtain rfl := Option.some.inj H
    go_wp2
    go_ret
    exact ⟨rS, by repeat (first | exact Drawn0.refl _ | apply Drawn0.step)⟩
end Go.Proofs.YtifmkgkiipckbaaDoor.P
