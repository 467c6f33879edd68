/- A part of the proof of CorsLess: texts of walks and plain lemmas. -/
import Derived.Test.YtifmkgkiipckbaaDoorX1
import Derived.Test.YtifmkgkiipckbaaDoorX2
import Derived.Test.YtifmkgkiipckbaaDoorX3
namespace Go.Proofs.YtifmkgkiipckbaaDoor.P
open Go.RowKit Go.Proofs.YtifmkgkiipckbaaDoorW.PrintWords Go.Proofs.YtifmkgkiipckbaaDoorW.PrintLast Go.Proofs.YtifmkgkiipckbaaDoorW.PrintMore
attribute [local go_sem] max2_int min2_int max_two min_two max_three min_three max_four min_four
set_option linter.unusedVariables false
set_option linter.unusedSimpArgs false
def ostiaryref2_decimals.l0 : Nat → List ByteArray → List Int → Int → Option (List Int × Bool)
 | 0, _, _, _ => none
 | k + 1, x4, x5, x6 => if x6 < (x4.length : Int) then (if 0 ≤ x6 then ((ostiaryref1_Int.f k (rdOf ByteArray.empty x4 x6)).bind fun bt335 => (if bt335.2 = true then (if bt335.1 > 255 then (some (([] : List Int), false)) else (if ((rdOf ByteArray.empty x4 x6).size : Int) > 1 then (if 0 < ((rdOf ByteArray.empty x4 x6).size : Int) then (if (bt (rdOf ByteArray.empty x4 x6) 0) = 48 then (some (([] : List Int), false)) else (if x5.length < 17592186044416 then (ostiaryref2_decimals.l0 k x4 (x5 ++ [bt335.1]) (wrap64 (x6 + 1))) else (none))) else (none)) else (if x5.length < 17592186044416 then (ostiaryref2_decimals.l0 k x4 (x5 ++ [bt335.1]) (wrap64 (x6 + 1))) else (none)))) else (some (([] : List Int), false)))) else (none)) else (if 0 < (x5.length : Int) then (if 1 < (x5.length : Int) then (if 2 < (x5.length : Int) then (if 3 < (x5.length : Int) then (some ((([IntKind.u16.wrap (Go.bits .or .i64 (wrap64 ((rd x5 0) * 256)) (rd x5 1)), IntKind.u16.wrap (Go.bits .or .i64 (wrap64 ((rd x5 2) * 256)) (rd x5 3))] : List Int)), true)) else (none)) else (none)) else (none)) else (none))
def ostiaryref2_decimals.f (k : Nat) (a0 : ByteArray) : Option (List Int × Bool) := (ostiaryref1_Cut.f k a0 46).bind fun t331 => (ostiaryref2_decimals.l0 k t331 ([] : List Int) 0)
theorem ostiaryref2_decimals.mono_l : ∀ k, (∀ y0 y1 y2, LeO (ostiaryref2_decimals.l0 k y0 y1 y2) (ostiaryref2_decimals.l0 (k + 1) y0 y1 y2))
 | 0 => fun _ _ _ r h => by simp [ostiaryref2_decimals.l0] at h
 | k + 1 => by
  have ih0 := ostiaryref2_decimals.mono_l k
  ·intro y0 y1 y2
   unfold ostiaryref2_decimals.l0
   repeat' first
   | (with_reducible exact ih0 _ _ _)
   | (with_reducible exact ostiaryref1_Cut.mono _ _ _)
   | (with_reducible exact ostiaryref1_Int.mono _ _)
   | (with_reducible exact LeO.refl _)
   | (with_reducible exact LeO.none _)
   | (with_reducible refine LeO.ite ?_ ?_)
   | (with_reducible refine LeO.bind ?_ (fun _ => ?_))
   | exact ih0 _ _ _
   | exact ostiaryref1_Cut.mono _ _ _
   | exact ostiaryref1_Int.mono _ _
   | exact LeO.none _
   | refine LeO.ite ?_ ?_
   | refine LeO.bind ?_ (fun _ => ?_)
theorem ostiaryref2_decimals.mono : ∀ a0 k, LeO (ostiaryref2_decimals.f k a0) (ostiaryref2_decimals.f (k + 1) a0) := by
 intro a0 k
 have ih0 := ostiaryref2_decimals.mono_l k
 unfold ostiaryref2_decimals.f
 repeat' first
   | (with_reducible exact ih0 _ _ _)
   | (with_reducible exact ostiaryref1_Cut.mono _ _ _)
   | (with_reducible exact ostiaryref1_Int.mono _ _)
   | (with_reducible exact LeO.refl _)
   | (with_reducible exact LeO.none _)
   | (with_reducible refine LeO.ite ?_ ?_)
   | (with_reducible refine LeO.bind ?_ (fun _ => ?_))
   | exact ih0 _ _ _
   | exact ostiaryref1_Cut.mono _ _ _
   | exact ostiaryref1_Int.mono _ _
   | exact LeO.none _
   | refine LeO.ite ?_ ?_
   | refine LeO.bind ?_ (fun _ => ?_)
def ostiaryref2_decimals.T10 : Bool × List (List Nat × List Nat) := (true, [([], []), ([0], [0]), ([1], [1]), ([2], [2]), ([], []), ([4], [4]), ([5], [5]), ([3, 6], [3, 6]), ([7], [7]), ([], []), ([9], [9]), ([10], [10]), ([11], [11]), ([], []), ([13], [13]), ([14], [14]), ([12, 15], [12, 15]), ([16], [16]), ([8, 17], [8, 17]), ([18, 0, 1, 2, 3, 4, 5, 6, 7, 8, 9, 10, 11, 12, 13, 14, 15, 16, 17, 18], [18]), ([19, 0, 1, 2, 3, 4, 5, 6, 7, 8, 9, 10, 11, 12, 13, 14, 15, 16, 17, 18, 19], [])])
def ostiaryref2_decimals.B10 : List Nat := [0, 1, 3, 7, 0, 16, 48, 127, 255, 0, 512, 1536, 3584, 0, 8192, 24576, 65024, 130560, 262143, 524287, 1048575]
theorem ostiaryref2_decimals.tab10 : rtab .any (opsOf Tryd.f219 10) = ostiaryref2_decimals.T10 := by kernel_rfl
theorem ostiaryref2_decimals.bits10 : waitsOk ostiaryref2_decimals.T10.2 ostiaryref2_decimals.B10 = true := by kernel_rfl
set_option maxHeartbeats 8000000 in
set_option maxRecDepth 100000 in
theorem ostiaryref2_decimals.calls (k : Nat) (a0 : ByteArray) (r1 : List Int) (r2 : Bool) (w : World) (h : ostiaryref2_decimals.f k a0 = some (r1, r2)) :
  Calls Tryd.prog 219 #[.string a0] w fun e w' => ∃ v0_ : Value, e = .returned (.tuple #[v0_, .bool r2]) ∧ Kd.R (Kd.int .u16) 245 w' w.heap.size (fun _ => True) v0_ r1 ∧ Below w.heap.size w w' := by
 have HB := Aside0.mk (Below.refl w.heap.size w)
 have H : ((ostiaryref1_Cut.f k a0 46).bind fun t331 => (ostiaryref2_decimals.l0 k t331 ([] : List Int) 0)) = some (r1, r2) := h
 clear h
 replace H := Option.bind_eq_some_iff.mp H
 obtain ⟨t331, A20, H⟩ := H
 replace H : (ostiaryref2_decimals.l0 k t331 ([] : List Int) 0) = some (r1, r2) := H
 have A2 := Aside0.mk A20
 clear A20
 have H' := Aside0.mk H
 clear H
 go_enter Tryd.func219, Tryd.ntmps219
 go_wp2_with (first | ((with_reducible refine gate_callee (f := 183) rfl ?_); refine goesL_ (some 10) rfl rfl Tryd.func183 q2_ rfl #[.string a0, .int .u8 46] rfl tS ?_; (with_reducible refine (ostiaryref1_Cut.calls k a0 46 t331 _ A2.out).mono ?_); rintro e w3 ⟨v332, rfl, ho0, hb⟩; refine ⟨_, rfl, ?_⟩; have n0_ := Aside0.mk (Kd.R_lower ho0 (below_size hB)); have n1_ := Aside0.mk (below_step hB hb); clear HB; have HO333 := n0_; have HB := n1_; clear n0_ n1_; (try clear hb); (try clear hb2); (try clear hk); (try clear hi); (try clear ho0)))
 go_loopg [5, 6] k (fun kq v5 v6 w' => ∃ (x5_1 : List Int) (x6_1 : Int), v6 = .int .i64 x6_1 ∧ Aside0 (ostiaryref2_decimals.l0 kq t331 x5_1 x6_1 = some (r1, r2)) ∧ Aside0 (kq ≤ k) ∧ Aside0 (Kd.R Kd.string 9 w' w.heap.size (fun _ => True) v332 t331) ∧ Aside0 (Kd.R (Kd.int .i64) 2 w' w.heap.size (fun _ => True) v5 x5_1) ∧ Aside0 (Below w.heap.size w w'))
 case atStart => exact ⟨(([] : List Int)), (0), rS, H', ⟨Nat.le_refl _⟩, ⟨by (with_reducible repeat (first | apply Kd.R_alloc | apply Kd.R_drewN | apply Kd.R_drew)); exact HO333.out⟩, ⟨by first | exact Kd.R_nil _ _ _ _ _ | exact Kd.N_nil _ _ _ _ _ | exact Kd.V_nil _ _ _ _ _ | exact Kd.Q_nil _ _ _ _ _ | exact Kd.S_nil _ _ _ _ _⟩, ⟨by repeat (first | (with_reducible first | exact HB.out | apply below_alloc | apply pw_below_drewN | apply below_drew1) | exact HB.out)⟩⟩
 case round =>
  clear H'
  try clear c1
  try clear c2
  try clear p2
  obtain ⟨x5_1, x6_1, rfl, HA, HK1, HO_4, HO_5, HB⟩ := hrel
  cases gk with
  | zero => exact absurd HA.out (by simp [ostiaryref2_decimals.l0])
  | succ k1 =>
   have H := HA.out
   clear HA
   simp only [ostiaryref2_decimals.l0] at H
   by_cases c4 : x6_1 < (t331.length : Int)
   ·rw [if_pos c4] at H
    have c4b0 : decide (x6_1 < (t331.length : Int)) = true := decide_eq_true c4
    clear c4
    by_cases c5 : 0 ≤ x6_1
    ·rw [if_pos c5] at H
     have c5b0 : decide (0 ≤ x6_1) = true := decide_eq_true c5
     clear c5
     replace H := Option.bind_eq_some_iff.mp H
     obtain ⟨⟨t335, t336⟩, A60, H⟩ := H
     replace H : (if t336 = true then (if t335 > 255 then (some (([] : List Int), false)) else (if ((rdOf ByteArray.empty t331 x6_1).size : Int) > 1 then (if 0 < ((rdOf ByteArray.empty t331 x6_1).size : Int) then (if (bt (rdOf ByteArray.empty t331 x6_1) 0) = 48 then (some (([] : List Int), false)) else (if x5_1.length < 17592186044416 then (ostiaryref2_decimals.l0 k1 t331 (x5_1 ++ [t335]) (wrap64 (x6_1 + 1))) else (none))) else (none)) else (if x5_1.length < 17592186044416 then (ostiaryref2_decimals.l0 k1 t331 (x5_1 ++ [t335]) (wrap64 (x6_1 + 1))) else (none)))) else (some (([] : List Int), false))) = some (r1, r2) := H
     have A6 := Aside0.mk A60
     clear A60
     by_cases c7 : t336 = true
     ·subst c7
      have H1 : (if t335 > 255 then (some (([] : List Int), false)) else (if ((rdOf ByteArray.empty t331 x6_1).size : Int) > 1 then (if 0 < ((rdOf ByteArray.empty t331 x6_1).size : Int) then (if (bt (rdOf ByteArray.empty t331 x6_1) 0) = 48 then (some (([] : List Int), false)) else (if x5_1.length < 17592186044416 then (ostiaryref2_decimals.l0 k1 t331 (x5_1 ++ [t335]) (wrap64 (x6_1 + 1))) else (none))) else (none)) else (if x5_1.length < 17592186044416 then (ostiaryref2_decimals.l0 k1 t331 (x5_1 ++ [t335]) (wrap64 (x6_1 + 1))) else (none)))) = some (r1, r2) := by rw [if_pos rfl] at H; exact H
      clear H
      have H := H1
      clear H1
      by_cases c8 : t335 > 255
      ·rw [if_pos c8] at H
       have c8b0 : decide (255 < t335) = true := decide_eq_true c8
       clear c8
       simp only [Option.some.injEq, Prod.mk.injEq] at H
       obtain ⟨rfl, rfl⟩ := H
       obtain ⟨Ao9, co9, eo9⟩ := Kd.R_slice HO_4.out
       subst eo9
       have p334 : 0 ≤ (x6_1 : Int) := of_decide_eq_true aS
       have q334 : x6_1 < (t331.length : Int) := of_decide_eq_true aS
       obtain ⟨ad334, e334, hx334_0⟩ := Kd.at_string (Kd.R_reads' HO_4.out).2.2 x6_1 p334 q334
       cases e334
       replace p334 := eq_true p334
       replace q334 := eq_true q334
       go_wp2_with (first | ((with_reducible refine gate_callee (f := 181) rfl ?_); refine goesL_ (some 22) rfl rfl Tryd.func181 q2_ rfl #[.string (rdOf ByteArray.empty t331 x6_1)] rfl tS ?_; (with_reducible refine (ostiaryref1_Int.calls k1 (rdOf ByteArray.empty t331 x6_1) t335 true _ A6.out).mono ?_); rintro e w' ⟨rfl, ⟨nd, rfl⟩⟩; refine ⟨_, rfl, ?_⟩))
       go_ret2
       exact ⟨_, by first | rfl | (simp [errW_none, errW_some] <;> rfl) | (simp [*, errW_none, errW_some] <;> rfl), by first | exact Kd.R_nil _ _ _ _ _ | exact Kd.N_nil _ _ _ _ _ | exact Kd.V_nil _ _ _ _ _ | exact Kd.Q_nil _ _ _ _ _ | exact Kd.S_nil _ _ _ _ _, by repeat (first | (with_reducible first | exact HB.out | apply below_alloc | apply pw_below_drewN | apply below_drew1) | exact HB.out)⟩
      ·rw [if_neg c8] at H
       have c8b0 : decide (255 < t335) = false := decide_eq_false c8
       clear c8
       by_cases c10 : ((rdOf ByteArray.empty t331 x6_1).size : Int) > 1
       ·rw [if_pos c10] at H
        have c10b0 : decide (1 < ((rdOf ByteArray.empty t331 x6_1).size : Int)) = true := decide_eq_true c10
        have c10b1 : decide (1 < (rdOf ByteArray.empty t331 x6_1).size) = true := decide_eq_true (by omega)
        clear c10
        by_cases c11 : 0 < ((rdOf ByteArray.empty t331 x6_1).size : Int)
        ·rw [if_pos c11] at H
         have c11b0 : decide (0 < ((rdOf ByteArray.empty t331 x6_1).size : Int)) = true := decide_eq_true c11
         have c11b1 : decide (0 < (rdOf ByteArray.empty t331 x6_1).size) = true := decide_eq_true (by omega)
         clear c11
         by_cases c13 : (bt (rdOf ByteArray.empty t331 x6_1) 0) = 48
         ·rw [if_pos c13] at H
          have c13b0 : ((bt (rdOf ByteArray.empty t331 x6_1) 0) == 48) = true := beq_iff_eq.mpr c13
          have c13b1 : ((bt (rdOf ByteArray.empty t331 x6_1) 0) != 48) = false := bne_eq_false_iff_eq.mpr c13
          clear c13
          simp only [Option.some.injEq, Prod.mk.injEq] at H
          obtain ⟨rfl, rfl⟩ := H
          obtain ⟨Ao14, co14, eo14⟩ := Kd.R_slice HO_4.out
          subst eo14
          have p334 : 0 ≤ (x6_1 : Int) := of_decide_eq_true aS
          have q334 : x6_1 < (t331.length : Int) := of_decide_eq_true aS
          obtain ⟨ad334, e334, hx334_0⟩ := Kd.at_string (Kd.R_reads' HO_4.out).2.2 x6_1 p334 q334
          cases e334
          replace p334 := eq_true p334
          replace q334 := eq_true q334
          go_wp2_with (first | ((with_reducible refine gate_callee (f := 181) rfl ?_); refine goesL_ (some 22) rfl rfl Tryd.func181 q2_ rfl #[.string (rdOf ByteArray.empty t331 x6_1)] rfl tS ?_; (with_reducible refine (ostiaryref1_Int.calls k1 (rdOf ByteArray.empty t331 x6_1) t335 true _ A6.out).mono ?_); rintro e w' ⟨rfl, ⟨nd, rfl⟩⟩; refine ⟨_, rfl, ?_⟩; have p337 : 0 ≤ (x6_1 : Int) := of_decide_eq_true aS; have q337 : x6_1 < (t331.length : Int) := of_decide_eq_true aS; obtain ⟨ad337, e337, hx337_0⟩ := Kd.at_string (Kd.R_reads' HO_4.out).2.2 x6_1 p337 q337; obtain rfl : ad334 = ad337 := (by injection e337); replace p337 := eq_true p337; replace q337 := eq_true q337; have p338 : 0 ≤ (x6_1 : Int) := of_decide_eq_true aS; have q338 : x6_1 < (t331.length : Int) := of_decide_eq_true aS; obtain ⟨ad338, e338, hx338_0⟩ := Kd.at_string (Kd.R_reads' HO_4.out).2.2 x6_1 p338 q338; obtain rfl : ad334 = ad338 := (by injection e338); replace p338 := eq_true p338; replace q338 := eq_true q338; have p12 : 0 ≤ (0 : Int) := (by omega); have q12 : 0 < (rdOf ByteArray.empty t331 x6_1).size := (by have : (0 : Int) < ((rdOf ByteArray.empty t331 x6_1).size : Int) := of_decide_eq_true aS; omega); have hx12 : ∀ h : 0 < (rdOf ByteArray.empty t331 x6_1).size, (((rdOf ByteArray.empty t331 x6_1)[0]'h).toNat : Int) = bt (rdOf ByteArray.empty t331 x6_1) 0 := bt_at (rdOf ByteArray.empty t331 x6_1) 0; clear p12; have qi12 : (0 < ((rdOf ByteArray.empty t331 x6_1).size : Int)) = True := eq_true (of_decide_eq_true aS); replace q12 := eq_true q12))
          go_ret2
          exact ⟨_, by first | rfl | (simp [errW_none, errW_some] <;> rfl) | (simp [*, errW_none, errW_some] <;> rfl), by first | exact Kd.R_nil _ _ _ _ _ | exact Kd.N_nil _ _ _ _ _ | exact Kd.V_nil _ _ _ _ _ | exact Kd.Q_nil _ _ _ _ _ | exact Kd.S_nil _ _ _ _ _, by repeat (first | (with_reducible first | exact HB.out | apply below_alloc | apply pw_below_drewN | apply below_drew1) | exact HB.out)⟩
         ·rw [if_neg c13] at H
          have c13b0 : ((bt (rdOf ByteArray.empty t331 x6_1) 0) == 48) = false := beq_eq_false_iff_ne.mpr c13
          have c13b1 : ((bt (rdOf ByteArray.empty t331 x6_1) 0) != 48) = true := bne_iff_ne.mpr c13
          by_cases c15 : x5_1.length < 17592186044416
          ·rw [if_pos c15] at H
           have LMc15 := Aside0.mk c15
           clear c15
           obtain ⟨y339, hy339⟩ : ∃ y_ : List Int, y_ = (x5_1 ++ [t335]) := ⟨_, rfl⟩
           replace H : (ostiaryref2_decimals.l0 k1 t331 y339 (wrap64 (x6_1 + 1))) = some (r1, r2) := by first | (rw [hy339]; with_reducible exact H) | (have H2_ := (Option.bind_some _ _).symm.trans H; rw [hy339]; with_reducible exact H2_) | (have H2_ := (Option.bind_some _ _).symm.trans H; with_reducible exact H2_) | with_reducible exact H | (rw [hy339]; exact H) | exact H
           have Ny339 := Aside0.mk hy339
           clear hy339
           have H' := Aside0.mk H
           clear H
           obtain ⟨Ao16, co16, eo16⟩ := Kd.R_slice HO_4.out
           subst eo16
           have p334 : 0 ≤ (x6_1 : Int) := of_decide_eq_true aS
           have q334 : x6_1 < (t331.length : Int) := of_decide_eq_true aS
           obtain ⟨ad334, e334, hx334_0⟩ := Kd.at_string (Kd.R_reads' HO_4.out).2.2 x6_1 p334 q334
           cases e334
           replace p334 := eq_true p334
           replace q334 := eq_true q334
           go_wp2_with (first | ((with_reducible refine gate_callee (f := 181) rfl ?_); refine goesL_ (some 22) rfl rfl Tryd.func181 q2_ rfl #[.string (rdOf ByteArray.empty t331 x6_1)] rfl tS ?_; (with_reducible refine (ostiaryref1_Int.calls k1 (rdOf ByteArray.empty t331 x6_1) t335 true _ A6.out).mono ?_); rintro e w' ⟨rfl, ⟨nd, rfl⟩⟩; refine ⟨_, rfl, ?_⟩; have p337 : 0 ≤ (x6_1 : Int) := of_decide_eq_true aS; have q337 : x6_1 < (t331.length : Int) := of_decide_eq_true aS; obtain ⟨ad337, e337, hx337_0⟩ := Kd.at_string (Kd.R_reads' HO_4.out).2.2 x6_1 p337 q337; obtain rfl : ad334 = ad337 := (by injection e337); replace p337 := eq_true p337; replace q337 := eq_true q337; have p338 : 0 ≤ (x6_1 : Int) := of_decide_eq_true aS; have q338 : x6_1 < (t331.length : Int) := of_decide_eq_true aS; obtain ⟨ad338, e338, hx338_0⟩ := Kd.at_string (Kd.R_reads' HO_4.out).2.2 x6_1 p338 q338; obtain rfl : ad334 = ad338 := (by injection e338); replace p338 := eq_true p338; replace q338 := eq_true q338; have p12 : 0 ≤ (0 : Int) := (by omega); have q12 : 0 < (rdOf ByteArray.empty t331 x6_1).size := (by have : (0 : Int) < ((rdOf ByteArray.empty t331 x6_1).size : Int) := of_decide_eq_true aS; omega); have hx12 : ∀ h : 0 < (rdOf ByteArray.empty t331 x6_1).size, (((rdOf ByteArray.empty t331 x6_1)[0]'h).toNat : Int) = bt (rdOf ByteArray.empty t331 x6_1) 0 := bt_at (rdOf ByteArray.empty t331 x6_1) 0; clear p12; have qi12 : (0 < ((rdOf ByteArray.empty t331 x6_1).size : Int)) = True := eq_true (of_decide_eq_true aS); replace q12 := eq_true q12) | ((with_reducible refine gate_builtin (b := .append) (xs := #[.tmp 47, .tmp 49]) rfl ?_); (try (refine gate_guard (by rfl) ?_; dsimp only)); at_builtin; refine Kd.R_append (Kd.int .i64) (w0 := w) w.heap.size rfl (.tmp 47) (.tmp 49) 275 2 (.int .i64 0) 8 rfl Tryd.underlying275 info2 rfl (by decide) (by omega) u5 x5_1 t335 [.int .i64 t335] (fun _ => True) (fun _ => False) rfl rfl ?aP (fun _ hk => hk.elim) ?aF ?aO ?aB ?aS ?aL ?_; (case aP => exact rfl); (case aB => exact hB); (case aF => exact (fun _ _ => trivial)); (case aO => exact q10_); (case aS => exact (below_size hB)); (case aL => have := LMc15.out; omega); intro v340 w17 ho hb hg hat; rw [← Ny339.out] at ho; have n0_ := Aside0.mk (Kd.R_over' (by (with_reducible repeat (first | apply Kd.R_alloc | apply Kd.R_drewN | apply Kd.R_drew)); exact HO_4.out) (Kd.R_typed q10_) (by decide) hg); have n1_ := Aside0.mk (hb); have n2_ := Aside0.mk (ho); clear HO_4; clear HB; clear HO_5; have HO_4 := n0_; have HB := n1_; have HO341 := n2_; clear n0_ n1_ n2_; clear ho hb hg hat))
           go_roundg k1
           case measure => have := HK1.out; omega
           case rel => exact ⟨(y339), (wrap64 (x6_1 + 1)), rS, H', ⟨by have := HK1.out; omega⟩, ⟨by (with_reducible repeat (first | apply Kd.R_alloc | apply Kd.R_drewN | apply Kd.R_drew)); exact HO_4.out⟩, ⟨by (with_reducible repeat (first | apply Kd.R_alloc | apply Kd.R_drewN | apply Kd.R_drew)); exact HO341.out⟩, ⟨by repeat (first | (with_reducible first | exact HB.out | apply below_alloc | apply pw_below_drewN | apply below_drew1) | exact HB.out)⟩⟩
          ·rw [if_neg c15] at H
           exact absurd H (by simp)
        ·rw [if_neg c11] at H
         exact absurd H (by simp)
       ·rw [if_neg c10] at H
        have c10b0 : decide (1 < ((rdOf ByteArray.empty t331 x6_1).size : Int)) = false := decide_eq_false c10
        have c10b1 : decide (1 < (rdOf ByteArray.empty t331 x6_1).size) = false := decide_eq_false (by omega)
        clear c10
        by_cases c18 : x5_1.length < 17592186044416
        ·rw [if_pos c18] at H
         have LMc18 := Aside0.mk c18
         clear c18
         obtain ⟨y342, hy342⟩ : ∃ y_ : List Int, y_ = (x5_1 ++ [t335]) := ⟨_, rfl⟩
         replace H : (ostiaryref2_decimals.l0 k1 t331 y342 (wrap64 (x6_1 + 1))) = some (r1, r2) := by first | (rw [hy342]; with_reducible exact H) | (have H2_ := (Option.bind_some _ _).symm.trans H; rw [hy342]; with_reducible exact H2_) | (have H2_ := (Option.bind_some _ _).symm.trans H; with_reducible exact H2_) | with_reducible exact H | (rw [hy342]; exact H) | exact H
         have Ny342 := Aside0.mk hy342
         clear hy342
         have H' := Aside0.mk H
         clear H
         obtain ⟨Ao19, co19, eo19⟩ := Kd.R_slice HO_4.out
         subst eo19
         have p334 : 0 ≤ (x6_1 : Int) := of_decide_eq_true aS
         have q334 : x6_1 < (t331.length : Int) := of_decide_eq_true aS
         obtain ⟨ad334, e334, hx334_0⟩ := Kd.at_string (Kd.R_reads' HO_4.out).2.2 x6_1 p334 q334
         cases e334
         replace p334 := eq_true p334
         replace q334 := eq_true q334
         go_wp2_with (first | ((with_reducible refine gate_callee (f := 181) rfl ?_); refine goesL_ (some 22) rfl rfl Tryd.func181 q2_ rfl #[.string (rdOf ByteArray.empty t331 x6_1)] rfl tS ?_; (with_reducible refine (ostiaryref1_Int.calls k1 (rdOf ByteArray.empty t331 x6_1) t335 true _ A6.out).mono ?_); rintro e w' ⟨rfl, ⟨nd, rfl⟩⟩; refine ⟨_, rfl, ?_⟩; have p337 : 0 ≤ (x6_1 : Int) := of_decide_eq_true aS; have q337 : x6_1 < (t331.length : Int) := of_decide_eq_true aS; obtain ⟨ad337, e337, hx337_0⟩ := Kd.at_string (Kd.R_reads' HO_4.out).2.2 x6_1 p337 q337; obtain rfl : ad334 = ad337 := (by injection e337); replace p337 := eq_true p337; replace q337 := eq_true q337) | ((with_reducible refine gate_builtin (b := .append) (xs := #[.tmp 47, .tmp 49]) rfl ?_); (try (refine gate_guard (by rfl) ?_; dsimp only)); at_builtin; refine Kd.R_append (Kd.int .i64) (w0 := w) w.heap.size rfl (.tmp 47) (.tmp 49) 275 2 (.int .i64 0) 8 rfl Tryd.underlying275 info2 rfl (by decide) (by omega) u5 x5_1 t335 [.int .i64 t335] (fun _ => True) (fun _ => False) rfl rfl ?aP (fun _ hk => hk.elim) ?aF ?aO ?aB ?aS ?aL ?_; (case aP => exact rfl); (case aB => exact hB); (case aF => exact (fun _ _ => trivial)); (case aO => exact q10_); (case aS => exact (below_size hB)); (case aL => have := LMc18.out; omega); intro v343 w20 ho hb hg hat; rw [← Ny342.out] at ho; have n0_ := Aside0.mk (Kd.R_over' (by (with_reducible repeat (first | apply Kd.R_alloc | apply Kd.R_drewN | apply Kd.R_drew)); exact HO_4.out) (Kd.R_typed q10_) (by decide) hg); have n1_ := Aside0.mk (hb); have n2_ := Aside0.mk (ho); clear HO_4; clear HB; clear HO_5; have HO_4 := n0_; have HB := n1_; have HO344 := n2_; clear n0_ n1_ n2_; clear ho hb hg hat))
         go_roundg k1
         case measure => have := HK1.out; omega
         case rel => exact ⟨(y342), (wrap64 (x6_1 + 1)), rS, H', ⟨by have := HK1.out; omega⟩, ⟨by (with_reducible repeat (first | apply Kd.R_alloc | apply Kd.R_drewN | apply Kd.R_drew)); exact HO_4.out⟩, ⟨by (with_reducible repeat (first | apply Kd.R_alloc | apply Kd.R_drewN | apply Kd.R_drew)); exact HO344.out⟩, ⟨by repeat (first | (with_reducible first | exact HB.out | apply below_alloc | apply pw_below_drewN | apply below_drew1) | exact HB.out)⟩⟩
        ·rw [if_neg c18] at H
         exact absurd H (by simp)
     ·replace c7 := Bool.eq_false_iff.mpr c7
      subst c7
      have H1 : (some (([] : List Int), false)) = some (r1, r2) := by rw [if_neg (show ¬ (false = true) by decide)] at H; exact H
      clear H
      have H := H1
      clear H1
      simp only [Option.some.injEq, Prod.mk.injEq] at H
      obtain ⟨rfl, rfl⟩ := H
      obtain ⟨Ao21, co21, eo21⟩ := Kd.R_slice HO_4.out
      subst eo21
      have p334 : 0 ≤ (x6_1 : Int) := of_decide_eq_true aS
      have q334 : x6_1 < (t331.length : Int) := of_decide_eq_true aS
      obtain ⟨ad334, e334, hx334_0⟩ := Kd.at_string (Kd.R_reads' HO_4.out).2.2 x6_1 p334 q334
      cases e334
      replace p334 := eq_true p334
      replace q334 := eq_true q334
      go_wp2_with (first | ((with_reducible refine gate_callee (f := 181) rfl ?_); refine goesL_ (some 22) rfl rfl Tryd.func181 q2_ rfl #[.string (rdOf ByteArray.empty t331 x6_1)] rfl tS ?_; (with_reducible refine (ostiaryref1_Int.calls k1 (rdOf ByteArray.empty t331 x6_1) t335 false _ A6.out).mono ?_); rintro e w' ⟨rfl, ⟨nd, rfl⟩⟩; refine ⟨_, rfl, ?_⟩))
      go_ret2
      exact ⟨_, by first | rfl | (simp [errW_none, errW_some] <;> rfl) | (simp [*, errW_none, errW_some] <;> rfl), by first | exact Kd.R_nil _ _ _ _ _ | exact Kd.N_nil _ _ _ _ _ | exact Kd.V_nil _ _ _ _ _ | exact Kd.Q_nil _ _ _ _ _ | exact Kd.S_nil _ _ _ _ _, by repeat (first | (with_reducible first | exact HB.out | apply below_alloc | apply pw_below_drewN | apply below_drew1) | exact HB.out)⟩
    ·rw [if_neg c5] at H
     exact absurd H (by simp)
   ·rw [if_neg c4] at H
    have c4b0 : decide (x6_1 < (t331.length : Int)) = false := decide_eq_false c4
    clear c4
    by_cases c22 : 0 < (x5_1.length : Int)
    ·rw [if_pos c22] at H
     have c22b0 : decide (0 < (x5_1.length : Int)) = true := decide_eq_true c22
     have c22b1 : decide (0 < x5_1.length) = true := decide_eq_true (by omega)
     clear c22
     by_cases c23 : 1 < (x5_1.length : Int)
     ·rw [if_pos c23] at H
      have c23b0 : decide (1 < (x5_1.length : Int)) = true := decide_eq_true c23
      have c23b1 : decide (1 < x5_1.length) = true := decide_eq_true (by omega)
      clear c23
      by_cases c24 : 2 < (x5_1.length : Int)
      ·rw [if_pos c24] at H
       have c24b0 : decide (2 < (x5_1.length : Int)) = true := decide_eq_true c24
       have c24b1 : decide (2 < x5_1.length) = true := decide_eq_true (by omega)
       clear c24
       by_cases c25 : 3 < (x5_1.length : Int)
       ·rw [if_pos c25] at H
        have c25b0 : decide (3 < (x5_1.length : Int)) = true := decide_eq_true c25
        have c25b1 : decide (3 < x5_1.length) = true := decide_eq_true (by omega)
        clear c25
        obtain ⟨y349, hy349⟩ : ∃ y_ : List Int, y_ = (([IntKind.u16.wrap (Go.bits .or .i64 (wrap64 ((rd x5_1 0) * 256)) (rd x5_1 1)), IntKind.u16.wrap (Go.bits .or .i64 (wrap64 ((rd x5_1 2) * 256)) (rd x5_1 3))] : List Int)) := ⟨_, rfl⟩
        replace H : (some (y349, true)) = some (r1, r2) := by first | (rw [hy349]; with_reducible exact H) | (have H2_ := (Option.bind_some _ _).symm.trans H; rw [hy349]; with_reducible exact H2_) | (have H2_ := (Option.bind_some _ _).symm.trans H; with_reducible exact H2_) | with_reducible exact H | (rw [hy349]; exact H) | exact H
        have Ny349 := Aside0.mk hy349
        clear hy349
        simp only [Option.some.injEq, Prod.mk.injEq] at H
        obtain ⟨rfl, rfl⟩ := H
        obtain ⟨Ao26, co26, eo26⟩ := Kd.R_slice HO_4.out
        subst eo26
        try go_wp2
        have n0_ := Aside0.mk (Kd.R_drew HO_4.out)
        have n1_ := Aside0.mk (Kd.R_drew HO_5.out)
        have n2_ := Aside0.mk (below_drew1 HB.out)
        clear HO_4
        clear HO_5
        clear HB
        have HO_4 := n0_
        have HO_5 := n1_
        have HB := n2_
        clear n0_ n1_ n2_
        obtain ⟨Ao28, co28, eo28⟩ := Kd.R_slice HO_5.out
        (first | subst eo28 | (injection eo28 with f1_ f2_ f3_; have f4_ := f1_.symm; have f5_ := f3_.symm; clear f1_ f2_ f3_; subst f4_; subst f5_))
        have p345 : 0 ≤ (0 : Int) := (by omega)
        have q345 : 0 < (x5_1.length : Int) := of_decide_eq_true aS
        obtain ⟨ad345, e345, hx345_0⟩ := Kd.at_int (Kd.R_reads' HO_5.out).2.2 0 p345 q345
        cases e345
        have qi345 : (0 < x5_1.length) = True := eq_true (by omega)
        (try rw [show ((0 : Int)).toNat = 0 from rfl] at hx345_0)
        (try rw [Addr.add_zero'] at hx345_0)
        replace p345 := eq_true p345
        replace q345 := eq_true q345
        have p346 : 0 ≤ (1 : Int) := (by omega)
        have q346 : 1 < (x5_1.length : Int) := of_decide_eq_true aS
        obtain ⟨ad346, e346, hx346_0⟩ := Kd.at_int (Kd.R_reads' HO_5.out).2.2 1 p346 q346
        obtain rfl : ad345 = ad346 := (by injection e346)
        (try simp only [show (1 : Int).toNat = 1 from rfl, Nat.reduceMul, Nat.reduceEqDiff, Go.Addr.add, ↓reduceIte] at hx346_0)
        have qi346 : (1 < x5_1.length) = True := eq_true (by omega)
        (try rw [show ((1 : Int)).toNat = 1 from rfl] at hx346_0)
        replace p346 := eq_true p346
        replace q346 := eq_true q346
        have p347 : 0 ≤ (2 : Int) := (by omega)
        have q347 : 2 < (x5_1.length : Int) := of_decide_eq_true aS
        obtain ⟨ad347, e347, hx347_0⟩ := Kd.at_int (Kd.R_reads' HO_5.out).2.2 2 p347 q347
        obtain rfl : ad345 = ad347 := (by injection e347)
        (try simp only [show (2 : Int).toNat = 2 from rfl, Nat.reduceMul, Nat.reduceEqDiff, Go.Addr.add, ↓reduceIte] at hx347_0)
        have qi347 : (2 < x5_1.length) = True := eq_true (by omega)
        (try rw [show ((2 : Int)).toNat = 2 from rfl] at hx347_0)
        replace p347 := eq_true p347
        replace q347 := eq_true q347
        have p348 : 0 ≤ (3 : Int) := (by omega)
        have q348 : 3 < (x5_1.length : Int) := of_decide_eq_true aS
        obtain ⟨ad348, e348, hx348_0⟩ := Kd.at_int (Kd.R_reads' HO_5.out).2.2 3 p348 q348
        obtain rfl : ad345 = ad348 := (by injection e348)
        (try simp only [show (3 : Int).toNat = 3 from rfl, Nat.reduceMul, Nat.reduceEqDiff, Go.Addr.add, ↓reduceIte] at hx348_0)
        have qi348 : (3 < x5_1.length) = True := eq_true (by omega)
        (try rw [show ((3 : Int)).toNat = 3 from rfl] at hx348_0)
        replace p348 := eq_true p348
        replace q348 := eq_true q348
        refine start_ (n := 21) (S := fun w' => w'.cell? ad345 = some (.int .i64 (rd x5_1 0)) ∧ w'.cell? ⟨ad345.block, ad345.off + 1, none⟩ = some (.int .i64 (rd x5_1 1)) ∧ w'.cell? ⟨ad345.block, ad345.off + 2, none⟩ = some (.int .i64 (rd x5_1 2)) ∧ w'.cell? ⟨ad345.block, ad345.off + 3, none⟩ = some (.int .i64 (rd x5_1 3))) (ds := []) #[false, false, false, false, false, false, false, false, false, false, false, false, false, false, false, false, false, false, false, false, false] q2_ rfl rfl ⟨hx345_0, hx346_0, hx347_0, hx348_0⟩ (fun hHeld => ?_); refine with_tabW ostiaryref2_decimals.tab10 ostiaryref2_decimals.bits10 (fun HT_ HW_ => ?_)
        generalize wr.drew = w27 at HO_4 HO_5 HB hx345_0 hx346_0 hx347_0 hx348_0 hHeld ⊢
        refine pure_ (i := 0) (N := some 51) (v := ?_) (a' := ?_) #[true, false, false, false, false, false, false, false, false, false, false, false, false, false, false, false, false, false, false, false, false] rfl rfl (any_of HT_.out q2_) (fun _ _ _ h => h) (Or.inl ⟨by rfl, ?_⟩) ?_ ?_
        rotate_left
        ·intro w'
         go_simp
         with_reducible rfl
        rotate_left
        ·simp only [Act.put, List.setIfInBounds_toArray, List.set_cons_zero, List.set_cons_succ, i64_w, i32_w]
         rfl
        refine pure_ (i := 1) (N := some 52) (v := ?_) (a' := ?_) #[true, true, false, false, false, false, false, false, false, false, false, false, false, false, false, false, false, false, false, false, false] rfl rfl (any_of HT_.out q2_) (fun _ _ _ h => h) (Or.inl ⟨by rfl, ?_⟩) ?_ ?_
        rotate_left
        ·intro w'
         go_simp
         with_reducible rfl
        rotate_left
        ·simp only [Act.put, List.setIfInBounds_toArray, List.set_cons_zero, List.set_cons_succ, i64_w, i32_w]
         rfl
        refine pure_ (i := 4) (N := some 55) (v := ?_) (a' := ?_) #[true, true, false, false, true, false, false, false, false, false, false, false, false, false, false, false, false, false, false, false, false] rfl rfl (any_of HT_.out q2_) (fun _ _ _ h => h) (Or.inl ⟨by rfl, ?_⟩) ?_ ?_
        rotate_left
        ·intro w'
         go_simp
         with_reducible rfl
        rotate_left
        ·simp only [Act.put, List.setIfInBounds_toArray, List.set_cons_zero, List.set_cons_succ, i64_w, i32_w]
         rfl
        refine pure_ (i := 5) (N := some 56) (v := ?_) (a' := ?_) #[true, true, false, false, true, true, false, false, false, false, false, false, false, false, false, false, false, false, false, false, false] rfl rfl (any_of HT_.out q2_) (fun _ _ _ h => h) (Or.inl ⟨by rfl, ?_⟩) ?_ ?_
        rotate_left
        ·intro w'
         go_simp
         with_reducible rfl
        rotate_left
        ·simp only [Act.put, List.setIfInBounds_toArray, List.set_cons_zero, List.set_cons_succ, i64_w, i32_w]
         rfl
        refine pure_ (i := 9) (N := some 60) (v := ?_) (a' := ?_) #[true, true, false, false, true, true, false, false, false, true, false, false, false, false, false, false, false, false, false, false, false] rfl rfl (any_of HT_.out q2_) (fun _ _ _ h => h) (Or.inl ⟨by rfl, ?_⟩) ?_ ?_
        rotate_left
        ·intro w'
         go_simp
         with_reducible rfl
        rotate_left
        ·simp only [Act.put, List.setIfInBounds_toArray, List.set_cons_zero, List.set_cons_succ, i64_w, i32_w]
         rfl
        refine pure_ (i := 10) (N := some 61) (v := ?_) (a' := ?_) #[true, true, false, false, true, true, false, false, false, true, true, false, false, false, false, false, false, false, false, false, false] rfl rfl (any_of HT_.out q2_) (fun _ _ _ h => h) (Or.inl ⟨by rfl, ?_⟩) ?_ ?_
        rotate_left
        ·intro w'
         go_simp
         with_reducible rfl
        rotate_left
        ·simp only [Act.put, List.setIfInBounds_toArray, List.set_cons_zero, List.set_cons_succ, i64_w, i32_w]
         rfl
        refine pure_ (i := 13) (N := some 64) (v := ?_) (a' := ?_) #[true, true, false, false, true, true, false, false, false, true, true, false, false, true, false, false, false, false, false, false, false] rfl rfl (any_of HT_.out q2_) (fun _ _ _ h => h) (Or.inl ⟨by rfl, ?_⟩) ?_ ?_
        rotate_left
        ·intro w'
         go_simp
         with_reducible rfl
        rotate_left
        ·simp only [Act.put, List.setIfInBounds_toArray, List.set_cons_zero, List.set_cons_succ, i64_w, i32_w]
         rfl
        refine pure_ (i := 14) (N := some 65) (v := ?_) (a' := ?_) #[true, true, false, false, true, true, false, false, false, true, true, false, false, true, true, false, false, false, false, false, false] rfl rfl (any_of HT_.out q2_) (fun _ _ _ h => h) (Or.inl ⟨by rfl, ?_⟩) ?_ ?_
        rotate_left
        ·intro w'
         go_simp
         with_reducible rfl
        rotate_left
        ·simp only [Act.put, List.setIfInBounds_toArray, List.set_cons_zero, List.set_cons_succ, i64_w, i32_w]
         rfl
        refine take_ (i := 2) (N := some 53) (v := ?_) (a' := ?_) #[true, true, true, false, true, true, false, false, false, true, true, false, false, true, true, false, false, false, false, false, false] rfl rfl (take_ofW HT_.out HW_.out q2_) (fun _ _ _ h => h) (Or.inl ⟨by rfl, ?_⟩) hHeld ?_ ?_
        rotate_left
        ·rintro w' ⟨s0, s1, s2, s3⟩
         go_simp
         with_reducible rfl
        rotate_left
        ·simp only [Act.put, List.setIfInBounds_toArray, List.set_cons_zero, List.set_cons_succ, i64_w, i32_w]
         rfl
        refine pure_ (i := 3) (N := some 54) (v := ?_) (a' := ?_) #[true, true, true, true, true, true, false, false, false, true, true, false, false, true, true, false, false, false, false, false, false] rfl rfl (any_of HT_.out q2_) (fun _ _ _ h => h) (Or.inl ⟨by rfl, ?_⟩) ?_ ?_
        rotate_left
        ·intro w'
         go_simp
         with_reducible rfl
        rotate_left
        ·simp only [Act.put, List.setIfInBounds_toArray, List.set_cons_zero, List.set_cons_succ, i64_w, i32_w]
         rfl
        refine take_ (i := 6) (N := some 57) (v := ?_) (a' := ?_) #[true, true, true, true, true, true, true, false, false, true, true, false, false, true, true, false, false, false, false, false, false] rfl rfl (take_ofW HT_.out HW_.out q2_) (fun _ _ _ h => h) (Or.inl ⟨by rfl, ?_⟩) hHeld ?_ ?_
        rotate_left
        ·rintro w' ⟨s0, s1, s2, s3⟩
         go_simp
         with_reducible rfl
        rotate_left
        ·simp only [Act.put, List.setIfInBounds_toArray, List.set_cons_zero, List.set_cons_succ, i64_w, i32_w]
         rfl
        refine pure_ (i := 7) (N := some 58) (v := ?_) (a' := ?_) #[true, true, true, true, true, true, true, true, false, true, true, false, false, true, true, false, false, false, false, false, false] rfl rfl (any_of HT_.out q2_) (fun _ _ _ h => h) (Or.inl ⟨by rfl, ?_⟩) ?_ ?_
        rotate_left
        ·intro w'
         go_simp
         with_reducible rfl
        rotate_left
        ·simp only [Act.put, List.setIfInBounds_toArray, List.set_cons_zero, List.set_cons_succ, i64_w, i32_w]
         rfl
        refine pure_ (i := 8) (N := some 59) (v := ?_) (a' := ?_) #[true, true, true, true, true, true, true, true, true, true, true, false, false, true, true, false, false, false, false, false, false] rfl rfl (any_of HT_.out q2_) (fun _ _ _ h => h) (Or.inl ⟨by rfl, ?_⟩) ?_ ?_
        rotate_left
        ·intro w'
         go_simp
         with_reducible rfl
        rotate_left
        ·simp only [Act.put, List.setIfInBounds_toArray, List.set_cons_zero, List.set_cons_succ, i64_w, i32_w]
         rfl
        refine take_ (i := 11) (N := some 62) (v := ?_) (a' := ?_) #[true, true, true, true, true, true, true, true, true, true, true, true, false, true, true, false, false, false, false, false, false] rfl rfl (take_ofW HT_.out HW_.out q2_) (fun _ _ _ h => h) (Or.inl ⟨by rfl, ?_⟩) hHeld ?_ ?_
        rotate_left
        ·rintro w' ⟨s0, s1, s2, s3⟩
         go_simp
         with_reducible rfl
        rotate_left
        ·simp only [Act.put, List.setIfInBounds_toArray, List.set_cons_zero, List.set_cons_succ, i64_w, i32_w]
         rfl
        refine pure_ (i := 12) (N := some 63) (v := ?_) (a' := ?_) #[true, true, true, true, true, true, true, true, true, true, true, true, true, true, true, false, false, false, false, false, false] rfl rfl (any_of HT_.out q2_) (fun _ _ _ h => h) (Or.inl ⟨by rfl, ?_⟩) ?_ ?_
        rotate_left
        ·intro w'
         go_simp
         with_reducible rfl
        rotate_left
        ·simp only [Act.put, List.setIfInBounds_toArray, List.set_cons_zero, List.set_cons_succ, i64_w, i32_w]
         rfl
        refine take_ (i := 15) (N := some 66) (v := ?_) (a' := ?_) #[true, true, true, true, true, true, true, true, true, true, true, true, true, true, true, true, false, false, false, false, false] rfl rfl (take_ofW HT_.out HW_.out q2_) (fun _ _ _ h => h) (Or.inl ⟨by rfl, ?_⟩) hHeld ?_ ?_
        rotate_left
        ·rintro w' ⟨s0, s1, s2, s3⟩
         go_simp
         with_reducible rfl
        rotate_left
        ·simp only [Act.put, List.setIfInBounds_toArray, List.set_cons_zero, List.set_cons_succ, i64_w, i32_w]
         rfl
        refine pure_ (i := 16) (N := some 67) (v := ?_) (a' := ?_) #[true, true, true, true, true, true, true, true, true, true, true, true, true, true, true, true, true, false, false, false, false] rfl rfl (any_of HT_.out q2_) (fun _ _ _ h => h) (Or.inl ⟨by rfl, ?_⟩) ?_ ?_
        rotate_left
        ·intro w'
         go_simp
         with_reducible rfl
        rotate_left
        ·simp only [Act.put, List.setIfInBounds_toArray, List.set_cons_zero, List.set_cons_succ, i64_w, i32_w]
         rfl
        refine pure_ (i := 17) (N := some 68) (v := ?_) (a' := ?_) #[true, true, true, true, true, true, true, true, true, true, true, true, true, true, true, true, true, true, false, false, false] rfl rfl (any_of HT_.out q2_) (fun _ _ _ h => h) (Or.inl ⟨by rfl, ?_⟩) ?_ ?_
        rotate_left
        ·intro w'
         go_simp
         with_reducible rfl
        rotate_left
        ·simp only [Act.put, List.setIfInBounds_toArray, List.set_cons_zero, List.set_cons_succ, i64_w, i32_w]
         rfl
        refine one_ (i := 18) (N := some 69) #[true, true, true, true, true, true, true, true, true, true, true, true, true, true, true, true, true, true, true, false, false] rfl rfl (one_of HT_.out q2_) (by decide) (fun K hK => ?_)
        refine Kd.R_lit_step (Kd.int .u16) _ 245 ?hg (N := 69) ?hd (xs := ([IntKind.u16.wrap (Go.bits .or .i64 (wrap64 ((rd x5_1 0) * 256)) (rd x5_1 1)), IntKind.u16.wrap (Go.bits .or .i64 (wrap64 ((rd x5_1 2) * 256)) (rd x5_1 3))] : List Int)) (inner := [.int .u16 (IntKind.u16.wrap (Go.bits .or .i64 (wrap64 ((rd x5_1 0) * 256)) (rd x5_1 1))), .int .u16 (IntKind.u16.wrap (Go.bits .or .i64 (wrap64 ((rd x5_1 2) * 256)) (rd x5_1 3)))]) (ok := fun _ => True) (okp := fun _ => True) ?hr ?hp (fun _ hk => hk) trivial (Below.refl _ _) (Nat.le_refl _) (by simp) ?_; (case hd => rfl); (case hg => rfl); (case hr => first | (go_simp; done) | (go_simp; rfl)); (case hp => exact (Reps.one (show Kd.M (Kd.int .u16) _ _ _ (IntKind.u16.wrap (Go.bits .or .i64 (wrap64 ((rd x5_1 0) * 256)) (rd x5_1 1))) [.int .u16 (IntKind.u16.wrap (Go.bits .or .i64 (wrap64 ((rd x5_1 0) * 256)) (rd x5_1 1)))] from rfl) (Reps.one (show Kd.M (Kd.int .u16) _ _ _ (IntKind.u16.wrap (Go.bits .or .i64 (wrap64 ((rd x5_1 2) * 256)) (rd x5_1 3))) [.int .u16 (IntKind.u16.wrap (Go.bits .or .i64 (wrap64 ((rd x5_1 2) * 256)) (rd x5_1 3)))] from rfl) (Reps.none _ _))))
        intro v350 w29 ho30 hb hg_ hnew_
        have HS0_ := (hb.cell (World.block_lt_of_cell? _ _ (hHeld.1))).trans (hHeld.1)
        have HS1_ := (hb.cell (World.block_lt_of_cell? _ _ (hHeld.2.1))).trans (hHeld.2.1)
        have HS2_ := (hb.cell (World.block_lt_of_cell? _ _ (hHeld.2.2.1))).trans (hHeld.2.2.1)
        have HS3_ := (hb.cell (World.block_lt_of_cell? _ _ (hHeld.2.2.2))).trans (hHeld.2.2.2)
        clear hg_ hnew_
        (first | rw [← Ny349.out] at ho30 | (simp only [Int.reduceToNat] at ho30; rw [← Ny349.out] at ho30))
        have n0_ := Aside0.mk (Kd.R_below (by (with_reducible repeat (first | apply Kd.R_alloc | apply Kd.R_drewN | apply Kd.R_drew)); exact HO_4.out) hb)
        have n1_ := Aside0.mk (Kd.R_below q10_ hb)
        have n2_ := Aside0.mk (Kd.R_lower ho30 (below_size hB))
        have n3_ := Aside0.mk (below_step hB hb)
        clear HO_4
        clear HO_5
        clear HB
        have HO_4 := n0_
        have HO_5 := n1_
        have HO351 := n2_
        have HB := n3_
        clear n0_ n1_ n2_ n3_
        clear hb ho30
        refine hK.out _ _ ⟨HS0_, HS1_, HS2_, HS3_⟩ (fun hHeld => ?_)
        clear hK K
        refine norm_ (a' := ?_) ?_ ?_
        rotate_left
        ·show Act.put _ (some 69) _ = _
         simp only [Act.put, List.setIfInBounds_toArray, List.set_cons_zero, List.set_cons_succ, i64_w, i32_w]
         rfl
        refine pure_ (i := 19) (N := some 2) (v := ?_) (a' := ?_) #[true, true, true, true, true, true, true, true, true, true, true, true, true, true, true, true, true, true, true, true, false] rfl rfl (any_of HT_.out q2_) (fun _ _ _ h => h) (Or.inl ⟨by rfl, ?_⟩) ?_ ?_
        rotate_left
        ·intro w'
         go_simp
         with_reducible rfl
        rotate_left
        ·simp only [Act.put, List.setIfInBounds_toArray, List.set_cons_zero, List.set_cons_succ, i64_w, i32_w]
         rfl
        refine pure_ (i := 20) (N := some 3) (v := ?_) (a' := ?_) #[true, true, true, true, true, true, true, true, true, true, true, true, true, true, true, true, true, true, true, true, true] rfl rfl (any_of HT_.out q2_) (fun _ _ _ h => h) (Or.inl ⟨by rfl, ?_⟩) ?_ ?_
        rotate_left
        ·intro w'
         go_simp
         with_reducible rfl
        rotate_left
        ·simp only [Act.put, List.setIfInBounds_toArray, List.set_cons_zero, List.set_cons_succ, i64_w, i32_w]
         rfl
        refine done_ (done_of HT_.out q2_) ?_
        try go_wp2
        go_ret2
        exact ⟨_, by first | rfl | (simp [errW_none, errW_some] <;> rfl) | (simp [*, errW_none, errW_some] <;> rfl), by (with_reducible repeat (first | apply Kd.R_alloc | apply Kd.R_drewN | apply Kd.R_drew)); exact HO351.out, by repeat (first | (with_reducible first | exact HB.out | apply below_alloc | apply pw_below_drewN | apply below_drew1) | exact HB.out)⟩
       ·rw [if_neg c25] at H
        exact absurd H (by simp)
      ·rw [if_neg c24] at H
       exact absurd H (by simp)
     ·rw [if_neg c23] at H
      exact absurd H (by simp)
    ·rw [if_neg c22] at H
     exact absurd H (by simp)
end Go.Proofs.YtifmkgkiipckbaaDoor.P
