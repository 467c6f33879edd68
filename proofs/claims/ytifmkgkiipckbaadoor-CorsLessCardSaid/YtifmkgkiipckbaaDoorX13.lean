/- A part of the proof of CorsLess: texts of walks and plain lemmas. -/
import Derived.Test.YtifmkgkiipckbaaDoorX1
import Derived.Test.YtifmkgkiipckbaaDoorX2
import Derived.Test.YtifmkgkiipckbaaDoorX12
namespace Go.Proofs.YtifmkgkiipckbaaDoor.P
open Go.RowKit Go.Proofs.YtifmkgkiipckbaaDoorW.PrintWords Go.Proofs.YtifmkgkiipckbaaDoorW.PrintLast Go.Proofs.YtifmkgkiipckbaaDoorW.PrintMore
attribute [local go_sem] max2_int min2_int max_two min_two max_three min_three max_four min_four
set_option linter.unusedVariables false
set_option linter.unusedSimpArgs false
mutual
def ostiaryref3_scheme.l0 : Nat → ByteArray → Int → Option (ByteArray × ByteArray × Bool)
 | 0, _, _ => none
 | k + 1, x0, x5 => if x5 < (x0.size : Int) then (if 0 ≤ x5 then (if (bt x0 x5) = 58 then (ostiaryref3_scheme.j1 k x0 x5 (bt x0 x5) (decide (x5 > 0))) else (ostiaryref3_scheme.j1 k x0 x5 (bt x0 x5) false)) else (none)) else (some ((⟨#[]⟩ : ByteArray), (⟨#[]⟩ : ByteArray), false))
def ostiaryref3_scheme.j1 : Nat → ByteArray → Int → Int → Bool → Option (ByteArray × ByteArray × Bool)
 | 0, _, _, _, _ => none
 | k + 1, x0, x5, x6, x21 => if x21 = true then (if 0 ≤ x5 then (if x5 ≤ (x0.size : Int) then ((ostiaryref1_Lower.f (x0.extract 0 (x5 : Int).toNat)).bind fun t262 => (if 0 ≤ (wrap64 (x5 + 1)) then (if (wrap64 (x5 + 1)) ≤ (x0.size : Int) then (some (t262, x0.extract ((wrap64 (x5 + 1)) : Int).toNat x0.size, true)) else (none)) else (none))) else (none)) else (none)) else ((ostiaryref1_Letter.f x6).bind fun t263 => (if t263 = true then (ostiaryref3_scheme.l0 k x0 (wrap64 (x5 + 1))) else (if x5 = 0 then (some ((⟨#[]⟩ : ByteArray), (⟨#[]⟩ : ByteArray), false)) else ((ostiaryref1_Digit.f x6).bind fun t264 => (if t264 = true then (ostiaryref3_scheme.l0 k x0 (wrap64 (x5 + 1))) else (if x6 = 43 then (ostiaryref3_scheme.l0 k x0 (wrap64 (x5 + 1))) else (if x6 = 45 then (ostiaryref3_scheme.l0 k x0 (wrap64 (x5 + 1))) else (if x6 = 46 then (ostiaryref3_scheme.l0 k x0 (wrap64 (x5 + 1))) else (some ((⟨#[]⟩ : ByteArray), (⟨#[]⟩ : ByteArray), false))))))))))
end
def ostiaryref3_scheme.f (k : Nat) (a0 : ByteArray) : Option (ByteArray × ByteArray × Bool) := ostiaryref3_scheme.l0 k a0 0
theorem ostiaryref3_scheme.mono_l : ∀ k, (∀ y0 y1, LeO (ostiaryref3_scheme.l0 k y0 y1) (ostiaryref3_scheme.l0 (k + 1) y0 y1)) ∧ (∀ y0 y1 y2 y3, LeO (ostiaryref3_scheme.j1 k y0 y1 y2 y3) (ostiaryref3_scheme.j1 (k + 1) y0 y1 y2 y3))
 | 0 => ⟨fun _ _ r h => by simp [ostiaryref3_scheme.l0] at h, fun _ _ _ _ r h => by simp [ostiaryref3_scheme.j1] at h⟩
 | k + 1 => by
  obtain ⟨ih0, ih1⟩ := ostiaryref3_scheme.mono_l k
  refine ⟨?_, ?_⟩
  ·intro y0 y1
   unfold ostiaryref3_scheme.l0
   exact lO
  ·intro y0 y1 y2 y3
   unfold ostiaryref3_scheme.j1
   exact lO
theorem ostiaryref3_scheme.mono : ∀ a0 k, LeO (ostiaryref3_scheme.f k a0) (ostiaryref3_scheme.f (k + 1) a0) := by
 intro a0 k
 obtain ⟨ih0, ih1⟩ := ostiaryref3_scheme.mono_l k
 unfold ostiaryref3_scheme.f
 exact lO
def ostiaryref3_scheme.T6 : Bool × List (List Nat × List Nat) := (true, [([], []), ([], []), ([0, 1], [0, 1]), ([2], [2]), ([], []), ([], []), ([5], [5]), ([4, 6], [4, 6]), ([3, 3, 0, 1, 2, 3], [3]), ([7, 8, 0, 1, 2, 3, 4, 5, 6, 7, 8], [7]), ([9, 0, 1, 2, 3, 4, 5, 6, 7, 8, 9], [])])
def ostiaryref3_scheme.B6 : List Nat := [0, 0, 3, 7, 0, 0, 32, 112, 15, 511, 1023]
theorem ostiaryref3_scheme.tab6 : rtab .any (opsOf Tryd.f109 6) = ostiaryref3_scheme.T6 := by kernel_rfl
theorem ostiaryref3_scheme.bits6 : waitsOk ostiaryref3_scheme.T6.2 ostiaryref3_scheme.B6 = true := by kernel_rfl
set_option maxHeartbeats 8000000 in
set_option maxRecDepth 100000 in
theorem ostiaryref3_scheme.calls (k : Nat) (a0 : ByteArray) (r1 : ByteArray) (r2 : ByteArray) (r3 : Bool) (w : World) (h : ostiaryref3_scheme.f k a0 = some (r1, r2, r3)) :
  Calls Tryd.prog 109 #[.string a0] w fun e w' => e = .returned (.tuple #[.string r1, .string r2, .bool r3]) ∧ Below w.heap.size w w' := by
 have HB := Aside0.mk (Below.refl w.heap.size w)
 have H : (ostiaryref3_scheme.l0 k a0 0) = some (r1, r2, r3) := h
 clear h
 have H' := Aside0.mk H
 clear H
 go_enter Tryd.func109, Tryd.ntmps109
 go_wp2
 go_loopg [5] k (fun kq v5 w' => ∃ (x5_1 : Int), v5 = .int .i64 x5_1 ∧ Aside0 (ostiaryref3_scheme.l0 kq a0 x5_1 = some (r1, r2, r3)) ∧ Aside0 (kq ≤ k) ∧ Aside0 (Below w.heap.size w w'))
 case atStart => exact ⟨(0), rS, H', ⟨Nat.le_refl _⟩, ⟨by repeat (first | (with_reducible first | exact HB.out | apply below_alloc | apply pw_below_drewN | apply below_drew1) | exact HB.out)⟩⟩
 case round =>
  clear H'
  try clear c1
  obtain ⟨x5_1, rfl, HA, HK1, HB⟩ := hrel
  cases gk with
  | zero => exact absurd HA.out (by simp [ostiaryref3_scheme.l0])
  | succ k1 =>
   have H := HA.out
   clear HA
   simp only [ostiaryref3_scheme.l0] at H
   by_cases c2 : x5_1 < (a0.size : Int)
   ·rw [if_pos c2] at H
    have c2b0 : decide (x5_1 < (a0.size : Int)) = true := decide_eq_true c2
    clear c2
    by_cases c3 : 0 ≤ x5_1
    ·rw [if_pos c3] at H
     have c3b0 : decide (0 ≤ x5_1) = true := decide_eq_true c3
     clear c3
     have HC5 := Aside0.mk H
     clear H
     have p4 : 0 ≤ (x5_1 : Int) := of_decide_eq_true aS
     have q4 : x5_1 < (a0.size : Int) := of_decide_eq_true aS
     have hx4 := bt_at a0 x5_1
     replace p4 := eq_true p4
     replace q4 := eq_true q4
     go_upto_region 5 with (fail)
     go_cut [21] (fun v21 wc => ∃ (kq : Nat) (x21_4 : Bool), v21 = .bool x21_4 ∧ Aside0 (ostiaryref3_scheme.j1 kq a0 x5_1 (bt a0 x5_1) x21_4 = some (r1, r2, r3)) ∧ Aside0 (kq ≤ k1) ∧ Aside0 (Below w.heap.size w wc))
     case first =>
      have H := HC5.out
      clear HC5
      by_cases c6 : (bt a0 x5_1) = 58
      ·rw [if_pos c6] at H
       have c6b0 : ((bt a0 x5_1) == 58) = true := beq_iff_eq.mpr c6
       have c6b1 : ((bt a0 x5_1) != 58) = false := bne_eq_false_iff_eq.mpr c6
       clear c6
       (first | rw [c6b0] | (simp only [i64_w, i32_w]; rw [c6b0]) | skip)
       have H' := Aside0.mk H
       clear H
       go_wp2
       go_meet
       case rel => exact ⟨_, (decide (x5_1 > 0)), rS, H', ⟨by have := HK1.out; first | omega | exact Nat.le_refl _⟩, ⟨by repeat (first | (with_reducible first | exact HB.out | apply below_alloc | apply pw_below_drewN | apply below_drew1) | exact HB.out)⟩⟩
      ·rw [if_neg c6] at H
       have c6b0 : ((bt a0 x5_1) == 58) = false := beq_eq_false_iff_ne.mpr c6
       have c6b1 : ((bt a0 x5_1) != 58) = true := bne_iff_ne.mpr c6
       (first | rw [c6b0] | (simp only [i64_w, i32_w]; rw [c6b0]) | skip)
       have H' := Aside0.mk H
       clear H
       go_wp2
       go_meet
       case rel => exact ⟨_, (false), rS, H', ⟨by have := HK1.out; first | omega | exact Nat.le_refl _⟩, ⟨by repeat (first | (with_reducible first | exact HB.out | apply below_alloc | apply pw_below_drewN | apply below_drew1) | exact HB.out)⟩⟩
     case rest =>
      clear HC5
      try clear c1
      try clear c2
      try clear c2b0
      try clear p2
      try clear c3
      try clear c3b0
      try clear p4
      try clear q4
      try clear hx4
      try clear c6
      try clear c6b0
      try clear c6b1
      try clear p4
      try clear q4
      obtain ⟨kq, x21_4, rfl, HA, HJ4, HB⟩ := hcut
      cases kq with
      | zero => exact absurd HA.out (by simp [ostiaryref3_scheme.j1])
      | succ kj4 =>
       have H := HA.out
       clear HA
       simp only [ostiaryref3_scheme.j1] at H
       by_cases c7 : x21_4 = true
       ·subst c7
        have H1 : (if 0 ≤ x5_1 then (if x5_1 ≤ (a0.size : Int) then ((ostiaryref1_Lower.f (a0.extract 0 (x5_1 : Int).toNat)).bind fun t262 => (if 0 ≤ (wrap64 (x5_1 + 1)) then (if (wrap64 (x5_1 + 1)) ≤ (a0.size : Int) then (some (t262, a0.extract ((wrap64 (x5_1 + 1)) : Int).toNat a0.size, true)) else (none)) else (none))) else (none)) else (none)) = some (r1, r2, r3) := by rw [if_pos rfl] at H; exact H
        clear H
        have H := H1
        clear H1
        by_cases c8 : 0 ≤ x5_1
        ·rw [if_pos c8] at H
         have c8b0 := eq_true c8
         have c8b1 : decide (0 ≤ x5_1) = true := decide_eq_true c8
         clear c8
         by_cases c9 : x5_1 ≤ (a0.size : Int)
         ·rw [if_pos c9] at H
          have c9b0 := eq_true c9
          have c9b1 : decide (x5_1 ≤ (a0.size : Int)) = true := decide_eq_true c9
          clear c9
          replace H := Option.bind_eq_some_iff.mp H
          obtain ⟨t262, A100, H⟩ := H
          replace H : (if 0 ≤ (wrap64 (x5_1 + 1)) then (if (wrap64 (x5_1 + 1)) ≤ (a0.size : Int) then (some (t262, a0.extract ((wrap64 (x5_1 + 1)) : Int).toNat a0.size, true)) else (none)) else (none)) = some (r1, r2, r3) := H
          have A10 := Aside0.mk A100
          clear A100
          obtain ⟨ji11, hji11⟩ : ∃ j_ : Int, (wrap64 (x5_1 + 1)) = j_ := ⟨_, rfl⟩
          replace H : (if 0 ≤ (ji11) then (if (ji11) ≤ (a0.size : Int) then (some (t262, a0.extract ((ji11) : Int).toNat a0.size, true)) else (none)) else (none)) = some (r1, r2, r3) := by first | (rw [hji11] at H; exact H) | (simp only [hji11] at H ⊢; exact H)
          (try rw [hji11] at A10)
          have hji11w : (IntKind.i64.wrap (x5_1 + 1)) = ji11 := (i64_w _).trans hji11
          by_cases c12 : 0 ≤ (ji11)
          ·rw [if_pos c12] at H
           have c12b0 := eq_true c12
           have c12b1 : decide (0 ≤ (ji11)) = true := decide_eq_true c12
           clear c12
           by_cases c13 : (ji11) ≤ (a0.size : Int)
           ·rw [if_pos c13] at H
            have c13b0 := eq_true c13
            have c13b1 : decide ((ji11) ≤ (a0.size : Int)) = true := decide_eq_true c13
            clear c13
            simp only [Option.some.injEq, Prod.mk.injEq] at H
            obtain ⟨rfl, rfl, rfl⟩ := H
            try go_wp2
            have n0_ := Aside0.mk (below_drew1 HB.out)
            clear HB
            have HB := n0_
            clear n0_
            refine start_ (n := 11) (S := fun w' => True) (ds := []) #[false, false, false, false, false, false, false, false, false, false, false] q2_ rfl rfl trivial (fun hHeld => ?_); refine with_tabW ostiaryref3_scheme.tab6 ostiaryref3_scheme.bits6 (fun HT_ HW_ => ?_)
            generalize wc.drew = w14 at HB hHeld ⊢
            refine pure_ (i := 0) (N := some 22) (v := ?_) (a' := ?_) #[true, false, false, false, false, false, false, false, false, false, false] rfl rfl (any_of HT_.out q2_) (fun _ _ _ h => h) (Or.inl ⟨by rfl, ?_⟩) ?_ ?_
            rotate_left
            ·intro w'
             go_simp
             with_reducible rfl
            rotate_left
            ·simp only [Act.put, List.setIfInBounds_toArray, List.set_cons_zero, List.set_cons_succ, i64_w, i32_w]
             rfl
            refine pure_ (i := 1) (N := some 23) (v := ?_) (a' := ?_) #[true, true, false, false, false, false, false, false, false, false, false] rfl rfl (any_of HT_.out q2_) (fun _ _ _ h => h) (Or.inl ⟨by rfl, ?_⟩) ?_ ?_
            rotate_left
            ·intro w'
             go_simp
             with_reducible rfl
            rotate_left
            ·simp only [Act.put, List.setIfInBounds_toArray, List.set_cons_zero, List.set_cons_succ, i64_w, i32_w]
             rfl
            refine pure_ (i := 2) (N := some 24) (v := ?_) (a' := ?_) #[true, true, true, false, false, false, false, false, false, false, false] rfl rfl (any_of HT_.out q2_) (fun _ _ _ h => h) (Or.inl ⟨by rfl, ?_⟩) ?_ ?_
            rotate_left
            ·intro w'
             go_simp
             with_reducible rfl
            rotate_left
            ·simp only [Act.put, List.setIfInBounds_toArray, List.set_cons_zero, List.set_cons_succ, i64_w, i32_w]
             rfl
            refine pure_ (i := 4) (N := some 26) (v := ?_) (a' := ?_) #[true, true, true, false, true, false, false, false, false, false, false] rfl rfl (any_of HT_.out q2_) (fun _ _ _ h => h) (Or.inl ⟨by rfl, ?_⟩) ?_ ?_
            rotate_left
            ·intro w'
             go_simp
             with_reducible rfl
            rotate_left
            ·simp only [Act.put, List.setIfInBounds_toArray, List.set_cons_zero, List.set_cons_succ, i64_w, i32_w]
             rfl
            refine pure_ (i := 5) (N := some 27) (v := ?_) (a' := ?_) #[true, true, true, false, true, true, false, false, false, false, false] rfl rfl (any_of HT_.out q2_) (fun _ _ _ h => h) (Or.inl ⟨by rfl, ?_⟩) ?_ ?_
            rotate_left
            ·intro w'
             go_simp
             with_reducible rfl
            rotate_left
            ·simp only [Act.put, List.setIfInBounds_toArray, List.set_cons_zero, List.set_cons_succ, i64_w, i32_w]
             rfl
            refine pure_ (i := 6) (N := some 28) (v := ?_) (a' := ?_) #[true, true, true, false, true, true, true, false, false, false, false] rfl rfl (any_of HT_.out q2_) (fun _ _ _ h => h) (Or.inl ⟨by rfl, ?_⟩) ?_ ?_
            rotate_left
            ·intro w'
             go_simp
             with_reducible rfl
            rotate_left
            ·simp only [Act.put, List.setIfInBounds_toArray, List.set_cons_zero, List.set_cons_succ, i64_w, i32_w]
             rfl
            refine pure_ (i := 7) (N := some 29) (v := ?_) (a' := ?_) #[true, true, true, false, true, true, true, true, false, false, false] rfl rfl (any_of HT_.out q2_) (fun _ _ _ h => h) (Or.inl ⟨by rfl, ?_⟩) ?_ ?_
            rotate_left
            ·intro w'
             go_simp
             with_reducible rfl
            rotate_left
            ·simp only [Act.put, List.setIfInBounds_toArray, List.set_cons_zero, List.set_cons_succ, i64_w, i32_w]
             rfl
            refine one_ (i := 3) (N := some 25) #[true, true, true, true, true, true, true, true, false, false, false] rfl rfl (one_of HT_.out q2_) (by decide) (fun K hK => ?_)
            refine goes_ Tryd.func95 q2_ rfl #[.string (a0.extract 0 (x5_1 : Int).toNat)] (by rfl) rfl rfl tS ?_
            with_reducible refine (ostiaryref1_Lower.calls (a0.extract 0 (x5_1 : Int).toNat) t262 _ A10.out).mono ?_
            rintro e w15 ⟨rfl, hb⟩
            refine ⟨_, rfl, ?_⟩
            have n0_ := Aside0.mk (below_step hB hb)
            clear HB
            have HB := n0_
            clear n0_
            (try clear hb)
            (try clear hb2)
            (try clear hk)
            (try clear hi)
            refine hK.out _ _ trivial (fun hHeld => ?_)
            clear hK K
            refine norm_ (a' := ?_) ?_ ?_
            rotate_left
            ·show Act.put _ (some 25) _ = _
             simp only [Act.put, List.setIfInBounds_toArray, List.set_cons_zero, List.set_cons_succ, i64_w, i32_w]
             rfl
            refine pure_ (i := 8) (N := some 2) (v := ?_) (a' := ?_) #[true, true, true, true, true, true, true, true, true, false, false] rfl rfl (any_of HT_.out q2_) (fun _ _ _ h => h) (Or.inl ⟨by rfl, ?_⟩) ?_ ?_
            rotate_left
            ·intro w'
             go_simp
             with_reducible rfl
            rotate_left
            ·simp only [Act.put, List.setIfInBounds_toArray, List.set_cons_zero, List.set_cons_succ, i64_w, i32_w]
             rfl
            refine pure_ (i := 9) (N := some 3) (v := ?_) (a' := ?_) #[true, true, true, true, true, true, true, true, true, true, false] rfl rfl (any_of HT_.out q2_) (fun _ _ _ h => h) (Or.inl ⟨by rfl, ?_⟩) ?_ ?_
            rotate_left
            ·intro w'
             go_simp
             with_reducible rfl
            rotate_left
            ·simp only [Act.put, List.setIfInBounds_toArray, List.set_cons_zero, List.set_cons_succ, i64_w, i32_w]
             rfl
            refine pure_ (i := 10) (N := some 4) (v := ?_) (a' := ?_) #[true, true, true, true, true, true, true, true, true, true, true] rfl rfl (any_of HT_.out q2_) (fun _ _ _ h => h) (Or.inl ⟨by rfl, ?_⟩) ?_ ?_
            rotate_left
            ·intro w'
             go_simp
             with_reducible rfl
            rotate_left
            ·simp only [Act.put, List.setIfInBounds_toArray, List.set_cons_zero, List.set_cons_succ, i64_w, i32_w]
             rfl
            refine done_ (done_of HT_.out q2_) ?_
            try go_wp2
            go_ret3
            exact ⟨by first | rfl | (simp [errW_none, errW_some] <;> rfl) | (simp only [← hji11]; first | rfl | (simp [errW_none, errW_some] <;> rfl)) | (simp [*, errW_none, errW_some] <;> rfl), by repeat (first | (with_reducible first | exact HB.out | apply below_alloc | apply pw_below_drewN | apply below_drew1) | exact HB.out)⟩
           ·rw [if_neg c13] at H
            exact absurd H (by simp)
          ·rw [if_neg c12] at H
           exact absurd H (by simp)
         ·rw [if_neg c9] at H
          exact absurd H (by simp)
        ·rw [if_neg c8] at H
         exact absurd H (by simp)
       ·replace c7 := Bool.eq_false_iff.mpr c7
        subst c7
        have H1 : ((ostiaryref1_Letter.f (bt a0 x5_1)).bind fun t263 => (if t263 = true then (ostiaryref3_scheme.l0 kj4 a0 (wrap64 (x5_1 + 1))) else (if x5_1 = 0 then (some ((⟨#[]⟩ : ByteArray), (⟨#[]⟩ : ByteArray), false)) else ((ostiaryref1_Digit.f (bt a0 x5_1)).bind fun t264 => (if t264 = true then (ostiaryref3_scheme.l0 kj4 a0 (wrap64 (x5_1 + 1))) else (if (bt a0 x5_1) = 43 then (ostiaryref3_scheme.l0 kj4 a0 (wrap64 (x5_1 + 1))) else (if (bt a0 x5_1) = 45 then (ostiaryref3_scheme.l0 kj4 a0 (wrap64 (x5_1 + 1))) else (if (bt a0 x5_1) = 46 then (ostiaryref3_scheme.l0 kj4 a0 (wrap64 (x5_1 + 1))) else (some ((⟨#[]⟩ : ByteArray), (⟨#[]⟩ : ByteArray), false)))))))))) = some (r1, r2, r3) := by rw [if_neg (show ¬ (false = true) by decide)] at H; exact H
        clear H
        have H := H1
        clear H1
        replace H := Option.bind_eq_some_iff.mp H
        obtain ⟨t263, A160, H⟩ := H
        replace H : (if t263 = true then (ostiaryref3_scheme.l0 kj4 a0 (wrap64 (x5_1 + 1))) else (if x5_1 = 0 then (some ((⟨#[]⟩ : ByteArray), (⟨#[]⟩ : ByteArray), false)) else ((ostiaryref1_Digit.f (bt a0 x5_1)).bind fun t264 => (if t264 = true then (ostiaryref3_scheme.l0 kj4 a0 (wrap64 (x5_1 + 1))) else (if (bt a0 x5_1) = 43 then (ostiaryref3_scheme.l0 kj4 a0 (wrap64 (x5_1 + 1))) else (if (bt a0 x5_1) = 45 then (ostiaryref3_scheme.l0 kj4 a0 (wrap64 (x5_1 + 1))) else (if (bt a0 x5_1) = 46 then (ostiaryref3_scheme.l0 kj4 a0 (wrap64 (x5_1 + 1))) else (some ((⟨#[]⟩ : ByteArray), (⟨#[]⟩ : ByteArray), false))))))))) = some (r1, r2, r3) := H
        have A16 := Aside0.mk A160
        clear A160
        by_cases c17 : t263 = true
        ·subst c17
         have H1 : (ostiaryref3_scheme.l0 kj4 a0 (wrap64 (x5_1 + 1))) = some (r1, r2, r3) := by rw [if_pos rfl] at H; exact H
         clear H
         have H := H1
         clear H1
         have H' := Aside0.mk H
         clear H
         go_wp2_with (first | ((with_reducible refine gate_callee (f := 129) rfl ?_); refine goesL_ (some 31) rfl rfl Tryd.func129 q2_ rfl #[.int .u8 (bt a0 x5_1)] rfl tS ?_; (with_reducible refine (ostiaryref1_Letter.calls (bt a0 x5_1) true _ A16.out).mono ?_); rintro e w' ⟨rfl, ⟨nd, rfl⟩⟩; refine ⟨_, rfl, ?_⟩))
         go_roundg kj4
         case measure => have := HK1.out; have := HJ4.out; omega
         case rel => exact ⟨(wrap64 (x5_1 + 1)), rS, H', ⟨by have := HK1.out; have := HJ4.out; omega⟩, ⟨by repeat (first | (with_reducible first | exact HB.out | apply below_alloc | apply pw_below_drewN | apply below_drew1) | exact HB.out)⟩⟩
        ·replace c17 := Bool.eq_false_iff.mpr c17
         subst c17
         have H1 : (if x5_1 = 0 then (some ((⟨#[]⟩ : ByteArray), (⟨#[]⟩ : ByteArray), false)) else ((ostiaryref1_Digit.f (bt a0 x5_1)).bind fun t264 => (if t264 = true then (ostiaryref3_scheme.l0 kj4 a0 (wrap64 (x5_1 + 1))) else (if (bt a0 x5_1) = 43 then (ostiaryref3_scheme.l0 kj4 a0 (wrap64 (x5_1 + 1))) else (if (bt a0 x5_1) = 45 then (ostiaryref3_scheme.l0 kj4 a0 (wrap64 (x5_1 + 1))) else (if (bt a0 x5_1) = 46 then (ostiaryref3_scheme.l0 kj4 a0 (wrap64 (x5_1 + 1))) else (some ((⟨#[]⟩ : ByteArray), (⟨#[]⟩ : ByteArray), false)))))))) = some (r1, r2, r3) := by rw [if_neg (show ¬ (false = true) by decide)] at H; exact H
         clear H
         have H := H1
         clear H1
         by_cases c18 : x5_1 = 0
         ·rw [if_pos c18] at H
          have c18b0 : (x5_1 == 0) = true := beq_iff_eq.mpr c18
          have c18b1 : (x5_1 != 0) = false := bne_eq_false_iff_eq.mpr c18
          clear c18
          simp only [Option.some.injEq, Prod.mk.injEq] at H
          obtain ⟨rfl, rfl, rfl⟩ := H
          go_wp2_with (first | ((with_reducible refine gate_callee (f := 129) rfl ?_); refine goesL_ (some 31) rfl rfl Tryd.func129 q2_ rfl #[.int .u8 (bt a0 x5_1)] rfl tS ?_; (with_reducible refine (ostiaryref1_Letter.calls (bt a0 x5_1) false _ A16.out).mono ?_); rintro e w' ⟨rfl, ⟨nd, rfl⟩⟩; refine ⟨_, rfl, ?_⟩))
          go_ret3
          exact ⟨by first | rfl | (simp [errW_none, errW_some] <;> rfl) | (simp [*, errW_none, errW_some] <;> rfl), by repeat (first | (with_reducible first | exact HB.out | apply below_alloc | apply pw_below_drewN | apply below_drew1) | exact HB.out)⟩
         ·rw [if_neg c18] at H
          have c18b0 : (x5_1 == 0) = false := beq_eq_false_iff_ne.mpr c18
          have c18b1 : (x5_1 != 0) = true := bne_iff_ne.mpr c18
          replace H := Option.bind_eq_some_iff.mp H
          obtain ⟨t264, A190, H⟩ := H
          replace H : (if t264 = true then (ostiaryref3_scheme.l0 kj4 a0 (wrap64 (x5_1 + 1))) else (if (bt a0 x5_1) = 43 then (ostiaryref3_scheme.l0 kj4 a0 (wrap64 (x5_1 + 1))) else (if (bt a0 x5_1) = 45 then (ostiaryref3_scheme.l0 kj4 a0 (wrap64 (x5_1 + 1))) else (if (bt a0 x5_1) = 46 then (ostiaryref3_scheme.l0 kj4 a0 (wrap64 (x5_1 + 1))) else (some ((⟨#[]⟩ : ByteArray), (⟨#[]⟩ : ByteArray), false)))))) = some (r1, r2, r3) := H
          have A19 := Aside0.mk A190
          clear A190
          by_cases c20 : t264 = true
          ·subst c20
           have H1 : (ostiaryref3_scheme.l0 kj4 a0 (wrap64 (x5_1 + 1))) = some (r1, r2, r3) := by rw [if_pos rfl] at H; exact H
           clear H
           have H := H1
           clear H1
           have H' := Aside0.mk H
           clear H
           go_wp2_with (first | ((with_reducible refine gate_callee (f := 129) rfl ?_); refine goesL_ (some 31) rfl rfl Tryd.func129 q2_ rfl #[.int .u8 (bt a0 x5_1)] rfl tS ?_; (with_reducible refine (ostiaryref1_Letter.calls (bt a0 x5_1) false _ A16.out).mono ?_); rintro e w' ⟨rfl, ⟨nd, rfl⟩⟩; refine ⟨_, rfl, ?_⟩) | (go_at_call 130; (with_reducible refine (ostiaryref1_Digit.calls (bt a0 x5_1) true _ A19.out).mono ?_); rintro e w' ⟨rfl, ⟨nd, rfl⟩⟩))
           go_roundg kj4
           case measure => have := HK1.out; have := HJ4.out; omega
           case rel => exact ⟨(wrap64 (x5_1 + 1)), rS, H', ⟨by have := HK1.out; have := HJ4.out; omega⟩, ⟨by repeat (first | (with_reducible first | exact HB.out | apply below_alloc | apply pw_below_drewN | apply below_drew1) | exact HB.out)⟩⟩
          ·replace c20 := Bool.eq_false_iff.mpr c20
           subst c20
           have H1 : (if (bt a0 x5_1) = 43 then (ostiaryref3_scheme.l0 kj4 a0 (wrap64 (x5_1 + 1))) else (if (bt a0 x5_1) = 45 then (ostiaryref3_scheme.l0 kj4 a0 (wrap64 (x5_1 + 1))) else (if (bt a0 x5_1) = 46 then (ostiaryref3_scheme.l0 kj4 a0 (wrap64 (x5_1 + 1))) else (some ((⟨#[]⟩ : ByteArray), (⟨#[]⟩ : ByteArray), false))))) = some (r1, r2, r3) := by rw [if_neg (show ¬ (false = true) by decide)] at H; exact H
           clear H
           have H := H1
           clear H1
           by_cases c21 : (bt a0 x5_1) = 43
           ·rw [if_pos c21] at H
            have c21b0 : ((bt a0 x5_1) == 43) = true := beq_iff_eq.mpr c21
            have c21b1 : ((bt a0 x5_1) != 43) = false := bne_eq_false_iff_eq.mpr c21
            clear c21
            have H' := Aside0.mk H
            clear H
            go_wp2_with (first | ((with_reducible refine gate_callee (f := 129) rfl ?_); refine goesL_ (some 31) rfl rfl Tryd.func129 q2_ rfl #[.int .u8 (bt a0 x5_1)] rfl tS ?_; (with_reducible refine (ostiaryref1_Letter.calls (bt a0 x5_1) false _ A16.out).mono ?_); rintro e w' ⟨rfl, ⟨nd, rfl⟩⟩; refine ⟨_, rfl, ?_⟩) | (go_at_call 130; (with_reducible refine (ostiaryref1_Digit.calls (bt a0 x5_1) false _ A19.out).mono ?_); rintro e w' ⟨rfl, ⟨nd, rfl⟩⟩))
            go_roundg kj4
            case measure => have := HK1.out; have := HJ4.out; omega
            case rel => exact ⟨(wrap64 (x5_1 + 1)), rS, H', ⟨by have := HK1.out; have := HJ4.out; omega⟩, ⟨by repeat (first | (with_reducible first | exact HB.out | apply below_alloc | apply pw_below_drewN | apply below_drew1) | exact HB.out)⟩⟩
           ·rw [if_neg c21] at H
            have c21b0 : ((bt a0 x5_1) == 43) = false := beq_eq_false_iff_ne.mpr c21
            have c21b1 : ((bt a0 x5_1) != 43) = true := bne_iff_ne.mpr c21
            by_cases c22 : (bt a0 x5_1) = 45
            ·rw [if_pos c22] at H
             have c22b0 : ((bt a0 x5_1) == 45) = true := beq_iff_eq.mpr c22
             have c22b1 : ((bt a0 x5_1) != 45) = false := bne_eq_false_iff_eq.mpr c22
             clear c22
             have H' := Aside0.mk H
             clear H
             go_wp2_with (first | ((with_reducible refine gate_callee (f := 129) rfl ?_); refine goesL_ (some 31) rfl rfl Tryd.func129 q2_ rfl #[.int .u8 (bt a0 x5_1)] rfl tS ?_; (with_reducible refine (ostiaryref1_Letter.calls (bt a0 x5_1) false _ A16.out).mono ?_); rintro e w' ⟨rfl, ⟨nd, rfl⟩⟩; refine ⟨_, rfl, ?_⟩) | (go_at_call 130; (with_reducible refine (ostiaryref1_Digit.calls (bt a0 x5_1) false _ A19.out).mono ?_); rintro e w' ⟨rfl, ⟨nd, rfl⟩⟩))
             go_roundg kj4
             case measure => have := HK1.out; have := HJ4.out; omega
             case rel => exact ⟨(wrap64 (x5_1 + 1)), rS, H', ⟨by have := HK1.out; have := HJ4.out; omega⟩, ⟨by repeat (first | (with_reducible first | exact HB.out | apply below_alloc | apply pw_below_drewN | apply below_drew1) | exact HB.out)⟩⟩
            ·rw [if_neg c22] at H
             have c22b0 : ((bt a0 x5_1) == 45) = false := beq_eq_false_iff_ne.mpr c22
             have c22b1 : ((bt a0 x5_1) != 45) = true := bne_iff_ne.mpr c22
             by_cases c23 : (bt a0 x5_1) = 46
             ·rw [if_pos c23] at H
              have c23b0 : ((bt a0 x5_1) == 46) = true := beq_iff_eq.mpr c23
              have c23b1 : ((bt a0 x5_1) != 46) = false := bne_eq_false_iff_eq.mpr c23
              clear c23
              have H' := Aside0.mk H
              clear H
              go_wp2_with (first | ((with_reducible refine gate_callee (f := 129) rfl ?_); refine goesL_ (some 31) rfl rfl Tryd.func129 q2_ rfl #[.int .u8 (bt a0 x5_1)] rfl tS ?_; (with_reducible refine (ostiaryref1_Letter.calls (bt a0 x5_1) false _ A16.out).mono ?_); rintro e w' ⟨rfl, ⟨nd, rfl⟩⟩; refine ⟨_, rfl, ?_⟩) | (go_at_call 130; (with_reducible refine (ostiaryref1_Digit.calls (bt a0 x5_1) false _ A19.out).mono ?_); rintro e w' ⟨rfl, ⟨nd, rfl⟩⟩))
              go_roundg kj4
              case measure => have := HK1.out; have := HJ4.out; omega
              case rel => exact ⟨(wrap64 (x5_1 + 1)), rS, H', ⟨by have := HK1.out; have := HJ4.out; omega⟩, ⟨by repeat (first | (with_reducible first | exact HB.out | apply below_alloc | apply pw_below_drewN | apply below_drew1) | exact HB.out)⟩⟩
             ·rw [if_neg c23] at H
              have c23b0 : ((bt a0 x5_1) == 46) = false := beq_eq_false_iff_ne.mpr c23
              have c23b1 : ((bt a0 x5_1) != 46) = true := bne_iff_ne.mpr c23
              simp only [Option.some.injEq, Prod.mk.injEq] at H
              obtain ⟨rfl, rfl, rfl⟩ := H
              go_wp2_with (first | ((with_reducible refine gate_callee (f := 129) rfl ?_); refine goesL_ (some 31) rfl rfl Tryd.func129 q2_ rfl #[.int .u8 (bt a0 x5_1)] rfl tS ?_; (with_reducible refine (ostiaryref1_Letter.calls (bt a0 x5_1) false _ A16.out).mono ?_); rintro e w' ⟨rfl, ⟨nd, rfl⟩⟩; refine ⟨_, rfl, ?_⟩) | (go_at_call 130; (with_reducible refine (ostiaryref1_Digit.calls (bt a0 x5_1) false _ A19.out).mono ?_); rintro e w' ⟨rfl, ⟨nd, rfl⟩⟩))
              go_ret3
              exact ⟨by first | rfl | (simp [errW_none, errW_some] <;> rfl) | (simp [*, errW_none, errW_some] <;> rfl), by repeat (first | (with_reducible first | exact HB.out | apply below_alloc | apply pw_below_drewN | apply below_drew1) | exact HB.out)⟩
    ·rw [if_neg c3] at H
     exact absurd H (by simp)
   ·rw [if_neg c2] at H
    have c2b0 : decide (x5_1 < (a0.size : Int)) = false := decide_eq_false c2
    clear c2
    simp only [Option.some.injEq, Prod.mk.injEq] at H
    obtain ⟨rfl, rfl, rfl⟩ := H
    go_wp2
    go_ret3
    exact ⟨by first | rfl | (simp [errW_none, errW_some] <;> rfl) | (simp [*, errW_none, errW_some] <;> rfl), by repeat (first | (with_reducible first | exact HB.out | apply below_alloc | apply pw_below_drewN | apply below_drew1) | exact HB.out)⟩
end Go.Proofs.YtifmkgkiipckbaaDoor.P
namespace Go.Proofs.YtifmkgkiipckbaaDoor.P
open Go.RowKit Go.Proofs.YtifmkgkiipckbaaDoorW.PrintWords Go.Proofs.YtifmkgkiipckbaaDoorW.PrintLast Go.Proofs.YtifmkgkiipckbaaDoorW.PrintMore
attribute [local go_sem] max2_int min2_int max_two min_two max_three min_three max_four min_four
set_option linter.unusedVariables false
set_option linter.unusedSimpArgs false
mutual
def ostiaryref3_clean.j1 : Nat → ByteArray → Option (ByteArray)
 | 0, _ => none
 | k + 1, x0 => ostiaryref3_clean.l1 k x0
def ostiaryref3_clean.j3 : Nat → ByteArray → Option (ByteArray)
 | 0, _ => none
 | k + 1, x0 => ostiaryref3_clean.l2 k x0 (⟨#[]⟩ : ByteArray) 0
def ostiaryref3_clean.l2 : Nat → ByteArray → ByteArray → Int → Option (ByteArray)
 | 0, _, _, _ => none
 | k + 1, x0, x3, x4 => if x4 < (x0.size : Int) then (if 0 ≤ x4 then (if (bt x0 x4) = 9 then (ostiaryref3_clean.l2 k x0 x3 (wrap64 (x4 + 1))) else (if (bt x0 x4) = 10 then (ostiaryref3_clean.l2 k x0 x3 (wrap64 (x4 + 1))) else (if (bt x0 x4) = 13 then (ostiaryref3_clean.l2 k x0 x3 (wrap64 (x4 + 1))) else (if x4 ≤ (wrap64 (x4 + 1)) then (if (wrap64 (x4 + 1)) ≤ (x0.size : Int) then (if x3.size + (x0.extract (x4 : Int).toNat ((wrap64 (x4 + 1)) : Int).toNat).size ≤ 9223372036854775807 then (ostiaryref3_clean.l2 k x0 (x3 ++ (x0.extract (x4 : Int).toNat ((wrap64 (x4 + 1)) : Int).toNat)) (wrap64 (x4 + 1))) else (none)) else (none)) else (none))))) else (none)) else (some x3)
def ostiaryref3_clean.l1 : Nat → ByteArray → Option (ByteArray)
 | 0, _ => none
 | k + 1, x0 => if (x0.size : Int) > 0 then (if 0 ≤ (wrap64 ((x0.size : Int) - 1)) then (if (wrap64 ((x0.size : Int) - 1)) < (x0.size : Int) then (if (bt x0 (wrap64 ((x0.size : Int) - 1))) ≤ 32 then (if (wrap64 ((x0.size : Int) - 1)) ≤ (x0.size : Int) then (ostiaryref3_clean.l1 k (x0.extract 0 ((wrap64 ((x0.size : Int) - 1)) : Int).toNat)) else (none)) else (ostiaryref3_clean.j3 k x0)) else (none)) else (none)) else (ostiaryref3_clean.j3 k x0)
def ostiaryref3_clean.l0 : Nat → ByteArray → Option (ByteArray)
 | 0, _ => none
 | k + 1, x0 => if (x0.size : Int) > 0 then (if 0 < (x0.size : Int) then (if (bt x0 0) ≤ 32 then (if 1 ≤ (x0.size : Int) then (ostiaryref3_clean.l0 k (x0.extract 1 x0.size)) else (none)) else (ostiaryref3_clean.j1 k x0)) else (none)) else (ostiaryref3_clean.j1 k x0)
end
def ostiaryref3_clean.f (k : Nat) (a0 : ByteArray) : Option (ByteArray) := ostiaryref3_clean.l0 k a0
theorem ostiaryref3_clean.mono_l : ∀ k, (∀ y0, LeO (ostiaryref3_clean.j1 k y0) (ostiaryref3_clean.j1 (k + 1) y0)) ∧ (∀ y0, LeO (ostiaryref3_clean.j3 k y0) (ostiaryref3_clean.j3 (k + 1) y0)) ∧ (∀ y0 y1 y2, LeO (ostiaryref3_clean.l2 k y0 y1 y2) (ostiaryref3_clean.l2 (k + 1) y0 y1 y2)) ∧ (∀ y0, LeO (ostiaryref3_clean.l1 k y0) (ostiaryref3_clean.l1 (k + 1) y0)) ∧ (∀ y0, LeO (ostiaryref3_clean.l0 k y0) (ostiaryref3_clean.l0 (k + 1) y0))
 | 0 => ⟨fun _ r h => by simp [ostiaryref3_clean.j1] at h, fun _ r h => by simp [ostiaryref3_clean.j3] at h, fun _ _ _ r h => by simp [ostiaryref3_clean.l2] at h, fun _ r h => by simp [ostiaryref3_clean.l1] at h, fun _ r h => by simp [ostiaryref3_clean.l0] at h⟩
 | k + 1 => by
  obtain ⟨ih0, ih1, ih2, ih3, ih4⟩ := ostiaryref3_clean.mono_l k
  refine ⟨?_, ?_, ?_, ?_, ?_⟩
  ·intro y0
   unfold ostiaryref3_clean.j1
   exact lO
  ·intro y0
   unfold ostiaryref3_clean.j3
   exact lO
  ·intro y0 y1 y2
   unfold ostiaryref3_clean.l2
   exact lO
  ·intro y0
   unfold ostiaryref3_clean.l1
   exact lO
  ·intro y0
   unfold ostiaryref3_clean.l0
   exact lO
theorem ostiaryref3_clean.mono : ∀ a0 k, LeO (ostiaryref3_clean.f k a0) (ostiaryref3_clean.f (k + 1) a0) := by
 intro a0 k
 obtain ⟨ih0, ih1, ih2, ih3, ih4⟩ := ostiaryref3_clean.mono_l k
 unfold ostiaryref3_clean.f
 exact lO
set_option maxHeartbeats 8000000 in
set_option maxRecDepth 100000 in
theorem ostiaryref3_clean.calls (k : Nat) (a0 : ByteArray) (r : ByteArray) (w : World) (h : ostiaryref3_clean.f k a0 = some r) :
  Calls Tryd.prog 108 #[.string a0] w fun e w' => e = .returned (.string r) ∧ Drawn0 w w' := by
 have H : (ostiaryref3_clean.l0 k a0) = some r := h
 clear h
 have HC2 := Aside0.mk H
 clear H
 go_enter Tryd.func108, Tryd.ntmps108
 go_upto_block 0 with (fail)
 go_cut [0] (fun v0 wc => ∃ (kq : Nat) (x0_1 : ByteArray), v0 = .string x0_1 ∧ Aside0 (ostiaryref3_clean.j1 kq x0_1 = some r) ∧ Aside0 (kq ≤ k) ∧ Drawn0 w wc)
 case first =>
  have H := HC2.out
  clear HC2
  have H' := Aside0.mk H
  clear H
  go_wp2
  go_loopg [0] k (fun kq v0 w' => ∃ (x0_1 : ByteArray), v0 = .string x0_1 ∧ Aside0 (ostiaryref3_clean.l0 kq x0_1 = some r) ∧ Aside0 (kq ≤ k) ∧ Drawn0 w w')
  case atStart => exact ⟨(a0), rS, H', ⟨Nat.le_refl _⟩, by repeat (first | exact Drawn0.refl _ | apply Drawn0.step)⟩
  case round =>
   clear H'
   try clear c1
   try clear p2
   obtain ⟨x0_1, rfl, HA, HK1, ⟨m1, rfl⟩⟩ := hrel
   cases gk with
   | zero => exact absurd HA.out (by simp [ostiaryref3_clean.l0])
   | succ k1 =>
    have H := HA.out
    clear HA
    simp only [ostiaryref3_clean.l0] at H
    by_cases c3 : (x0_1.size : Int) > 0
    ·rw [if_pos c3] at H
     have c3b0 : decide (0 < (x0_1.size : Int)) = true := decide_eq_true c3
     have c3b1 : decide (0 < x0_1.size) = true := decide_eq_true (by omega)
     clear c3
     (first | rw [c3b0] | (simp only [i64_w, i32_w]; rw [c3b0]) | skip)
     by_cases c4 : 0 < (x0_1.size : Int)
     ·rw [if_pos c4] at H
      have c4b0 : decide (0 < (x0_1.size : Int)) = true := decide_eq_true c4
      have c4b1 : decide (0 < x0_1.size) = true := decide_eq_true (by omega)
      clear c4
      by_cases c6 : (bt x0_1 0) ≤ 32
      ·rw [if_pos c6] at H
       have c6b0 : decide ((bt x0_1 0) ≤ 32) = true := decide_eq_true c6
       clear c6
       by_cases c7 : 1 ≤ (x0_1.size : Int)
       ·rw [if_pos c7] at H
        have c7b0 := eq_true c7
        have c7b1 : decide (1 ≤ (x0_1.size : Int)) = true := decide_eq_true c7
        clear c7
        have H' := Aside0.mk H
        clear H
        have p5 : 0 ≤ (0 : Int) := (by omega)
        have q5 : 0 < x0_1.size := (by have : (0 : Int) < (x0_1.size : Int) := of_decide_eq_true aS; omega)
        have hx5 : ∀ h : 0 < x0_1.size, ((x0_1[0]'h).toNat : Int) = bt x0_1 0 := bt_at x0_1 0
        clear p5
        have qi5 : (0 < (x0_1.size : Int)) = True := eq_true (of_decide_eq_true aS)
        replace q5 := eq_true q5
        go_wp2
        go_roundg k1
        case measure => have := HK1.out; omega
        case rel => exact ⟨(x0_1.extract 1 x0_1.size), rS, H', ⟨by have := HK1.out; omega⟩, by repeat (first | exact Drawn0.refl _ | apply Drawn0.step)⟩
       ·rw [if_neg c7] at H
        exact absurd H (by simp)
      ·rw [if_neg c6] at H
       have c6b0 : decide ((bt x0_1 0) ≤ 32) = false := decide_eq_false c6
       clear c6
       have H' := Aside0.mk H
       clear H
       have p5 : 0 ≤ (0 : Int) := (by omega)
       have q5 : 0 < x0_1.size := (by have : (0 : Int) < (x0_1.size : Int) := of_decide_eq_true aS; omega)
       have hx5 : ∀ h : 0 < x0_1.size, ((x0_1[0]'h).toNat : Int) = bt x0_1 0 := bt_at x0_1 0
       clear p5
       have qi5 : (0 < (x0_1.size : Int)) = True := eq_true (of_decide_eq_true aS)
       replace q5 := eq_true q5
       go_wp2
       go_meet
       case rel => exact ⟨_, (x0_1), rS, H', ⟨by have := HK1.out; first | omega | exact Nat.le_refl _⟩, by repeat (first | exact Drawn0.refl _ | apply Drawn0.step)⟩
     ·rw [if_neg c4] at H
      exact absurd H (by simp)
    ·rw [if_neg c3] at H
     have c3b0 : decide (0 < (x0_1.size : Int)) = false := decide_eq_false c3
     have c3b1 : decide (0 < x0_1.size) = false := decide_eq_false (by omega)
     clear c3
     (first | rw [c3b0] | (simp only [i64_w, i32_w]; rw [c3b0]) | skip)
     have H' := Aside0.mk H
     clear H
     go_wp2
     go_meet
     case rel => exact ⟨_, (x0_1), rS, H', ⟨by have := HK1.out; first | omega | exact Nat.le_refl _⟩, by repeat (first | exact Drawn0.refl _ | apply Drawn0.step)⟩
 case rest =>
  clear HC2
  try clear c1
  try clear p2
  try clear c3
  try clear c3b0
  try clear c3b1
  try clear c4
  try clear c4b0
  try clear c4b1
  try clear p5
  try clear q5
  try clear hx5
  try clear qi5
  try clear c6
  try clear c6b0
  try clear c7
  try clear c7b0
  try clear c7b1
  try clear p2
  try clear p5
  try clear q5
  obtain ⟨kq, x0_1, rfl, HA, HJ1, ⟨mc1, rfl⟩⟩ := hcut
  cases kq with
  | zero => exact absurd HA.out (by simp [ostiaryref3_clean.j1])
  | succ kj1 =>
   have H := HA.out
   clear HA
   simp only [ostiaryref3_clean.j1] at H
   have HC8 := Aside0.mk H
   clear H
   go_upto_block 2 with (fail)
   go_cut [0] (fun v0 wc => ∃ (kq : Nat) (x0_7 : ByteArray), v0 = .string x0_7 ∧ Aside0 (ostiaryref3_clean.j3 kq x0_7 = some r) ∧ Aside0 (kq ≤ kj1) ∧ Drawn0 w wc)
   case first =>
    have H := HC8.out
    clear HC8
    have H' := Aside0.mk H
    clear H
    go_wp2
    go_loopg [0] kj1 (fun kq v0 w' => ∃ (x0_2 : ByteArray), v0 = .string x0_2 ∧ Aside0 (ostiaryref3_clean.l1 kq x0_2 = some r) ∧ Aside0 (kq ≤ kj1) ∧ Drawn0 w w')
    case atStart => exact ⟨(x0_1), rS, H', ⟨Nat.le_refl _⟩, by repeat (first | exact Drawn0.refl _ | apply Drawn0.step)⟩
    case round =>
     clear H'
     try clear c1
     try clear p2
     try clear c3
     try clear c3b0
     try clear c3b1
     try clear c4
     try clear c4b0
     try clear c4b1
     try clear p5
     try clear q5
     try clear hx5
     try clear qi5
     try clear c6
     try clear c6b0
     try clear c7
     try clear c7b0
     try clear c7b1
     try clear p2
     try clear p5
     try clear q5
     obtain ⟨x0_2, rfl, HA, HK2, ⟨m2, rfl⟩⟩ := hrel
     cases gk with
     | zero => exact absurd HA.out (by simp [ostiaryref3_clean.l1])
     | succ k2 =>
      have H := HA.out
      clear HA
      simp only [ostiaryref3_clean.l1] at H
      by_cases c9 : (x0_2.size : Int) > 0
      ·rw [if_pos c9] at H
       have c9b0 : decide (0 < (x0_2.size : Int)) = true := decide_eq_true c9
       have c9b1 : decide (0 < x0_2.size) = true := decide_eq_true (by omega)
       clear c9
       (first | rw [c9b0] | (simp only [i64_w, i32_w]; rw [c9b0]) | skip)
       obtain ⟨ji10, hji10⟩ : ∃ j_ : Int, (wrap64 ((x0_2.size : Int) - 1)) = j_ := ⟨_, rfl⟩
       replace H : (if 0 ≤ (ji10) then (if (ji10) < (x0_2.size : Int) then (if (bt x0_2 (ji10)) ≤ 32 then (if (ji10) ≤ (x0_2.size : Int) then (ostiaryref3_clean.l1 k2 (x0_2.extract 0 ((ji10) : Int).toNat)) else (none)) else (ostiaryref3_clean.j3 k2 x0_2)) else (none)) else (none)) = some r := by first | (rw [hji10] at H; exact H) | (simp only [hji10] at H ⊢; exact H)
       have hji10w : (IntKind.i64.wrap ((x0_2.size : Int) - 1)) = ji10 := (i64_w _).trans hji10
       by_cases c11 : 0 ≤ (ji10)
       ·rw [if_pos c11] at H
        have c11b0 : decide (0 ≤ (ji10)) = true := decide_eq_true c11
        clear c11
        by_cases c12 : (ji10) < (x0_2.size : Int)
        ·rw [if_pos c12] at H
         have c12b0 : decide ((ji10) < (x0_2.size : Int)) = true := decide_eq_true c12
         clear c12
         by_cases c14 : (bt x0_2 (ji10)) ≤ 32
         ·rw [if_pos c14] at H
          have c14b0 : decide ((bt x0_2 (ji10)) ≤ 32) = true := decide_eq_true c14
          clear c14
          have c15b0 := eq_true (of_decide_eq_true aS : 0 ≤ (ji10))
          by_cases c16 : (ji10) ≤ (x0_2.size : Int)
          ·rw [if_pos c16] at H
           have c16b0 := eq_true c16
           have c16b1 : decide ((ji10) ≤ (x0_2.size : Int)) = true := decide_eq_true c16
           clear c16
           have H' := Aside0.mk H
           clear H
           have p13 : 0 ≤ ((ji10) : Int) := of_decide_eq_true aS
           have q13 : (ji10) < (x0_2.size : Int) := of_decide_eq_true aS
           have hx13 := bt_at x0_2 (ji10)
           replace p13 := eq_true p13
           replace q13 := eq_true q13
           go_wp2
           go_roundg k2
           case measure => have := HJ1.out; have := HK2.out; omega
           case rel => exact ⟨(x0_2.extract 0 ((ji10) : Int).toNat), (by first | rfl | (simp; done) | (simp only [← hji10] <;> (first | rfl | simp)) | (simp [*]; done)), H', ⟨by have := HJ1.out; have := HK2.out; omega⟩, by repeat (first | exact Drawn0.refl _ | apply Drawn0.step)⟩
          ·rw [if_neg c16] at H
           exact absurd H (by simp)
         ·rw [if_neg c14] at H
          have c14b0 : decide ((bt x0_2 (ji10)) ≤ 32) = false := decide_eq_false c14
          clear c14
          have H' := Aside0.mk H
          clear H
          have p13 : 0 ≤ ((ji10) : Int) := of_decide_eq_true aS
          have q13 : (ji10) < (x0_2.size : Int) := of_decide_eq_true aS
          have hx13 := bt_at x0_2 (ji10)
          replace p13 := eq_true p13
          replace q13 := eq_true q13
          go_wp2
          go_meet
          case rel => exact ⟨_, (x0_2), rS, H', ⟨by have := HJ1.out; have := HK2.out; first | omega | exact Nat.le_refl _⟩, by repeat (first | exact Drawn0.refl _ | apply Drawn0.step)⟩
        ·rw [if_neg c12] at H
         exact absurd H (by simp)
       ·rw [if_neg c11] at H
        exact absurd H (by simp)
      ·rw [if_neg c9] at H
       have c9b0 : decide (0 < (x0_2.size : Int)) = false := decide_eq_false c9
       have c9b1 : decide (0 < x0_2.size) = false := decide_eq_false (by omega)
       clear c9
       (first | rw [c9b0] | (simp only [i64_w, i32_w]; rw [c9b0]) | skip)
       have H' := Aside0.mk H
       clear H
       go_wp2
       go_meet
       case rel => exact ⟨_, (x0_2), rS, H', ⟨by have := HJ1.out; have := HK2.out; first | omega | exact Nat.le_refl _⟩, by repeat (first | exact Drawn0.refl _ | apply Drawn0.step)⟩
   case rest =>
    clear HC8
    try clear c1
    try clear p1
    try clear q1
    try clear hx1
    try clear p2
    try clear c3
    try clear c3b0
    try clear c3b1
    try clear c4
    try clear c4b0
    try clear c4b1
    try clear p5
    try clear q5
    try clear hx5
    try clear qi5
    try clear c6
    try clear c6b0
    try clear p6
    try clear c7
    try clear c7b0
    try clear c7b1
    try clear c9
    try clear c9b0
    try clear c9b1
    try clear c10
    try clear c11
    try clear c11b0
    try clear c12
    try clear c12b0
    try clear p13
    try clear q13
    try clear hx13
    try clear c14
    try clear c14b0
    try clear c15
    try clear c15b0
    try clear c16
    try clear c16b0
    try clear c16b1
    try clear p13
    try clear p2
    try clear p5
    try clear q13
    try clear q5
    obtain ⟨kq, x0_7, rfl, HA, HJ7, ⟨mc7, rfl⟩⟩ := hcut
    cases kq with
    | zero => exact absurd HA.out (by simp [ostiaryref3_clean.j3])
    | succ kj7 =>
     have H := HA.out
     clear HA
     simp only [ostiaryref3_clean.j3] at H
     have H' := Aside0.mk H
     clear H
     go_wp2
     go_loopg [3, 4] kj7 (fun kq v3 v4 w' => ∃ (x3_3 : ByteArray) (x4_3 : Int), v3 = .string x3_3 ∧ v4 = .int .i64 x4_3 ∧ Aside0 (ostiaryref3_clean.l2 kq x0_7 x3_3 x4_3 = some r) ∧ Aside0 (kq ≤ kj7) ∧ Drawn0 w w')
     case atStart => exact ⟨((⟨#[]⟩ : ByteArray)), (0), rS, rS, H', ⟨Nat.le_refl _⟩, by repeat (first | exact Drawn0.refl _ | apply Drawn0.step)⟩
     case round =>
      clear H'
      try clear c1
      try clear p1
      try clear q1
      try clear hx1
      try clear p2
      try clear c3
      try clear c3b0
      try clear c3b1
      try clear c4
      try clear c4b0
      try clear c4b1
      try clear p5
      try clear q5
      try clear hx5
      try clear qi5
      try clear c6
      try clear c6b0
      try clear p6
      try clear c7
      try clear c7b0
      try clear c7b1
      try clear c9
      try clear c9b0
      try clear c9b1
      try clear c10
      try clear c11
      try clear c11b0
      try clear c12
      try clear c12b0
      try clear p13
      try clear q13
      try clear hx13
      try clear c14
      try clear c14b0
      try clear c15
      try clear c15b0
      try clear c16
      try clear c16b0
      try clear c16b1
      try clear p1
      try clear p13
      try clear p2
      try clear p5
      try clear p6
      try clear q1
      try clear q13
      try clear q5
      obtain ⟨x3_3, x4_3, rfl, rfl, HA, HK3, ⟨m3, rfl⟩⟩ := hrel
      cases gk with
      | zero => exact absurd HA.out (by simp [ostiaryref3_clean.l2])
      | succ k3 =>
       have H := HA.out
       clear HA
       simp only [ostiaryref3_clean.l2] at H
       by_cases c17 : x4_3 < (x0_7.size : Int)
       ·rw [if_pos c17] at H
        have c17b0 : decide (x4_3 < (x0_7.size : Int)) = true := decide_eq_true c17
        clear c17
        by_cases c18 : 0 ≤ x4_3
        ·rw [if_pos c18] at H
         have c18b0 : decide (0 ≤ x4_3) = true := decide_eq_true c18
         clear c18
         by_cases c20 : (bt x0_7 x4_3) = 9
         ·rw [if_pos c20] at H
          have c20b0 : ((bt x0_7 x4_3) == 9) = true := beq_iff_eq.mpr c20
          have c20b1 : ((bt x0_7 x4_3) != 9) = false := bne_eq_false_iff_eq.mpr c20
          clear c20
          have H' := Aside0.mk H
          clear H
          have p19 : 0 ≤ (x4_3 : Int) := of_decide_eq_true aS
          have q19 : x4_3 < (x0_7.size : Int) := of_decide_eq_true aS
          have hx19 := bt_at x0_7 x4_3
          replace p19 := eq_true p19
          replace q19 := eq_true q19
          go_wp2
          go_roundg k3
          case measure => have := HJ1.out; have := HJ7.out; have := HK3.out; omega
          case rel => exact ⟨(x3_3), (wrap64 (x4_3 + 1)), rS, rS, H', ⟨by have := HJ1.out; have := HJ7.out; have := HK3.out; omega⟩, by repeat (first | exact Drawn0.refl _ | apply Drawn0.step)⟩
         ·rw [if_neg c20] at H
          have c20b0 : ((bt x0_7 x4_3) == 9) = false := beq_eq_false_iff_ne.mpr c20
          have c20b1 : ((bt x0_7 x4_3) != 9) = true := bne_iff_ne.mpr c20
          by_cases c22 : (bt x0_7 x4_3) = 10
          ·rw [if_pos c22] at H
           have c22b0 : ((bt x0_7 x4_3) == 10) = true := beq_iff_eq.mpr c22
           have c22b1 : ((bt x0_7 x4_3) != 10) = false := bne_eq_false_iff_eq.mpr c22
           clear c22
           have H' := Aside0.mk H
           clear H
           have p19 : 0 ≤ (x4_3 : Int) := of_decide_eq_true aS
           have q19 : x4_3 < (x0_7.size : Int) := of_decide_eq_true aS
           have hx19 := bt_at x0_7 x4_3
           replace p19 := eq_true p19
           replace q19 := eq_true q19
           have p21 : 0 ≤ (x4_3 : Int) := of_decide_eq_true aS
           have q21 : x4_3 < (x0_7.size : Int) := of_decide_eq_true aS
           have hx21 := bt_at x0_7 x4_3
           replace p21 := eq_true p21
           replace q21 := eq_true q21
           go_wp2
           go_roundg k3
           case measure => have := HJ1.out; have := HJ7.out; have := HK3.out; omega
           case rel => exact ⟨(x3_3), (wrap64 (x4_3 + 1)), rS, rS, H', ⟨by have := HJ1.out; have := HJ7.out; have := HK3.out; omega⟩, by repeat (first | exact Drawn0.refl _ | apply Drawn0.step)⟩
          ·rw [if_neg c22] at H
           have c22b0 : ((bt x0_7 x4_3) == 10) = false := beq_eq_false_iff_ne.mpr c22
           have c22b1 : ((bt x0_7 x4_3) != 10) = true := bne_iff_ne.mpr c22
           by_cases c24 : (bt x0_7 x4_3) = 13
           ·rw [if_pos c24] at H
            have c24b0 : ((bt x0_7 x4_3) == 13) = true := beq_iff_eq.mpr c24
            have c24b1 : ((bt x0_7 x4_3) != 13) = false := bne_eq_false_iff_eq.mpr c24
            clear c24
            have H' := Aside0.mk H
            clear H
            have p19 : 0 ≤ (x4_3 : Int) := of_decide_eq_true aS
            have q19 : x4_3 < (x0_7.size : Int) := of_decide_eq_true aS
            have hx19 := bt_at x0_7 x4_3
            replace p19 := eq_true p19
            replace q19 := eq_true q19
            have p21 : 0 ≤ (x4_3 : Int) := of_decide_eq_true aS
            have q21 : x4_3 < (x0_7.size : Int) := of_decide_eq_true aS
            have hx21 := bt_at x0_7 x4_3
            replace p21 := eq_true p21
            replace q21 := eq_true q21
            have p23 : 0 ≤ (x4_3 : Int) := of_decide_eq_true aS
            have q23 : x4_3 < (x0_7.size : Int) := of_decide_eq_true aS
            have hx23 := bt_at x0_7 x4_3
            replace p23 := eq_true p23
            replace q23 := eq_true q23
            go_wp2
            go_roundg k3
            case measure => have := HJ1.out; have := HJ7.out; have := HK3.out; omega
            case rel => exact ⟨(x3_3), (wrap64 (x4_3 + 1)), rS, rS, H', ⟨by have := HJ1.out; have := HJ7.out; have := HK3.out; omega⟩, by repeat (first | exact Drawn0.refl _ | apply Drawn0.step)⟩
           ·rw [if_neg c24] at H
            have c24b0 : ((bt x0_7 x4_3) == 13) = false := beq_eq_false_iff_ne.mpr c24
            have c24b1 : ((bt x0_7 x4_3) != 13) = true := bne_iff_ne.mpr c24
            have c25b0 := eq_true (of_decide_eq_true aS : 0 ≤ x4_3)
            by_cases c26 : x4_3 ≤ (wrap64 (x4_3 + 1))
            ·rw [if_pos c26] at H
             have c26b0 := eq_true c26
             have c26b1 : decide (x4_3 ≤ (wrap64 (x4_3 + 1))) = true := decide_eq_true c26
             by_cases c27 : (wrap64 (x4_3 + 1)) ≤ (x0_7.size : Int)
             ·rw [if_pos c27] at H
              have c27b0 := eq_true c27
              have c27b1 : decide ((wrap64 (x4_3 + 1)) ≤ (x0_7.size : Int)) = true := decide_eq_true c27
              by_cases c28 : x3_3.size + (x0_7.extract (x4_3 : Int).toNat ((wrap64 (x4_3 + 1)) : Int).toNat).size ≤ 9223372036854775807
              ·rw [if_pos c28] at H
               have c28b0 := eq_true c28
               have c28b1 : decide (x3_3.size + (x0_7.extract (x4_3 : Int).toNat ((wrap64 (x4_3 + 1)) : Int).toNat).size ≤ 9223372036854775807) = true := decide_eq_true c28
               try have c28b2 : (9223372036854775807 < x3_3.size + (x0_7.extract (x4_3 : Int).toNat ((wrap64 (x4_3 + 1)) : Int).toNat).size) = False := eq_false (Nat.not_lt.2 c28)
               have H' := Aside0.mk H
               clear H
               have p19 : 0 ≤ (x4_3 : Int) := of_decide_eq_true aS
               have q19 : x4_3 < (x0_7.size : Int) := of_decide_eq_true aS
               have hx19 := bt_at x0_7 x4_3
               replace p19 := eq_true p19
               replace q19 := eq_true q19
               have p21 : 0 ≤ (x4_3 : Int) := of_decide_eq_true aS
               have q21 : x4_3 < (x0_7.size : Int) := of_decide_eq_true aS
               have hx21 := bt_at x0_7 x4_3
               replace p21 := eq_true p21
               replace q21 := eq_true q21
               have p23 : 0 ≤ (x4_3 : Int) := of_decide_eq_true aS
               have q23 : x4_3 < (x0_7.size : Int) := of_decide_eq_true aS
               have hx23 := bt_at x0_7 x4_3
               replace p23 := eq_true p23
               replace q23 := eq_true q23
               go_wp2
               go_roundg k3
               case measure => have := HJ1.out; have := HJ7.out; have := HK3.out; omega
               case rel => exact ⟨(x3_3 ++ (x0_7.extract (x4_3 : Int).toNat ((wrap64 (x4_3 + 1)) : Int).toNat)), (wrap64 (x4_3 + 1)), rS, rS, H', ⟨by have := HJ1.out; have := HJ7.out; have := HK3.out; omega⟩, by repeat (first | exact Drawn0.refl _ | apply Drawn0.step)⟩
              ·rw [if_neg c28] at H
               exact absurd H (by simp)
             ·rw [if_neg c27] at H
              exact absurd H (by simp)
            ·rw [if_neg c26] at H
             exact absurd H (by simp)
        ·rw [if_neg c18] at H
         exact absurd H (by simp)
       ·rw [if_neg c17] at H
        have c17b0 : decide (x4_3 < (x0_7.size : Int)) = false := decide_eq_false c17
        clear c17
        obtain rfl := Option.some.inj H
        go_wp2
        go_ret
        exact ⟨rS, by repeat (first | exact Drawn0.refl _ | apply Drawn0.step)⟩
end Go.Proofs.YtifmkgkiipckbaaDoor.P
