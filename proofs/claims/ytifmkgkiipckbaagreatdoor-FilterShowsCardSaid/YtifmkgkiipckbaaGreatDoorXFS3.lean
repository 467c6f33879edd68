/- A part of the proof of FS: texts of walks and plain lemmas. -/
import Derived.Test.YtifmkgkiipckbaaGreatDoorXFS1
import Derived.Lib.Hide
namespace Go.Proofs.YtifmkgkiipckbaaGreatDoor.P
open Go.RowKit Go.Proofs.YtifmkgkiipckbaaGreatDoorW.PrintWords Go.Proofs.YtifmkgkiipckbaaGreatDoorW.PrintLast Go.Proofs.YtifmkgkiipckbaaGreatDoorW.PrintMore
attribute [local go_sem] max2_int min2_int max_two min_two max_three min_three max_four min_four
set_option linter.unusedVariables false
set_option linter.unusedSimpArgs false
def filter_shownB.l0 (a3 : ByteArray → Option Bool) : Nat → List (S30) → Int → Int → Int → Int → List (S30) → List Int → ByteArray → Option (Int × Int × (List (S30)) × List Int × ByteArray)
 | 0, _, _, _, _, _, _, _, _ => none
 | k + 1, x22, x23, x24, x107000, x107001, x107002, x107003, x107004 => if x24 < x23 then (if 0 ≤ x24 then (if x24 < (x22.length : Int) then ((infra_Lower.f ((rd_T30 x22 x24).f0)).bind fun t109 => (if t109.toList = ([115, 101, 116, 45, 99, 111, 111, 107, 105, 101] : List UInt8) then (filter_shownB.l0 a3 k x22 x23 (wrap64 (x24 + 1)) x107000 x107001 x107002 x107003 x107004) else (if t109.toList = ([115, 101, 116, 45, 99, 111, 111, 107, 105, 101, 50] : List UInt8) then (filter_shownB.l0 a3 k x22 x23 (wrap64 (x24 + 1)) x107000 x107001 x107002 x107003 x107004) else ((a3 t109).bind fun t110 => (if t110 = true then (if x107002.length < 4398046511104 then (filter_shownB.l0 a3 k x22 x23 (wrap64 (x24 + 1)) x107000 x107001 (x107002 ++ [(⟨(rd_T30 x22 x24).f0, (rd_T30 x22 x24).f1⟩ : S30)]) x107003 x107004) else (none)) else (filter_shownB.l0 a3 k x22 x23 (wrap64 (x24 + 1)) x107000 x107001 x107002 x107003 x107004)))))) else (none)) else (none)) else (some (x107000, x107001, x107002, x107003, x107004))
def filter_shownB.f (k : Nat) (a0 : Int) (a1_0 : Int) (l1_1 : List (S30)) (l1_2 : List Int) (a2 : ByteArray) (a3 : ByteArray → Option Bool) : Option (Int × Int × (List (S30)) × List Int × ByteArray) := (slices_Clone.f l1_2).bind fun t103 => (filter_shownB.l0 a3 k l1_1 (l1_1.length : Int) 0 a0 a1_0 ([] : List (S30)) t103 a2)
theorem filter_shownB.mono_l (a3 : ByteArray → Option Bool) : ∀ k, (∀ y0 y1 y2 y3 y4 y5 y6 y7, LeO (filter_shownB.l0 a3 k y0 y1 y2 y3 y4 y5 y6 y7) (filter_shownB.l0 a3 (k + 1) y0 y1 y2 y3 y4 y5 y6 y7))
 | 0 => fun _ _ _ _ _ _ _ _ r h => by simp [filter_shownB.l0] at h
 | k + 1 => by
  have ih0 := filter_shownB.mono_l a3 k
  ·intro y0 y1 y2 y3 y4 y5 y6 y7
   unfold filter_shownB.l0
   exact lO
theorem filter_shownB.mono : ∀ a0 a1 a2 a3 a4 a5 k, LeO (filter_shownB.f k a0 a1 a2 a3 a4 a5) (filter_shownB.f (k + 1) a0 a1 a2 a3 a4 a5) := by
 intro a0 a1 a2 a3 a4 a5 k
 have ih0 := filter_shownB.mono_l a5 k
 unfold filter_shownB.f
 exact lO
def filter_shownB.T1 : Bool × List (List Nat × List Nat) := (true, [([], []), ([], []), ([1], [1]), ([], []), ([3], [3]), ([4], [4]), ([], []), ([0, 2, 5, 6], [0, 2, 5, 6]), ([], []), ([8, 7, 5, 0, 1, 2, 3, 4, 5, 6, 7, 8], [7, 8])])
def filter_shownB.B1 : List Nat := [0, 0, 2, 0, 8, 24, 0, 127, 0, 511]
theorem filter_shownB.tab1 : rtab .any (opsOf Tryz.f109 1) = filter_shownB.T1 := by kernel_rfl
theorem filter_shownB.bits1 : waitsOk filter_shownB.T1.2 filter_shownB.B1 = true := by kernel_rfl
set_option maxHeartbeats 8000000 in
set_option maxRecDepth 100000 in
theorem filter_shownB.calls (k : Nat) (a0 : Int) (a1_0 : Int) (A1_1 : Option Addr) (c1_1 : Nat) (l1_1 : List (S30)) (A1_2 : Option Addr) (c1_2 : Nat) (l1_2 : List Int) (a2 : ByteArray) (a3 : ByteArray → Option Bool) (r1 : Int) (r2 : Int) (r3 : List (S30)) (r4 : List Int) (r5 : ByteArray) (w : World) (q1 q2 : Value) (hfv : ∀ (W : World) (t : ByteArray) (r : Bool), Below w.heap.size w W → a3 t = some r → Calls Tryz.prog 113 #[.string t, q1, q2] W fun e w' => e = .returned (.bool r) ∧ Below W.heap.size W w') (hr1_1 : Kd.C k30 w A1_1 l1_1.length l1_1) (hc1_1 : l1_1.length ≤ c1_1) (hr1_2 : Kd.C (Kd.int .u8) w A1_2 l1_2.length l1_2) (hc1_2 : l1_2.length ≤ c1_2) (h : filter_shownB.f k a0 a1_0 l1_1 l1_2 a2 a3 = some (r1, r2, r3, r4, r5)) :
  Calls Tryz.prog 109 #[.int .i64 a0, .agg #[.int .i64 a1_0, .slice A1_1 l1_1.length c1_1, .slice A1_2 l1_2.length c1_2], .string a2, (.func (.func 113) #[] #[q1, q2])] w fun e w' => ∃ v2_ v3_ : Value, e = .returned (.agg #[.int .i64 r1, .int .i64 r2, v2_, v3_, .string r5]) ∧ Kd.R k30 30 w' w.heap.size (fun _ => True) v2_ r3 ∧ Kd.R (Kd.int .u8) 5 w' w.heap.size (fun _ => True) v3_ r4 ∧ Below w.heap.size w w' := by
 have HFV := Lib.hid hfv
 clear hfv
 have eg : ∀ args w, (callFunc 113 args).run Tryz.prog w = .ok (.enter 113 args) w := enters_of Tryz.func113 q9_ rfl
 have hu28 := Tryz.underlying28
 have hu93 := Tryz.underlying93
 have hu30 := Tryz.underlying30
 have HR1_1 := Aside0.mk hr1_1
 have HC1_1 := Aside0.mk hc1_1
 clear hr1_1 hc1_1
 have HR1_2 := Aside0.mk hr1_2
 have HC1_2 := Aside0.mk hc1_2
 clear hr1_2 hc1_2
 have HB := Aside0.mk (Below.refl w.heap.size w)
 have H : ((slices_Clone.f l1_2).bind fun t103 => (filter_shownB.l0 a3 k l1_1 (l1_1.length : Int) 0 a0 a1_0 ([] : List (S30)) t103 a2)) = some (r1, r2, r3, r4, r5) := h
 clear h
 replace H := Option.bind_eq_some_iff.mp H
 obtain ⟨t103, A50, H⟩ := H
 replace H : (filter_shownB.l0 a3 k l1_1 (l1_1.length : Int) 0 a0 a1_0 ([] : List (S30)) t103 a2) = some (r1, r2, r3, r4, r5) := H
 have A5 := Aside0.mk A50
 clear A50
 have H' := Aside0.mk H
 clear H
 go_enter Tryz.func109, Tryz.ntmps109
 try go_wp2_with (first | ((with_reducible refine gate_dst (N := 5) rfl ?_); refine box_event ?hg (N := 5) ?hd (cs := #[.int .i64 a1_0, .slice A1_1 l1_1.length c1_1, .slice A1_2 l1_2.length c1_2]) (t := 28) ?hr ?_; (case hd => rfl); (case hg => rfl); (case hr => first | (go_simp; done) | (go_simp; rfl)); intro gb101 hg w6 hbox hb; have n0_ := Aside0.mk (below_step hB hb); have n1_ := Aside0.mk (hbox); have n2_ := Aside0.mk ((by rw [hg]; exact (below_size hB) : w.heap.size ≤ gb101)); have n3_ := Aside0.mk ((by rw [hg]; exact (below_size hB) : w.heap.size ≤ gb101)); clear HB; have HB := n0_; have BK101 := n1_; have GW101 := n2_; have GE101 := n3_; clear n0_ n1_ n2_ n3_; clear hb hbox hg) | ((with_reducible refine gate_dst (N := 8) rfl ?_); refine box_event ?hg (N := 8) ?hd (cs := #[.int .i64 0, .int .i64 0, .slice none 0 0, .slice none 0 0, .string (⟨#[]⟩ : ByteArray)]) (t := 93) ?hr ?_; (case hd => rfl); (case hg => rfl); (case hr => first | (go_simp; done) | (go_simp; rfl)); intro gb102 hg w7 hbox hb; have n0_ := Aside0.mk (blk_below (g := gb101) (o := .cells #[.int .i64 a1_0, .slice A1_1 l1_1.length c1_1, .slice A1_2 l1_2.length c1_2] 28 (0, 0)) q0_ hb); have n1_ := Aside0.mk (below_step q34_ hb); have n2_ := Aside0.mk (hbox); have n3_ := Aside0.mk ((by rw [hg]; exact (below_size q34_) : w.heap.size ≤ gb102)); have n4_ := Aside0.mk ((by rw [hg]; exact (below_size q34_) : w.heap.size ≤ gb102)); have n5_ := Aside0.mk ((by rw [hg]; exact Nat.ne_of_lt (blk_lt (g := gb101) (o := .cells #[.int .i64 a1_0, .slice A1_1 l1_1.length c1_1, .slice A1_2 l1_2.length c1_2] 28 (0, 0)) q0_) : gb101 ≠ gb102)); have n6_ := Aside0.mk ((by rw [hg]; exact Nat.ne_of_gt (blk_lt (g := gb101) (o := .cells #[.int .i64 a1_0, .slice A1_1 l1_1.length c1_1, .slice A1_2 l1_2.length c1_2] 28 (0, 0)) q0_) : gb102 ≠ gb101)); clear BK101; clear HB; have BK101 := n0_; have HB := n1_; have BK102 := n2_; have GW102 := n3_; have GE102 := n4_; have NB101_102 := n5_; have NB102_101 := n6_; clear n0_ n1_ n2_ n3_ n4_ n5_ n6_; clear hb hbox hg))
 have n0_ := Aside0.mk (blk_drew BK101.out)
 have n1_ := Aside0.mk (blk_drew BK102.out)
 have n2_ := Aside0.mk (below_drew1 HB.out)
 clear BK101
 clear BK102
 clear HB
 have BK101 := n0_
 have BK102 := n1_
 have HB := n2_
 clear n0_ n1_ n2_
 refine start_ (n := 10) (S := fun w' => w'.cell? ⟨gb101, 0, none⟩ = some (.int .i64 a1_0) ∧ w'.cell? ⟨gb101, 1, none⟩ = some (.slice A1_1 l1_1.length c1_1) ∧ w'.cell? ⟨gb101, 2, none⟩ = some (.slice A1_2 l1_2.length c1_2)) (ds := []) #[false, false, false, false, false, false, false, false, false, false] q9_ rfl rfl ⟨(blk_cell BK101.out 0).trans rfl, (blk_cell BK101.out 1).trans rfl, (blk_cell BK101.out 2).trans rfl⟩ (fun hHeld => ?_); refine with_tabW filter_shownB.tab1 filter_shownB.bits1 (fun HT_ HW_ => ?_)
 generalize w7.drew = w8 at BK101 BK102 HB hHeld ⊢
 refine pure_ (i := 0) (N := some 13) (v := ?_) (a' := ?_) #[true, false, false, false, false, false, false, false, false, false] rfl rfl (any_of HT_.out q9_) (fun _ _ _ h => h) (Or.inl ⟨by rfl, ?_⟩) ?_ ?_
 rotate_left
 ·intro w'
  go_simp
  with_reducible rfl
 rotate_left
 ·simp only [Act.put, List.setIfInBounds_toArray, List.set_cons_zero, List.set_cons_succ, i64_w, i32_w]
  rfl
 refine pure_ (i := 1) (N := some 14) (v := ?_) (a' := ?_) #[true, true, false, false, false, false, false, false, false, false] rfl rfl (any_of HT_.out q9_) (fun _ _ _ h => h) (Or.inl ⟨by rfl, ?_⟩) ?_ ?_
 rotate_left
 ·intro w'
  go_simp
  with_reducible rfl
 rotate_left
 ·simp only [Act.put, List.setIfInBounds_toArray, List.set_cons_zero, List.set_cons_succ, i64_w, i32_w]
  rfl
 refine pure_ (i := 3) (N := some 16) (v := ?_) (a' := ?_) #[true, true, false, true, false, false, false, false, false, false] rfl rfl (any_of HT_.out q9_) (fun _ _ _ h => h) (Or.inl ⟨by rfl, ?_⟩) ?_ ?_
 rotate_left
 ·intro w'
  go_simp
  with_reducible rfl
 rotate_left
 ·simp only [Act.put, List.setIfInBounds_toArray, List.set_cons_zero, List.set_cons_succ, i64_w, i32_w]
  rfl
 refine pure_ (i := 6) (N := some 19) (v := ?_) (a' := ?_) #[true, true, false, true, false, false, true, false, false, false] rfl rfl (any_of HT_.out q9_) (fun _ _ _ h => h) (Or.inl ⟨by rfl, ?_⟩) ?_ ?_
 rotate_left
 ·intro w'
  go_simp
  with_reducible rfl
 rotate_left
 ·simp only [Act.put, List.setIfInBounds_toArray, List.set_cons_zero, List.set_cons_succ, i64_w, i32_w]
  rfl
 refine take_ (i := 2) (N := some 15) (v := ?_) (a' := ?_) #[true, true, true, true, false, false, true, false, false, false] rfl rfl (take_ofW HT_.out HW_.out q9_) (fun _ _ _ h => h) (Or.inl ⟨by rfl, ?_⟩) hHeld ?_ ?_
 rotate_left
 ·rintro w' ⟨s0, s1, s2⟩
  go_simp
  with_reducible rfl
 rotate_left
 ·simp only [Act.put, List.setIfInBounds_toArray, List.set_cons_zero, List.set_cons_succ, i64_w, i32_w]
  rfl
 refine take_ (i := 4) (N := some 17) (v := ?_) (a' := ?_) #[true, true, true, true, true, false, true, false, false, false] rfl rfl (take_ofW HT_.out HW_.out q9_) (fun _ _ _ h => h) (Or.inl ⟨by rfl, ?_⟩) hHeld ?_ ?_
 rotate_left
 ·rintro w' ⟨s0, s1, s2⟩
  go_simp
  with_reducible rfl
 rotate_left
 ·simp only [Act.put, List.setIfInBounds_toArray, List.set_cons_zero, List.set_cons_succ, i64_w, i32_w]
  rfl
 refine join_ (σ := Value × Nat) 1 #[true, true, true, true, true, true, true, true, true, false] (fun s_ => [(18, s_.1), (9, .pointer (some ⟨s_.2, 0, none⟩)), (20, .agg #[.int .i64 a0, .int .i64 a1_0, .slice none 0 0, s_.1, .string a2])]) (fun s_ w' => (w'.cell? ⟨gb101, 0, none⟩ = some (.int .i64 a1_0) ∧ w'.cell? ⟨gb101, 1, none⟩ = some (.slice A1_1 l1_1.length c1_1) ∧ w'.cell? ⟨gb101, 2, none⟩ = some (.slice A1_2 l1_2.length c1_2)) ∧ (Kd.R (Kd.int .u8) 5 w' w.heap.size (fun _ => True) s_.1 t103) ∧ (w'.heap[gb101]? = some (.cells #[.int .i64 a1_0, .slice A1_1 l1_1.length c1_1, .slice A1_2 l1_2.length c1_2] 28 (0, 0))) ∧ (w'.heap[gb102]? = some (.cells #[.int .i64 0, .int .i64 0, .slice none 0 0, .slice none 0 0, .string (⟨#[]⟩ : ByteArray)] 93 (0, 0))) ∧ (w'.heap[s_.2]? = some (.cells #[.int .i64 0, .int .i64 0, .slice none 0 0, .slice none 0 0, .string (⟨#[]⟩ : ByteArray)] 93 (0, 0))) ∧ (w.heap.size ≤ s_.2) ∧ (w.heap.size ≤ s_.2) ∧ (gb101 ≠ s_.2) ∧ (s_.2 ≠ gb101) ∧ (gb102 ≠ s_.2) ∧ (s_.2 ≠ gb102) ∧ (Below w.heap.size w w')) ?_ ?_
 rotate_left
 ·intro hCont
  refine two_ (i := 5) (j := 8) (Ni := some 18) (Nj := some 9) #[true, true, true, true, true, true, true, false, false, false] #[true, true, true, true, true, false, true, false, true, false] rfl rfl rfl rfl (two_of HT_.out q9_) (by decide) (by decide) (fun K hK => ?_) (fun K hK => ?_)
  ·skip
   refine goes_ Tryz.func80 q9_ rfl #[.slice A1_2 l1_2.length c1_2] (by rfl) rfl rfl tS ?_
   with_reducible refine (slices_Clone.calls _ _ l1_2 t103 _ ?side1 ?side2 A5.out).mono ?_
   (case side1 => repeat (first | exact (Kd.C_below HR1_2.out HB.out) | (with_reducible refine Kd.C_alloc ?_ _) | (with_reducible refine Kd.C_drewN ?_ _) | (with_reducible refine Kd.C_drew ?_)))
   (case side2 => exact HC1_2.out)
   rintro e w9 ⟨v104, rfl, ho0, hb⟩
   refine ⟨_, rfl, ?_⟩
   have n0_ := Aside0.mk (Kd.R_lower ho0 (below_size q4_))
   have n1_ := Aside0.mk (blk_below (g := gb101) (o := .cells #[.int .i64 a1_0, .slice A1_1 l1_1.length c1_1, .slice A1_2 l1_2.length c1_2] 28 (0, 0)) q0_ hb)
   have n2_ := Aside0.mk (blk_below (g := gb102) (o := .cells #[.int .i64 0, .int .i64 0, .slice none 0 0, .slice none 0 0, .string (⟨#[]⟩ : ByteArray)] 93 (0, 0)) q2_ hb)
   have n3_ := Aside0.mk (below_step q4_ hb)
   clear BK101
   clear BK102
   clear HB
   have HO105 := n0_
   have BK101 := n1_
   have BK102 := n2_
   have HB := n3_
   clear n0_ n1_ n2_ n3_
   (try clear hb)
   (try clear hb2)
   (try clear hk)
   (try clear hi)
   (try clear ho0)
   obtain ⟨Ao10, co10, eo10⟩ := Kd.R_slice HO105.out
   (first | subst eo10 | (injection eo10 with f1_ f2_ f3_; have f4_ := f1_.symm; have f5_ := f3_.symm; clear f1_ f2_ f3_; subst f4_; subst f5_))
   refine hK.out _ _ ⟨(blk_cell BK101.out 0).trans rfl, (blk_cell BK101.out 1).trans rfl, (blk_cell BK101.out 2).trans rfl⟩ (fun hHeld => ?_)
   clear hK K
   refine norm_ (a' := ?_) ?_ ?_
   rotate_left
   ·show Act.put _ (some 18) _ = _
    simp only [Act.put, List.setIfInBounds_toArray, List.set_cons_zero, List.set_cons_succ, i64_w, i32_w]
    rfl
   refine pure_ (i := 7) (N := some 20) (v := ?_) (a' := ?_) #[true, true, true, true, true, true, true, true, false, false] rfl rfl (any_of HT_.out q9_) (fun _ _ _ h => h) (Or.inl ⟨by rfl, ?_⟩) ?_ ?_
   rotate_left
   ·intro w'
    go_simp
    with_reducible rfl
   rotate_left
   ·simp only [Act.put, List.setIfInBounds_toArray, List.set_cons_zero, List.set_cons_succ, i64_w, i32_w]
    rfl
   refine one_ (i := 8) (N := some 9) #[true, true, true, true, true, true, true, true, true, false] rfl rfl (one_of HT_.out q9_) (by decide) (fun K hK => ?_)
   refine box_step ?hg (N := 9) ?hd (cs := #[.int .i64 0, .int .i64 0, .slice none 0 0, .slice none 0 0, .string (⟨#[]⟩ : ByteArray)]) (t := 93) ?hr ?_; (case hd => rfl); (case hg => rfl); (case hr => first | (go_simp; done) | (go_simp; rfl))
   intro gb106 hg w11 hbox hb
   have n0_ := Aside0.mk (Kd.R_below (by (with_reducible repeat (first | apply Kd.R_alloc | apply Kd.R_drewN | apply Kd.R_drew)); exact HO105.out) hb)
   have n1_ := Aside0.mk (blk_below (g := gb101) (o := .cells #[.int .i64 a1_0, .slice A1_1 l1_1.length c1_1, .slice A1_2 l1_2.length c1_2] 28 (0, 0)) q0_ hb)
   have n2_ := Aside0.mk (blk_below (g := gb102) (o := .cells #[.int .i64 0, .int .i64 0, .slice none 0 0, .slice none 0 0, .string (⟨#[]⟩ : ByteArray)] 93 (0, 0)) q2_ hb)
   have n3_ := Aside0.mk (below_step q4_ hb)
   have n4_ := Aside0.mk (hbox)
   have n5_ := Aside0.mk ((by rw [hg]; exact (below_size q4_) : w.heap.size ≤ gb106))
   have n6_ := Aside0.mk ((by rw [hg]; exact (below_size q4_) : w.heap.size ≤ gb106))
   have n7_ := Aside0.mk ((by rw [hg]; exact Nat.ne_of_lt (blk_lt (g := gb101) (o := .cells #[.int .i64 a1_0, .slice A1_1 l1_1.length c1_1, .slice A1_2 l1_2.length c1_2] 28 (0, 0)) q0_) : gb101 ≠ gb106))
   have n8_ := Aside0.mk ((by rw [hg]; exact Nat.ne_of_gt (blk_lt (g := gb101) (o := .cells #[.int .i64 a1_0, .slice A1_1 l1_1.length c1_1, .slice A1_2 l1_2.length c1_2] 28 (0, 0)) q0_) : gb106 ≠ gb101))
   have n9_ := Aside0.mk ((by rw [hg]; exact Nat.ne_of_lt (blk_lt (g := gb102) (o := .cells #[.int .i64 0, .int .i64 0, .slice none 0 0, .slice none 0 0, .string (⟨#[]⟩ : ByteArray)] 93 (0, 0)) q2_) : gb102 ≠ gb106))
   have n10_ := Aside0.mk ((by rw [hg]; exact Nat.ne_of_gt (blk_lt (g := gb102) (o := .cells #[.int .i64 0, .int .i64 0, .slice none 0 0, .slice none 0 0, .string (⟨#[]⟩ : ByteArray)] 93 (0, 0)) q2_) : gb106 ≠ gb102))
   clear HO105
   clear BK101
   clear BK102
   clear HB
   have HO105 := n0_
   have BK101 := n1_
   have BK102 := n2_
   have HB := n3_
   have BK106 := n4_
   have GW106 := n5_
   have GE106 := n6_
   have NB101_106 := n7_
   have NB106_101 := n8_
   have NB102_106 := n9_
   have NB106_102 := n10_
   clear n0_ n1_ n2_ n3_ n4_ n5_ n6_ n7_ n8_ n9_ n10_
   clear hb hbox hg
   refine hK.out _ _ ⟨(blk_cell BK101.out 0).trans rfl, (blk_cell BK101.out 1).trans rfl, (blk_cell BK101.out 2).trans rfl⟩ (fun hHeld => ?_)
   clear hK K
   refine norm_ (a' := ?_) ?_ ?_
   rotate_left
   ·show Act.put _ (some 9) _ = _
    simp only [Act.put, List.setIfInBounds_toArray, List.set_cons_zero, List.set_cons_succ, i64_w, i32_w]
    rfl
   exact norm_ (by simp only [putAll, Act.put, List.setIfInBounds_toArray, List.set_cons_zero, List.set_cons_succ]) (hCont (.slice Ao10 t103.length co10, gb106) _ ⟨hHeld, (by (with_reducible repeat (first | apply Kd.R_alloc | apply Kd.R_drewN | apply Kd.R_drew)); exact HO105.out), q0_, q2_, q5_, GW106.out, GE106.out, NB101_106.out, NB106_101.out, NB102_106.out, NB106_102.out, q1_⟩)
  ·skip
   refine box_step ?hg (N := 9) ?hd (cs := #[.int .i64 0, .int .i64 0, .slice none 0 0, .slice none 0 0, .string (⟨#[]⟩ : ByteArray)]) (t := 93) ?hr ?_; (case hd => rfl); (case hg => rfl); (case hr => first | (go_simp; done) | (go_simp; rfl))
   intro gb106 hg w9 hbox hb
   have n0_ := Aside0.mk (blk_below (g := gb101) (o := .cells #[.int .i64 a1_0, .slice A1_1 l1_1.length c1_1, .slice A1_2 l1_2.length c1_2] 28 (0, 0)) q0_ hb)
   have n1_ := Aside0.mk (blk_below (g := gb102) (o := .cells #[.int .i64 0, .int .i64 0, .slice none 0 0, .slice none 0 0, .string (⟨#[]⟩ : ByteArray)] 93 (0, 0)) q2_ hb)
   have n2_ := Aside0.mk (below_step q4_ hb)
   have n3_ := Aside0.mk (hbox)
   have n4_ := Aside0.mk ((by rw [hg]; exact (below_size q4_) : w.heap.size ≤ gb106))
   have n5_ := Aside0.mk ((by rw [hg]; exact (below_size q4_) : w.heap.size ≤ gb106))
   have n6_ := Aside0.mk ((by rw [hg]; exact Nat.ne_of_lt (blk_lt (g := gb101) (o := .cells #[.int .i64 a1_0, .slice A1_1 l1_1.length c1_1, .slice A1_2 l1_2.length c1_2] 28 (0, 0)) q0_) : gb101 ≠ gb106))
   have n7_ := Aside0.mk ((by rw [hg]; exact Nat.ne_of_gt (blk_lt (g := gb101) (o := .cells #[.int .i64 a1_0, .slice A1_1 l1_1.length c1_1, .slice A1_2 l1_2.length c1_2] 28 (0, 0)) q0_) : gb106 ≠ gb101))
   have n8_ := Aside0.mk ((by rw [hg]; exact Nat.ne_of_lt (blk_lt (g := gb102) (o := .cells #[.int .i64 0, .int .i64 0, .slice none 0 0, .slice none 0 0, .string (⟨#[]⟩ : ByteArray)] 93 (0, 0)) q2_) : gb102 ≠ gb106))
   have n9_ := Aside0.mk ((by rw [hg]; exact Nat.ne_of_gt (blk_lt (g := gb102) (o := .cells #[.int .i64 0, .int .i64 0, .slice none 0 0, .slice none 0 0, .string (⟨#[]⟩ : ByteArray)] 93 (0, 0)) q2_) : gb106 ≠ gb102))
   clear BK101
   clear BK102
   clear HB
   have BK101 := n0_
   have BK102 := n1_
   have HB := n2_
   have BK106 := n3_
   have GW106 := n4_
   have GE106 := n5_
   have NB101_106 := n6_
   have NB106_101 := n7_
   have NB102_106 := n8_
   have NB106_102 := n9_
   clear n0_ n1_ n2_ n3_ n4_ n5_ n6_ n7_ n8_ n9_
   clear hb hbox hg
   refine hK.out _ _ ⟨(blk_cell BK101.out 0).trans rfl, (blk_cell BK101.out 1).trans rfl, (blk_cell BK101.out 2).trans rfl⟩ (fun hHeld => ?_)
   clear hK K
   refine norm_ (a' := ?_) ?_ ?_
   rotate_left
   ·show Act.put _ (some 9) _ = _
    simp only [Act.put, List.setIfInBounds_toArray, List.set_cons_zero, List.set_cons_succ, i64_w, i32_w]
    rfl
   refine one_ (i := 5) (N := some 18) #[true, true, true, true, true, true, true, false, true, false] rfl rfl (one_of HT_.out q9_) (by decide) (fun K hK => ?_)
   refine goes_ Tryz.func80 q9_ rfl #[.slice A1_2 l1_2.length c1_2] (by rfl) rfl rfl tS ?_
   with_reducible refine (slices_Clone.calls _ _ l1_2 t103 _ ?side1 ?side2 A5.out).mono ?_
   (case side1 => repeat (first | exact (Kd.C_below HR1_2.out HB.out) | (with_reducible refine Kd.C_alloc ?_ _) | (with_reducible refine Kd.C_drewN ?_ _) | (with_reducible refine Kd.C_drew ?_)))
   (case side2 => exact HC1_2.out)
   rintro e w10 ⟨v104, rfl, ho0, hb⟩
   refine ⟨_, rfl, ?_⟩
   have n0_ := Aside0.mk (Kd.R_lower ho0 (below_size q1_))
   have n1_ := Aside0.mk (blk_below (g := gb101) (o := .cells #[.int .i64 a1_0, .slice A1_1 l1_1.length c1_1, .slice A1_2 l1_2.length c1_2] 28 (0, 0)) q0_ hb)
   have n2_ := Aside0.mk (blk_below (g := gb102) (o := .cells #[.int .i64 0, .int .i64 0, .slice none 0 0, .slice none 0 0, .string (⟨#[]⟩ : ByteArray)] 93 (0, 0)) q2_ hb)
   have n3_ := Aside0.mk (blk_below (g := gb106) (o := .cells #[.int .i64 0, .int .i64 0, .slice none 0 0, .slice none 0 0, .string (⟨#[]⟩ : ByteArray)] 93 (0, 0)) q5_ hb)
   have n4_ := Aside0.mk (below_step q1_ hb)
   clear BK101
   clear BK102
   clear BK106
   clear HB
   have HO105 := n0_
   have BK101 := n1_
   have BK102 := n2_
   have BK106 := n3_
   have HB := n4_
   clear n0_ n1_ n2_ n3_ n4_
   (try clear hb)
   (try clear hb2)
   (try clear hk)
   (try clear hi)
   (try clear ho0)
   obtain ⟨Ao11, co11, eo11⟩ := Kd.R_slice HO105.out
   (first | subst eo11 | (injection eo11 with f1_ f2_ f3_; have f4_ := f1_.symm; have f5_ := f3_.symm; clear f1_ f2_ f3_; subst f4_; subst f5_))
   refine hK.out _ _ ⟨(blk_cell BK101.out 0).trans rfl, (blk_cell BK101.out 1).trans rfl, (blk_cell BK101.out 2).trans rfl⟩ (fun hHeld => ?_)
   clear hK K
   refine norm_ (a' := ?_) ?_ ?_
   rotate_left
   ·show Act.put _ (some 18) _ = _
    simp only [Act.put, List.setIfInBounds_toArray, List.set_cons_zero, List.set_cons_succ, i64_w, i32_w]
    rfl
   refine pure_ (i := 7) (N := some 20) (v := ?_) (a' := ?_) #[true, true, true, true, true, true, true, true, true, false] rfl rfl (any_of HT_.out q9_) (fun _ _ _ h => h) (Or.inl ⟨by rfl, ?_⟩) ?_ ?_
   rotate_left
   ·intro w'
    go_simp
    with_reducible rfl
   rotate_left
   ·simp only [Act.put, List.setIfInBounds_toArray, List.set_cons_zero, List.set_cons_succ, i64_w, i32_w]
    rfl
   exact norm_ (by simp only [putAll, Act.put, List.setIfInBounds_toArray, List.set_cons_zero, List.set_cons_succ]) (hCont (.slice Ao11 t103.length co11, gb106) _ ⟨hHeld, (by (with_reducible repeat (first | apply Kd.R_alloc | apply Kd.R_drewN | apply Kd.R_drew)); exact HO105.out), q0_, q2_, q5_, GW106.out, GE106.out, NB101_106.out, NB106_101.out, NB102_106.out, NB106_102.out, q1_⟩)
 rintro ⟨v104, gb106⟩ w12 ⟨hS_, h0_, h1_, h2_, h3_, h4_, h5_, h6_, h7_, h8_, h9_, h10_⟩
 have n0_ : Aside0 (Kd.R (Kd.int .u8) 5 w12 w.heap.size (fun _ => True) v104 t103) := ⟨h0_⟩
 have n1_ : Aside0 (w12.heap[gb101]? = some (.cells #[.int .i64 a1_0, .slice A1_1 l1_1.length c1_1, .slice A1_2 l1_2.length c1_2] 28 (0, 0))) := ⟨h1_⟩
 have n2_ : Aside0 (w12.heap[gb102]? = some (.cells #[.int .i64 0, .int .i64 0, .slice none 0 0, .slice none 0 0, .string (⟨#[]⟩ : ByteArray)] 93 (0, 0))) := ⟨h2_⟩
 have n3_ : Aside0 (w12.heap[gb106]? = some (.cells #[.int .i64 0, .int .i64 0, .slice none 0 0, .slice none 0 0, .string (⟨#[]⟩ : ByteArray)] 93 (0, 0))) := ⟨h3_⟩
 have n4_ : Aside0 (w.heap.size ≤ gb106) := ⟨h4_⟩
 have n5_ : Aside0 (w.heap.size ≤ gb106) := ⟨h5_⟩
 have n6_ : Aside0 (gb101 ≠ gb106) := ⟨h6_⟩
 have n7_ : Aside0 (gb106 ≠ gb101) := ⟨h7_⟩
 have n8_ : Aside0 (gb102 ≠ gb106) := ⟨h8_⟩
 have n9_ : Aside0 (gb106 ≠ gb102) := ⟨h9_⟩
 have n10_ : Aside0 (Below w.heap.size w w12) := ⟨h10_⟩
 clear BK101
 clear BK102
 clear HB
 clear h0_ h1_ h2_ h3_ h4_ h5_ h6_ h7_ h8_ h9_ h10_
 have HO105 := n0_
 have BK101 := n1_
 have BK102 := n2_
 have BK106 := n3_
 have GW106 := n4_
 have GE106 := n5_
 have NB101_106 := n6_
 have NB106_101 := n7_
 have NB102_106 := n8_
 have NB106_102 := n9_
 have HB := n10_
 clear n0_ n1_ n2_ n3_ n4_ n5_ n6_ n7_ n8_ n9_ n10_
 have hHeld : w12.cell? ⟨gb101, 0, none⟩ = some (.int .i64 a1_0) ∧ w12.cell? ⟨gb101, 1, none⟩ = some (.slice A1_1 l1_1.length c1_1) ∧ w12.cell? ⟨gb101, 2, none⟩ = some (.slice A1_2 l1_2.length c1_2) := hS_
 obtain ⟨Ao13, co13, eo13⟩ := Kd.R_slice HO105.out
 (first | subst eo13 | (injection eo13 with f1_ f2_ f3_; have f4_ := f1_.symm; have f5_ := f3_.symm; clear f1_ f2_ f3_; subst f4_; subst f5_))
 refine norm_ (a' := ?_) ?_ ?_
 rotate_left
 ·simp only [putAll, Act.put, List.setIfInBounds_toArray, List.set_cons_zero, List.set_cons_succ]
  rfl
 refine one_ (i := 9) (N := none) #[true, true, true, true, true, true, true, true, true, true] rfl rfl (one_of HT_.out q9_) (by decide) (fun K hK => ?_)
 have hs14 : w12.cell? ⟨gb106, 0, none⟩ = some (.int .i64 0) := (blk_cell BK106.out 0).trans rfl
 have hfs14 := blk_frozen BK106.out 0
 have hns14_0 := NB101_106.out
 have hns14_1 := NB102_106.out
 have hms14_0 := NB106_101.out
 have hms14_1 := NB106_102.out
 have hs15 : w12.cell? ⟨gb106, 1, none⟩ = some (.int .i64 0) := (blk_cell BK106.out 1).trans rfl
 have hfs15 := blk_frozen BK106.out 1
 have hns15_0 := NB101_106.out
 have hns15_1 := NB102_106.out
 have hms15_0 := NB106_101.out
 have hms15_1 := NB106_102.out
 have hs16 : w12.cell? ⟨gb106, 2, none⟩ = some (.slice none 0 0) := (blk_cell BK106.out 2).trans rfl
 have hfs16 := blk_frozen BK106.out 2
 have hns16_0 := NB101_106.out
 have hns16_1 := NB102_106.out
 have hms16_0 := NB106_101.out
 have hms16_1 := NB106_102.out
 have hs17 : w12.cell? ⟨gb106, 3, none⟩ = some (.slice none 0 0) := (blk_cell BK106.out 3).trans rfl
 have hfs17 := blk_frozen BK106.out 3
 have hns17_0 := NB101_106.out
 have hns17_1 := NB102_106.out
 have hms17_0 := NB106_101.out
 have hms17_1 := NB106_102.out
 have hs18 : w12.cell? ⟨gb106, 4, none⟩ = some (.string (⟨#[]⟩ : ByteArray)) := (blk_cell BK106.out 4).trans rfl
 have hfs18 := blk_frozen BK106.out 4
 have hns18_0 := NB101_106.out
 have hns18_1 := NB102_106.out
 have hms18_0 := NB106_101.out
 have hms18_1 := NB106_102.out
 refine skip_ (w1 := ?_) (by rfl) rfl ?_ ?_
 rotate_left
 ·go_simp
  rfl
 refine hK.out _ _ ⟨((cell_far (p := ⟨gb106, _, none⟩) NB101_106.out _).trans (((cell_far (p := ⟨gb106, _, none⟩) NB101_106.out _).trans (((cell_far (p := ⟨gb106, _, none⟩) NB101_106.out _).trans (((cell_far (p := ⟨gb106, _, none⟩) NB101_106.out _).trans (((cell_far (p := ⟨gb106, _, none⟩) NB101_106.out _).trans (hHeld.1)))))))))), ((cell_far (p := ⟨gb106, _, none⟩) NB101_106.out _).trans (((cell_far (p := ⟨gb106, _, none⟩) NB101_106.out _).trans (((cell_far (p := ⟨gb106, _, none⟩) NB101_106.out _).trans (((cell_far (p := ⟨gb106, _, none⟩) NB101_106.out _).trans (((cell_far (p := ⟨gb106, _, none⟩) NB101_106.out _).trans (hHeld.2.1)))))))))), ((cell_far (p := ⟨gb106, _, none⟩) NB101_106.out _).trans (((cell_far (p := ⟨gb106, _, none⟩) NB101_106.out _).trans (((cell_far (p := ⟨gb106, _, none⟩) NB101_106.out _).trans (((cell_far (p := ⟨gb106, _, none⟩) NB101_106.out _).trans (((cell_far (p := ⟨gb106, _, none⟩) NB101_106.out _).trans (hHeld.2.2))))))))))⟩ (fun hHeld => ?_)
 clear hK K
 refine done_ (done_of HT_.out q9_) ?_
 have hnb19 := NB101_102.out
 have hnc19 := NB102_101.out
 have hnb20 := NB101_106.out
 have hnc20 := NB106_101.out
 have hcz21_0 : w12.cell? ⟨gb101, 0, none⟩ = some (.int .i64 a1_0) := (blk_cell BK101.out 0).trans rfl
 have hcz21_1 : w12.cell? ⟨gb101, 1, none⟩ = some (.slice A1_1 l1_1.length c1_1) := (blk_cell BK101.out 1).trans rfl
 have hcz21_2 : w12.cell? ⟨gb101, 2, none⟩ = some (.slice A1_2 l1_2.length c1_2) := (blk_cell BK101.out 2).trans rfl
 have hfz21_0 := blk_frozen BK101.out 0
 have hfz21_1 := blk_frozen BK101.out 1
 have hfz21_2 := blk_frozen BK101.out 2
 try go_wp2
 go_loopg [24] k (fun kq v24 w' => ∃ (x24_1 : Int) (x107002_1 : List (S30)) (u107002 : Value), v24 = .int .i64 x24_1 ∧ Aside0 (filter_shownB.l0 a3 kq l1_1 (l1_1.length : Int) x24_1 a0 a1_0 x107002_1 t103 a2 = some (r1, r2, r3, r4, r5)) ∧ Aside0 (kq ≤ k) ∧ Aside0 (Kd.R k30 30 w' w.heap.size (fun _ => True) u107002 x107002_1) ∧ Aside0 (Kd.R (Kd.int .u8) 5 w' w.heap.size (fun _ => True) (.slice Ao13 t103.length co13) t103) ∧ Aside0 (w'.heap[gb101]? = some (.cells #[.int .i64 a1_0, (.slice A1_1 l1_1.length c1_1), (.slice A1_2 l1_2.length c1_2)] 28 (0, 0))) ∧ Aside0 (w'.heap[gb102]? = some (.cells #[.int .i64 0, .int .i64 0, (.slice none 0 0), (.slice none 0 0), .string (⟨#[]⟩ : ByteArray)] 93 (0, 0))) ∧ Aside0 (w'.heap[gb106]? = some (.cells #[.int .i64 a0, .int .i64 a1_0, u107002, (.slice Ao13 t103.length co13), .string a2] 93 (0, 0))) ∧ Aside0 (Below w.heap.size w w'))
 case atStart => exact ⟨(0), (([] : List (S30))), (.slice none 0 0), rS, H', ⟨Nat.le_refl _⟩, ⟨by first | exact Kd.R_nil _ _ _ _ _ | exact Kd.N_nil _ _ _ _ _ | exact Kd.V_nil _ _ _ _ _ | exact Kd.Q_nil _ _ _ _ _ | exact Kd.S_nil _ _ _ _ _⟩, ⟨by (with_reducible repeat (first | apply Kd.R_alloc | apply Kd.R_drewN | apply Kd.R_drew)); exact Kd.R_mono (Kd.R_far (p := ⟨gb106, 4, none⟩) (Kd.R_far (p := ⟨gb106, 3, none⟩) (Kd.R_far (p := ⟨gb106, 2, none⟩) (Kd.R_far (p := ⟨gb106, 1, none⟩) (Kd.R_far (p := ⟨gb106, 0, none⟩) (Kd.R_types HO105.out BK106.out (by decide)) (fun _ hk => hk.2) (.int .i64 a0)) (fun _ hk => hk.2) (.int .i64 a1_0)) (fun _ hk => hk.2) (.slice none 0 0)) (fun _ hk => hk.2) (.slice Ao13 t103.length co13)) (fun _ hk => hk.2) (.string a2)) (fun _ hk => trivial)⟩, ⟨by (with_reducible repeat (first | refine blk_drewN ?_ _ | refine blk_drew ?_ | refine blk_alloc ?_ _)); refine blk_far ?_ NB101_106.out _; (with_reducible repeat (first | refine blk_drewN ?_ _ | refine blk_drew ?_ | refine blk_alloc ?_ _)); refine blk_far ?_ NB101_106.out _; (with_reducible repeat (first | refine blk_drewN ?_ _ | refine blk_drew ?_ | refine blk_alloc ?_ _)); refine blk_far ?_ NB101_106.out _; (with_reducible repeat (first | refine blk_drewN ?_ _ | refine blk_drew ?_ | refine blk_alloc ?_ _)); refine blk_far ?_ NB101_106.out _; (with_reducible repeat (first | refine blk_drewN ?_ _ | refine blk_drew ?_ | refine blk_alloc ?_ _)); refine blk_far ?_ NB101_106.out _; (with_reducible repeat (first | refine blk_drewN ?_ _ | refine blk_drew ?_ | refine blk_alloc ?_ _)); exact BK101.out⟩, ⟨by (with_reducible repeat (first | refine blk_drewN ?_ _ | refine blk_drew ?_ | refine blk_alloc ?_ _)); refine blk_far ?_ NB102_106.out _; (with_reducible repeat (first | refine blk_drewN ?_ _ | refine blk_drew ?_ | refine blk_alloc ?_ _)); refine blk_far ?_ NB102_106.out _; (with_reducible repeat (first | refine blk_drewN ?_ _ | refine blk_drew ?_ | refine blk_alloc ?_ _)); refine blk_far ?_ NB102_106.out _; (with_reducible repeat (first | refine blk_drewN ?_ _ | refine blk_drew ?_ | refine blk_alloc ?_ _)); refine blk_far ?_ NB102_106.out _; (with_reducible repeat (first | refine blk_drewN ?_ _ | refine blk_drew ?_ | refine blk_alloc ?_ _)); refine blk_far ?_ NB102_106.out _; (with_reducible repeat (first | refine blk_drewN ?_ _ | refine blk_drew ?_ | refine blk_alloc ?_ _)); exact BK102.out⟩, ⟨by (with_reducible repeat (first | refine blk_drewN ?_ _ | refine blk_drew ?_ | refine blk_alloc ?_ _)); refine blk_put (cs := #[.int .i64 a0, .int .i64 a1_0, .slice none 0 0, .slice Ao13 t103.length co13, .string (⟨#[]⟩ : ByteArray)]) ?_ 4 _ rfl; (with_reducible repeat (first | refine blk_drewN ?_ _ | refine blk_drew ?_ | refine blk_alloc ?_ _)); refine blk_put (cs := #[.int .i64 a0, .int .i64 a1_0, .slice none 0 0, .slice none 0 0, .string (⟨#[]⟩ : ByteArray)]) ?_ 3 _ rfl; (with_reducible repeat (first | refine blk_drewN ?_ _ | refine blk_drew ?_ | refine blk_alloc ?_ _)); refine blk_put (cs := #[.int .i64 a0, .int .i64 a1_0, .slice none 0 0, .slice none 0 0, .string (⟨#[]⟩ : ByteArray)]) ?_ 2 _ rfl; (with_reducible repeat (first | refine blk_drewN ?_ _ | refine blk_drew ?_ | refine blk_alloc ?_ _)); refine blk_put (cs := #[.int .i64 a0, .int .i64 0, .slice none 0 0, .slice none 0 0, .string (⟨#[]⟩ : ByteArray)]) ?_ 1 _ rfl; (with_reducible repeat (first | refine blk_drewN ?_ _ | refine blk_drew ?_ | refine blk_alloc ?_ _)); refine blk_put (cs := #[.int .i64 0, .int .i64 0, .slice none 0 0, .slice none 0 0, .string (⟨#[]⟩ : ByteArray)]) ?_ 0 _ rfl; (with_reducible repeat (first | refine blk_drewN ?_ _ | refine blk_drew ?_ | refine blk_alloc ?_ _)); exact BK106.out⟩, ⟨by repeat (first | (with_reducible first | exact HB.out | apply below_alloc | apply pw_below_drewN | apply below_drew1 | refine below_set ?_ GE101.out | refine below_set ?_ GE102.out | refine below_set ?_ GE106.out) | exact HB.out)⟩⟩
 case round =>
  clear H'
  try clear c1
  try clear c2
  try clear p2
  try clear c8
  try clear c10
  try clear c19
  try clear c20
  try clear hcz21_0
  try clear hcz21_1
  try clear hcz21_2
  try clear hfz21_0
  try clear hfz21_1
  try clear hfz21_2
  obtain ⟨x24_1, x107002_1, u107002, rfl, HA, HK1, HO_107002, HO_107003, BK101, BK102, BK106, HB⟩ := hrel
  cases gk with
  | zero => exact absurd HA.out (by simp [filter_shownB.l0])
  | succ k1 =>
   have H := HA.out
   clear HA
   simp only [filter_shownB.l0] at H
   by_cases c22 : x24_1 < (l1_1.length : Int)
   ·rw [if_pos c22] at H
    have c22b0 : decide (x24_1 < (l1_1.length : Int)) = true := decide_eq_true c22
    clear c22
    by_cases c23 : 0 ≤ x24_1
    ·rw [if_pos c23] at H
     have c23b0 : decide (0 ≤ x24_1) = true := decide_eq_true c23
     clear c23
     by_cases c24 : x24_1 < (l1_1.length : Int)
     ·rw [if_pos c24] at H
      have c24b0 : decide (x24_1 < (l1_1.length : Int)) = true := decide_eq_true c24
      clear c24
      replace H := Option.bind_eq_some_iff.mp H
      obtain ⟨t109, A250, H⟩ := H
      replace H : (if t109.toList = ([115, 101, 116, 45, 99, 111, 111, 107, 105, 101] : List UInt8) then (filter_shownB.l0 a3 k1 l1_1 (l1_1.length : Int) (wrap64 (x24_1 + 1)) a0 a1_0 x107002_1 t103 a2) else (if t109.toList = ([115, 101, 116, 45, 99, 111, 111, 107, 105, 101, 50] : List UInt8) then (filter_shownB.l0 a3 k1 l1_1 (l1_1.length : Int) (wrap64 (x24_1 + 1)) a0 a1_0 x107002_1 t103 a2) else ((a3 t109).bind fun t110 => (if t110 = true then (if x107002_1.length < 4398046511104 then (filter_shownB.l0 a3 k1 l1_1 (l1_1.length : Int) (wrap64 (x24_1 + 1)) a0 a1_0 (x107002_1 ++ [(⟨(rd_T30 l1_1 x24_1).f0, (rd_T30 l1_1 x24_1).f1⟩ : S30)]) t103 a2) else (none)) else (filter_shownB.l0 a3 k1 l1_1 (l1_1.length : Int) (wrap64 (x24_1 + 1)) a0 a1_0 x107002_1 t103 a2))))) = some (r1, r2, r3, r4, r5) := H
      have A25 := Aside0.mk A250
      clear A250
      by_cases c26 : t109.toList = ([115, 101, 116, 45, 99, 111, 111, 107, 105, 101] : List UInt8)
      ·rw [if_pos c26] at H
       have c26b0 : (t109.toList == ([115, 101, 116, 45, 99, 111, 111, 107, 105, 101] : List UInt8)) = true := beq_iff_eq.mpr c26
       have c26b1 : (t109.toList != ([115, 101, 116, 45, 99, 111, 111, 107, 105, 101] : List UInt8)) = false := bne_eq_false_iff_eq.mpr c26
       clear c26
       have H' := Aside0.mk H
       clear H
       have p107 : 0 ≤ (x24_1 : Int) := of_decide_eq_true aS
       have q107 : x24_1 < (l1_1.length : Int) := of_decide_eq_true aS
       obtain ⟨ad107, e107, hx107_0, hx107_1⟩ := at_T30 HR1_1.out x24_1 p107 q107
       cases e107
       replace hx107_0 := (HB.out.cell (World.block_lt_of_cell? w _ hx107_0)).trans hx107_0
       replace hx107_1 := (HB.out.cell (World.block_lt_of_cell? w _ hx107_1)).trans hx107_1
       replace p107 := eq_true p107
       replace q107 := eq_true q107
       go_wp2_with (first | ((with_reducible refine gate_dst (N := 11) rfl ?_); refine box_event ?hg (N := 11) ?hd (cs := #[.string (⟨#[]⟩ : ByteArray), .string (⟨#[]⟩ : ByteArray)]) (t := 30) ?hr ?_; (case hd => rfl); (case hg => rfl); (case hr => first | (go_simp; done) | (go_simp; rfl)); intro gb108 hg w27 hbox hb; have n0_ := Aside0.mk (Kd.R_below (Kd.R_elderB q30_ gb108 (Nat.le_of_eq hg.symm)) hb); have n1_ := Aside0.mk (Kd.R_below q31_ hb); have n2_ := Aside0.mk (blk_below (g := gb101) (o := .cells #[.int .i64 a1_0, .slice (some ad107) l1_1.length c1_1, .slice A1_2 l1_2.length c1_2] 28 (0, 0)) q0_ hb); have n3_ := Aside0.mk (blk_below (g := gb102) (o := .cells #[.int .i64 0, .int .i64 0, .slice none 0 0, .slice none 0 0, .string (⟨#[]⟩ : ByteArray)] 93 (0, 0)) q2_ hb); have n4_ := Aside0.mk (blk_below (g := gb106) (o := .cells #[.int .i64 a0, .int .i64 a1_0, u107002, .slice Ao13 t103.length co13, .string a2] 93 (0, 0)) q5_ hb); have n5_ := Aside0.mk (below_step q1_ hb); have n6_ := Aside0.mk (hbox); have n7_ := Aside0.mk ((by rw [hg]; exact (below_size q1_) : w.heap.size ≤ gb108)); have n8_ := Aside0.mk ((by rw [hg]; exact (below_size q1_) : w.heap.size ≤ gb108)); have n9_ := Aside0.mk ((by rw [hg]; exact Nat.ne_of_lt (blk_lt (g := gb101) (o := .cells #[.int .i64 a1_0, .slice (some ad107) l1_1.length c1_1, .slice A1_2 l1_2.length c1_2] 28 (0, 0)) q0_) : gb101 ≠ gb108)); have n10_ := Aside0.mk ((by rw [hg]; exact Nat.ne_of_gt (blk_lt (g := gb101) (o := .cells #[.int .i64 a1_0, .slice (some ad107) l1_1.length c1_1, .slice A1_2 l1_2.length c1_2] 28 (0, 0)) q0_) : gb108 ≠ gb101)); have n11_ := Aside0.mk ((by rw [hg]; exact Nat.ne_of_lt (blk_lt (g := gb102) (o := .cells #[.int .i64 0, .int .i64 0, .slice none 0 0, .slice none 0 0, .string (⟨#[]⟩ : ByteArray)] 93 (0, 0)) q2_) : gb102 ≠ gb108)); have n12_ := Aside0.mk ((by rw [hg]; exact Nat.ne_of_gt (blk_lt (g := gb102) (o := .cells #[.int .i64 0, .int .i64 0, .slice none 0 0, .slice none 0 0, .string (⟨#[]⟩ : ByteArray)] 93 (0, 0)) q2_) : gb108 ≠ gb102)); have n13_ := Aside0.mk ((by rw [hg]; exact Nat.ne_of_lt (blk_lt (g := gb106) (o := .cells #[.int .i64 a0, .int .i64 a1_0, u107002, .slice Ao13 t103.length co13, .string a2] 93 (0, 0)) q5_) : gb106 ≠ gb108)); have n14_ := Aside0.mk ((by rw [hg]; exact Nat.ne_of_gt (blk_lt (g := gb106) (o := .cells #[.int .i64 a0, .int .i64 a1_0, u107002, .slice Ao13 t103.length co13, .string a2] 93 (0, 0)) q5_) : gb108 ≠ gb106)); clear HO_107002; clear HO_107003; clear BK101; clear BK102; clear BK106; clear HB; have HO_107002 := n0_; have HO_107003 := n1_; have BK101 := n2_; have BK102 := n3_; have BK106 := n4_; have HB := n5_; have BK108 := n6_; have GW108 := n7_; have GE108 := n8_; have NB101_108 := n9_; have NB108_101 := n10_; have NB102_108 := n11_; have NB108_102 := n12_; have NB106_108 := n13_; have NB108_106 := n14_; clear n0_ n1_ n2_ n3_ n4_ n5_ n6_ n7_ n8_ n9_ n10_ n11_ n12_ n13_ n14_; clear hb hbox hg; have hnb28 := NB108_101.out; have hnc28 := NB101_108.out; have hnb29 := NB108_102.out; have hnc29 := NB102_108.out; have hnb30 := NB108_106.out; have hnc30 := NB106_108.out; have hcz31_0 : w27.cell? ⟨gb108, 0, none⟩ = some (.string (⟨#[]⟩ : ByteArray)) := (blk_cell BK108.out 0).trans rfl; have hcz31_1 : w27.cell? ⟨gb108, 1, none⟩ = some (.string (⟨#[]⟩ : ByteArray)) := (blk_cell BK108.out 1).trans rfl; have hfz31_0 := blk_frozen BK108.out 0; have hfz31_1 := blk_frozen BK108.out 1) | ((with_reducible refine gate_callee (f := 118) rfl ?_); refine goesL_ (some 30) rfl rfl Tryz.func118 q9_ rfl #[.string ((rd_T30 l1_1 x24_1).f0)] rfl tS ?_; (with_reducible refine (infra_Lower.calls ((rd_T30 l1_1 x24_1).f0) t109 _ A25.out).mono ?_); rintro e w32 ⟨rfl, hb⟩; refine ⟨_, rfl, ?_⟩; have n0_ := Aside0.mk (Kd.R_below (by (with_reducible repeat (first | apply Kd.R_alloc | apply Kd.R_drewN | apply Kd.R_drew)); exact (Kd.R_mono (Kd.R_far (p := ⟨gb108, 1, none⟩) (Kd.R_far (p := ⟨gb108, 0, none⟩) (Kd.R_mono HO_107002.out (fun k_ hk => (⟨hk, hk.2⟩ : _ ∧ k_ ≠ gb108))) (fun _ hk => hk.2) (.string ((rd_T30 l1_1 x24_1).f0))) (fun _ hk => hk.2) (.string ((rd_T30 l1_1 x24_1).f1))) (fun _ h_ => h_.1))) hb); have n1_ := Aside0.mk (Kd.R_below q16_ hb); have n2_ := Aside0.mk (blk_below (g := gb101) (o := .cells #[.int .i64 a1_0, .slice (some ad107) l1_1.length c1_1, .slice A1_2 l1_2.length c1_2] 28 (0, 0)) q11_ hb); have n3_ := Aside0.mk (blk_below (g := gb102) (o := .cells #[.int .i64 0, .int .i64 0, .slice none 0 0, .slice none 0 0, .string (⟨#[]⟩ : ByteArray)] 93 (0, 0)) q12_ hb); have n4_ := Aside0.mk (blk_below (g := gb106) (o := .cells #[.int .i64 a0, .int .i64 a1_0, u107002, .slice Ao13 t103.length co13, .string a2] 93 (0, 0)) q13_ hb); have n5_ := Aside0.mk (blk_below (g := gb108) (o := .cells #[.string ((rd_T30 l1_1 x24_1).f0), .string ((rd_T30 l1_1 x24_1).f1)] 30 (0, 0)) (by (with_reducible repeat (first | refine blk_drewN ?_ _ | refine blk_drew ?_ | refine blk_alloc ?_ _)); refine blk_put (cs := #[.string ((rd_T30 l1_1 x24_1).f0), .string (⟨#[]⟩ : ByteArray)]) ?_ 1 _ rfl; (with_reducible repeat (first | refine blk_drewN ?_ _ | refine blk_drew ?_ | refine blk_alloc ?_ _)); refine blk_put (cs := #[.string (⟨#[]⟩ : ByteArray), .string (⟨#[]⟩ : ByteArray)]) ?_ 0 _ rfl; (with_reducible repeat (first | refine blk_drewN ?_ _ | refine blk_drew ?_ | refine blk_alloc ?_ _)); exact BK108.out) hb); have n6_ := Aside0.mk (below_step q3_ hb); clear HO_107002; clear HO_107003; clear BK101; clear BK102; clear BK106; clear BK108; clear HB; have HO_107002 := n0_; have HO_107003 := n1_; have BK101 := n2_; have BK102 := n3_; have BK106 := n4_; have BK108 := n5_; have HB := n6_; clear n0_ n1_ n2_ n3_ n4_ n5_ n6_; (try clear hb); (try clear hb2); (try clear hk); (try clear hi)))
       go_roundg k1
       case measure => have := HK1.out; omega
       case rel => exact ⟨(wrap64 (x24_1 + 1)), (x107002_1), (u107002), rS, H', ⟨by have := HK1.out; omega⟩, ⟨by (with_reducible repeat (first | apply Kd.R_alloc | apply Kd.R_drewN | apply Kd.R_drew)); exact Kd.R_mono HO_107002.out (fun _ hk => trivial)⟩, ⟨by (with_reducible repeat (first | apply Kd.R_alloc | apply Kd.R_drewN | apply Kd.R_drew)); exact HO_107003.out⟩, ⟨by (with_reducible repeat (first | refine blk_drewN ?_ _ | refine blk_drew ?_ | refine blk_alloc ?_ _)); exact BK101.out⟩, ⟨by (with_reducible repeat (first | refine blk_drewN ?_ _ | refine blk_drew ?_ | refine blk_alloc ?_ _)); exact BK102.out⟩, ⟨by (with_reducible repeat (first | refine blk_drewN ?_ _ | refine blk_drew ?_ | refine blk_alloc ?_ _)); exact BK106.out⟩, ⟨by repeat (first | (with_reducible first | exact HB.out | apply below_alloc | apply pw_below_drewN | apply below_drew1 | refine below_set ?_ GE101.out | refine below_set ?_ GE102.out | refine below_set ?_ GE106.out | refine below_set ?_ GE108.out) | exact HB.out)⟩⟩
      ·rw [if_neg c26] at H
       have c26b0 : (t109.toList == ([115, 101, 116, 45, 99, 111, 111, 107, 105, 101] : List UInt8)) = false := beq_eq_false_iff_ne.mpr c26
       have c26b1 : (t109.toList != ([115, 101, 116, 45, 99, 111, 111, 107, 105, 101] : List UInt8)) = true := bne_iff_ne.mpr c26
       by_cases c33 : t109.toList = ([115, 101, 116, 45, 99, 111, 111, 107, 105, 101, 50] : List UInt8)
       ·rw [if_pos c33] at H
        have c33b0 : (t109.toList == ([115, 101, 116, 45, 99, 111, 111, 107, 105, 101, 50] : List UInt8)) = true := beq_iff_eq.mpr c33
        have c33b1 : (t109.toList != ([115, 101, 116, 45, 99, 111, 111, 107, 105, 101, 50] : List UInt8)) = false := bne_eq_false_iff_eq.mpr c33
        clear c33
        have H' := Aside0.mk H
        clear H
        have p107 : 0 ≤ (x24_1 : Int) := of_decide_eq_true aS
        have q107 : x24_1 < (l1_1.length : Int) := of_decide_eq_true aS
        obtain ⟨ad107, e107, hx107_0, hx107_1⟩ := at_T30 HR1_1.out x24_1 p107 q107
        cases e107
        replace hx107_0 := (HB.out.cell (World.block_lt_of_cell? w _ hx107_0)).trans hx107_0
        replace hx107_1 := (HB.out.cell (World.block_lt_of_cell? w _ hx107_1)).trans hx107_1
        replace p107 := eq_true p107
        replace q107 := eq_true q107
        go_wp2_with (first | ((with_reducible refine gate_dst (N := 11) rfl ?_); refine box_event ?hg (N := 11) ?hd (cs := #[.string (⟨#[]⟩ : ByteArray), .string (⟨#[]⟩ : ByteArray)]) (t := 30) ?hr ?_; (case hd => rfl); (case hg => rfl); (case hr => first | (go_simp; done) | (go_simp; rfl)); intro gb108 hg w34 hbox hb; have n0_ := Aside0.mk (Kd.R_below (Kd.R_elderB q30_ gb108 (Nat.le_of_eq hg.symm)) hb); have n1_ := Aside0.mk (Kd.R_below q31_ hb); have n2_ := Aside0.mk (blk_below (g := gb101) (o := .cells #[.int .i64 a1_0, .slice (some ad107) l1_1.length c1_1, .slice A1_2 l1_2.length c1_2] 28 (0, 0)) q0_ hb); have n3_ := Aside0.mk (blk_below (g := gb102) (o := .cells #[.int .i64 0, .int .i64 0, .slice none 0 0, .slice none 0 0, .string (⟨#[]⟩ : ByteArray)] 93 (0, 0)) q2_ hb); have n4_ := Aside0.mk (blk_below (g := gb106) (o := .cells #[.int .i64 a0, .int .i64 a1_0, u107002, .slice Ao13 t103.length co13, .string a2] 93 (0, 0)) q5_ hb); have n5_ := Aside0.mk (below_step q1_ hb); have n6_ := Aside0.mk (hbox); have n7_ := Aside0.mk ((by rw [hg]; exact (below_size q1_) : w.heap.size ≤ gb108)); have n8_ := Aside0.mk ((by rw [hg]; exact (below_size q1_) : w.heap.size ≤ gb108)); have n9_ := Aside0.mk ((by rw [hg]; exact Nat.ne_of_lt (blk_lt (g := gb101) (o := .cells #[.int .i64 a1_0, .slice (some ad107) l1_1.length c1_1, .slice A1_2 l1_2.length c1_2] 28 (0, 0)) q0_) : gb101 ≠ gb108)); have n10_ := Aside0.mk ((by rw [hg]; exact Nat.ne_of_gt (blk_lt (g := gb101) (o := .cells #[.int .i64 a1_0, .slice (some ad107) l1_1.length c1_1, .slice A1_2 l1_2.length c1_2] 28 (0, 0)) q0_) : gb108 ≠ gb101)); have n11_ := Aside0.mk ((by rw [hg]; exact Nat.ne_of_lt (blk_lt (g := gb102) (o := .cells #[.int .i64 0, .int .i64 0, .slice none 0 0, .slice none 0 0, .string (⟨#[]⟩ : ByteArray)] 93 (0, 0)) q2_) : gb102 ≠ gb108)); have n12_ := Aside0.mk ((by rw [hg]; exact Nat.ne_of_gt (blk_lt (g := gb102) (o := .cells #[.int .i64 0, .int .i64 0, .slice none 0 0, .slice none 0 0, .string (⟨#[]⟩ : ByteArray)] 93 (0, 0)) q2_) : gb108 ≠ gb102)); have n13_ := Aside0.mk ((by rw [hg]; exact Nat.ne_of_lt (blk_lt (g := gb106) (o := .cells #[.int .i64 a0, .int .i64 a1_0, u107002, .slice Ao13 t103.length co13, .string a2] 93 (0, 0)) q5_) : gb106 ≠ gb108)); have n14_ := Aside0.mk ((by rw [hg]; exact Nat.ne_of_gt (blk_lt (g := gb106) (o := .cells #[.int .i64 a0, .int .i64 a1_0, u107002, .slice Ao13 t103.length co13, .string a2] 93 (0, 0)) q5_) : gb108 ≠ gb106)); clear HO_107002; clear HO_107003; clear BK101; clear BK102; clear BK106; clear HB; have HO_107002 := n0_; have HO_107003 := n1_; have BK101 := n2_; have BK102 := n3_; have BK106 := n4_; have HB := n5_; have BK108 := n6_; have GW108 := n7_; have GE108 := n8_; have NB101_108 := n9_; have NB108_101 := n10_; have NB102_108 := n11_; have NB108_102 := n12_; have NB106_108 := n13_; have NB108_106 := n14_; clear n0_ n1_ n2_ n3_ n4_ n5_ n6_ n7_ n8_ n9_ n10_ n11_ n12_ n13_ n14_; clear hb hbox hg; have hnb35 := NB108_101.out; have hnc35 := NB101_108.out; have hnb36 := NB108_102.out; have hnc36 := NB102_108.out; have hnb37 := NB108_106.out; have hnc37 := NB106_108.out; have hcz38_0 : w34.cell? ⟨gb108, 0, none⟩ = some (.string (⟨#[]⟩ : ByteArray)) := (blk_cell BK108.out 0).trans rfl; have hcz38_1 : w34.cell? ⟨gb108, 1, none⟩ = some (.string (⟨#[]⟩ : ByteArray)) := (blk_cell BK108.out 1).trans rfl; have hfz38_0 := blk_frozen BK108.out 0; have hfz38_1 := blk_frozen BK108.out 1) | ((with_reducible refine gate_callee (f := 118) rfl ?_); refine goesL_ (some 30) rfl rfl Tryz.func118 q9_ rfl #[.string ((rd_T30 l1_1 x24_1).f0)] rfl tS ?_; (with_reducible refine (infra_Lower.calls ((rd_T30 l1_1 x24_1).f0) t109 _ A25.out).mono ?_); rintro e w39 ⟨rfl, hb⟩; refine ⟨_, rfl, ?_⟩; have n0_ := Aside0.mk (Kd.R_below (by (with_reducible repeat (first | apply Kd.R_alloc | apply Kd.R_drewN | apply Kd.R_drew)); exact (Kd.R_mono (Kd.R_far (p := ⟨gb108, 1, none⟩) (Kd.R_far (p := ⟨gb108, 0, none⟩) (Kd.R_mono HO_107002.out (fun k_ hk => (⟨hk, hk.2⟩ : _ ∧ k_ ≠ gb108))) (fun _ hk => hk.2) (.string ((rd_T30 l1_1 x24_1).f0))) (fun _ hk => hk.2) (.string ((rd_T30 l1_1 x24_1).f1))) (fun _ h_ => h_.1))) hb); have n1_ := Aside0.mk (Kd.R_below q16_ hb); have n2_ := Aside0.mk (blk_below (g := gb101) (o := .cells #[.int .i64 a1_0, .slice (some ad107) l1_1.length c1_1, .slice A1_2 l1_2.length c1_2] 28 (0, 0)) q11_ hb); have n3_ := Aside0.mk (blk_below (g := gb102) (o := .cells #[.int .i64 0, .int .i64 0, .slice none 0 0, .slice none 0 0, .string (⟨#[]⟩ : ByteArray)] 93 (0, 0)) q12_ hb); have n4_ := Aside0.mk (blk_below (g := gb106) (o := .cells #[.int .i64 a0, .int .i64 a1_0, u107002, .slice Ao13 t103.length co13, .string a2] 93 (0, 0)) q13_ hb); have n5_ := Aside0.mk (blk_below (g := gb108) (o := .cells #[.string ((rd_T30 l1_1 x24_1).f0), .string ((rd_T30 l1_1 x24_1).f1)] 30 (0, 0)) (by (with_reducible repeat (first | refine blk_drewN ?_ _ | refine blk_drew ?_ | refine blk_alloc ?_ _)); refine blk_put (cs := #[.string ((rd_T30 l1_1 x24_1).f0), .string (⟨#[]⟩ : ByteArray)]) ?_ 1 _ rfl; (with_reducible repeat (first | refine blk_drewN ?_ _ | refine blk_drew ?_ | refine blk_alloc ?_ _)); refine blk_put (cs := #[.string (⟨#[]⟩ : ByteArray), .string (⟨#[]⟩ : ByteArray)]) ?_ 0 _ rfl; (with_reducible repeat (first | refine blk_drewN ?_ _ | refine blk_drew ?_ | refine blk_alloc ?_ _)); exact BK108.out) hb); have n6_ := Aside0.mk (below_step q3_ hb); clear HO_107002; clear HO_107003; clear BK101; clear BK102; clear BK106; clear BK108; clear HB; have HO_107002 := n0_; have HO_107003 := n1_; have BK101 := n2_; have BK102 := n3_; have BK106 := n4_; have BK108 := n5_; have HB := n6_; clear n0_ n1_ n2_ n3_ n4_ n5_ n6_; (try clear hb); (try clear hb2); (try clear hk); (try clear hi)))
        go_roundg k1
        case measure => have := HK1.out; omega
        case rel => exact ⟨(wrap64 (x24_1 + 1)), (x107002_1), (u107002), rS, H', ⟨by have := HK1.out; omega⟩, ⟨by (with_reducible repeat (first | apply Kd.R_alloc | apply Kd.R_drewN | apply Kd.R_drew)); exact Kd.R_mono HO_107002.out (fun _ hk => trivial)⟩, ⟨by (with_reducible repeat (first | apply Kd.R_alloc | apply Kd.R_drewN | apply Kd.R_drew)); exact HO_107003.out⟩, ⟨by (with_reducible repeat (first | refine blk_drewN ?_ _ | refine blk_drew ?_ | refine blk_alloc ?_ _)); exact BK101.out⟩, ⟨by (with_reducible repeat (first | refine blk_drewN ?_ _ | refine blk_drew ?_ | refine blk_alloc ?_ _)); exact BK102.out⟩, ⟨by (with_reducible repeat (first | refine blk_drewN ?_ _ | refine blk_drew ?_ | refine blk_alloc ?_ _)); exact BK106.out⟩, ⟨by repeat (first | (with_reducible first | exact HB.out | apply below_alloc | apply pw_below_drewN | apply below_drew1 | refine below_set ?_ GE101.out | refine below_set ?_ GE102.out | refine below_set ?_ GE106.out | refine below_set ?_ GE108.out) | exact HB.out)⟩⟩
       ·rw [if_neg c33] at H
        have c33b0 : (t109.toList == ([115, 101, 116, 45, 99, 111, 111, 107, 105, 101, 50] : List UInt8)) = false := beq_eq_false_iff_ne.mpr c33
        have c33b1 : (t109.toList != ([115, 101, 116, 45, 99, 111, 111, 107, 105, 101, 50] : List UInt8)) = true := bne_iff_ne.mpr c33
        replace H := Option.bind_eq_some_iff.mp H
        obtain ⟨t110, A400, H⟩ := H
        replace H : (if t110 = true then (if x107002_1.length < 4398046511104 then (filter_shownB.l0 a3 k1 l1_1 (l1_1.length : Int) (wrap64 (x24_1 + 1)) a0 a1_0 (x107002_1 ++ [(⟨(rd_T30 l1_1 x24_1).f0, (rd_T30 l1_1 x24_1).f1⟩ : S30)]) t103 a2) else (none)) else (filter_shownB.l0 a3 k1 l1_1 (l1_1.length : Int) (wrap64 (x24_1 + 1)) a0 a1_0 x107002_1 t103 a2)) = some (r1, r2, r3, r4, r5) := H
        have A40 := Aside0.mk A400
        clear A400
        by_cases c41 : t110 = true
        ·subst c41
         have H1 : (if x107002_1.length < 4398046511104 then (filter_shownB.l0 a3 k1 l1_1 (l1_1.length : Int) (wrap64 (x24_1 + 1)) a0 a1_0 (x107002_1 ++ [(⟨(rd_T30 l1_1 x24_1).f0, (rd_T30 l1_1 x24_1).f1⟩ : S30)]) t103 a2) else (none)) = some (r1, r2, r3, r4, r5) := by rw [if_pos rfl] at H; exact H
         clear H
         have H := H1
         clear H1
         by_cases c42 : x107002_1.length < 4398046511104
         ·rw [if_pos c42] at H
          have LMc42 := Aside0.mk c42
          clear c42
          obtain ⟨y111, hy111⟩ : ∃ y_ : List (S30), y_ = (x107002_1 ++ [(⟨(rd_T30 l1_1 x24_1).f0, (rd_T30 l1_1 x24_1).f1⟩ : S30)]) := ⟨_, rfl⟩
          replace H : (filter_shownB.l0 a3 k1 l1_1 (l1_1.length : Int) (wrap64 (x24_1 + 1)) a0 a1_0 y111 t103 a2) = some (r1, r2, r3, r4, r5) := by first | (rw [hy111]; with_reducible exact H) | (have H2_ := (Option.bind_some _ _).symm.trans H; rw [hy111]; with_reducible exact H2_) | (have H2_ := (Option.bind_some _ _).symm.trans H; with_reducible exact H2_) | with_reducible exact H | (rw [hy111]; exact H) | exact H
          have Ny111 := Aside0.mk hy111
          clear hy111
          have H' := Aside0.mk H
          clear H
          have p107 : 0 ≤ (x24_1 : Int) := of_decide_eq_true aS
          have q107 : x24_1 < (l1_1.length : Int) := of_decide_eq_true aS
          obtain ⟨ad107, e107, hx107_0, hx107_1⟩ := at_T30 HR1_1.out x24_1 p107 q107
          cases e107
          replace hx107_0 := (HB.out.cell (World.block_lt_of_cell? w _ hx107_0)).trans hx107_0
          replace hx107_1 := (HB.out.cell (World.block_lt_of_cell? w _ hx107_1)).trans hx107_1
          replace p107 := eq_true p107
          replace q107 := eq_true q107
          go_wp2_with (first | ((with_reducible refine gate_dst (N := 11) rfl ?_); refine box_event ?hg (N := 11) ?hd (cs := #[.string (⟨#[]⟩ : ByteArray), .string (⟨#[]⟩ : ByteArray)]) (t := 30) ?hr ?_; (case hd => rfl); (case hg => rfl); (case hr => first | (go_simp; done) | (go_simp; rfl)); intro gb108 hg w43 hbox hb; have n0_ := Aside0.mk (Kd.R_below (Kd.R_elderB q30_ gb108 (Nat.le_of_eq hg.symm)) hb); have n1_ := Aside0.mk (Kd.R_below q31_ hb); have n2_ := Aside0.mk (blk_below (g := gb101) (o := .cells #[.int .i64 a1_0, .slice (some ad107) l1_1.length c1_1, .slice A1_2 l1_2.length c1_2] 28 (0, 0)) q0_ hb); have n3_ := Aside0.mk (blk_below (g := gb102) (o := .cells #[.int .i64 0, .int .i64 0, .slice none 0 0, .slice none 0 0, .string (⟨#[]⟩ : ByteArray)] 93 (0, 0)) q2_ hb); have n4_ := Aside0.mk (blk_below (g := gb106) (o := .cells #[.int .i64 a0, .int .i64 a1_0, u107002, .slice Ao13 t103.length co13, .string a2] 93 (0, 0)) q5_ hb); have n5_ := Aside0.mk (below_step q1_ hb); have n6_ := Aside0.mk (hbox); have n7_ := Aside0.mk ((by rw [hg]; exact (below_size q1_) : w.heap.size ≤ gb108)); have n8_ := Aside0.mk ((by rw [hg]; exact (below_size q1_) : w.heap.size ≤ gb108)); have n9_ := Aside0.mk ((by rw [hg]; exact Nat.ne_of_lt (blk_lt (g := gb101) (o := .cells #[.int .i64 a1_0, .slice (some ad107) l1_1.length c1_1, .slice A1_2 l1_2.length c1_2] 28 (0, 0)) q0_) : gb101 ≠ gb108)); have n10_ := Aside0.mk ((by rw [hg]; exact Nat.ne_of_gt (blk_lt (g := gb101) (o := .cells #[.int .i64 a1_0, .slice (some ad107) l1_1.length c1_1, .slice A1_2 l1_2.length c1_2] 28 (0, 0)) q0_) : gb108 ≠ gb101)); have n11_ := Aside0.mk ((by rw [hg]; exact Nat.ne_of_lt (blk_lt (g := gb102) (o := .cells #[.int .i64 0, .int .i64 0, .slice none 0 0, .slice none 0 0, .string (⟨#[]⟩ : ByteArray)] 93 (0, 0)) q2_) : gb102 ≠ gb108)); have n12_ := Aside0.mk ((by rw [hg]; exact Nat.ne_of_gt (blk_lt (g := gb102) (o := .cells #[.int .i64 0, .int .i64 0, .slice none 0 0, .slice none 0 0, .string (⟨#[]⟩ : ByteArray)] 93 (0, 0)) q2_) : gb108 ≠ gb102)); have n13_ := Aside0.mk ((by rw [hg]; exact Nat.ne_of_lt (blk_lt (g := gb106) (o := .cells #[.int .i64 a0, .int .i64 a1_0, u107002, .slice Ao13 t103.length co13, .string a2] 93 (0, 0)) q5_) : gb106 ≠ gb108)); have n14_ := Aside0.mk ((by rw [hg]; exact Nat.ne_of_gt (blk_lt (g := gb106) (o := .cells #[.int .i64 a0, .int .i64 a1_0, u107002, .slice Ao13 t103.length co13, .string a2] 93 (0, 0)) q5_) : gb108 ≠ gb106)); clear HO_107002; clear HO_107003; clear BK101; clear BK102; clear BK106; clear HB; have HO_107002 := n0_; have HO_107003 := n1_; have BK101 := n2_; have BK102 := n3_; have BK106 := n4_; have HB := n5_; have BK108 := n6_; have GW108 := n7_; have GE108 := n8_; have NB101_108 := n9_; have NB108_101 := n10_; have NB102_108 := n11_; have NB108_102 := n12_; have NB106_108 := n13_; have NB108_106 := n14_; clear n0_ n1_ n2_ n3_ n4_ n5_ n6_ n7_ n8_ n9_ n10_ n11_ n12_ n13_ n14_; clear hb hbox hg; have hnb44 := NB108_101.out; have hnc44 := NB101_108.out; have hnb45 := NB108_102.out; have hnc45 := NB102_108.out; have hnb46 := NB108_106.out; have hnc46 := NB106_108.out; have hcz47_0 : w43.cell? ⟨gb108, 0, none⟩ = some (.string (⟨#[]⟩ : ByteArray)) := (blk_cell BK108.out 0).trans rfl; have hcz47_1 : w43.cell? ⟨gb108, 1, none⟩ = some (.string (⟨#[]⟩ : ByteArray)) := (blk_cell BK108.out 1).trans rfl; have hfz47_0 := blk_frozen BK108.out 0; have hfz47_1 := blk_frozen BK108.out 1) | ((with_reducible refine gate_callee (f := 118) rfl ?_); refine goesL_ (some 30) rfl rfl Tryz.func118 q9_ rfl #[.string ((rd_T30 l1_1 x24_1).f0)] rfl tS ?_; (with_reducible refine (infra_Lower.calls ((rd_T30 l1_1 x24_1).f0) t109 _ A25.out).mono ?_); rintro e w48 ⟨rfl, hb⟩; refine ⟨_, rfl, ?_⟩; have n0_ := Aside0.mk (Kd.R_below (by (with_reducible repeat (first | apply Kd.R_alloc | apply Kd.R_drewN | apply Kd.R_drew)); exact (Kd.R_mono (Kd.R_far (p := ⟨gb108, 1, none⟩) (Kd.R_far (p := ⟨gb108, 0, none⟩) (Kd.R_mono HO_107002.out (fun k_ hk => (⟨hk, hk.2⟩ : _ ∧ k_ ≠ gb108))) (fun _ hk => hk.2) (.string ((rd_T30 l1_1 x24_1).f0))) (fun _ hk => hk.2) (.string ((rd_T30 l1_1 x24_1).f1))) (fun _ h_ => h_.1))) hb); have n1_ := Aside0.mk (Kd.R_below q16_ hb); have n2_ := Aside0.mk (blk_below (g := gb101) (o := .cells #[.int .i64 a1_0, .slice (some ad107) l1_1.length c1_1, .slice A1_2 l1_2.length c1_2] 28 (0, 0)) q11_ hb); have n3_ := Aside0.mk (blk_below (g := gb102) (o := .cells #[.int .i64 0, .int .i64 0, .slice none 0 0, .slice none 0 0, .string (⟨#[]⟩ : ByteArray)] 93 (0, 0)) q12_ hb); have n4_ := Aside0.mk (blk_below (g := gb106) (o := .cells #[.int .i64 a0, .int .i64 a1_0, u107002, .slice Ao13 t103.length co13, .string a2] 93 (0, 0)) q13_ hb); have n5_ := Aside0.mk (blk_below (g := gb108) (o := .cells #[.string ((rd_T30 l1_1 x24_1).f0), .string ((rd_T30 l1_1 x24_1).f1)] 30 (0, 0)) (by (with_reducible repeat (first | refine blk_drewN ?_ _ | refine blk_drew ?_ | refine blk_alloc ?_ _)); refine blk_put (cs := #[.string ((rd_T30 l1_1 x24_1).f0), .string (⟨#[]⟩ : ByteArray)]) ?_ 1 _ rfl; (with_reducible repeat (first | refine blk_drewN ?_ _ | refine blk_drew ?_ | refine blk_alloc ?_ _)); refine blk_put (cs := #[.string (⟨#[]⟩ : ByteArray), .string (⟨#[]⟩ : ByteArray)]) ?_ 0 _ rfl; (with_reducible repeat (first | refine blk_drewN ?_ _ | refine blk_drew ?_ | refine blk_alloc ?_ _)); exact BK108.out) hb); have n6_ := Aside0.mk (below_step q3_ hb); clear HO_107002; clear HO_107003; clear BK101; clear BK102; clear BK106; clear BK108; clear HB; have HO_107002 := n0_; have HO_107003 := n1_; have BK101 := n2_; have BK102 := n3_; have BK106 := n4_; have BK108 := n5_; have HB := n6_; clear n0_ n1_ n2_ n3_ n4_ n5_ n6_; (try clear hb); (try clear hb2); (try clear hk); (try clear hi)) | (go_at_call 113; (with_reducible refine (HFV.out _ t109 true q3_ A40.out).mono ?_); rintro e w49 ⟨rfl, hb⟩; have n0_ := Aside0.mk (Kd.R_below q30_ hb); have n1_ := Aside0.mk (Kd.R_below q31_ hb); have n2_ := Aside0.mk (blk_below (g := gb101) (o := .cells #[.int .i64 a1_0, .slice (some ad107) l1_1.length c1_1, .slice A1_2 l1_2.length c1_2] 28 (0, 0)) q0_ hb); have n3_ := Aside0.mk (blk_below (g := gb102) (o := .cells #[.int .i64 0, .int .i64 0, .slice none 0 0, .slice none 0 0, .string (⟨#[]⟩ : ByteArray)] 93 (0, 0)) q2_ hb); have n4_ := Aside0.mk (blk_below (g := gb106) (o := .cells #[.int .i64 a0, .int .i64 a1_0, u107002, .slice Ao13 t103.length co13, .string a2] 93 (0, 0)) q5_ hb); have n5_ := Aside0.mk (blk_below (g := gb108) (o := .cells #[.string ((rd_T30 l1_1 x24_1).f0), .string ((rd_T30 l1_1 x24_1).f1)] 30 (0, 0)) q14_ hb); have n6_ := Aside0.mk (below_step q3_ hb); clear HO_107002; clear HO_107003; clear BK101; clear BK102; clear BK106; clear BK108; clear HB; have HO_107002 := n0_; have HO_107003 := n1_; have BK101 := n2_; have BK102 := n3_; have BK106 := n4_; have BK108 := n5_; have HB := n6_; clear n0_ n1_ n2_ n3_ n4_ n5_ n6_; (try clear hb); (try clear hb2); (try clear hk); (try clear hi); have hnb50 := NB106_101.out; have hnc50 := NB101_106.out; have hnb51 := NB106_102.out; have hnc51 := NB102_106.out; have hcz52_0 : w49.cell? ⟨gb106, 0, none⟩ = some (.int .i64 a0) := (blk_cell BK106.out 0).trans rfl; have hcz52_1 : w49.cell? ⟨gb106, 1, none⟩ = some (.int .i64 a1_0) := (blk_cell BK106.out 1).trans rfl; have hcz52_2 : w49.cell? ⟨gb106, 2, none⟩ = some (u107002) := (blk_cell BK106.out 2).trans rfl; have hcz52_3 : w49.cell? ⟨gb106, 3, none⟩ = some (.slice Ao13 t103.length co13) := (blk_cell BK106.out 3).trans rfl; have hcz52_4 : w49.cell? ⟨gb106, 4, none⟩ = some (.string a2) := (blk_cell BK106.out 4).trans rfl; have hfz52_0 := blk_frozen BK106.out 0; have hfz52_1 := blk_frozen BK106.out 1; have hfz52_2 := blk_frozen BK106.out 2; have hfz52_3 := blk_frozen BK106.out 3; have hfz52_4 := blk_frozen BK106.out 4; have hcz53_0 : w49.cell? ⟨gb108, 0, none⟩ = some (.string ((rd_T30 l1_1 x24_1).f0)) := (blk_cell BK108.out 0).trans rfl; have hcz53_1 : w49.cell? ⟨gb108, 1, none⟩ = some (.string ((rd_T30 l1_1 x24_1).f1)) := (blk_cell BK108.out 1).trans rfl; have hfz53_0 := blk_frozen BK108.out 0; have hfz53_1 := blk_frozen BK108.out 1) | ((with_reducible refine gate_builtin (b := .append) (xs := #[.tmp 43, .tmp 45]) rfl ?_); at_builtin; refine Kd.R_append k30 (w0 := w) w.heap.size rfl (.tmp 43) (.tmp 45) 25 30 (.agg #[(.string ⟨#[]⟩), (.string ⟨#[]⟩)]) 32 rfl Tryz.underlying25 info30 rfl (by decide) (by omega) u107002 x107002_1 (⟨(rd_T30 l1_1 x24_1).f0, (rd_T30 l1_1 x24_1).f1⟩ : S30) [.string ((rd_T30 l1_1 x24_1).f0), .string ((rd_T30 l1_1 x24_1).f1)] (fun k_ => k_ ≠ gb108) (fun _ => False) rfl rfl ?aP (fun _ hk => hk.elim) ?aF ?aO ?aB ?aS ?aL ?_; (case aP => exact k30_mkM _ _ _ (⟨(rd_T30 l1_1 x24_1).f0, (rd_T30 l1_1 x24_1).f1⟩ : S30)); (case aB => exact q3_); (case aF => exact (fun k_ hk => Kd.freshB (g := gb108) (o := .cells #[.string ((rd_T30 l1_1 x24_1).f0), .string ((rd_T30 l1_1 x24_1).f1)] 30 (0, 0)) q14_ k_ hk)); (case aO => exact (by (with_reducible repeat (first | apply Kd.R_alloc | apply Kd.R_drewN | apply Kd.R_drew)); exact Kd.R_mono HO_107002.out (fun _ hk => hk.2))); (case aS => exact (below_size q3_)); (case aL => have := LMc42.out; omega); intro v112 w54 ho hb hg hat; rw [← Ny111.out] at ho; have n0_ := Aside0.mk (Kd.R_over' q31_ (Kd.R_typed q30_) (by decide) hg); have n1_ := Aside0.mk (blk_grown (g := gb101) (o := .cells #[.int .i64 a1_0, .slice (some ad107) l1_1.length c1_1, .slice A1_2 l1_2.length c1_2] 28 (0, 0)) q0_ hg (Kd.R_ne HO_107002.out BK101.out (by decide))); have n2_ := Aside0.mk (blk_grown (g := gb102) (o := .cells #[.int .i64 0, .int .i64 0, .slice none 0 0, .slice none 0 0, .string (⟨#[]⟩ : ByteArray)] 93 (0, 0)) q2_ hg (Kd.R_ne HO_107002.out BK102.out (by decide))); have n3_ := Aside0.mk (blk_grown (g := gb106) (o := .cells #[.int .i64 a0, .int .i64 a1_0, u107002, .slice Ao13 t103.length co13, .string a2] 93 (0, 0)) q5_ hg (Kd.R_ne HO_107002.out BK106.out (by decide))); have n4_ := Aside0.mk (blk_grown (g := gb108) (o := .cells #[.string ((rd_T30 l1_1 x24_1).f0), .string ((rd_T30 l1_1 x24_1).f1)] 30 (0, 0)) q14_ hg (Kd.R_away HO_107002.out (fun _ hk => hk.2))); have n5_ := Aside0.mk (hb); have n6_ := Aside0.mk (ho); clear HO_107003; clear BK101; clear BK102; clear BK106; clear BK108; clear HB; clear HO_107002; have HO_107003 := n0_; have BK101 := n1_; have BK102 := n2_; have BK106 := n3_; have BK108 := n4_; have HB := n5_; have HO113 := n6_; clear n0_ n1_ n2_ n3_ n4_ n5_ n6_; clear ho hb hg hat; obtain ⟨Ao55, co55, eo55⟩ := Kd.R_slice HO113.out; subst eo55; have hcz56_0 : w54.cell? ⟨gb106, 0, none⟩ = some (.int .i64 a0) := (blk_cell BK106.out 0).trans rfl; have hcz56_1 : w54.cell? ⟨gb106, 1, none⟩ = some (.int .i64 a1_0) := (blk_cell BK106.out 1).trans rfl; have hcz56_2 : w54.cell? ⟨gb106, 2, none⟩ = some (u107002) := (blk_cell BK106.out 2).trans rfl; have hcz56_3 : w54.cell? ⟨gb106, 3, none⟩ = some (.slice Ao13 t103.length co13) := (blk_cell BK106.out 3).trans rfl; have hcz56_4 : w54.cell? ⟨gb106, 4, none⟩ = some (.string a2) := (blk_cell BK106.out 4).trans rfl; have hfz56_0 := blk_frozen BK106.out 0; have hfz56_1 := blk_frozen BK106.out 1; have hfz56_2 := blk_frozen BK106.out 2; have hfz56_3 := blk_frozen BK106.out 3; have hfz56_4 := blk_frozen BK106.out 4))
          go_roundg k1
          case measure => have := HK1.out; omega
          case rel => exact ⟨(wrap64 (x24_1 + 1)), (y111), (.slice Ao55 y111.length co55), rS, H', ⟨by have := HK1.out; omega⟩, ⟨by (with_reducible repeat (first | apply Kd.R_alloc | apply Kd.R_drewN | apply Kd.R_drew)); exact Kd.R_mono (Kd.R_far (p := ⟨gb106, 2, none⟩) (Kd.R_types HO113.out BK106.out (by decide)) (fun _ hk => hk.2) (.slice Ao55 y111.length co55)) (fun _ hk => trivial)⟩, ⟨by (with_reducible repeat (first | apply Kd.R_alloc | apply Kd.R_drewN | apply Kd.R_drew)); exact Kd.R_mono (Kd.R_far (p := ⟨gb106, 2, none⟩) (Kd.R_types HO_107003.out BK106.out (by decide)) (fun _ hk => hk.2) (.slice Ao55 y111.length co55)) (fun _ hk => trivial)⟩, ⟨by (with_reducible repeat (first | refine blk_drewN ?_ _ | refine blk_drew ?_ | refine blk_alloc ?_ _)); refine blk_far ?_ NB101_106.out _; (with_reducible repeat (first | refine blk_drewN ?_ _ | refine blk_drew ?_ | refine blk_alloc ?_ _)); exact BK101.out⟩, ⟨by (with_reducible repeat (first | refine blk_drewN ?_ _ | refine blk_drew ?_ | refine blk_alloc ?_ _)); refine blk_far ?_ NB102_106.out _; (with_reducible repeat (first | refine blk_drewN ?_ _ | refine blk_drew ?_ | refine blk_alloc ?_ _)); exact BK102.out⟩, ⟨by (with_reducible repeat (first | refine blk_drewN ?_ _ | refine blk_drew ?_ | refine blk_alloc ?_ _)); refine blk_put (cs := #[.int .i64 a0, .int .i64 a1_0, u107002, .slice Ao13 t103.length co13, .string a2]) ?_ 2 _ rfl; (with_reducible repeat (first | refine blk_drewN ?_ _ | refine blk_drew ?_ | refine blk_alloc ?_ _)); exact BK106.out⟩, ⟨by repeat (first | (with_reducible first | exact HB.out | apply below_alloc | apply pw_below_drewN | apply below_drew1 | refine below_set ?_ GE101.out | refine below_set ?_ GE102.out | refine below_set ?_ GE106.out | refine below_set ?_ GE108.out) | exact HB.out)⟩⟩
         ·rw [if_neg c42] at H
          exact absurd H (by simp)
        ·replace c41 := Bool.eq_false_iff.mpr c41
         subst c41
         have H1 : (filter_shownB.l0 a3 k1 l1_1 (l1_1.length : Int) (wrap64 (x24_1 + 1)) a0 a1_0 x107002_1 t103 a2) = some (r1, r2, r3, r4, r5) := by rw [if_neg (show ¬ (false = true) by decide)] at H; exact H
         clear H
         have H := H1
         clear H1
         have H' := Aside0.mk H
         clear H
         have p107 : 0 ≤ (x24_1 : Int) := of_decide_eq_true aS
         have q107 : x24_1 < (l1_1.length : Int) := of_decide_eq_true aS
         obtain ⟨ad107, e107, hx107_0, hx107_1⟩ := at_T30 HR1_1.out x24_1 p107 q107
         cases e107
         replace hx107_0 := (HB.out.cell (World.block_lt_of_cell? w _ hx107_0)).trans hx107_0
         replace hx107_1 := (HB.out.cell (World.block_lt_of_cell? w _ hx107_1)).trans hx107_1
         replace p107 := eq_true p107
         replace q107 := eq_true q107
         go_wp2_with (first | ((with_reducible refine gate_dst (N := 11) rfl ?_); refine box_event ?hg (N := 11) ?hd (cs := #[.string (⟨#[]⟩ : ByteArray), .string (⟨#[]⟩ : ByteArray)]) (t := 30) ?hr ?_; (case hd => rfl); (case hg => rfl); (case hr => first | (go_simp; done) | (go_simp; rfl)); intro gb108 hg w57 hbox hb; have n0_ := Aside0.mk (Kd.R_below (Kd.R_elderB q30_ gb108 (Nat.le_of_eq hg.symm)) hb); have n1_ := Aside0.mk (Kd.R_below q31_ hb); have n2_ := Aside0.mk (blk_below (g := gb101) (o := .cells #[.int .i64 a1_0, .slice (some ad107) l1_1.length c1_1, .slice A1_2 l1_2.length c1_2] 28 (0, 0)) q0_ hb); have n3_ := Aside0.mk (blk_below (g := gb102) (o := .cells #[.int .i64 0, .int .i64 0, .slice none 0 0, .slice none 0 0, .string (⟨#[]⟩ : ByteArray)] 93 (0, 0)) q2_ hb); have n4_ := Aside0.mk (blk_below (g := gb106) (o := .cells #[.int .i64 a0, .int .i64 a1_0, u107002, .slice Ao13 t103.length co13, .string a2] 93 (0, 0)) q5_ hb); have n5_ := Aside0.mk (below_step q1_ hb); have n6_ := Aside0.mk (hbox); have n7_ := Aside0.mk ((by rw [hg]; exact (below_size q1_) : w.heap.size ≤ gb108)); have n8_ := Aside0.mk ((by rw [hg]; exact (below_size q1_) : w.heap.size ≤ gb108)); have n9_ := Aside0.mk ((by rw [hg]; exact Nat.ne_of_lt (blk_lt (g := gb101) (o := .cells #[.int .i64 a1_0, .slice (some ad107) l1_1.length c1_1, .slice A1_2 l1_2.length c1_2] 28 (0, 0)) q0_) : gb101 ≠ gb108)); have n10_ := Aside0.mk ((by rw [hg]; exact Nat.ne_of_gt (blk_lt (g := gb101) (o := .cells #[.int .i64 a1_0, .slice (some ad107) l1_1.length c1_1, .slice A1_2 l1_2.length c1_2] 28 (0, 0)) q0_) : gb108 ≠ gb101)); have n11_ := Aside0.mk ((by rw [hg]; exact Nat.ne_of_lt (blk_lt (g := gb102) (o := .cells #[.int .i64 0, .int .i64 0, .slice none 0 0, .slice none 0 0, .string (⟨#[]⟩ : ByteArray)] 93 (0, 0)) q2_) : gb102 ≠ gb108)); have n12_ := Aside0.mk ((by rw [hg]; exact Nat.ne_of_gt (blk_lt (g := gb102) (o := .cells #[.int .i64 0, .int .i64 0, .slice none 0 0, .slice none 0 0, .string (⟨#[]⟩ : ByteArray)] 93 (0, 0)) q2_) : gb108 ≠ gb102)); have n13_ := Aside0.mk ((by rw [hg]; exact Nat.ne_of_lt (blk_lt (g := gb106) (o := .cells #[.int .i64 a0, .int .i64 a1_0, u107002, .slice Ao13 t103.length co13, .string a2] 93 (0, 0)) q5_) : gb106 ≠ gb108)); have n14_ := Aside0.mk ((by rw [hg]; exact Nat.ne_of_gt (blk_lt (g := gb106) (o := .cells #[.int .i64 a0, .int .i64 a1_0, u107002, .slice Ao13 t103.length co13, .string a2] 93 (0, 0)) q5_) : gb108 ≠ gb106)); clear HO_107002; clear HO_107003; clear BK101; clear BK102; clear BK106; clear HB; have HO_107002 := n0_; have HO_107003 := n1_; have BK101 := n2_; have BK102 := n3_; have BK106 := n4_; have HB := n5_; have BK108 := n6_; have GW108 := n7_; have GE108 := n8_; have NB101_108 := n9_; have NB108_101 := n10_; have NB102_108 := n11_; have NB108_102 := n12_; have NB106_108 := n13_; have NB108_106 := n14_; clear n0_ n1_ n2_ n3_ n4_ n5_ n6_ n7_ n8_ n9_ n10_ n11_ n12_ n13_ n14_; clear hb hbox hg; have hnb58 := NB108_101.out; have hnc58 := NB101_108.out; have hnb59 := NB108_102.out; have hnc59 := NB102_108.out; have hnb60 := NB108_106.out; have hnc60 := NB106_108.out; have hcz61_0 : w57.cell? ⟨gb108, 0, none⟩ = some (.string (⟨#[]⟩ : ByteArray)) := (blk_cell BK108.out 0).trans rfl; have hcz61_1 : w57.cell? ⟨gb108, 1, none⟩ = some (.string (⟨#[]⟩ : ByteArray)) := (blk_cell BK108.out 1).trans rfl; have hfz61_0 := blk_frozen BK108.out 0; have hfz61_1 := blk_frozen BK108.out 1) | ((with_reducible refine gate_callee (f := 118) rfl ?_); refine goesL_ (some 30) rfl rfl Tryz.func118 q9_ rfl #[.string ((rd_T30 l1_1 x24_1).f0)] rfl tS ?_; (with_reducible refine (infra_Lower.calls ((rd_T30 l1_1 x24_1).f0) t109 _ A25.out).mono ?_); rintro e w62 ⟨rfl, hb⟩; refine ⟨_, rfl, ?_⟩; have n0_ := Aside0.mk (Kd.R_below (by (with_reducible repeat (first | apply Kd.R_alloc | apply Kd.R_drewN | apply Kd.R_drew)); exact (Kd.R_mono (Kd.R_far (p := ⟨gb108, 1, none⟩) (Kd.R_far (p := ⟨gb108, 0, none⟩) (Kd.R_mono HO_107002.out (fun k_ hk => (⟨hk, hk.2⟩ : _ ∧ k_ ≠ gb108))) (fun _ hk => hk.2) (.string ((rd_T30 l1_1 x24_1).f0))) (fun _ hk => hk.2) (.string ((rd_T30 l1_1 x24_1).f1))) (fun _ h_ => h_.1))) hb); have n1_ := Aside0.mk (Kd.R_below q16_ hb); have n2_ := Aside0.mk (blk_below (g := gb101) (o := .cells #[.int .i64 a1_0, .slice (some ad107) l1_1.length c1_1, .slice A1_2 l1_2.length c1_2] 28 (0, 0)) q11_ hb); have n3_ := Aside0.mk (blk_below (g := gb102) (o := .cells #[.int .i64 0, .int .i64 0, .slice none 0 0, .slice none 0 0, .string (⟨#[]⟩ : ByteArray)] 93 (0, 0)) q12_ hb); have n4_ := Aside0.mk (blk_below (g := gb106) (o := .cells #[.int .i64 a0, .int .i64 a1_0, u107002, .slice Ao13 t103.length co13, .string a2] 93 (0, 0)) q13_ hb); have n5_ := Aside0.mk (blk_below (g := gb108) (o := .cells #[.string ((rd_T30 l1_1 x24_1).f0), .string ((rd_T30 l1_1 x24_1).f1)] 30 (0, 0)) (by (with_reducible repeat (first | refine blk_drewN ?_ _ | refine blk_drew ?_ | refine blk_alloc ?_ _)); refine blk_put (cs := #[.string ((rd_T30 l1_1 x24_1).f0), .string (⟨#[]⟩ : ByteArray)]) ?_ 1 _ rfl; (with_reducible repeat (first | refine blk_drewN ?_ _ | refine blk_drew ?_ | refine blk_alloc ?_ _)); refine blk_put (cs := #[.string (⟨#[]⟩ : ByteArray), .string (⟨#[]⟩ : ByteArray)]) ?_ 0 _ rfl; (with_reducible repeat (first | refine blk_drewN ?_ _ | refine blk_drew ?_ | refine blk_alloc ?_ _)); exact BK108.out) hb); have n6_ := Aside0.mk (below_step q3_ hb); clear HO_107002; clear HO_107003; clear BK101; clear BK102; clear BK106; clear BK108; clear HB; have HO_107002 := n0_; have HO_107003 := n1_; have BK101 := n2_; have BK102 := n3_; have BK106 := n4_; have BK108 := n5_; have HB := n6_; clear n0_ n1_ n2_ n3_ n4_ n5_ n6_; (try clear hb); (try clear hb2); (try clear hk); (try clear hi)) | (go_at_call 113; (with_reducible refine (HFV.out _ t109 false q3_ A40.out).mono ?_); rintro e w63 ⟨rfl, hb⟩; have n0_ := Aside0.mk (Kd.R_below q30_ hb); have n1_ := Aside0.mk (Kd.R_below q31_ hb); have n2_ := Aside0.mk (blk_below (g := gb101) (o := .cells #[.int .i64 a1_0, .slice (some ad107) l1_1.length c1_1, .slice A1_2 l1_2.length c1_2] 28 (0, 0)) q0_ hb); have n3_ := Aside0.mk (blk_below (g := gb102) (o := .cells #[.int .i64 0, .int .i64 0, .slice none 0 0, .slice none 0 0, .string (⟨#[]⟩ : ByteArray)] 93 (0, 0)) q2_ hb); have n4_ := Aside0.mk (blk_below (g := gb106) (o := .cells #[.int .i64 a0, .int .i64 a1_0, u107002, .slice Ao13 t103.length co13, .string a2] 93 (0, 0)) q5_ hb); have n5_ := Aside0.mk (blk_below (g := gb108) (o := .cells #[.string ((rd_T30 l1_1 x24_1).f0), .string ((rd_T30 l1_1 x24_1).f1)] 30 (0, 0)) q14_ hb); have n6_ := Aside0.mk (below_step q3_ hb); clear HO_107002; clear HO_107003; clear BK101; clear BK102; clear BK106; clear BK108; clear HB; have HO_107002 := n0_; have HO_107003 := n1_; have BK101 := n2_; have BK102 := n3_; have BK106 := n4_; have BK108 := n5_; have HB := n6_; clear n0_ n1_ n2_ n3_ n4_ n5_ n6_; (try clear hb); (try clear hb2); (try clear hk); (try clear hi)))
         go_roundg k1
         case measure => have := HK1.out; omega
         case rel => exact ⟨(wrap64 (x24_1 + 1)), (x107002_1), (u107002), rS, H', ⟨by have := HK1.out; omega⟩, ⟨by (with_reducible repeat (first | apply Kd.R_alloc | apply Kd.R_drewN | apply Kd.R_drew)); exact Kd.R_mono HO_107002.out (fun _ hk => trivial)⟩, ⟨by (with_reducible repeat (first | apply Kd.R_alloc | apply Kd.R_drewN | apply Kd.R_drew)); exact HO_107003.out⟩, ⟨by (with_reducible repeat (first | refine blk_drewN ?_ _ | refine blk_drew ?_ | refine blk_alloc ?_ _)); exact BK101.out⟩, ⟨by (with_reducible repeat (first | refine blk_drewN ?_ _ | refine blk_drew ?_ | refine blk_alloc ?_ _)); exact BK102.out⟩, ⟨by (with_reducible repeat (first | refine blk_drewN ?_ _ | refine blk_drew ?_ | refine blk_alloc ?_ _)); exact BK106.out⟩, ⟨by repeat (first | (with_reducible first | exact HB.out | apply below_alloc | apply pw_below_drewN | apply below_drew1 | refine below_set ?_ GE101.out | refine below_set ?_ GE102.out | refine below_set ?_ GE106.out | refine below_set ?_ GE108.out) | exact HB.out)⟩⟩
     ·rw [if_neg c24] at H
      exact absurd H (by simp)
    ·rw [if_neg c23] at H
     exact absurd H (by simp)
   ·rw [if_neg c22] at H
    have c22b0 : decide (x24_1 < (l1_1.length : Int)) = false := decide_eq_false c22
    clear c22
    simp only [Option.some.injEq, Prod.mk.injEq] at H
    obtain ⟨rfl, rfl, rfl, rfl, rfl⟩ := H
    have hnb64 := NB106_101.out
    have hnc64 := NB101_106.out
    have hnb65 := NB106_102.out
    have hnc65 := NB102_106.out
    have hcz66_0 : wr.cell? ⟨gb106, 0, none⟩ = some (.int .i64 a0) := (blk_cell BK106.out 0).trans rfl
    have hcz66_1 : wr.cell? ⟨gb106, 1, none⟩ = some (.int .i64 a1_0) := (blk_cell BK106.out 1).trans rfl
    have hcz66_2 : wr.cell? ⟨gb106, 2, none⟩ = some (u107002) := (blk_cell BK106.out 2).trans rfl
    have hcz66_3 : wr.cell? ⟨gb106, 3, none⟩ = some (.slice Ao13 t103.length co13) := (blk_cell BK106.out 3).trans rfl
    have hcz66_4 : wr.cell? ⟨gb106, 4, none⟩ = some (.string a2) := (blk_cell BK106.out 4).trans rfl
    have hfz66_0 := blk_frozen BK106.out 0
    have hfz66_1 := blk_frozen BK106.out 1
    have hfz66_2 := blk_frozen BK106.out 2
    have hfz66_3 := blk_frozen BK106.out 3
    have hfz66_4 := blk_frozen BK106.out 4
    have hnb67 := NB102_101.out
    have hnc67 := NB101_102.out
    have hcz68_0 : wr.cell? ⟨gb102, 0, none⟩ = some (.int .i64 0) := (blk_cell BK102.out 0).trans rfl
    have hcz68_1 : wr.cell? ⟨gb102, 1, none⟩ = some (.int .i64 0) := (blk_cell BK102.out 1).trans rfl
    have hcz68_2 : wr.cell? ⟨gb102, 2, none⟩ = some (.slice none 0 0) := (blk_cell BK102.out 2).trans rfl
    have hcz68_3 : wr.cell? ⟨gb102, 3, none⟩ = some (.slice none 0 0) := (blk_cell BK102.out 3).trans rfl
    have hcz68_4 : wr.cell? ⟨gb102, 4, none⟩ = some (.string (⟨#[]⟩ : ByteArray)) := (blk_cell BK102.out 4).trans rfl
    have hfz68_0 := blk_frozen BK102.out 0
    have hfz68_1 := blk_frozen BK102.out 1
    have hfz68_2 := blk_frozen BK102.out 2
    have hfz68_3 := blk_frozen BK102.out 3
    have hfz68_4 := blk_frozen BK102.out 4
    obtain ⟨Ao69, co69, eo69⟩ := Kd.R_slice HO_107002.out
    subst eo69
    go_wp2
    refine bodyPost_ret (results_cell_row rfl _ _ gb102 93 #[.int .i64 a0, .int .i64 a1_0, .slice Ao69 x107002_1.length co69, .slice Ao13 t103.length co13, .string a2] (0, 0) _ rfl (by (with_reducible repeat (first | refine blk_drewN ?_ _ | refine blk_drew ?_ | refine blk_alloc ?_ _)); refine blk_put (cs := #[.int .i64 a0, .int .i64 a1_0, .slice Ao69 x107002_1.length co69, .slice Ao13 t103.length co13, .string (⟨#[]⟩ : ByteArray)]) ?_ 4 _ rfl; (with_reducible repeat (first | refine blk_drewN ?_ _ | refine blk_drew ?_ | refine blk_alloc ?_ _)); refine blk_put (cs := #[.int .i64 a0, .int .i64 a1_0, .slice Ao69 x107002_1.length co69, .slice none 0 0, .string (⟨#[]⟩ : ByteArray)]) ?_ 3 _ rfl; (with_reducible repeat (first | refine blk_drewN ?_ _ | refine blk_drew ?_ | refine blk_alloc ?_ _)); refine blk_put (cs := #[.int .i64 a0, .int .i64 a1_0, .slice none 0 0, .slice none 0 0, .string (⟨#[]⟩ : ByteArray)]) ?_ 2 _ rfl; (with_reducible repeat (first | refine blk_drewN ?_ _ | refine blk_drew ?_ | refine blk_alloc ?_ _)); refine blk_put (cs := #[.int .i64 a0, .int .i64 0, .slice none 0 0, .slice none 0 0, .string (⟨#[]⟩ : ByteArray)]) ?_ 1 _ rfl; (with_reducible repeat (first | refine blk_drewN ?_ _ | refine blk_drew ?_ | refine blk_alloc ?_ _)); refine blk_put (cs := #[.int .i64 0, .int .i64 0, .slice none 0 0, .slice none 0 0, .string (⟨#[]⟩ : ByteArray)]) ?_ 0 _ rfl; (with_reducible repeat (first | refine blk_drewN ?_ _ | refine blk_drew ?_ | refine blk_alloc ?_ _)); exact BK102.out) Tryz.underlying93 rfl q9_) rfl ?_
    exact ⟨_, _, by first | rfl | (simp [errW_none, errW_some] <;> rfl) | (simp [*, errW_none, errW_some] <;> rfl), by (with_reducible repeat (first | apply Kd.R_alloc | apply Kd.R_drewN | apply Kd.R_drew)); exact Kd.R_mono (Kd.R_far (p := ⟨gb102, 4, none⟩) (Kd.R_far (p := ⟨gb102, 3, none⟩) (Kd.R_far (p := ⟨gb102, 2, none⟩) (Kd.R_far (p := ⟨gb102, 1, none⟩) (Kd.R_far (p := ⟨gb102, 0, none⟩) (Kd.R_types HO_107002.out BK102.out (by decide)) (fun _ hk => hk.2) (.int .i64 a0)) (fun _ hk => hk.2) (.int .i64 a1_0)) (fun _ hk => hk.2) (.slice Ao69 x107002_1.length co69)) (fun _ hk => hk.2) (.slice Ao13 t103.length co13)) (fun _ hk => hk.2) (.string a2)) (fun _ hk => trivial), by (with_reducible repeat (first | apply Kd.R_alloc | apply Kd.R_drewN | apply Kd.R_drew)); exact Kd.R_mono (Kd.R_far (p := ⟨gb102, 4, none⟩) (Kd.R_far (p := ⟨gb102, 3, none⟩) (Kd.R_far (p := ⟨gb102, 2, none⟩) (Kd.R_far (p := ⟨gb102, 1, none⟩) (Kd.R_far (p := ⟨gb102, 0, none⟩) (Kd.R_types HO_107003.out BK102.out (by decide)) (fun _ hk => hk.2) (.int .i64 a0)) (fun _ hk => hk.2) (.int .i64 a1_0)) (fun _ hk => hk.2) (.slice Ao69 x107002_1.length co69)) (fun _ hk => hk.2) (.slice Ao13 t103.length co13)) (fun _ hk => hk.2) (.string a2)) (fun _ hk => trivial), by repeat (first | (with_reducible first | exact HB.out | apply below_alloc | apply pw_below_drewN | apply below_drew1 | refine below_set ?_ GE101.out | refine below_set ?_ GE102.out | refine below_set ?_ GE106.out) | exact HB.out)⟩
end Go.Proofs.YtifmkgkiipckbaaGreatDoor.P
