/- A part of the proof of FS: texts of walks and plain lemmas. -/
import Derived.Test.YtifmkgkiipckbaaGreatDoorXFS1
import Derived.Lib.Hide
import Derived.Test.YtifmkgkiipckbaaGreatDoorXFS6
namespace Go.Proofs.YtifmkgkiipckbaaGreatDoor.P
open Go.RowKit Go.Proofs.YtifmkgkiipckbaaGreatDoorW.PrintWords Go.Proofs.YtifmkgkiipckbaaGreatDoorW.PrintLast
set_option linter.unusedVariables false
set_option linter.unusedSimpArgs false
def fb_.f (l0 : List Int) (n : Int) : Option (List Int) := if 0 ≤ n then if n ≤ 1000000 then some (l0.take n.toNat) else none else none
theorem fb_reads {w : World} {A : Option Addr} {l r : List Int} {n : Int} (h : Kd.C (Kd.int .u8) w A l.length l) (hf : fb_.f l n = some r) : Kd.C (Kd.int .u8) w A r.length r := by
 unfold fb_.f at hf
 split at hf
 ·split at hf
  ·injection hf with hf
   subst hf
   obtain ⟨_, h1, h2⟩ := h
   refine ⟨rfl, by rw [List.length_take]; omega, fun hp => ?_⟩
   rw [List.length_take] at hp
   obtain ⟨ad, he, hc⟩ := h2 (by omega)
   refine ⟨ad, he, fun j p hj => hc j p ?_⟩
   rw [List.getElem?_take] at hj
   split at hj
   ·exact hj
   ·cases hj
  ·cases hf
 ·cases hf
set_option maxHeartbeats 400000 in
theorem fb_.calls (A0 : Option Addr) (c0 : Nat) (l0 : List Int) (n : Int) (r1 : List Int) (w : World) (hr0 : Kd.C (Kd.int .u8) w A0 l0.length l0) (hc0 : l0.length ≤ c0) (h : fb_.f l0 n = some r1) :
  Calls Tryz.prog 21 #[.slice A0 l0.length c0, .int .i64 n] w fun e w' => ∃ v0_ : Value, e = .returned v0_ ∧ v0_ = .slice A0 r1.length c0 ∧ Below w.heap.size w w' := by
 unfold fb_.f at h
 split at h
 ·rename_i h0
  split at h
  ·rename_i h1
   injection h with h
   obtain ⟨m, rfl⟩ : ∃ m : Nat, n = m := ⟨n.toNat, by omega⟩
   rw [Int.toNat_natCast] at h
   by_cases hlt : m < l0.length
   ·have hl : r1.length = m := by rw [← h, List.length_take]; omega
    have hq : decide (m < l0.length) = true := decide_eq_true hlt
    have hm : m ≤ c0 := by omega
    rw [hl]
    have HL := Lib.hid hlt
    clear hlt h hl h0 hr0
    generalize l0.length = q at *
    go_enter Tryz.func21, Tryz.ntmps21
    go_wp2
    go_ret
    exact ⟨_, rfl, rfl, Below.refl _ _⟩
   ·have hl : r1.length = l0.length := by rw [← h, List.length_take]; omega
    have hq : decide (m < l0.length) = false := decide_eq_false hlt
    rw [hl]
    have HL := Lib.hid hlt
    clear hlt h hl h0 hr0
    generalize l0.length = q at *
    go_enter Tryz.func21, Tryz.ntmps21
    go_wp2
    go_ret
    exact ⟨_, rfl, rfl, Below.refl _ _⟩
  ·cases h
 ·cases h
end Go.Proofs.YtifmkgkiipckbaaGreatDoor.P
namespace Go.Proofs.YtifmkgkiipckbaaGreatDoor.P
open Go.RowKit Go.Proofs.YtifmkgkiipckbaaGreatDoorW.PrintWords Go.Proofs.YtifmkgkiipckbaaGreatDoorW.PrintLast Go.Proofs.YtifmkgkiipckbaaGreatDoorW.PrintMore
attribute [local go_sem] max2_int min2_int max_two min_two max_three min_three max_four min_four
set_option linter.unusedVariables false
set_option linter.unusedSimpArgs false
def ostiarykeep_Reply.f (k : Nat) (a0_0 : Int) (l0_1 : List (S30)) (l0_2 : List Int) : Option (Int × (List (S30)) × List Int) := (ostiarykeep_FewHeaders.f k l0_1 12 200).bind fun t110 => ((some (([] : List Int) : List Int)).bind fun y113 => ((fb_.f l0_2 300).bind fun t116 => (if y113.length + t116.length < 140737488355328 then (some (a0_0, t110, (y113 ++ t116))) else (none))))
theorem ostiarykeep_Reply.mono : ∀ a0 a1 a2 k, LeO (ostiarykeep_Reply.f k a0 a1 a2) (ostiarykeep_Reply.f (k + 1) a0 a1 a2) := by
 intro a0 a1 a2 k
 unfold ostiarykeep_Reply.f
 repeat' first
   | (with_reducible exact ostiarykeep_FewHeaders.mono _ _ _ _)
   | (with_reducible exact LeO.refl _)
   | (with_reducible exact LeO.none _)
   | (with_reducible refine LeO.ite ?_ ?_)
   | (with_reducible refine LeO.bind ?_ (fun _ => ?_))
   | exact ostiarykeep_FewHeaders.mono _ _ _ _
   | exact LeO.none _
   | refine LeO.ite ?_ ?_
   | refine LeO.bind ?_ (fun _ => ?_)
def ostiarykeep_Reply.T1 : Bool × List (List Nat × List Nat) := (true, [([], []), ([0], [0]), ([], []), ([2], [2]), ([3], [3]), ([], []), ([], []), ([6], [6]), ([7, 4], [7]), ([5, 8, 8], [5, 8]), ([1, 4, 9], [1, 4, 9]), ([10, 9, 0, 1, 2, 3, 4, 5, 6, 7, 8, 9, 10], [10])])
def ostiarykeep_Reply.B1 : List Nat := [0, 1, 0, 4, 12, 0, 0, 64, 220, 508, 1023, 2047]
theorem ostiarykeep_Reply.tab1 : rtab .any (opsOf Tryz.f38 1) = ostiarykeep_Reply.T1 := by kernel_rfl
theorem ostiarykeep_Reply.bits1 : waitsOk ostiarykeep_Reply.T1.2 ostiarykeep_Reply.B1 = true := by kernel_rfl
set_option maxHeartbeats 8000000 in
set_option maxRecDepth 100000 in
theorem ostiarykeep_Reply.calls (k : Nat) (a0_0 : Int) (A0_1 : Option Addr) (c0_1 : Nat) (l0_1 : List (S30)) (A0_2 : Option Addr) (c0_2 : Nat) (l0_2 : List Int) (r1 : Int) (r2 : List (S30)) (r3 : List Int) (w : World) (hr0_1 : Kd.C k30 w A0_1 l0_1.length l0_1) (hc0_1 : l0_1.length ≤ c0_1) (hr0_2 : Kd.C (Kd.int .u8) w A0_2 l0_2.length l0_2) (hc0_2 : l0_2.length ≤ c0_2) (h : ostiarykeep_Reply.f k a0_0 l0_1 l0_2 = some (r1, r2, r3)) :
  Calls Tryz.prog 38 #[.agg #[.int .i64 a0_0, .slice A0_1 l0_1.length c0_1, .slice A0_2 l0_2.length c0_2]] w fun e w' => ∃ v1_ v2_ : Value, e = .returned (.agg #[.int .i64 r1, v1_, v2_]) ∧ Kd.R k30 30 w' w.heap.size (fun _ => True) v1_ r2 ∧ Kd.R (Kd.int .u8) 5 w' w.heap.size (fun _ => True) v2_ r3 ∧ Below w.heap.size w w' := by
 have hu28 := Tryz.underlying28
 have HR0_1 := Aside0.mk hr0_1
 have HC0_1 := Aside0.mk hc0_1
 clear hr0_1 hc0_1
 have HR0_2 := Aside0.mk hr0_2
 have HC0_2 := Aside0.mk hc0_2
 clear hr0_2 hc0_2
 have HB := Aside0.mk (Below.refl w.heap.size w)
 have H : ((ostiarykeep_FewHeaders.f k l0_1 12 200).bind fun t110 => ((some (([] : List Int) : List Int)).bind fun y113 => ((fb_.f l0_2 300).bind fun t116 => (if y113.length + t116.length < 140737488355328 then (some (a0_0, t110, (y113 ++ t116))) else (none))))) = some (r1, r2, r3) := h
 clear h
 replace H := Option.bind_eq_some_iff.mp H
 obtain ⟨t110, A20, H⟩ := H
 replace H : ((some (([] : List Int) : List Int)).bind fun y113 => ((fb_.f l0_2 300).bind fun t116 => (if y113.length + t116.length < 140737488355328 then (some (a0_0, t110, (y113 ++ t116))) else (none)))) = some (r1, r2, r3) := H
 have A2 := Aside0.mk A20
 clear A20
 obtain ⟨y113, hy113⟩ : ∃ y_ : List Int, y_ = (([] : List Int)) := ⟨_, rfl⟩
 replace H : ((fb_.f l0_2 300).bind fun t116 => (if y113.length + t116.length < 140737488355328 then (some (a0_0, t110, (y113 ++ t116))) else (none))) = some (r1, r2, r3) := by first | (rw [hy113]; with_reducible exact H) | (have H2_ := (Option.bind_some _ _).symm.trans H; rw [hy113]; with_reducible exact H2_) | (have H2_ := (Option.bind_some _ _).symm.trans H; with_reducible exact H2_) | with_reducible exact H | (rw [hy113]; exact H) | exact H
 have Ny113 := Aside0.mk hy113
 clear hy113
 replace H := Option.bind_eq_some_iff.mp H
 obtain ⟨t116, A30, H⟩ := H
 replace H : (if y113.length + t116.length < 140737488355328 then (some (a0_0, t110, (y113 ++ t116))) else (none)) = some (r1, r2, r3) := H
 have A3 := Aside0.mk A30
 clear A30
 by_cases c4 : y113.length + t116.length < 140737488355328
 ·rw [if_pos c4] at H
  have LMc4 := Aside0.mk c4
  clear c4
  obtain ⟨y119, hy119⟩ : ∃ y_ : List Int, y_ = (y113 ++ t116) := ⟨_, rfl⟩
  replace H : (some (a0_0, t110, y119)) = some (r1, r2, r3) := by first | (rw [hy119]; with_reducible exact H) | (have H2_ := (Option.bind_some _ _).symm.trans H; rw [hy119]; with_reducible exact H2_) | (have H2_ := (Option.bind_some _ _).symm.trans H; with_reducible exact H2_) | with_reducible exact H | (rw [hy119]; exact H) | exact H
  have Ny119 := Aside0.mk hy119
  clear hy119
  simp only [Option.some.injEq, Prod.mk.injEq] at H
  obtain ⟨rfl, rfl, rfl⟩ := H
  go_enter Tryz.func38, Tryz.ntmps38
  try go_wp2_with (first | ((with_reducible refine gate_dst (N := 1) rfl ?_); refine box_event ?hg (N := 1) ?hd (cs := #[.int .i64 a0_0, .slice A0_1 l0_1.length c0_1, .slice A0_2 l0_2.length c0_2]) (t := 28) ?hr ?_; (case hd => rfl); (case hg => rfl); (case hr => first | (go_simp; done) | (go_simp; rfl)); intro gb108 hg w5 hbox hb; have n0_ := Aside0.mk (below_step hB hb); have n1_ := Aside0.mk (hbox); have n2_ := Aside0.mk ((by rw [hg]; exact (below_size hB) : w.heap.size ≤ gb108)); have n3_ := Aside0.mk ((by rw [hg]; exact (below_size hB) : w.heap.size ≤ gb108)); clear HB; have HB := n0_; have BK108 := n1_; have GW108 := n2_; have GE108 := n3_; clear n0_ n1_ n2_ n3_; clear hb hbox hg) | ((with_reducible refine gate_dst (N := 2) rfl ?_); refine box_event ?hg (N := 2) ?hd (cs := #[.int .i64 0, .slice none 0 0, .slice none 0 0]) (t := 28) ?hr ?_; (case hd => rfl); (case hg => rfl); (case hr => first | (go_simp; done) | (go_simp; rfl)); intro gb109 hg w6 hbox hb; have n0_ := Aside0.mk (blk_below (g := gb108) (o := .cells #[.int .i64 a0_0, .slice A0_1 l0_1.length c0_1, .slice A0_2 l0_2.length c0_2] 28 (0, 0)) q14_ hb); have n1_ := Aside0.mk (below_step (by repeat (first | (with_reducible first | exact HB.out | apply below_alloc | apply pw_below_drewN | apply below_drew1 | refine below_set ?_ GE108.out) | exact HB.out)) hb); have n2_ := Aside0.mk (hbox); have n3_ := Aside0.mk ((by rw [hg]; exact (below_size (by repeat (first | (with_reducible first | exact HB.out | apply below_alloc | apply pw_below_drewN | apply below_drew1 | refine below_set ?_ GE108.out) | exact HB.out))) : w.heap.size ≤ gb109)); have n4_ := Aside0.mk ((by rw [hg]; exact (below_size (by repeat (first | (with_reducible first | exact HB.out | apply below_alloc | apply pw_below_drewN | apply below_drew1 | refine below_set ?_ GE108.out) | exact HB.out))) : w.heap.size ≤ gb109)); have n5_ := Aside0.mk ((by rw [hg]; exact Nat.ne_of_lt (blk_lt (g := gb108) (o := .cells #[.int .i64 a0_0, .slice A0_1 l0_1.length c0_1, .slice A0_2 l0_2.length c0_2] 28 (0, 0)) q14_) : gb108 ≠ gb109)); have n6_ := Aside0.mk ((by rw [hg]; exact Nat.ne_of_gt (blk_lt (g := gb108) (o := .cells #[.int .i64 a0_0, .slice A0_1 l0_1.length c0_1, .slice A0_2 l0_2.length c0_2] 28 (0, 0)) q14_) : gb109 ≠ gb108)); clear BK108; clear HB; have BK108 := n0_; have HB := n1_; have BK109 := n2_; have GW109 := n3_; have GE109 := n4_; have NB108_109 := n5_; have NB109_108 := n6_; clear n0_ n1_ n2_ n3_ n4_ n5_ n6_; clear hb hbox hg))
  have n0_ := Aside0.mk (blk_drew BK108.out)
  have n1_ := Aside0.mk (blk_drew BK109.out)
  have n2_ := Aside0.mk (below_drew1 HB.out)
  clear BK108
  clear BK109
  clear HB
  have BK108 := n0_
  have BK109 := n1_
  have HB := n2_
  clear n0_ n1_ n2_
  refine start_ (n := 12) (S := fun w' => w'.cell? ⟨gb108, 0, none⟩ = some (.int .i64 a0_0) ∧ w'.cell? ⟨gb108, 1, none⟩ = some (.slice A0_1 l0_1.length c0_1) ∧ w'.cell? ⟨gb108, 2, none⟩ = some (.slice A0_2 l0_2.length c0_2)) (ds := []) #[false, false, false, false, false, false, false, false, false, false, false, false] q9_ rfl rfl ⟨(blk_cell BK108.out 0).trans rfl, (blk_cell BK108.out 1).trans rfl, (blk_cell BK108.out 2).trans rfl⟩ (fun hHeld => ?_); refine with_tabW ostiarykeep_Reply.tab1 ostiarykeep_Reply.bits1 (fun HT_ HW_ => ?_)
  generalize w6.drew = w7 at BK108 BK109 HB hHeld ⊢
  refine pure_ (i := 0) (N := some 3) (v := ?_) (a' := ?_) #[true, false, false, false, false, false, false, false, false, false, false, false] rfl rfl (any_of HT_.out q9_) (fun _ _ _ h => h) (Or.inl ⟨by rfl, ?_⟩) ?_ ?_
  rotate_left
  ·intro w'
   go_simp
   with_reducible rfl
  rotate_left
  ·simp only [Act.put, List.setIfInBounds_toArray, List.set_cons_zero, List.set_cons_succ, i64_w, i32_w]
   rfl
  refine pure_ (i := 2) (N := some 5) (v := ?_) (a' := ?_) #[true, false, true, false, false, false, false, false, false, false, false, false] rfl rfl (any_of HT_.out q9_) (fun _ _ _ h => h) (Or.inl ⟨by rfl, ?_⟩) ?_ ?_
  rotate_left
  ·intro w'
   go_simp
   with_reducible rfl
  rotate_left
  ·simp only [Act.put, List.setIfInBounds_toArray, List.set_cons_zero, List.set_cons_succ, i64_w, i32_w]
   rfl
  refine pure_ (i := 6) (N := some 9) (v := ?_) (a' := ?_) #[true, false, true, false, false, false, true, false, false, false, false, false] rfl rfl (any_of HT_.out q9_) (fun _ _ _ h => h) (Or.inl ⟨by rfl, ?_⟩) ?_ ?_
  rotate_left
  ·intro w'
   go_simp
   with_reducible rfl
  rotate_left
  ·simp only [Act.put, List.setIfInBounds_toArray, List.set_cons_zero, List.set_cons_succ, i64_w, i32_w]
   rfl
  refine take_ (i := 1) (N := some 4) (v := ?_) (a' := ?_) #[true, true, true, false, false, false, true, false, false, false, false, false] rfl rfl (take_ofW HT_.out HW_.out q9_) (fun _ _ _ h => h) (Or.inl ⟨by rfl, ?_⟩) hHeld ?_ ?_
  rotate_left
  ·rintro w' ⟨s0, s1, s2⟩
   go_simp
   with_reducible rfl
  rotate_left
  ·simp only [Act.put, List.setIfInBounds_toArray, List.set_cons_zero, List.set_cons_succ, i64_w, i32_w]
   rfl
  refine take_ (i := 3) (N := some 6) (v := ?_) (a' := ?_) #[true, true, true, true, false, false, true, false, false, false, false, false] rfl rfl (take_ofW HT_.out HW_.out q9_) (fun _ _ _ h => h) (Or.inl ⟨by rfl, ?_⟩) hHeld ?_ ?_
  rotate_left
  ·rintro w' ⟨s0, s1, s2⟩
   go_simp
   with_reducible rfl
  rotate_left
  ·simp only [Act.put, List.setIfInBounds_toArray, List.set_cons_zero, List.set_cons_succ, i64_w, i32_w]
   rfl
  refine take_ (i := 7) (N := some 10) (v := ?_) (a' := ?_) #[true, true, true, true, false, false, true, true, false, false, false, false] rfl rfl (take_ofW HT_.out HW_.out q9_) (fun _ _ _ h => h) (Or.inl ⟨by rfl, ?_⟩) hHeld ?_ ?_
  rotate_left
  ·rintro w' ⟨s0, s1, s2⟩
   go_simp
   with_reducible rfl
  rotate_left
  ·simp only [Act.put, List.setIfInBounds_toArray, List.set_cons_zero, List.set_cons_succ, i64_w, i32_w]
   rfl
  refine join_ (σ := Value × Value × Value) 3 #[true, true, true, true, true, true, true, true, true, false, false, false] (fun s_ => [(7, s_.1), (8, s_.2.1), (11, s_.2.2)]) (fun s_ w' => (w'.cell? ⟨gb108, 0, none⟩ = some (.int .i64 a0_0) ∧ w'.cell? ⟨gb108, 1, none⟩ = some (.slice A0_1 l0_1.length c0_1) ∧ w'.cell? ⟨gb108, 2, none⟩ = some (.slice A0_2 l0_2.length c0_2)) ∧ (Kd.R k30 30 w' w.heap.size (fun _ => True) s_.1 t110) ∧ (Kd.R (Kd.int .u8) 5 w' w.heap.size (fun _ => True) s_.2.1 y113) ∧ (s_.2.2 = .slice A0_2 t116.length c0_2) ∧ (w'.heap[gb108]? = some (.cells #[.int .i64 a0_0, .slice A0_1 l0_1.length c0_1, .slice A0_2 l0_2.length c0_2] 28 (0, 0))) ∧ (w'.heap[gb109]? = some (.cells #[.int .i64 0, .slice none 0 0, .slice none 0 0] 28 (0, 0))) ∧ (Below w.heap.size w w')) ?_ ?_
  rotate_left
  ·intro hCont
   refine two_ (i := 4) (j := 5) (Ni := some 7) (Nj := some 8) #[true, true, true, true, true, false, true, true, false, false, false, false] #[true, true, true, true, false, true, true, true, false, false, false, false] rfl rfl rfl rfl (two_of HT_.out q9_) (by decide) (by decide) (fun K hK => ?_) (fun K hK => ?_)
   ·skip
    refine goes_ Tryz.func37 q9_ rfl #[.slice A0_1 l0_1.length c0_1, .int .i64 12, .int .i64 200] (by rfl) rfl rfl tS ?_
    with_reducible refine (ostiarykeep_FewHeaders.calls k _ _ l0_1 12 200 t110 _ ?side1 ?side2 A2.out).mono ?_
    (case side1 => repeat (first | exact (Kd.C_below HR0_1.out HB.out) | (with_reducible refine Kd.C_alloc ?_ _) | (with_reducible refine Kd.C_drewN ?_ _) | (with_reducible refine Kd.C_drew ?_)))
    (case side2 => exact HC0_1.out)
    rintro e w8 ⟨v111, rfl, ho0, hb⟩
    refine ⟨_, rfl, ?_⟩
    have n0_ := Aside0.mk (Kd.R_lower ho0 (below_size q7_))
    have n1_ := Aside0.mk (blk_below (g := gb108) (o := .cells #[.int .i64 a0_0, .slice A0_1 l0_1.length c0_1, .slice A0_2 l0_2.length c0_2] 28 (0, 0)) q14_ hb)
    have n2_ := Aside0.mk (blk_below (g := gb109) (o := .cells #[.int .i64 0, .slice none 0 0, .slice none 0 0] 28 (0, 0)) q38_ hb)
    have n3_ := Aside0.mk (below_step q7_ hb)
    clear BK108
    clear BK109
    clear HB
    have HO112 := n0_
    have BK108 := n1_
    have BK109 := n2_
    have HB := n3_
    clear n0_ n1_ n2_ n3_
    (try clear hb)
    (try clear hb2)
    (try clear hk)
    (try clear hi)
    (try clear ho0)
    refine hK.out _ _ ⟨(blk_cell BK108.out 0).trans rfl, (blk_cell BK108.out 1).trans rfl, (blk_cell BK108.out 2).trans rfl⟩ (fun hHeld => ?_)
    clear hK K
    refine norm_ (a' := ?_) ?_ ?_
    rotate_left
    ·show Act.put _ (some 7) _ = _
     simp only [Act.put, List.setIfInBounds_toArray, List.set_cons_zero, List.set_cons_succ, i64_w, i32_w]
     rfl
    refine two_ (i := 5) (j := 8) (Ni := some 8) (Nj := some 11) #[true, true, true, true, true, true, true, true, false, false, false, false] #[true, true, true, true, true, false, true, true, true, false, false, false] rfl rfl rfl rfl (two_of HT_.out q9_) (by decide) (by decide) (fun K hK => ?_) (fun K hK => ?_)
    ·skip
     refine Kd.R_lit_step (Kd.int .u8) _ 5 ?hg (N := 8) ?hd (xs := ([] : List Int)) (inner := []) (ok := fun _ => True) (okp := fun _ => True) ?hr ?hp (fun _ hk => hk) trivial (Below.refl _ _) (Nat.le_refl _) (by simp) ?_; (case hd => rfl); (case hg => rfl); (case hr => first | (go_simp; done) | (go_simp; rfl)); (case hp => exact (Reps.none _ _))
     intro v114 w9 ho10 hb hg_ hnew_
     clear hg_ hnew_
     (first | rw [← Ny113.out] at ho10 | (simp only [Int.reduceToNat] at ho10; rw [← Ny113.out] at ho10))
     have n0_ := Aside0.mk (Kd.R_below (by (with_reducible repeat (first | apply Kd.R_alloc | apply Kd.R_drewN | apply Kd.R_drew)); exact HO112.out) hb)
     have n1_ := Aside0.mk (Kd.R_lower ho10 (below_size q7_))
     have n2_ := Aside0.mk (blk_below (g := gb108) (o := .cells #[.int .i64 a0_0, .slice A0_1 l0_1.length c0_1, .slice A0_2 l0_2.length c0_2] 28 (0, 0)) q14_ hb)
     have n3_ := Aside0.mk (blk_below (g := gb109) (o := .cells #[.int .i64 0, .slice none 0 0, .slice none 0 0] 28 (0, 0)) q38_ hb)
     have n4_ := Aside0.mk (below_step q7_ hb)
     clear HO112
     clear BK108
     clear BK109
     clear HB
     have HO112 := n0_
     have HO115 := n1_
     have BK108 := n2_
     have BK109 := n3_
     have HB := n4_
     clear n0_ n1_ n2_ n3_ n4_
     clear hb ho10
     refine hK.out _ _ ⟨(blk_cell BK108.out 0).trans rfl, (blk_cell BK108.out 1).trans rfl, (blk_cell BK108.out 2).trans rfl⟩ (fun hHeld => ?_)
     clear hK K
     refine norm_ (a' := ?_) ?_ ?_
     rotate_left
     ·show Act.put _ (some 8) _ = _
      simp only [Act.put, List.setIfInBounds_toArray, List.set_cons_zero, List.set_cons_succ, i64_w, i32_w]
      rfl
     refine one_ (i := 8) (N := some 11) #[true, true, true, true, true, true, true, true, true, false, false, false] rfl rfl (one_of HT_.out q9_) (by decide) (fun K hK => ?_)
     refine goes_ Tryz.func21 q9_ rfl #[.slice A0_2 l0_2.length c0_2, .int .i64 300] (by rfl) rfl rfl tS ?_
     with_reducible refine (fb_.calls _ _ l0_2 300 t116 _ ?side1 ?side2 A3.out).mono ?_
     (case side1 => repeat (first | exact (Kd.C_below HR0_2.out HB.out) | (with_reducible refine Kd.C_alloc ?_ _) | (with_reducible refine Kd.C_drewN ?_ _) | (with_reducible refine Kd.C_drew ?_)))
     (case side2 => exact HC0_2.out)
     rintro e w11 ⟨v117, rfl, ho0, hb⟩
     refine ⟨_, rfl, ?_⟩
     have n0_ := Aside0.mk (Kd.R_below (by (with_reducible repeat (first | apply Kd.R_alloc | apply Kd.R_drewN | apply Kd.R_drew)); exact HO112.out) hb)
     have n1_ := Aside0.mk (Kd.R_below (by (with_reducible repeat (first | apply Kd.R_alloc | apply Kd.R_drewN | apply Kd.R_drew)); exact HO115.out) hb)
     have n2_ := Aside0.mk (ho0)
     have n3_ := Aside0.mk (blk_below (g := gb108) (o := .cells #[.int .i64 a0_0, .slice A0_1 l0_1.length c0_1, .slice A0_2 l0_2.length c0_2] 28 (0, 0)) q14_ hb)
     have n4_ := Aside0.mk (blk_below (g := gb109) (o := .cells #[.int .i64 0, .slice none 0 0, .slice none 0 0] 28 (0, 0)) q38_ hb)
     have n5_ := Aside0.mk (below_step q7_ hb)
     clear HO112
     clear HO115
     clear BK108
     clear BK109
     clear HB
     have HO112 := n0_
     have HO115 := n1_
     have HO118 := n2_
     have BK108 := n3_
     have BK109 := n4_
     have HB := n5_
     clear n0_ n1_ n2_ n3_ n4_ n5_
     (try clear hb)
     (try clear hb2)
     (try clear hk)
     (try clear hi)
     (try clear ho0)
     refine hK.out _ _ ⟨(blk_cell BK108.out 0).trans rfl, (blk_cell BK108.out 1).trans rfl, (blk_cell BK108.out 2).trans rfl⟩ (fun hHeld => ?_)
     clear hK K
     refine norm_ (a' := ?_) ?_ ?_
     rotate_left
     ·show Act.put _ (some 11) _ = _
      simp only [Act.put, List.setIfInBounds_toArray, List.set_cons_zero, List.set_cons_succ, i64_w, i32_w]
      rfl
     exact norm_ (by simp only [putAll, Act.put, List.setIfInBounds_toArray, List.set_cons_zero, List.set_cons_succ]) (hCont (v111, v114, v117) _ ⟨hHeld, (by (with_reducible repeat (first | apply Kd.R_alloc | apply Kd.R_drewN | apply Kd.R_drew)); exact HO112.out), (by (with_reducible repeat (first | apply Kd.R_alloc | apply Kd.R_drewN | apply Kd.R_drew)); exact HO115.out), HO118.out, q14_, q38_, q7_⟩)
    ·skip
     refine goes_ Tryz.func21 q9_ rfl #[.slice A0_2 l0_2.length c0_2, .int .i64 300] (by rfl) rfl rfl tS ?_
     with_reducible refine (fb_.calls _ _ l0_2 300 t116 _ ?side1 ?side2 A3.out).mono ?_
     (case side1 => repeat (first | exact (Kd.C_below HR0_2.out HB.out) | (with_reducible refine Kd.C_alloc ?_ _) | (with_reducible refine Kd.C_drewN ?_ _) | (with_reducible refine Kd.C_drew ?_)))
     (case side2 => exact HC0_2.out)
     rintro e w9 ⟨v117, rfl, ho0, hb⟩
     refine ⟨_, rfl, ?_⟩
     have n0_ := Aside0.mk (Kd.R_below (by (with_reducible repeat (first | apply Kd.R_alloc | apply Kd.R_drewN | apply Kd.R_drew)); exact HO112.out) hb)
     have n1_ := Aside0.mk ho0
     have n2_ := Aside0.mk (blk_below (g := gb108) (o := .cells #[.int .i64 a0_0, .slice A0_1 l0_1.length c0_1, .slice A0_2 l0_2.length c0_2] 28 (0, 0)) q14_ hb)
     have n3_ := Aside0.mk (blk_below (g := gb109) (o := .cells #[.int .i64 0, .slice none 0 0, .slice none 0 0] 28 (0, 0)) q38_ hb)
     have n4_ := Aside0.mk (below_step q7_ hb)
     clear HO112
     clear BK108
     clear BK109
     clear HB
     have HO112 := n0_
     have HO118 := n1_
     have BK108 := n2_
     have BK109 := n3_
     have HB := n4_
     clear n0_ n1_ n2_ n3_ n4_
     (try clear hb)
     (try clear hb2)
     (try clear hk)
     (try clear hi)
     (try clear ho0)
     refine hK.out _ _ ⟨(blk_cell BK108.out 0).trans rfl, (blk_cell BK108.out 1).trans rfl, (blk_cell BK108.out 2).trans rfl⟩ (fun hHeld => ?_)
     clear hK K
     refine norm_ (a' := ?_) ?_ ?_
     rotate_left
     ·show Act.put _ (some 11) _ = _
      simp only [Act.put, List.setIfInBounds_toArray, List.set_cons_zero, List.set_cons_succ, i64_w, i32_w]
      rfl
     refine one_ (i := 5) (N := some 8) #[true, true, true, true, true, true, true, true, true, false, false, false] rfl rfl (one_of HT_.out q9_) (by decide) (fun K hK => ?_)
     refine Kd.R_lit_step (Kd.int .u8) _ 5 ?hg (N := 8) ?hd (xs := ([] : List Int)) (inner := []) (ok := fun _ => True) (okp := fun _ => True) ?hr ?hp (fun _ hk => hk) trivial (Below.refl _ _) (Nat.le_refl _) (by simp) ?_; (case hd => rfl); (case hg => rfl); (case hr => first | (go_simp; done) | (go_simp; rfl)); (case hp => exact (Reps.none _ _))
     intro v114 w10 ho11 hb hg_ hnew_
     clear hg_ hnew_
     (first | rw [← Ny113.out] at ho11 | (simp only [Int.reduceToNat] at ho11; rw [← Ny113.out] at ho11))
     have n0_ := Aside0.mk (Kd.R_below (by (with_reducible repeat (first | apply Kd.R_alloc | apply Kd.R_drewN | apply Kd.R_drew)); exact HO112.out) hb)
     have n1_ := Aside0.mk (HO118.out)
     have n2_ := Aside0.mk (Kd.R_lower ho11 (below_size q7_))
     have n3_ := Aside0.mk (blk_below (g := gb108) (o := .cells #[.int .i64 a0_0, .slice A0_1 l0_1.length c0_1, .slice A0_2 l0_2.length c0_2] 28 (0, 0)) q14_ hb)
     have n4_ := Aside0.mk (blk_below (g := gb109) (o := .cells #[.int .i64 0, .slice none 0 0, .slice none 0 0] 28 (0, 0)) q38_ hb)
     have n5_ := Aside0.mk (below_step q7_ hb)
     clear HO112
     clear HO118
     clear BK108
     clear BK109
     clear HB
     have HO112 := n0_
     have HO118 := n1_
     have HO115 := n2_
     have BK108 := n3_
     have BK109 := n4_
     have HB := n5_
     clear n0_ n1_ n2_ n3_ n4_ n5_
     clear hb ho11
     refine hK.out _ _ ⟨(blk_cell BK108.out 0).trans rfl, (blk_cell BK108.out 1).trans rfl, (blk_cell BK108.out 2).trans rfl⟩ (fun hHeld => ?_)
     clear hK K
     refine norm_ (a' := ?_) ?_ ?_
     rotate_left
     ·show Act.put _ (some 8) _ = _
      simp only [Act.put, List.setIfInBounds_toArray, List.set_cons_zero, List.set_cons_succ, i64_w, i32_w]
      rfl
     exact norm_ (by simp only [putAll, Act.put, List.setIfInBounds_toArray, List.set_cons_zero, List.set_cons_succ]) (hCont (v111, v114, v117) _ ⟨hHeld, (by (with_reducible repeat (first | apply Kd.R_alloc | apply Kd.R_drewN | apply Kd.R_drew)); exact HO112.out), (by (with_reducible repeat (first | apply Kd.R_alloc | apply Kd.R_drewN | apply Kd.R_drew)); exact HO115.out), HO118.out, q14_, q38_, q7_⟩)
   ·skip
    refine Kd.R_lit_step (Kd.int .u8) _ 5 ?hg (N := 8) ?hd (xs := ([] : List Int)) (inner := []) (ok := fun _ => True) (okp := fun _ => True) ?hr ?hp (fun _ hk => hk) trivial (Below.refl _ _) (Nat.le_refl _) (by simp) ?_; (case hd => rfl); (case hg => rfl); (case hr => first | (go_simp; done) | (go_simp; rfl)); (case hp => exact (Reps.none _ _))
    intro v114 w8 ho9 hb hg_ hnew_
    clear hg_ hnew_
    (first | rw [← Ny113.out] at ho9 | (simp only [Int.reduceToNat] at ho9; rw [← Ny113.out] at ho9))
    have n0_ := Aside0.mk (Kd.R_lower ho9 (below_size q7_))
    have n1_ := Aside0.mk (blk_below (g := gb108) (o := .cells #[.int .i64 a0_0, .slice A0_1 l0_1.length c0_1, .slice A0_2 l0_2.length c0_2] 28 (0, 0)) q14_ hb)
    have n2_ := Aside0.mk (blk_below (g := gb109) (o := .cells #[.int .i64 0, .slice none 0 0, .slice none 0 0] 28 (0, 0)) q38_ hb)
    have n3_ := Aside0.mk (below_step q7_ hb)
    clear BK108
    clear BK109
    clear HB
    have HO115 := n0_
    have BK108 := n1_
    have BK109 := n2_
    have HB := n3_
    clear n0_ n1_ n2_ n3_
    clear hb ho9
    refine hK.out _ _ ⟨(blk_cell BK108.out 0).trans rfl, (blk_cell BK108.out 1).trans rfl, (blk_cell BK108.out 2).trans rfl⟩ (fun hHeld => ?_)
    clear hK K
    refine norm_ (a' := ?_) ?_ ?_
    rotate_left
    ·show Act.put _ (some 8) _ = _
     simp only [Act.put, List.setIfInBounds_toArray, List.set_cons_zero, List.set_cons_succ, i64_w, i32_w]
     rfl
    refine one_ (i := 4) (N := some 7) #[true, true, true, true, true, true, true, true, false, false, false, false] rfl rfl (one_of HT_.out q9_) (by decide) (fun K hK => ?_)
    refine goes_ Tryz.func37 q9_ rfl #[.slice A0_1 l0_1.length c0_1, .int .i64 12, .int .i64 200] (by rfl) rfl rfl tS ?_
    with_reducible refine (ostiarykeep_FewHeaders.calls k _ _ l0_1 12 200 t110 _ ?side1 ?side2 A2.out).mono ?_
    (case side1 => repeat (first | exact (Kd.C_below HR0_1.out HB.out) | (with_reducible refine Kd.C_alloc ?_ _) | (with_reducible refine Kd.C_drewN ?_ _) | (with_reducible refine Kd.C_drew ?_)))
    (case side2 => exact HC0_1.out)
    rintro e w10 ⟨v111, rfl, ho0, hb⟩
    refine ⟨_, rfl, ?_⟩
    have n0_ := Aside0.mk (Kd.R_below (by (with_reducible repeat (first | apply Kd.R_alloc | apply Kd.R_drewN | apply Kd.R_drew)); exact HO115.out) hb)
    have n1_ := Aside0.mk (Kd.R_lower ho0 (below_size q7_))
    have n2_ := Aside0.mk (blk_below (g := gb108) (o := .cells #[.int .i64 a0_0, .slice A0_1 l0_1.length c0_1, .slice A0_2 l0_2.length c0_2] 28 (0, 0)) q14_ hb)
    have n3_ := Aside0.mk (blk_below (g := gb109) (o := .cells #[.int .i64 0, .slice none 0 0, .slice none 0 0] 28 (0, 0)) q38_ hb)
    have n4_ := Aside0.mk (below_step q7_ hb)
    clear HO115
    clear BK108
    clear BK109
    clear HB
    have HO115 := n0_
    have HO112 := n1_
    have BK108 := n2_
    have BK109 := n3_
    have HB := n4_
    clear n0_ n1_ n2_ n3_ n4_
    (try clear hb)
    (try clear hb2)
    (try clear hk)
    (try clear hi)
    (try clear ho0)
    refine hK.out _ _ ⟨(blk_cell BK108.out 0).trans rfl, (blk_cell BK108.out 1).trans rfl, (blk_cell BK108.out 2).trans rfl⟩ (fun hHeld => ?_)
    clear hK K
    refine norm_ (a' := ?_) ?_ ?_
    rotate_left
    ·show Act.put _ (some 7) _ = _
     simp only [Act.put, List.setIfInBounds_toArray, List.set_cons_zero, List.set_cons_succ, i64_w, i32_w]
     rfl
    refine one_ (i := 8) (N := some 11) #[true, true, true, true, true, true, true, true, true, false, false, false] rfl rfl (one_of HT_.out q9_) (by decide) (fun K hK => ?_)
    refine goes_ Tryz.func21 q9_ rfl #[.slice A0_2 l0_2.length c0_2, .int .i64 300] (by rfl) rfl rfl tS ?_
    with_reducible refine (fb_.calls _ _ l0_2 300 t116 _ ?side1 ?side2 A3.out).mono ?_
    (case side1 => repeat (first | exact (Kd.C_below HR0_2.out HB.out) | (with_reducible refine Kd.C_alloc ?_ _) | (with_reducible refine Kd.C_drewN ?_ _) | (with_reducible refine Kd.C_drew ?_)))
    (case side2 => exact HC0_2.out)
    rintro e w11 ⟨v117, rfl, ho0, hb⟩
    refine ⟨_, rfl, ?_⟩
    have n0_ := Aside0.mk (Kd.R_below (by (with_reducible repeat (first | apply Kd.R_alloc | apply Kd.R_drewN | apply Kd.R_drew)); exact HO115.out) hb)
    have n1_ := Aside0.mk (Kd.R_below (by (with_reducible repeat (first | apply Kd.R_alloc | apply Kd.R_drewN | apply Kd.R_drew)); exact HO112.out) hb)
    have n2_ := Aside0.mk (ho0)
    have n3_ := Aside0.mk (blk_below (g := gb108) (o := .cells #[.int .i64 a0_0, .slice A0_1 l0_1.length c0_1, .slice A0_2 l0_2.length c0_2] 28 (0, 0)) q14_ hb)
    have n4_ := Aside0.mk (blk_below (g := gb109) (o := .cells #[.int .i64 0, .slice none 0 0, .slice none 0 0] 28 (0, 0)) q38_ hb)
    have n5_ := Aside0.mk (below_step q7_ hb)
    clear HO115
    clear HO112
    clear BK108
    clear BK109
    clear HB
    have HO115 := n0_
    have HO112 := n1_
    have HO118 := n2_
    have BK108 := n3_
    have BK109 := n4_
    have HB := n5_
    clear n0_ n1_ n2_ n3_ n4_ n5_
    (try clear hb)
    (try clear hb2)
    (try clear hk)
    (try clear hi)
    (try clear ho0)
    refine hK.out _ _ ⟨(blk_cell BK108.out 0).trans rfl, (blk_cell BK108.out 1).trans rfl, (blk_cell BK108.out 2).trans rfl⟩ (fun hHeld => ?_)
    clear hK K
    refine norm_ (a' := ?_) ?_ ?_
    rotate_left
    ·show Act.put _ (some 11) _ = _
     simp only [Act.put, List.setIfInBounds_toArray, List.set_cons_zero, List.set_cons_succ, i64_w, i32_w]
     rfl
    exact norm_ (by simp only [putAll, Act.put, List.setIfInBounds_toArray, List.set_cons_zero, List.set_cons_succ]) (hCont (v111, v114, v117) _ ⟨hHeld, (by (with_reducible repeat (first | apply Kd.R_alloc | apply Kd.R_drewN | apply Kd.R_drew)); exact HO112.out), (by (with_reducible repeat (first | apply Kd.R_alloc | apply Kd.R_drewN | apply Kd.R_drew)); exact HO115.out), HO118.out, q14_, q38_, q7_⟩)
  rintro ⟨v111, v114, v117⟩ w12 ⟨hS_, h0_, h1_, h2_, h3_, h4_, h5_⟩
  have n0_ : Aside0 (Kd.R k30 30 w12 w.heap.size (fun _ => True) v111 t110) := ⟨h0_⟩
  have n1_ : Aside0 (Kd.R (Kd.int .u8) 5 w12 w.heap.size (fun _ => True) v114 y113) := ⟨h1_⟩
  have n2_ : Aside0 (v117 = .slice A0_2 t116.length c0_2) := ⟨h2_⟩
  have n3_ : Aside0 (w12.heap[gb108]? = some (.cells #[.int .i64 a0_0, .slice A0_1 l0_1.length c0_1, .slice A0_2 l0_2.length c0_2] 28 (0, 0))) := ⟨h3_⟩
  have n4_ : Aside0 (w12.heap[gb109]? = some (.cells #[.int .i64 0, .slice none 0 0, .slice none 0 0] 28 (0, 0))) := ⟨h4_⟩
  have n5_ : Aside0 (Below w.heap.size w w12) := ⟨h5_⟩
  clear BK108
  clear BK109
  clear HB
  clear h0_ h1_ h2_ h3_ h4_ h5_
  have HO112 := n0_
  have HO115 := n1_
  have HO118 := n2_
  have BK108 := n3_
  have BK109 := n4_
  have HB := n5_
  clear n0_ n1_ n2_ n3_ n4_ n5_
  have hHeld : w12.cell? ⟨gb108, 0, none⟩ = some (.int .i64 a0_0) ∧ w12.cell? ⟨gb108, 1, none⟩ = some (.slice A0_1 l0_1.length c0_1) ∧ w12.cell? ⟨gb108, 2, none⟩ = some (.slice A0_2 l0_2.length c0_2) := hS_
  have eo_ := HO118.out
  subst eo_
  refine norm_ (a' := ?_) ?_ ?_
  rotate_left
  ·simp only [putAll, Act.put, List.setIfInBounds_toArray, List.set_cons_zero, List.set_cons_succ]
   rfl
  refine one_ (i := 9) (N := some 12) #[true, true, true, true, true, true, true, true, true, true, false, false] rfl rfl (one_of HT_.out q9_) (by decide) (fun K hK => ?_)
  refine Kd.R_append_rows_step (Kd.int .u8) (w0 := w) w.heap.size (by rfl) (.tmp 8) (.tmp 11) 26 5 (.int .u8 0) 1 rfl Tryz.underlying26 info5 rfl (by decide) (by omega) v114 y113 t116 _ _ _ (fun _ => True) (fun _ => False) rfl rfl ?aO ?aR (fun _ _ h => h) (fun _ h => h.elim) ?aF ?aB ?aS ?aL ?_
  (case aR => repeat (first | exact fb_reads (Kd.C_below HR0_2.out HB.out) A3.out | (with_reducible refine Kd.C_alloc ?_ _) | (with_reducible refine Kd.C_drewN ?_ _) | (with_reducible refine Kd.C_drew ?_)))
  (case aB => exact q7_)
  (case aF => exact fun _ _ => trivial)
  (case aO => exact (by (with_reducible repeat (first | apply Kd.R_alloc | apply Kd.R_drewN | apply Kd.R_drew)); exact HO115.out))
  (case aS => exact (below_size q7_))
  (case aL => have := LMc4.out; omega)
  intro v120 w13 ho hb hg hat
  rw [← Ny119.out] at ho
  have n0_ := Aside0.mk (blk_grown (g := gb108) (o := .cells #[.int .i64 a0_0, .slice A0_1 l0_1.length c0_1, .slice A0_2 l0_2.length c0_2] 28 (0, 0)) q14_ hg (Kd.R_ne HO115.out BK108.out (by decide)))
  have n1_ := Aside0.mk (blk_grown (g := gb109) (o := .cells #[.int .i64 0, .slice none 0 0, .slice none 0 0] 28 (0, 0)) q38_ hg (Kd.R_ne HO115.out BK109.out (by decide)))
  have n2_ := Aside0.mk (Kd.R_over' (by (with_reducible repeat (first | apply Kd.R_alloc | apply Kd.R_drewN | apply Kd.R_drew)); exact HO112.out) (Kd.R_typed (by (with_reducible repeat (first | apply Kd.R_alloc | apply Kd.R_drewN | apply Kd.R_drew)); exact HO115.out)) (by decide) hg)
  have n3_ := HO118
  have n4_ := Aside0.mk (hb)
  have n5_ := Aside0.mk (ho)
  clear BK108
  clear BK109
  clear HO112
  clear HO118
  clear HB
  clear HO115
  have BK108 := n0_
  have BK109 := n1_
  have HO112 := n2_
  have HO118 := n3_
  have HB := n4_
  have HO121 := n5_
  clear n0_ n1_ n2_ n3_ n4_ n5_
  clear ho hb hg hat
  obtain ⟨Ao15, co15, eo15⟩ := Kd.R_slice HO121.out
  (first | subst eo15 | (injection eo15 with f1_ f2_ f3_; have f4_ := f1_.symm; have f5_ := f3_.symm; clear f1_ f2_ f3_; subst f4_; subst f5_))
  obtain ⟨Ao16, co16, eo16⟩ := Kd.R_slice HO112.out
  (first | subst eo16 | (injection eo16 with f1_ f2_ f3_; have f4_ := f1_.symm; have f5_ := f3_.symm; clear f1_ f2_ f3_; subst f4_; subst f5_))
  refine hK.out _ _ ⟨(blk_cell BK108.out 0).trans rfl, (blk_cell BK108.out 1).trans rfl, (blk_cell BK108.out 2).trans rfl⟩ (fun hHeld => ?_)
  clear hK K
  refine norm_ (a' := ?_) ?_ ?_
  rotate_left
  ·show Act.put _ (some 12) _ = _
   simp only [Act.put, List.setIfInBounds_toArray, List.set_cons_zero, List.set_cons_succ, i64_w, i32_w]
   rfl
  refine pure_ (i := 10) (N := some 13) (v := ?_) (a' := ?_) #[true, true, true, true, true, true, true, true, true, true, true, false] rfl rfl (any_of HT_.out q9_) (fun _ _ _ h => h) (Or.inl ⟨by rfl, ?_⟩) ?_ ?_
  rotate_left
  ·intro w'
   go_simp
   with_reducible rfl
  rotate_left
  ·simp only [Act.put, List.setIfInBounds_toArray, List.set_cons_zero, List.set_cons_succ, i64_w, i32_w]
   rfl
  refine one_ (i := 11) (N := none) #[true, true, true, true, true, true, true, true, true, true, true, true] rfl rfl (one_of HT_.out q9_) (by decide) (fun K hK => ?_)
  have hs17 : w13.cell? ⟨gb109, 0, none⟩ = some (.int .i64 0) := (blk_cell BK109.out 0).trans rfl
  have hfs17 := blk_frozen BK109.out 0
  have hns17_0 := NB108_109.out
  have hms17_0 := NB109_108.out
  have hs18 : w13.cell? ⟨gb109, 1, none⟩ = some (.slice none 0 0) := (blk_cell BK109.out 1).trans rfl
  have hfs18 := blk_frozen BK109.out 1
  have hns18_0 := NB108_109.out
  have hms18_0 := NB109_108.out
  have hs19 : w13.cell? ⟨gb109, 2, none⟩ = some (.slice none 0 0) := (blk_cell BK109.out 2).trans rfl
  have hfs19 := blk_frozen BK109.out 2
  have hns19_0 := NB108_109.out
  have hms19_0 := NB109_108.out
  refine skip_ (w1 := ?_) (by rfl) rfl ?_ ?_
  rotate_left
  ·go_simp
   rfl
  refine hK.out _ _ ⟨((cell_far (p := ⟨gb109, _, none⟩) NB108_109.out _).trans (((cell_far (p := ⟨gb109, _, none⟩) NB108_109.out _).trans (((cell_far (p := ⟨gb109, _, none⟩) NB108_109.out _).trans (hHeld.1)))))), ((cell_far (p := ⟨gb109, _, none⟩) NB108_109.out _).trans (((cell_far (p := ⟨gb109, _, none⟩) NB108_109.out _).trans (((cell_far (p := ⟨gb109, _, none⟩) NB108_109.out _).trans (hHeld.2.1)))))), ((cell_far (p := ⟨gb109, _, none⟩) NB108_109.out _).trans (((cell_far (p := ⟨gb109, _, none⟩) NB108_109.out _).trans (((cell_far (p := ⟨gb109, _, none⟩) NB108_109.out _).trans (hHeld.2.2))))))⟩ (fun hHeld => ?_)
  clear hK K
  refine done_ (done_of HT_.out q9_) ?_
  try go_wp2
  refine bodyPost_ret (results_cell_row rfl _ _ gb109 28 #[.int .i64 a0_0, .slice Ao16 t110.length co16, .slice Ao15 y119.length co15] (0, 0) _ rfl (by (with_reducible repeat (first | refine blk_drewN ?_ _ | refine blk_drew ?_ | refine blk_alloc ?_ _)); refine blk_put (cs := #[.int .i64 a0_0, .slice Ao16 t110.length co16, .slice none 0 0]) ?_ 2 _ rfl; (with_reducible repeat (first | refine blk_drewN ?_ _ | refine blk_drew ?_ | refine blk_alloc ?_ _)); refine blk_put (cs := #[.int .i64 a0_0, .slice none 0 0, .slice none 0 0]) ?_ 1 _ rfl; (with_reducible repeat (first | refine blk_drewN ?_ _ | refine blk_drew ?_ | refine blk_alloc ?_ _)); refine blk_put (cs := #[.int .i64 0, .slice none 0 0, .slice none 0 0]) ?_ 0 _ rfl; (with_reducible repeat (first | refine blk_drewN ?_ _ | refine blk_drew ?_ | refine blk_alloc ?_ _)); exact BK109.out) Tryz.underlying28 rfl q9_) rfl ?_
  exact ⟨_, _, by first | rfl | (simp [errW_none, errW_some] <;> rfl) | (simp [*, errW_none, errW_some] <;> rfl), by (with_reducible repeat (first | apply Kd.R_alloc | apply Kd.R_drewN | apply Kd.R_drew)); exact Kd.R_mono (Kd.R_far (p := ⟨gb109, 2, none⟩) (Kd.R_far (p := ⟨gb109, 1, none⟩) (Kd.R_far (p := ⟨gb109, 0, none⟩) (Kd.R_types HO112.out BK109.out (by decide)) (fun _ hk => hk.2) (.int .i64 a0_0)) (fun _ hk => hk.2) (.slice Ao16 t110.length co16)) (fun _ hk => hk.2) (.slice Ao15 y119.length co15)) (fun _ hk => trivial), by (with_reducible repeat (first | apply Kd.R_alloc | apply Kd.R_drewN | apply Kd.R_drew)); exact Kd.R_mono (Kd.R_far (p := ⟨gb109, 2, none⟩) (Kd.R_far (p := ⟨gb109, 1, none⟩) (Kd.R_far (p := ⟨gb109, 0, none⟩) (Kd.R_types HO121.out BK109.out (by decide)) (fun _ hk => hk.2) (.int .i64 a0_0)) (fun _ hk => hk.2) (.slice Ao16 t110.length co16)) (fun _ hk => hk.2) (.slice Ao15 y119.length co15)) (fun _ hk => trivial), by repeat (first | (with_reducible first | exact HB.out | apply below_alloc | apply pw_below_drewN | apply below_drew1 | refine below_set ?_ GE108.out | refine below_set ?_ GE109.out) | exact HB.out)⟩
 ·rw [if_neg c4] at H
  exact absurd H (by simp)
end Go.Proofs.YtifmkgkiipckbaaGreatDoor.P
