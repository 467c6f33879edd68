/- A part of the proof of FS: texts of walks and plain lemmas. -/
import Derived.Test.YtifmkgkiipckbaaGreatDoorXFS1
import Derived.Test.YtifmkgkiipckbaaGreatDoorXFS10
import Derived.Test.YtifmkgkiipckbaaGreatDoorXFS11
namespace Go.Proofs.YtifmkgkiipckbaaGreatDoor.P
open Go.RowKit Go.Proofs.YtifmkgkiipckbaaGreatDoorW.PrintWords Go.Proofs.YtifmkgkiipckbaaGreatDoorW.PrintLast Go.Proofs.YtifmkgkiipckbaaGreatDoorW.PrintMore
attribute [local go_sem] max2_int min2_int max_two min_two max_three min_three max_four min_four
set_option linter.unusedVariables false
set_option linter.unusedSimpArgs false
def ostiaryref20_Share.l0 : Nat → List (S30) → List ByteArray → Bool → Int → Int → Int → List (S30) → List Int → ByteArray → Option (Int × Int × (List (S30)) × List Int × ByteArray)
 | 0, _, _, _, _, _, _, _, _, _ => none
 | k + 1, x8, x9, x10, x11, x189000, x189001, x189002, x189003, x189004 => if x11 < (x8.length : Int) then (if x10 = true then (if 0 ≤ x11 then (if x189002.length < 4398046511104 then (ostiaryref20_Share.l0 k x8 x9 x10 (wrap64 (x11 + 1)) x189000 x189001 (x189002 ++ [(⟨(rd_T30 x8 x11).f0, (rd_T30 x8 x11).f1⟩ : S30)]) x189003 x189004) else (none)) else (none)) else (if 0 ≤ x11 then ((ostiaryref1_Lower.f ((rd_T30 x8 x11).f0)).bind fun t204 => ((ostiaryref1_Has.f k x9 t204).bind fun t205 => (if t205 = true then (if x189002.length < 4398046511104 then (ostiaryref20_Share.l0 k x8 x9 x10 (wrap64 (x11 + 1)) x189000 x189001 (x189002 ++ [(⟨(rd_T30 x8 x11).f0, (rd_T30 x8 x11).f1⟩ : S30)]) x189003 x189004) else (none)) else (ostiaryref20_Share.l0 k x8 x9 x10 (wrap64 (x11 + 1)) x189000 x189001 x189002 x189003 x189004)))) else (none))) else (some (x189000, x189001, x189002, x189003, x189004))
def ostiaryref20_Share.f (k : Nat) (a0_0 : Int) (l0_1 : List (S30)) (l0_2 : List Int) (a1 : ByteArray) (a2 : Bool) : Option (Int × Int × (List (S30)) × List Int × ByteArray) := (ostiaryref20_Own.f k a0_0 l0_1 l0_2 a1).bind fun bt179 => ((ostiaryref18_Exposed.f k l0_1 a2).bind fun bt189 => ((some (([(⟨#[99, 97, 99, 104, 101, 45, 99, 111, 110, 116, 114, 111, 108]⟩ : ByteArray), (⟨#[99, 111, 110, 116, 101, 110, 116, 45, 108, 97, 110, 103, 117, 97, 103, 101]⟩ : ByteArray), (⟨#[99, 111, 110, 116, 101, 110, 116, 45, 108, 101, 110, 103, 116, 104]⟩ : ByteArray), (⟨#[99, 111, 110, 116, 101, 110, 116, 45, 116, 121, 112, 101]⟩ : ByteArray), (⟨#[101, 120, 112, 105, 114, 101, 115]⟩ : ByteArray), (⟨#[108, 97, 115, 116, 45, 109, 111, 100, 105, 102, 105, 101, 100]⟩ : ByteArray), (⟨#[112, 114, 97, 103, 109, 97]⟩ : ByteArray)] : List ByteArray) : List ByteArray)).bind fun y193 => (if bt189.1.length + y193.length < 8796093022208 then (ostiaryref20_Share.l0 k bt179.2.2.1 (bt189.1 ++ y193) bt189.2 0 3 bt179.2.1 ([] : List (S30)) bt179.2.2.2.1 bt179.2.2.2.2) else (none))))
theorem ostiaryref20_Share.mono_l : ∀ k, (∀ y0 y1 y2 y3 y4 y5 y6 y7 y8, LeO (ostiaryref20_Share.l0 k y0 y1 y2 y3 y4 y5 y6 y7 y8) (ostiaryref20_Share.l0 (k + 1) y0 y1 y2 y3 y4 y5 y6 y7 y8))
 | 0 => fun _ _ _ _ _ _ _ _ _ r h => by simp [ostiaryref20_Share.l0] at h
 | k + 1 => by
  have ih0 := ostiaryref20_Share.mono_l k
  ·intro y0 y1 y2 y3 y4 y5 y6 y7 y8
   unfold ostiaryref20_Share.l0
   repeat' first
   | (with_reducible exact ih0 _ _ _ _ _ _ _ _ _)
   | (with_reducible exact ostiaryref18_Exposed.mono _ _ _)
   | (with_reducible exact ostiaryref1_Has.mono _ _ _)
   | (with_reducible exact ostiaryref20_Own.mono _ _ _ _ _)
   | (with_reducible exact LeO.refl _)
   | (with_reducible exact LeO.none _)
   | (with_reducible refine LeO.ite ?_ ?_)
   | (with_reducible refine LeO.bind ?_ (fun _ => ?_))
   | exact ih0 _ _ _ _ _ _ _ _ _
   | exact ostiaryref18_Exposed.mono _ _ _
   | exact ostiaryref1_Has.mono _ _ _
   | exact ostiaryref20_Own.mono _ _ _ _ _
   | exact LeO.none _
   | refine LeO.ite ?_ ?_
   | refine LeO.bind ?_ (fun _ => ?_)
theorem ostiaryref20_Share.mono : ∀ a0 a1 a2 a3 a4 k, LeO (ostiaryref20_Share.f k a0 a1 a2 a3 a4) (ostiaryref20_Share.f (k + 1) a0 a1 a2 a3 a4) := by
 intro a0 a1 a2 a3 a4 k
 have ih0 := ostiaryref20_Share.mono_l k
 unfold ostiaryref20_Share.f
 repeat' first
   | (with_reducible exact ih0 _ _ _ _ _ _ _ _ _)
   | (with_reducible exact ostiaryref18_Exposed.mono _ _ _)
   | (with_reducible exact ostiaryref1_Has.mono _ _ _)
   | (with_reducible exact ostiaryref20_Own.mono _ _ _ _ _)
   | (with_reducible exact LeO.refl _)
   | (with_reducible exact LeO.none _)
   | (with_reducible refine LeO.ite ?_ ?_)
   | (with_reducible refine LeO.bind ?_ (fun _ => ?_))
   | exact ih0 _ _ _ _ _ _ _ _ _
   | exact ostiaryref18_Exposed.mono _ _ _
   | exact ostiaryref1_Has.mono _ _ _
   | exact ostiaryref20_Own.mono _ _ _ _ _
   | exact LeO.none _
   | refine LeO.ite ?_ ?_
   | refine LeO.bind ?_ (fun _ => ?_)
def ostiaryref20_Share.T11 : Bool × List (List Nat × List Nat) := (true, [([], []), ([0], [0]), ([], []), ([], []), ([2, 3], [2, 3]), ([4], [4]), ([5], [5]), ([1, 6], [1, 6]), ([0, 1, 2, 3, 4, 5, 6, 7], []), ([8, 7, 7, 0, 1, 2, 3, 4, 5, 6, 7], [7, 8])])
def ostiaryref20_Share.B11 : List Nat := [0, 1, 0, 0, 12, 28, 60, 127, 255, 511]
theorem ostiaryref20_Share.tab11 : rtab .any (opsOf Tryz.f58 11) = ostiaryref20_Share.T11 := by kernel_rfl
theorem ostiaryref20_Share.bits11 : waitsOk ostiaryref20_Share.T11.2 ostiaryref20_Share.B11 = true := by kernel_rfl
set_option maxHeartbeats 8000000 in
set_option maxRecDepth 100000 in
theorem ostiaryref20_Share.calls (k : Nat) (a0_0 : Int) (A0_1 : Option Addr) (c0_1 : Nat) (l0_1 : List (S30)) (A0_2 : Option Addr) (c0_2 : Nat) (l0_2 : List Int) (a1 : ByteArray) (a2 : Bool) (r1 : Int) (r2 : Int) (r3 : List (S30)) (r4 : List Int) (r5 : ByteArray) (w : World) (hr0_1 : Kd.C k30 w A0_1 l0_1.length l0_1) (hc0_1 : l0_1.length ≤ c0_1) (hr0_2 : Kd.C (Kd.int .u8) w A0_2 l0_2.length l0_2) (hc0_2 : l0_2.length ≤ c0_2) (h : ostiaryref20_Share.f k a0_0 l0_1 l0_2 a1 a2 = some (r1, r2, r3, r4, r5)) :
  Calls Tryz.prog 58 #[.agg #[.int .i64 a0_0, .slice A0_1 l0_1.length c0_1, .slice A0_2 l0_2.length c0_2], .string a1, .bool a2] w fun e w' => ∃ v2_ v3_ : Value, e = .returned (.agg #[.int .i64 r1, .int .i64 r2, v2_, v3_, .string r5]) ∧ Kd.R k30 30 w' w.heap.size (fun _ => True) v2_ r3 ∧ Kd.R (Kd.int .u8) 5 w' w.heap.size (fun _ => True) v3_ r4 ∧ Below w.heap.size w w' := by
 have hu28 := Tryz.underlying28
 have hu93 := Tryz.underlying93
 have hu30 := Tryz.underlying30
 have HR0_1 := Aside0.mk hr0_1
 have HC0_1 := Aside0.mk hc0_1
 clear hr0_1 hc0_1
 have HR0_2 := Aside0.mk hr0_2
 have HC0_2 := Aside0.mk hc0_2
 clear hr0_2 hc0_2
 have HB := Aside0.mk (Below.refl w.heap.size w)
 have H : ((ostiaryref20_Own.f k a0_0 l0_1 l0_2 a1).bind fun bt179 => ((ostiaryref18_Exposed.f k l0_1 a2).bind fun bt189 => ((some (([(⟨#[99, 97, 99, 104, 101, 45, 99, 111, 110, 116, 114, 111, 108]⟩ : ByteArray), (⟨#[99, 111, 110, 116, 101, 110, 116, 45, 108, 97, 110, 103, 117, 97, 103, 101]⟩ : ByteArray), (⟨#[99, 111, 110, 116, 101, 110, 116, 45, 108, 101, 110, 103, 116, 104]⟩ : ByteArray), (⟨#[99, 111, 110, 116, 101, 110, 116, 45, 116, 121, 112, 101]⟩ : ByteArray), (⟨#[101, 120, 112, 105, 114, 101, 115]⟩ : ByteArray), (⟨#[108, 97, 115, 116, 45, 109, 111, 100, 105, 102, 105, 101, 100]⟩ : ByteArray), (⟨#[112, 114, 97, 103, 109, 97]⟩ : ByteArray)] : List ByteArray) : List ByteArray)).bind fun y193 => (if bt189.1.length + y193.length < 8796093022208 then (ostiaryref20_Share.l0 k bt179.2.2.1 (bt189.1 ++ y193) bt189.2 0 3 bt179.2.1 ([] : List (S30)) bt179.2.2.2.1 bt179.2.2.2.2) else (none))))) = some (r1, r2, r3, r4, r5) := h
 clear h
 replace H := Option.bind_eq_some_iff.mp H
 obtain ⟨⟨t179, t180, t181, t184, t187⟩, A40, H⟩ := H
 replace H : ((ostiaryref18_Exposed.f k l0_1 a2).bind fun bt189 => ((some (([(⟨#[99, 97, 99, 104, 101, 45, 99, 111, 110, 116, 114, 111, 108]⟩ : ByteArray), (⟨#[99, 111, 110, 116, 101, 110, 116, 45, 108, 97, 110, 103, 117, 97, 103, 101]⟩ : ByteArray), (⟨#[99, 111, 110, 116, 101, 110, 116, 45, 108, 101, 110, 103, 116, 104]⟩ : ByteArray), (⟨#[99, 111, 110, 116, 101, 110, 116, 45, 116, 121, 112, 101]⟩ : ByteArray), (⟨#[101, 120, 112, 105, 114, 101, 115]⟩ : ByteArray), (⟨#[108, 97, 115, 116, 45, 109, 111, 100, 105, 102, 105, 101, 100]⟩ : ByteArray), (⟨#[112, 114, 97, 103, 109, 97]⟩ : ByteArray)] : List ByteArray) : List ByteArray)).bind fun y193 => (if bt189.1.length + y193.length < 8796093022208 then (ostiaryref20_Share.l0 k t181 (bt189.1 ++ y193) bt189.2 0 3 t180 ([] : List (S30)) t184 t187) else (none)))) = some (r1, r2, r3, r4, r5) := H
 have A4 := Aside0.mk A40
 clear A40
 replace H := Option.bind_eq_some_iff.mp H
 obtain ⟨⟨t189, t190⟩, A50, H⟩ := H
 replace H : ((some (([(⟨#[99, 97, 99, 104, 101, 45, 99, 111, 110, 116, 114, 111, 108]⟩ : ByteArray), (⟨#[99, 111, 110, 116, 101, 110, 116, 45, 108, 97, 110, 103, 117, 97, 103, 101]⟩ : ByteArray), (⟨#[99, 111, 110, 116, 101, 110, 116, 45, 108, 101, 110, 103, 116, 104]⟩ : ByteArray), (⟨#[99, 111, 110, 116, 101, 110, 116, 45, 116, 121, 112, 101]⟩ : ByteArray), (⟨#[101, 120, 112, 105, 114, 101, 115]⟩ : ByteArray), (⟨#[108, 97, 115, 116, 45, 109, 111, 100, 105, 102, 105, 101, 100]⟩ : ByteArray), (⟨#[112, 114, 97, 103, 109, 97]⟩ : ByteArray)] : List ByteArray) : List ByteArray)).bind fun y193 => (if t189.length + y193.length < 8796093022208 then (ostiaryref20_Share.l0 k t181 (t189 ++ y193) t190 0 3 t180 ([] : List (S30)) t184 t187) else (none))) = some (r1, r2, r3, r4, r5) := H
 have A5 := Aside0.mk A50
 clear A50
 obtain ⟨y193, hy193⟩ : ∃ y_ : List ByteArray, y_ = (([(⟨#[99, 97, 99, 104, 101, 45, 99, 111, 110, 116, 114, 111, 108]⟩ : ByteArray), (⟨#[99, 111, 110, 116, 101, 110, 116, 45, 108, 97, 110, 103, 117, 97, 103, 101]⟩ : ByteArray), (⟨#[99, 111, 110, 116, 101, 110, 116, 45, 108, 101, 110, 103, 116, 104]⟩ : ByteArray), (⟨#[99, 111, 110, 116, 101, 110, 116, 45, 116, 121, 112, 101]⟩ : ByteArray), (⟨#[101, 120, 112, 105, 114, 101, 115]⟩ : ByteArray), (⟨#[108, 97, 115, 116, 45, 109, 111, 100, 105, 102, 105, 101, 100]⟩ : ByteArray), (⟨#[112, 114, 97, 103, 109, 97]⟩ : ByteArray)] : List ByteArray)) := ⟨_, rfl⟩
 replace H : (if t189.length + y193.length < 8796093022208 then (ostiaryref20_Share.l0 k t181 (t189 ++ y193) t190 0 3 t180 ([] : List (S30)) t184 t187) else (none)) = some (r1, r2, r3, r4, r5) := by first | (rw [hy193]; with_reducible exact H) | (have H2_ := (Option.bind_some _ _).symm.trans H; rw [hy193]; with_reducible exact H2_) | (have H2_ := (Option.bind_some _ _).symm.trans H; with_reducible exact H2_) | with_reducible exact H | (rw [hy193]; exact H) | exact H
 have Ny193 := Aside0.mk hy193
 clear hy193
 by_cases c6 : t189.length + y193.length < 8796093022208
 ·rw [if_pos c6] at H
  have LMc6 := Aside0.mk c6
  clear c6
  obtain ⟨y196, hy196⟩ : ∃ y_ : List ByteArray, y_ = (t189 ++ y193) := ⟨_, rfl⟩
  replace H : (ostiaryref20_Share.l0 k t181 y196 t190 0 3 t180 ([] : List (S30)) t184 t187) = some (r1, r2, r3, r4, r5) := by first | (rw [hy196]; with_reducible exact H) | (have H2_ := (Option.bind_some _ _).symm.trans H; rw [hy196]; with_reducible exact H2_) | (have H2_ := (Option.bind_some _ _).symm.trans H; with_reducible exact H2_) | with_reducible exact H | (rw [hy196]; exact H) | exact H
  have Ny196 := Aside0.mk hy196
  clear hy196
  have H' := Aside0.mk H
  clear H
  go_enter Tryz.func58, Tryz.ntmps58
  go_wp2_with (first | ((with_reducible refine gate_dst (N := 3) rfl ?_); refine box_event ?hg (N := 3) ?hd (cs := #[.int .i64 a0_0, .slice A0_1 l0_1.length c0_1, .slice A0_2 l0_2.length c0_2]) (t := 28) ?hr ?_; (case hd => rfl); (case hg => rfl); (case hr => first | (go_simp; done) | (go_simp; rfl)); intro gb177 hg w7 hbox hb; have n0_ := Aside0.mk (below_step hB hb); have n1_ := Aside0.mk (hbox); have n2_ := Aside0.mk ((by rw [hg]; exact (below_size hB) : w.heap.size ≤ gb177)); have n3_ := Aside0.mk ((by rw [hg]; exact (below_size hB) : w.heap.size ≤ gb177)); clear HB; have HB := n0_; have BK177 := n1_; have GW177 := n2_; have GE177 := n3_; clear n0_ n1_ n2_ n3_; clear hb hbox hg) | ((with_reducible refine gate_dst (N := 6) rfl ?_); refine box_event ?hg (N := 6) ?hd (cs := #[.int .i64 0, .int .i64 0, .slice none 0 0, .slice none 0 0, .string (⟨#[]⟩ : ByteArray)]) (t := 93) ?hr ?_; (case hd => rfl); (case hg => rfl); (case hr => first | (go_simp; done) | (go_simp; rfl)); intro gb178 hg w8 hbox hb; have n0_ := Aside0.mk (blk_below (g := gb177) (o := .cells #[.int .i64 a0_0, .slice A0_1 l0_1.length c0_1, .slice A0_2 l0_2.length c0_2] 28 (0, 0)) q26_ hb); have n1_ := Aside0.mk (below_step (by repeat (first | (with_reducible first | exact HB.out | apply below_alloc | apply pw_below_drewN | apply below_drew1 | refine below_set ?_ GE177.out) | exact HB.out)) hb); have n2_ := Aside0.mk (hbox); have n3_ := Aside0.mk ((by rw [hg]; exact (below_size (by repeat (first | (with_reducible first | exact HB.out | apply below_alloc | apply pw_below_drewN | apply below_drew1 | refine below_set ?_ GE177.out) | exact HB.out))) : w.heap.size ≤ gb178)); have n4_ := Aside0.mk ((by rw [hg]; exact (below_size (by repeat (first | (with_reducible first | exact HB.out | apply below_alloc | apply pw_below_drewN | apply below_drew1 | refine below_set ?_ GE177.out) | exact HB.out))) : w.heap.size ≤ gb178)); have n5_ := Aside0.mk ((by rw [hg]; exact Nat.ne_of_lt (blk_lt (g := gb177) (o := .cells #[.int .i64 a0_0, .slice A0_1 l0_1.length c0_1, .slice A0_2 l0_2.length c0_2] 28 (0, 0)) q26_) : gb177 ≠ gb178)); have n6_ := Aside0.mk ((by rw [hg]; exact Nat.ne_of_gt (blk_lt (g := gb177) (o := .cells #[.int .i64 a0_0, .slice A0_1 l0_1.length c0_1, .slice A0_2 l0_2.length c0_2] 28 (0, 0)) q26_) : gb178 ≠ gb177)); clear BK177; clear HB; have BK177 := n0_; have HB := n1_; have BK178 := n2_; have GW178 := n3_; have GE178 := n4_; have NB177_178 := n5_; have NB178_177 := n6_; clear n0_ n1_ n2_ n3_ n4_ n5_ n6_; clear hb hbox hg; have hnb9 := NB177_178.out; have hnc9 := NB178_177.out; have hcz10_0 : w8.cell? ⟨gb177, 0, none⟩ = some (.int .i64 a0_0) := (blk_cell BK177.out 0).trans rfl; have hcz10_1 : w8.cell? ⟨gb177, 1, none⟩ = some (.slice A0_1 l0_1.length c0_1) := (blk_cell BK177.out 1).trans rfl; have hcz10_2 : w8.cell? ⟨gb177, 2, none⟩ = some (.slice A0_2 l0_2.length c0_2) := (blk_cell BK177.out 2).trans rfl; have hfz10_0 := blk_frozen BK177.out 0; have hfz10_1 := blk_frozen BK177.out 1; have hfz10_2 := blk_frozen BK177.out 2) | ((with_reducible refine gate_callee (f := 56) rfl ?_); refine goesL_ (some 14) rfl rfl Tryz.func56 q9_ rfl #[.agg #[.int .i64 a0_0, .slice A0_1 l0_1.length c0_1, .slice A0_2 l0_2.length c0_2], .string a1] rfl tS ?_; (with_reducible refine (ostiaryref20_Own.calls k a0_0 _ _ l0_1 _ _ l0_2 a1 t179 t180 t181 t184 t187 _ ?side1 ?side2 ?side3 ?side4 A4.out).mono ?_); (case side1 => repeat (first | exact (Kd.C_below HR0_1.out HB.out) | (with_reducible refine Kd.C_alloc ?_ _) | (with_reducible refine Kd.C_drewN ?_ _) | (with_reducible refine Kd.C_drew ?_))); (case side2 => exact HC0_1.out); (case side3 => repeat (first | exact (Kd.C_below HR0_2.out HB.out) | (with_reducible refine Kd.C_alloc ?_ _) | (with_reducible refine Kd.C_drewN ?_ _) | (with_reducible refine Kd.C_drew ?_))); (case side4 => exact HC0_2.out); rintro e w11 ⟨v182, v185, rfl, ho0, ho1, hb⟩; refine ⟨_, rfl, ?_⟩; have n0_ := Aside0.mk (Kd.R_lower ho0 (below_size (by repeat (first | (with_reducible first | exact HB.out | apply below_alloc | apply pw_below_drewN | apply below_drew1 | refine below_set ?_ GE177.out | refine below_set ?_ GE178.out) | exact HB.out)))); have n1_ := Aside0.mk (Kd.R_lower ho1 (below_size (by repeat (first | (with_reducible first | exact HB.out | apply below_alloc | apply pw_below_drewN | apply below_drew1 | refine below_set ?_ GE177.out | refine below_set ?_ GE178.out) | exact HB.out)))); have n2_ := Aside0.mk (blk_below (g := gb177) (o := .cells #[.int .i64 a0_0, .slice A0_1 l0_1.length c0_1, .slice A0_2 l0_2.length c0_2] 28 (0, 0)) q26_ hb); have n3_ := Aside0.mk (blk_below (g := gb178) (o := .cells #[.int .i64 0, .int .i64 0, .slice none 0 0, .slice none 0 0, .string (⟨#[]⟩ : ByteArray)] 93 (0, 0)) (by (with_reducible repeat (first | refine blk_drewN ?_ _ | refine blk_drew ?_ | refine blk_alloc ?_ _)); exact BK178.out) hb); have n4_ := Aside0.mk (below_step (by repeat (first | (with_reducible first | exact HB.out | apply below_alloc | apply pw_below_drewN | apply below_drew1 | refine below_set ?_ GE177.out | refine below_set ?_ GE178.out) | exact HB.out)) hb); clear BK177; clear BK178; clear HB; have HO183 := n0_; have HO186 := n1_; have BK177 := n2_; have BK178 := n3_; have HB := n4_; clear n0_ n1_ n2_ n3_ n4_; (try clear hb); (try clear hb2); (try clear hk); (try clear hi); (try clear ho0); (try clear ho1)) | ((with_reducible refine gate_dst (N := 7) rfl ?_); refine box_event ?hg (N := 7) ?hd (cs := #[.int .i64 0, .int .i64 0, .slice none 0 0, .slice none 0 0, .string (⟨#[]⟩ : ByteArray)]) (t := 93) ?hr ?_; (case hd => rfl); (case hg => rfl); (case hr => first | (go_simp; done) | (go_simp; rfl)); intro gb188 hg w12 hbox hb; have n0_ := Aside0.mk (Kd.R_below (by (with_reducible repeat (first | apply Kd.R_alloc | apply Kd.R_drewN | apply Kd.R_drew)); exact HO183.out) hb); have n1_ := Aside0.mk (Kd.R_below (by (with_reducible repeat (first | apply Kd.R_alloc | apply Kd.R_drewN | apply Kd.R_drew)); exact HO186.out) hb); have n2_ := Aside0.mk (blk_below (g := gb177) (o := .cells #[.int .i64 a0_0, .slice A0_1 l0_1.length c0_1, .slice A0_2 l0_2.length c0_2] 28 (0, 0)) q26_ hb); have n3_ := Aside0.mk (blk_below (g := gb178) (o := .cells #[.int .i64 0, .int .i64 0, .slice none 0 0, .slice none 0 0, .string (⟨#[]⟩ : ByteArray)] 93 (0, 0)) (by (with_reducible repeat (first | refine blk_drewN ?_ _ | refine blk_drew ?_ | refine blk_alloc ?_ _)); exact BK178.out) hb); have n4_ := Aside0.mk (below_step (by repeat (first | (with_reducible first | exact HB.out | apply below_alloc | apply pw_below_drewN | apply below_drew1 | refine below_set ?_ GE177.out | refine below_set ?_ GE178.out) | exact HB.out)) hb); have n5_ := Aside0.mk (hbox); have n6_ := Aside0.mk ((by rw [hg]; exact (below_size (by repeat (first | (with_reducible first | exact HB.out | apply below_alloc | apply pw_below_drewN | apply below_drew1 | refine below_set ?_ GE177.out | refine below_set ?_ GE178.out) | exact HB.out))) : w.heap.size ≤ gb188)); have n7_ := Aside0.mk ((by rw [hg]; exact (below_size (by repeat (first | (with_reducible first | exact HB.out | apply below_alloc | apply pw_below_drewN | apply below_drew1 | refine below_set ?_ GE177.out | refine below_set ?_ GE178.out) | exact HB.out))) : w.heap.size ≤ gb188)); have n8_ := Aside0.mk ((by rw [hg]; exact Nat.ne_of_lt (blk_lt (g := gb177) (o := .cells #[.int .i64 a0_0, .slice A0_1 l0_1.length c0_1, .slice A0_2 l0_2.length c0_2] 28 (0, 0)) q26_) : gb177 ≠ gb188)); have n9_ := Aside0.mk ((by rw [hg]; exact Nat.ne_of_gt (blk_lt (g := gb177) (o := .cells #[.int .i64 a0_0, .slice A0_1 l0_1.length c0_1, .slice A0_2 l0_2.length c0_2] 28 (0, 0)) q26_) : gb188 ≠ gb177)); have n10_ := Aside0.mk ((by rw [hg]; exact Nat.ne_of_lt (blk_lt (g := gb178) (o := .cells #[.int .i64 0, .int .i64 0, .slice none 0 0, .slice none 0 0, .string (⟨#[]⟩ : ByteArray)] 93 (0, 0)) (by (with_reducible repeat (first | refine blk_drewN ?_ _ | refine blk_drew ?_ | refine blk_alloc ?_ _)); exact BK178.out)) : gb178 ≠ gb188)); have n11_ := Aside0.mk ((by rw [hg]; exact Nat.ne_of_gt (blk_lt (g := gb178) (o := .cells #[.int .i64 0, .int .i64 0, .slice none 0 0, .slice none 0 0, .string (⟨#[]⟩ : ByteArray)] 93 (0, 0)) (by (with_reducible repeat (first | refine blk_drewN ?_ _ | refine blk_drew ?_ | refine blk_alloc ?_ _)); exact BK178.out)) : gb188 ≠ gb178)); clear HO183; clear HO186; clear BK177; clear BK178; clear HB; have HO183 := n0_; have HO186 := n1_; have BK177 := n2_; have BK178 := n3_; have HB := n4_; have BK188 := n5_; have GW188 := n6_; have GE188 := n7_; have NB177_188 := n8_; have NB188_177 := n9_; have NB178_188 := n10_; have NB188_178 := n11_; clear n0_ n1_ n2_ n3_ n4_ n5_ n6_ n7_ n8_ n9_ n10_ n11_; clear hb hbox hg; have hnb13 := NB188_177.out; have hnc13 := NB177_188.out; have hnb14 := NB188_178.out; have hnc14 := NB178_188.out; have hcz15_0 : w12.cell? ⟨gb188, 0, none⟩ = some (.int .i64 0) := (blk_cell BK188.out 0).trans rfl; have hcz15_1 : w12.cell? ⟨gb188, 1, none⟩ = some (.int .i64 0) := (blk_cell BK188.out 1).trans rfl; have hcz15_2 : w12.cell? ⟨gb188, 2, none⟩ = some (.slice none 0 0) := (blk_cell BK188.out 2).trans rfl; have hcz15_3 : w12.cell? ⟨gb188, 3, none⟩ = some (.slice none 0 0) := (blk_cell BK188.out 3).trans rfl; have hcz15_4 : w12.cell? ⟨gb188, 4, none⟩ = some (.string (⟨#[]⟩ : ByteArray)) := (blk_cell BK188.out 4).trans rfl; have hfz15_0 := blk_frozen BK188.out 0; have hfz15_1 := blk_frozen BK188.out 1; have hfz15_2 := blk_frozen BK188.out 2; have hfz15_3 := blk_frozen BK188.out 3; have hfz15_4 := blk_frozen BK188.out 4; obtain ⟨Ao16, co16, eo16⟩ := Kd.R_slice HO183.out; subst eo16; obtain ⟨Ao17, co17, eo17⟩ := Kd.R_slice HO186.out; subst eo17; have hcz18_0 : w12.cell? ⟨gb177, 0, none⟩ = some (.int .i64 a0_0) := (blk_cell BK177.out 0).trans rfl; have hcz18_1 : w12.cell? ⟨gb177, 1, none⟩ = some (.slice A0_1 l0_1.length c0_1) := (blk_cell BK177.out 1).trans rfl; have hcz18_2 : w12.cell? ⟨gb177, 2, none⟩ = some (.slice A0_2 l0_2.length c0_2) := (blk_cell BK177.out 2).trans rfl; have hfz18_0 := blk_frozen BK177.out 0; have hfz18_1 := blk_frozen BK177.out 1; have hfz18_2 := blk_frozen BK177.out 2) | ((with_reducible refine gate_callee (f := 115) rfl ?_); refine goesL_ (some 23) rfl rfl Tryz.func115 q9_ rfl #[.slice A0_1 l0_1.length c0_1, .bool a2] rfl tS ?_; (with_reducible refine (ostiaryref18_Exposed.calls k _ _ l0_1 a2 t189 t190 _ ?side1 ?side2 A5.out).mono ?_); (case side1 => exact Kd.C_below HR0_1.out q8_); (case side2 => exact HC0_1.out); rintro e w19 ⟨v191, rfl, ho0, hb⟩; refine ⟨_, rfl, ?_⟩; have n0_ := Aside0.mk (Kd.R_below (by (with_reducible repeat (first | apply Kd.R_alloc | apply Kd.R_drewN | apply Kd.R_drew)); exact (Kd.R_mono (Kd.R_far (p := ⟨gb188, 2, none⟩) (Kd.R_far (p := ⟨gb188, 0, none⟩) (Kd.R_far (p := ⟨gb188, 4, none⟩) (Kd.R_far (p := ⟨gb188, 3, none⟩) (Kd.R_far (p := ⟨gb188, 2, none⟩) (Kd.R_far (p := ⟨gb188, 1, none⟩) (Kd.R_far (p := ⟨gb188, 0, none⟩) (Kd.R_types HO183.out BK188.out (by decide)) (fun _ hk => hk.2) (.int .i64 t179)) (fun _ hk => hk.2) (.int .i64 t180)) (fun _ hk => hk.2) (.slice Ao16 t181.length co16)) (fun _ hk => hk.2) (.slice Ao17 t184.length co17)) (fun _ hk => hk.2) (.string t187)) (fun _ hk => hk.2) (.int .i64 3)) (fun _ hk => hk.2) (.slice none 0 0)) (fun _ h_ => h_.1))) hb); have n1_ := Aside0.mk (Kd.R_below (by (with_reducible repeat (first | apply Kd.R_alloc | apply Kd.R_drewN | apply Kd.R_drew)); exact (Kd.R_mono (Kd.R_far (p := ⟨gb188, 2, none⟩) (Kd.R_far (p := ⟨gb188, 0, none⟩) (Kd.R_far (p := ⟨gb188, 4, none⟩) (Kd.R_far (p := ⟨gb188, 3, none⟩) (Kd.R_far (p := ⟨gb188, 2, none⟩) (Kd.R_far (p := ⟨gb188, 1, none⟩) (Kd.R_far (p := ⟨gb188, 0, none⟩) (Kd.R_types HO186.out BK188.out (by decide)) (fun _ hk => hk.2) (.int .i64 t179)) (fun _ hk => hk.2) (.int .i64 t180)) (fun _ hk => hk.2) (.slice Ao16 t181.length co16)) (fun _ hk => hk.2) (.slice Ao17 t184.length co17)) (fun _ hk => hk.2) (.string t187)) (fun _ hk => hk.2) (.int .i64 3)) (fun _ hk => hk.2) (.slice none 0 0)) (fun _ h_ => h_.1))) hb); have n2_ := Aside0.mk (Kd.R_lower ho0 (below_size q8_)); have n3_ := Aside0.mk (blk_below (g := gb177) (o := .cells #[.int .i64 a0_0, .slice A0_1 l0_1.length c0_1, .slice A0_2 l0_2.length c0_2] 28 (0, 0)) (by (with_reducible repeat (first | refine blk_drewN ?_ _ | refine blk_drew ?_ | refine blk_alloc ?_ _)); refine blk_far ?_ NB177_188.out _; (with_reducible repeat (first | refine blk_drewN ?_ _ | refine blk_drew ?_ | refine blk_alloc ?_ _)); refine blk_far ?_ NB177_188.out _; (with_reducible repeat (first | refine blk_drewN ?_ _ | refine blk_drew ?_ | refine blk_alloc ?_ _)); refine blk_far ?_ NB177_188.out _; (with_reducible repeat (first | refine blk_drewN ?_ _ | refine blk_drew ?_ | refine blk_alloc ?_ _)); refine blk_far ?_ NB177_188.out _; (with_reducible repeat (first | refine blk_drewN ?_ _ | refine blk_drew ?_ | refine blk_alloc ?_ _)); refine blk_far ?_ NB177_188.out _; (with_reducible repeat (first | refine blk_drewN ?_ _ | refine blk_drew ?_ | refine blk_alloc ?_ _)); refine blk_far ?_ NB177_188.out _; (with_reducible repeat (first | refine blk_drewN ?_ _ | refine blk_drew ?_ | refine blk_alloc ?_ _)); refine blk_far ?_ NB177_188.out _; (with_reducible repeat (first | refine blk_drewN ?_ _ | refine blk_drew ?_ | refine blk_alloc ?_ _)); exact BK177.out) hb); have n4_ := Aside0.mk (blk_below (g := gb178) (o := .cells #[.int .i64 0, .int .i64 0, .slice none 0 0, .slice none 0 0, .string (⟨#[]⟩ : ByteArray)] 93 (0, 0)) (by (with_reducible repeat (first | refine blk_drewN ?_ _ | refine blk_drew ?_ | refine blk_alloc ?_ _)); refine blk_far ?_ NB178_188.out _; (with_reducible repeat (first | refine blk_drewN ?_ _ | refine blk_drew ?_ | refine blk_alloc ?_ _)); refine blk_far ?_ NB178_188.out _; (with_reducible repeat (first | refine blk_drewN ?_ _ | refine blk_drew ?_ | refine blk_alloc ?_ _)); refine blk_far ?_ NB178_188.out _; (with_reducible repeat (first | refine blk_drewN ?_ _ | refine blk_drew ?_ | refine blk_alloc ?_ _)); refine blk_far ?_ NB178_188.out _; (with_reducible repeat (first | refine blk_drewN ?_ _ | refine blk_drew ?_ | refine blk_alloc ?_ _)); refine blk_far ?_ NB178_188.out _; (with_reducible repeat (first | refine blk_drewN ?_ _ | refine blk_drew ?_ | refine blk_alloc ?_ _)); refine blk_far ?_ NB178_188.out _; (with_reducible repeat (first | refine blk_drewN ?_ _ | refine blk_drew ?_ | refine blk_alloc ?_ _)); refine blk_far ?_ NB178_188.out _; (with_reducible repeat (first | refine blk_drewN ?_ _ | refine blk_drew ?_ | refine blk_alloc ?_ _)); exact BK178.out) hb); have n5_ := Aside0.mk (blk_below (g := gb188) (o := .cells #[.int .i64 3, .int .i64 t180, .slice none 0 0, .slice Ao17 t184.length co17, .string t187] 93 (0, 0)) (by (with_reducible repeat (first | refine blk_drewN ?_ _ | refine blk_drew ?_ | refine blk_alloc ?_ _)); refine blk_put (cs := #[.int .i64 3, .int .i64 t180, .slice Ao16 t181.length co16, .slice Ao17 t184.length co17, .string t187]) ?_ 2 _ rfl; (with_reducible repeat (first | refine blk_drewN ?_ _ | refine blk_drew ?_ | refine blk_alloc ?_ _)); refine blk_put (cs := #[.int .i64 t179, .int .i64 t180, .slice Ao16 t181.length co16, .slice Ao17 t184.length co17, .string t187]) ?_ 0 _ rfl; (with_reducible repeat (first | refine blk_drewN ?_ _ | refine blk_drew ?_ | refine blk_alloc ?_ _)); refine blk_put (cs := #[.int .i64 t179, .int .i64 t180, .slice Ao16 t181.length co16, .slice Ao17 t184.length co17, .string (⟨#[]⟩ : ByteArray)]) ?_ 4 _ rfl; (with_reducible repeat (first | refine blk_drewN ?_ _ | refine blk_drew ?_ | refine blk_alloc ?_ _)); refine blk_put (cs := #[.int .i64 t179, .int .i64 t180, .slice Ao16 t181.length co16, .slice none 0 0, .string (⟨#[]⟩ : ByteArray)]) ?_ 3 _ rfl; (with_reducible repeat (first | refine blk_drewN ?_ _ | refine blk_drew ?_ | refine blk_alloc ?_ _)); refine blk_put (cs := #[.int .i64 t179, .int .i64 t180, .slice none 0 0, .slice none 0 0, .string (⟨#[]⟩ : ByteArray)]) ?_ 2 _ rfl; (with_reducible repeat (first | refine blk_drewN ?_ _ | refine blk_drew ?_ | refine blk_alloc ?_ _)); refine blk_put (cs := #[.int .i64 t179, .int .i64 0, .slice none 0 0, .slice none 0 0, .string (⟨#[]⟩ : ByteArray)]) ?_ 1 _ rfl; (with_reducible repeat (first | refine blk_drewN ?_ _ | refine blk_drew ?_ | refine blk_alloc ?_ _)); refine blk_put (cs := #[.int .i64 0, .int .i64 0, .slice none 0 0, .slice none 0 0, .string (⟨#[]⟩ : ByteArray)]) ?_ 0 _ rfl; (with_reducible repeat (first | refine blk_drewN ?_ _ | refine blk_drew ?_ | refine blk_alloc ?_ _)); exact BK188.out) hb); have n6_ := Aside0.mk (below_step q8_ hb); clear HO183; clear HO186; clear BK177; clear BK178; clear BK188; clear HB; have HO183 := n0_; have HO186 := n1_; have HO192 := n2_; have BK177 := n3_; have BK178 := n4_; have BK188 := n5_; have HB := n6_; clear n0_ n1_ n2_ n3_ n4_ n5_ n6_; (try clear hb); (try clear hb2); (try clear hk); (try clear hi); (try clear ho0)) | ((with_reducible refine gate_dst (N := 27) rfl ?_); refine Kd.R_lit Kd.string _ 9 ?hg (N := 27) ?hd (xs := ([(⟨#[99, 97, 99, 104, 101, 45, 99, 111, 110, 116, 114, 111, 108]⟩ : ByteArray), (⟨#[99, 111, 110, 116, 101, 110, 116, 45, 108, 97, 110, 103, 117, 97, 103, 101]⟩ : ByteArray), (⟨#[99, 111, 110, 116, 101, 110, 116, 45, 108, 101, 110, 103, 116, 104]⟩ : ByteArray), (⟨#[99, 111, 110, 116, 101, 110, 116, 45, 116, 121, 112, 101]⟩ : ByteArray), (⟨#[101, 120, 112, 105, 114, 101, 115]⟩ : ByteArray), (⟨#[108, 97, 115, 116, 45, 109, 111, 100, 105, 102, 105, 101, 100]⟩ : ByteArray), (⟨#[112, 114, 97, 103, 109, 97]⟩ : ByteArray)] : List ByteArray)) (inner := [.string (⟨#[99, 97, 99, 104, 101, 45, 99, 111, 110, 116, 114, 111, 108]⟩ : ByteArray), .string (⟨#[99, 111, 110, 116, 101, 110, 116, 45, 108, 97, 110, 103, 117, 97, 103, 101]⟩ : ByteArray), .string (⟨#[99, 111, 110, 116, 101, 110, 116, 45, 108, 101, 110, 103, 116, 104]⟩ : ByteArray), .string (⟨#[99, 111, 110, 116, 101, 110, 116, 45, 116, 121, 112, 101]⟩ : ByteArray), .string (⟨#[101, 120, 112, 105, 114, 101, 115]⟩ : ByteArray), .string (⟨#[108, 97, 115, 116, 45, 109, 111, 100, 105, 102, 105, 101, 100]⟩ : ByteArray), .string (⟨#[112, 114, 97, 103, 109, 97]⟩ : ByteArray)]) (ok := fun _ => True) (okp := fun _ => True) ?hr ?hp (fun _ hk => hk) trivial (Below.refl _ _) (Nat.le_refl _) (by simp) ?_; (case hd => rfl); (case hg => rfl); (case hr => first | (go_simp; done) | (go_simp; rfl)); (case hp => exact (Reps.one (show Kd.M Kd.string _ _ _ (⟨#[99, 97, 99, 104, 101, 45, 99, 111, 110, 116, 114, 111, 108]⟩ : ByteArray) [.string (⟨#[99, 97, 99, 104, 101, 45, 99, 111, 110, 116, 114, 111, 108]⟩ : ByteArray)] from rfl) (Reps.one (show Kd.M Kd.string _ _ _ (⟨#[99, 111, 110, 116, 101, 110, 116, 45, 108, 97, 110, 103, 117, 97, 103, 101]⟩ : ByteArray) [.string (⟨#[99, 111, 110, 116, 101, 110, 116, 45, 108, 97, 110, 103, 117, 97, 103, 101]⟩ : ByteArray)] from rfl) (Reps.one (show Kd.M Kd.string _ _ _ (⟨#[99, 111, 110, 116, 101, 110, 116, 45, 108, 101, 110, 103, 116, 104]⟩ : ByteArray) [.string (⟨#[99, 111, 110, 116, 101, 110, 116, 45, 108, 101, 110, 103, 116, 104]⟩ : ByteArray)] from rfl) (Reps.one (show Kd.M Kd.string _ _ _ (⟨#[99, 111, 110, 116, 101, 110, 116, 45, 116, 121, 112, 101]⟩ : ByteArray) [.string (⟨#[99, 111, 110, 116, 101, 110, 116, 45, 116, 121, 112, 101]⟩ : ByteArray)] from rfl) (Reps.one (show Kd.M Kd.string _ _ _ (⟨#[101, 120, 112, 105, 114, 101, 115]⟩ : ByteArray) [.string (⟨#[101, 120, 112, 105, 114, 101, 115]⟩ : ByteArray)] from rfl) (Reps.one (show Kd.M Kd.string _ _ _ (⟨#[108, 97, 115, 116, 45, 109, 111, 100, 105, 102, 105, 101, 100]⟩ : ByteArray) [.string (⟨#[108, 97, 115, 116, 45, 109, 111, 100, 105, 102, 105, 101, 100]⟩ : ByteArray)] from rfl) (Reps.one (show Kd.M Kd.string _ _ _ (⟨#[112, 114, 97, 103, 109, 97]⟩ : ByteArray) [.string (⟨#[112, 114, 97, 103, 109, 97]⟩ : ByteArray)] from rfl) (Reps.none _ _))))))))); intro v194 w20 ho21 hb hg_ hnew_; clear hg_ hnew_; (first | rw [← Ny193.out] at ho21 | (simp only [Int.reduceToNat] at ho21; rw [← Ny193.out] at ho21)); have n0_ := Aside0.mk (Kd.R_below (by (with_reducible repeat (first | apply Kd.R_alloc | apply Kd.R_drewN | apply Kd.R_drew)); exact HO183.out) hb); have n1_ := Aside0.mk (Kd.R_below (by (with_reducible repeat (first | apply Kd.R_alloc | apply Kd.R_drewN | apply Kd.R_drew)); exact HO186.out) hb); have n2_ := Aside0.mk (Kd.R_elder' (by (with_reducible repeat (first | apply Kd.R_alloc | apply Kd.R_drewN | apply Kd.R_drew)); exact HO192.out) (Kd.R_base ho21) hb); have n3_ := Aside0.mk (Kd.R_lower (Kd.R_new' ho21 (Kd.R_lt (by (with_reducible repeat (first | apply Kd.R_alloc | apply Kd.R_drewN | apply Kd.R_drew)); exact HO192.out))) (below_size q8_)); have n4_ := Aside0.mk (blk_below (g := gb177) (o := .cells #[.int .i64 a0_0, .slice A0_1 l0_1.length c0_1, .slice A0_2 l0_2.length c0_2] 28 (0, 0)) q26_ hb); have n5_ := Aside0.mk (blk_below (g := gb178) (o := .cells #[.int .i64 0, .int .i64 0, .slice none 0 0, .slice none 0 0, .string (⟨#[]⟩ : ByteArray)] 93 (0, 0)) (by (with_reducible repeat (first | refine blk_drewN ?_ _ | refine blk_drew ?_ | refine blk_alloc ?_ _)); exact BK178.out) hb); have n6_ := Aside0.mk (blk_below (g := gb188) (o := .cells #[.int .i64 3, .int .i64 t180, .slice none 0 0, .slice Ao17 t184.length co17, .string t187] 93 (0, 0)) (by (with_reducible repeat (first | refine blk_drewN ?_ _ | refine blk_drew ?_ | refine blk_alloc ?_ _)); exact BK188.out) hb); have n7_ := Aside0.mk (below_step q8_ hb); clear HO183; clear HO186; clear HO192; clear BK177; clear BK178; clear BK188; clear HB; have HO183 := n0_; have HO186 := n1_; have HO192 := n2_; have HO195 := n3_; have BK177 := n4_; have BK178 := n5_; have BK188 := n6_; have HB := n7_; clear n0_ n1_ n2_ n3_ n4_ n5_ n6_ n7_; clear hb ho21; obtain ⟨Ao23, co23, eo23⟩ := Kd.R_slice HO195.out; subst eo23) | ((with_reducible refine gate_builtin (b := .append) (xs := #[.tmp 26, .tmp 27]) rfl ?_); at_builtin; refine Kd.R_append_rows Kd.string (w0 := w) w.heap.size rfl (.tmp 26) (.tmp 27) 39 9 (.string ⟨#[]⟩) 16 rfl Tryz.underlying39 info9 rfl (by decide) (by omega) v191 t189 y193 _ _ _ (fun k_ => some k_ ≠ (.slice Ao23 y193.length co23 : Value).ownBlock) (fun _ => False) rfl rfl ?aO ?aR (fun _ _ h => h) (fun _ h => h.elim) ?aF ?aB ?aS ?aL ?_; (case aR => repeat (first | exact (Kd.R_reads' HO195.out).2.2 | (with_reducible refine Kd.C_alloc ?_ _) | (with_reducible refine Kd.C_drewN ?_ _) | (with_reducible refine Kd.C_drew ?_))); (case aB => exact q8_); (case aF => exact (fun k_ hk => Kd.fresh' (Kd.R_lt (by (with_reducible repeat (first | apply Kd.R_alloc | apply Kd.R_drewN | apply Kd.R_drew)); exact HO195.out)) k_ hk)); (case aO => exact (by (with_reducible repeat (first | apply Kd.R_alloc | apply Kd.R_drewN | apply Kd.R_drew)); exact Kd.R_mono HO192.out (fun _ hk => hk.2))); (case aS => exact (below_size q8_)); (case aL => have := LMc6.out; omega); intro v197 w22 ho hb hg hat; rw [← Ny196.out] at ho; have n0_ := Aside0.mk (blk_grown (g := gb177) (o := .cells #[.int .i64 a0_0, .slice A0_1 l0_1.length c0_1, .slice A0_2 l0_2.length c0_2] 28 (0, 0)) q26_ hg (Kd.R_ne HO192.out BK177.out (by decide))); have n1_ := Aside0.mk (blk_grown (g := gb178) (o := .cells #[.int .i64 0, .int .i64 0, .slice none 0 0, .slice none 0 0, .string (⟨#[]⟩ : ByteArray)] 93 (0, 0)) (by (with_reducible repeat (first | refine blk_drewN ?_ _ | refine blk_drew ?_ | refine blk_alloc ?_ _)); exact BK178.out) hg (Kd.R_ne HO192.out BK178.out (by decide))); have n2_ := Aside0.mk (Kd.R_over' (by (with_reducible repeat (first | apply Kd.R_alloc | apply Kd.R_drewN | apply Kd.R_drew)); exact HO183.out) (Kd.R_typed (by (with_reducible repeat (first | apply Kd.R_alloc | apply Kd.R_drewN | apply Kd.R_drew)); exact HO192.out)) (by decide) hg); have n3_ := Aside0.mk (Kd.R_over' (by (with_reducible repeat (first | apply Kd.R_alloc | apply Kd.R_drewN | apply Kd.R_drew)); exact HO186.out) (Kd.R_typed (by (with_reducible repeat (first | apply Kd.R_alloc | apply Kd.R_drewN | apply Kd.R_drew)); exact HO192.out)) (by decide) hg); have n4_ := Aside0.mk (blk_grown (g := gb188) (o := .cells #[.int .i64 3, .int .i64 t180, .slice none 0 0, .slice Ao17 t184.length co17, .string t187] 93 (0, 0)) (by (with_reducible repeat (first | refine blk_drewN ?_ _ | refine blk_drew ?_ | refine blk_alloc ?_ _)); exact BK188.out) hg (Kd.R_ne HO192.out BK188.out (by decide))); have n5_ := Aside0.mk (Kd.R_after (ok := (fun _ => True)) (by (with_reducible repeat (first | apply Kd.R_alloc | apply Kd.R_drewN | apply Kd.R_drew)); exact HO195.out) hg hat); have n6_ := Aside0.mk (hb); have n7_ := Aside0.mk (ho); clear BK177; clear BK178; clear HO183; clear HO186; clear BK188; clear HO195; clear HB; clear HO192; have BK177 := n0_; have BK178 := n1_; have HO183 := n2_; have HO186 := n3_; have BK188 := n4_; have HO195 := n5_; have HB := n6_; have HO198 := n7_; clear n0_ n1_ n2_ n3_ n4_ n5_ n6_ n7_; clear ho hb hg hat))
  go_loopg [11] k (fun kq v11 w' => ∃ (x11_1 : Int) (x189002_1 : List (S30)) (u189002 : Value), v11 = .int .i64 x11_1 ∧ Aside0 (ostiaryref20_Share.l0 kq t181 y196 t190 x11_1 3 t180 x189002_1 t184 t187 = some (r1, r2, r3, r4, r5)) ∧ Aside0 (kq ≤ k) ∧ Aside0 (Kd.R k30 30 w' w.heap.size (fun k_ => some k_ ≠ (u189002 : Value).ownBlock) (.slice Ao16 t181.length co16) t181) ∧ Aside0 (Kd.R Kd.string 9 w' w.heap.size (fun _ => True) v197 y196) ∧ Aside0 (Kd.R k30 30 w' w.heap.size (fun k_ => some k_ ≠ ((.slice Ao16 t181.length co16) : Value).ownBlock) u189002 x189002_1) ∧ Aside0 (Kd.R (Kd.int .u8) 5 w' w.heap.size (fun _ => True) (.slice Ao17 t184.length co17) t184) ∧ Aside0 (w'.heap[gb177]? = some (.cells #[.int .i64 a0_0, (.slice A0_1 l0_1.length c0_1), (.slice A0_2 l0_2.length c0_2)] 28 (0, 0))) ∧ Aside0 (w'.heap[gb178]? = some (.cells #[.int .i64 0, .int .i64 0, (.slice none 0 0), (.slice none 0 0), .string (⟨#[]⟩ : ByteArray)] 93 (0, 0))) ∧ Aside0 (w'.heap[gb188]? = some (.cells #[.int .i64 3, .int .i64 t180, u189002, (.slice Ao17 t184.length co17), .string t187] 93 (0, 0))) ∧ Aside0 (Below w.heap.size w w'))
  case atStart => exact ⟨(0), (([] : List (S30))), (.slice none 0 0), rS, H', ⟨Nat.le_refl _⟩, ⟨by (with_reducible repeat (first | apply Kd.R_alloc | apply Kd.R_drewN | apply Kd.R_drew)); exact Kd.R_mono HO183.out (fun _ hk => (by simp [Value.ownBlock]))⟩, ⟨by (with_reducible repeat (first | apply Kd.R_alloc | apply Kd.R_drewN | apply Kd.R_drew)); exact Kd.R_mono HO198.out (fun _ hk => trivial)⟩, ⟨by first | exact Kd.R_nil _ _ _ _ _ | exact Kd.N_nil _ _ _ _ _ | exact Kd.V_nil _ _ _ _ _ | exact Kd.Q_nil _ _ _ _ _ | exact Kd.S_nil _ _ _ _ _⟩, ⟨by (with_reducible repeat (first | apply Kd.R_alloc | apply Kd.R_drewN | apply Kd.R_drew)); exact HO186.out⟩, ⟨by (with_reducible repeat (first | refine blk_drewN ?_ _ | refine blk_drew ?_ | refine blk_alloc ?_ _)); exact BK177.out⟩, ⟨by (with_reducible repeat (first | refine blk_drewN ?_ _ | refine blk_drew ?_ | refine blk_alloc ?_ _)); exact BK178.out⟩, ⟨by (with_reducible repeat (first | refine blk_drewN ?_ _ | refine blk_drew ?_ | refine blk_alloc ?_ _)); exact BK188.out⟩, ⟨by repeat (first | (with_reducible first | exact HB.out | apply below_alloc | apply pw_below_drewN | apply below_drew1 | refine below_set ?_ GE177.out | refine below_set ?_ GE178.out | refine below_set ?_ GE188.out) | exact HB.out)⟩⟩
  case round =>
   clear H'
   try clear c1
   try clear p2
   try clear c5
   try clear c6
   try clear c9
   try clear c11
   try clear c13
   try clear c14
   try clear hcz10_0
   try clear hcz10_1
   try clear hcz10_2
   try clear hcz15_0
   try clear hcz15_1
   try clear hcz15_2
   try clear hcz15_3
   try clear hcz15_4
   try clear hcz18_0
   try clear hcz18_1
   try clear hcz18_2
   try clear hfz10_0
   try clear hfz10_1
   try clear hfz10_2
   try clear hfz15_0
   try clear hfz15_1
   try clear hfz15_2
   try clear hfz15_3
   try clear hfz15_4
   try clear hfz18_0
   try clear hfz18_1
   try clear hfz18_2
   obtain ⟨x11_1, x189002_1, u189002, rfl, HA, HK1, HO_8, HO_9, HO_189002, HO_189003, BK177, BK178, BK188, HB⟩ := hrel
   cases gk with
   | zero => exact absurd HA.out (by simp [ostiaryref20_Share.l0])
   | succ k1 =>
    have H := HA.out
    clear HA
    simp only [ostiaryref20_Share.l0] at H
    by_cases c24 : x11_1 < (t181.length : Int)
    ·rw [if_pos c24] at H
     have c24b0 : decide (x11_1 < (t181.length : Int)) = true := decide_eq_true c24
     clear c24
     by_cases c25 : t190 = true
     ·subst c25
      have H1 : (if 0 ≤ x11_1 then (if x189002_1.length < 4398046511104 then (ostiaryref20_Share.l0 k1 t181 y196 true (wrap64 (x11_1 + 1)) 3 t180 (x189002_1 ++ [(⟨(rd_T30 t181 x11_1).f0, (rd_T30 t181 x11_1).f1⟩ : S30)]) t184 t187) else (none)) else (none)) = some (r1, r2, r3, r4, r5) := by rw [if_pos rfl] at H; exact H
      clear H
      have H := H1
      clear H1
      by_cases c26 : 0 ≤ x11_1
      ·rw [if_pos c26] at H
       have c26b0 : decide (0 ≤ x11_1) = true := decide_eq_true c26
       clear c26
       by_cases c27 : x189002_1.length < 4398046511104
       ·rw [if_pos c27] at H
        have LMc27 := Aside0.mk c27
        clear c27
        obtain ⟨y200, hy200⟩ : ∃ y_ : List (S30), y_ = (x189002_1 ++ [(⟨(rd_T30 t181 x11_1).f0, (rd_T30 t181 x11_1).f1⟩ : S30)]) := ⟨_, rfl⟩
        replace H : (ostiaryref20_Share.l0 k1 t181 y196 true (wrap64 (x11_1 + 1)) 3 t180 y200 t184 t187) = some (r1, r2, r3, r4, r5) := by first | (rw [hy200]; with_reducible exact H) | (have H2_ := (Option.bind_some _ _).symm.trans H; rw [hy200]; with_reducible exact H2_) | (have H2_ := (Option.bind_some _ _).symm.trans H; with_reducible exact H2_) | with_reducible exact H | (rw [hy200]; exact H) | exact H
        have Ny200 := Aside0.mk hy200
        clear hy200
        have H' := Aside0.mk H
        clear H
        try go_wp2
        have n0_ := Aside0.mk (Kd.R_drew HO_8.out)
        have n1_ := Aside0.mk (Kd.R_drew HO_9.out)
        have n2_ := Aside0.mk (Kd.R_drew HO_189002.out)
        have n3_ := Aside0.mk (Kd.R_drew HO_189003.out)
        have n4_ := Aside0.mk (blk_drew BK177.out)
        have n5_ := Aside0.mk (blk_drew BK178.out)
        have n6_ := Aside0.mk (blk_drew BK188.out)
        have n7_ := Aside0.mk (below_drew1 HB.out)
        clear HO_8
        clear HO_9
        clear HO_189002
        clear HO_189003
        clear BK177
        clear BK178
        clear BK188
        clear HB
        have HO_8 := n0_
        have HO_9 := n1_
        have HO_189002 := n2_
        have HO_189003 := n3_
        have BK177 := n4_
        have BK178 := n5_
        have BK188 := n6_
        have HB := n7_
        clear n0_ n1_ n2_ n3_ n4_ n5_ n6_ n7_
        have p199 : 0 ≤ (x11_1 : Int) := of_decide_eq_true aS
        have q199 : x11_1 < (t181.length : Int) := of_decide_eq_true aS
        obtain ⟨ad199, e199, hx199_0, hx199_1⟩ := at_T30 (Kd.R_reads' HO_8.out).2.2 x11_1 p199 q199
        cases e199
        replace p199 := eq_true p199
        replace q199 := eq_true q199
        refine start_ (n := 10) (S := fun w' => w'.cell? ⟨gb188, 0, none⟩ = some (.int .i64 3) ∧ w'.cell? ⟨gb188, 1, none⟩ = some (.int .i64 t180) ∧ w'.cell? ⟨gb188, 2, none⟩ = some (u189002) ∧ w'.cell? ⟨gb188, 3, none⟩ = some (.slice Ao17 t184.length co17) ∧ w'.cell? ⟨gb188, 4, none⟩ = some (.string t187) ∧ w'.cell? (ad199.add ((x11_1).toNat * 2)) = some (.string ((rd_T30 t181 x11_1).f0)) ∧ w'.cell? ⟨(ad199.add ((x11_1).toNat * 2)).block, (ad199.add ((x11_1).toNat * 2)).off + 1, none⟩ = some (.string ((rd_T30 t181 x11_1).f1))) (ds := [7, 9]) #[false, false, false, false, false, false, false, false, false, false] q9_ rfl rfl ⟨(blk_cell BK188.out 0).trans rfl, (blk_cell BK188.out 1).trans rfl, (blk_cell BK188.out 2).trans rfl, (blk_cell BK188.out 3).trans rfl, (blk_cell BK188.out 4).trans rfl, hx199_0, hx199_1⟩ (fun hHeld => ?_); refine with_tabW ostiaryref20_Share.tab11 ostiaryref20_Share.bits11 (fun HT_ HW_ => ?_)
        generalize wr.drew = w28 at HO_8 HO_9 HO_189002 HO_189003 BK177 BK178 BK188 HB hx199_0 hx199_1 hHeld ⊢
        refine pure_ (i := 0) (N := some 46) (v := ?_) (a' := ?_) #[true, false, false, false, false, false, false, false, false, false] rfl rfl (any_of HT_.out q9_) (fun _ _ _ h => h) (Or.inl ⟨by rfl, ?_⟩) ?_ ?_
        rotate_left
        ·intro w'
         go_simp
         with_reducible rfl
        rotate_left
        ·simp only [Act.put, List.setIfInBounds_toArray, List.set_cons_zero, List.set_cons_succ, i64_w, i32_w]
         rfl
        refine pure_ (i := 2) (N := some 48) (v := ?_) (a' := ?_) #[true, false, true, false, false, false, false, false, false, false] rfl rfl (any_of HT_.out q9_) (fun _ _ _ h => h) (Or.inl ⟨by rfl, ?_⟩) ?_ ?_
        rotate_left
        ·intro w'
         go_simp
         with_reducible rfl
        rotate_left
        ·simp only [Act.put, List.setIfInBounds_toArray, List.set_cons_zero, List.set_cons_succ, i64_w, i32_w]
         rfl
        refine pure_ (i := 3) (N := some 49) (v := ?_) (a' := ?_) #[true, false, true, true, false, false, false, false, false, false] rfl rfl (any_of HT_.out q9_) (fun _ _ _ h => h) (Or.inl ⟨by rfl, ?_⟩) ?_ ?_
        rotate_left
        ·intro w'
         go_simp
         with_reducible rfl
        rotate_left
        ·simp only [Act.put, List.setIfInBounds_toArray, List.set_cons_zero, List.set_cons_succ, i64_w, i32_w]
         rfl
        refine pure_ (i := 4) (N := some 50) (v := ?_) (a' := ?_) #[true, false, true, true, true, false, false, false, false, false] rfl rfl (any_of HT_.out q9_) (fun _ _ _ h => h) (Or.inl ⟨by rfl, ?_⟩) ?_ ?_
        rotate_left
        ·intro w'
         go_simp
         with_reducible rfl
        rotate_left
        ·simp only [Act.put, List.setIfInBounds_toArray, List.set_cons_zero, List.set_cons_succ, i64_w, i32_w]
         rfl
        refine take_ (i := 1) (N := some 47) (v := ?_) (a' := ?_) #[true, true, true, true, true, false, false, false, false, false] rfl rfl (take_ofW HT_.out HW_.out q9_) (fun _ _ _ h => h) (Or.inl ⟨by rfl, ?_⟩) hHeld ?_ ?_
        rotate_left
        ·rintro w' ⟨s0, s1, s2, s3, s4, s5, s6⟩
         go_simp
         with_reducible rfl
        rotate_left
        ·simp only [Act.put, List.setIfInBounds_toArray, List.set_cons_zero, List.set_cons_succ, i64_w, i32_w]
         rfl
        refine take_ (i := 5) (N := some 51) (v := ?_) (a' := ?_) #[true, true, true, true, true, true, false, false, false, false] rfl rfl (take_ofW HT_.out HW_.out q9_) (fun _ _ _ h => h) (Or.inl ⟨by rfl, ?_⟩) hHeld ?_ ?_
        rotate_left
        ·rintro w' ⟨s0, s1, s2, s3, s4, s5, s6⟩
         go_simp
         with_reducible rfl
        rotate_left
        ·simp only [Act.put, List.setIfInBounds_toArray, List.set_cons_zero, List.set_cons_succ, i64_w, i32_w]
         rfl
        refine one_ (i := 6) (N := some 52) #[true, true, true, true, true, true, true, false, false, false] rfl rfl (one_of HT_.out q9_) (by decide) (fun K hK => ?_)
        refine value_ (w1 := ?_) (v := ?_) (by rfl) rfl ?_ ?_
        rotate_left 2
        ·go_simp
         constructor
         ·rfl
         ·rfl
        refine hK.out _ _ ⟨(blk_cell (blk_alloc BK188.out _) 0).trans rfl, (blk_cell (blk_alloc BK188.out _) 1).trans rfl, (blk_cell (blk_alloc BK188.out _) 2).trans rfl, (blk_cell (blk_alloc BK188.out _) 3).trans rfl, (blk_cell (blk_alloc BK188.out _) 4).trans rfl, (World.cell?_alloc_lt _ _ _ (World.block_lt_of_cell? _ _ (hHeld.2.2.2.2.2.1))).trans (hHeld.2.2.2.2.2.1), (World.cell?_alloc_lt _ _ _ (World.block_lt_of_cell? _ _ (hHeld.2.2.2.2.2.2))).trans (hHeld.2.2.2.2.2.2)⟩ (fun hHeld => ?_)
        clear hK K
        refine norm_ (a' := ?_) ?_ ?_
        rotate_left
        ·show Act.put _ (some 52) _ = _
         simp only [Act.put, List.setIfInBounds_toArray, List.set_cons_zero, List.set_cons_succ, i64_w, i32_w]
         rfl
        refine last_ (i := 7) (N := some 53) #[true, true, true, true, true, true, true, true, false, false] rfl rfl (one_of HT_.out q9_) (by decide) (fun K hK => ?_)
        refine Kd.R_append_step k30 (w0 := w) w.heap.size (by rfl) (.tmp 47) (.tmp 52) 25 30 (.agg #[(.string ⟨#[]⟩), (.string ⟨#[]⟩)]) 32 rfl Tryz.underlying25 info30 rfl (by decide) (by omega) u189002 x189002_1 (⟨(rd_T30 t181 x11_1).f0, (rd_T30 t181 x11_1).f1⟩ : S30) [.string ((rd_T30 t181 x11_1).f0), .string ((rd_T30 t181 x11_1).f1)] (fun k_ => some k_ ≠ (.slice (some ad199) t181.length co16 : Value).ownBlock) (fun _ => False) rfl rfl ?aP (fun _ hk => hk.elim) ?aF ?aO ?aB ?aS ?aL ?_
        (case aP => exact k30_mkM _ _ _ (⟨(rd_T30 t181 x11_1).f0, (rd_T30 t181 x11_1).f1⟩ : S30))
        (case aB => exact q8_)
        (case aF => exact (fun k_ hk => Kd.fresh' (Kd.R_lt q33_) k_ hk))
        (case aO => exact (by (with_reducible repeat (first | apply Kd.R_alloc | apply Kd.R_drewN | apply Kd.R_drew)); exact HO_189002.out))
        (case aS => exact (below_size q8_))
        (case aL => have := LMc27.out; omega)
        intro v201 w29 ho hb hg hat
        rw [← Ny200.out] at ho
        have n0_ := Aside0.mk (Kd.R_after (ok := (fun _ => True)) (by (with_reducible repeat (first | apply Kd.R_alloc | apply Kd.R_drewN | apply Kd.R_drew)); exact Kd.R_mono HO_8.out (fun _ hk => ⟨trivial, hk⟩)) hg hat)
        have n1_ := Aside0.mk (Kd.R_over' (by (with_reducible repeat (first | apply Kd.R_alloc | apply Kd.R_drewN | apply Kd.R_drew)); exact HO_9.out) (Kd.R_typed (by (with_reducible repeat (first | apply Kd.R_alloc | apply Kd.R_drewN | apply Kd.R_drew)); exact HO_189002.out)) (by decide) hg)
        have n2_ := Aside0.mk (Kd.R_over' (by (with_reducible repeat (first | apply Kd.R_alloc | apply Kd.R_drewN | apply Kd.R_drew)); exact HO_189003.out) (Kd.R_typed (by (with_reducible repeat (first | apply Kd.R_alloc | apply Kd.R_drewN | apply Kd.R_drew)); exact HO_189002.out)) (by decide) hg)
        have n3_ := Aside0.mk (blk_grown (g := gb177) (o := .cells #[.int .i64 a0_0, .slice A0_1 l0_1.length c0_1, .slice A0_2 l0_2.length c0_2] 28 (0, 0)) q26_ hg (Kd.R_ne HO_189002.out BK177.out (by decide)))
        have n4_ := Aside0.mk (blk_grown (g := gb178) (o := .cells #[.int .i64 0, .int .i64 0, .slice none 0 0, .slice none 0 0, .string (⟨#[]⟩ : ByteArray)] 93 (0, 0)) (by (with_reducible repeat (first | refine blk_drewN ?_ _ | refine blk_drew ?_ | refine blk_alloc ?_ _)); exact BK178.out) hg (Kd.R_ne HO_189002.out BK178.out (by decide)))
        have n5_ := Aside0.mk (blk_grown (g := gb188) (o := .cells #[.int .i64 3, .int .i64 t180, u189002, .slice Ao17 t184.length co17, .string t187] 93 (0, 0)) (by (with_reducible repeat (first | refine blk_drewN ?_ _ | refine blk_drew ?_ | refine blk_alloc ?_ _)); exact BK188.out) hg (Kd.R_ne HO_189002.out BK188.out (by decide)))
        have n6_ := Aside0.mk (hb)
        have n7_ := Aside0.mk (ho)
        clear HO_8
        clear HO_9
        clear HO_189003
        clear BK177
        clear BK178
        clear BK188
        clear HB
        clear HO_189002
        have HO_8 := n0_
        have HO_9 := n1_
        have HO_189003 := n2_
        have BK177 := n3_
        have BK178 := n4_
        have BK188 := n5_
        have HB := n6_
        have HO202 := n7_
        clear n0_ n1_ n2_ n3_ n4_ n5_ n6_ n7_
        clear ho hb hg hat
        obtain ⟨Ao30, co30, eo30⟩ := Kd.R_slice HO202.out
        (first | subst eo30 | (injection eo30 with f1_ f2_ f3_; have f4_ := f1_.symm; have f5_ := f3_.symm; clear f1_ f2_ f3_; subst f4_; subst f5_))
        refine hK.out _ _ ?_
        clear hK K
        refine norm_ (a' := ?_) ?_ ?_
        rotate_left
        ·show Act.put _ (some 53) _ = _
         simp only [Act.put, List.setIfInBounds_toArray, List.set_cons_zero, List.set_cons_succ, i64_w, i32_w]
         rfl
        refine pure_ (i := 8) (N := some 54) (v := ?_) (a' := ?_) #[true, true, true, true, true, true, true, true, true, false] rfl rfl (any_of HT_.out q9_) (fun _ _ _ h => h) (Or.inl ⟨by rfl, ?_⟩) ?_ ?_
        rotate_left
        ·intro w'
         go_simp
         with_reducible rfl
        rotate_left
        ·simp only [Act.put, List.setIfInBounds_toArray, List.set_cons_zero, List.set_cons_succ, i64_w, i32_w]
         rfl
        refine last_ (i := 9) (N := none) #[true, true, true, true, true, true, true, true, true, true] rfl rfl (one_of HT_.out q9_) (by decide) (fun K hK => ?_)
        have hs31 : w29.cell? ⟨gb188, 2, none⟩ = some (u189002) := (blk_cell BK188.out 2).trans rfl
        have hfs31 := blk_frozen BK188.out 2
        have hns31_0 := NB177_188.out
        have hns31_1 := NB178_188.out
        have hms31_0 := NB188_177.out
        have hms31_1 := NB188_178.out
        refine skip_ (w1 := ?_) (by rfl) rfl ?_ ?_
        rotate_left
        ·go_simp
         rfl
        refine hK.out _ _ ?_
        clear hK K
        refine done_ (done_of HT_.out q9_) ?_
        try go_wp2
        go_roundg k1
        case measure => have := HK1.out; omega
        case rel => exact ⟨(wrap64 (x11_1 + 1)), (y200), (.slice Ao30 y200.length co30), rS, H', ⟨by have := HK1.out; omega⟩, ⟨by (with_reducible repeat (first | apply Kd.R_alloc | apply Kd.R_drewN | apply Kd.R_drew)); exact Kd.R_mono (Kd.R_far (p := ⟨gb188, 2, none⟩) (Kd.R_types HO_8.out BK188.out (by decide)) (fun _ hk => hk.2) (.slice Ao30 y200.length co30)) (fun _ hk => hk.1.2)⟩, ⟨by (with_reducible repeat (first | apply Kd.R_alloc | apply Kd.R_drewN | apply Kd.R_drew)); exact Kd.R_mono (Kd.R_far (p := ⟨gb188, 2, none⟩) (Kd.R_types HO_9.out BK188.out (by decide)) (fun _ hk => hk.2) (.slice Ao30 y200.length co30)) (fun _ hk => trivial)⟩, ⟨by (with_reducible repeat (first | apply Kd.R_alloc | apply Kd.R_drewN | apply Kd.R_drew)); exact Kd.R_mono (Kd.R_far (p := ⟨gb188, 2, none⟩) (Kd.R_types HO202.out BK188.out (by decide)) (fun _ hk => hk.2) (.slice Ao30 y200.length co30)) (fun _ hk => hk.1)⟩, ⟨by (with_reducible repeat (first | apply Kd.R_alloc | apply Kd.R_drewN | apply Kd.R_drew)); exact Kd.R_mono (Kd.R_far (p := ⟨gb188, 2, none⟩) (Kd.R_types HO_189003.out BK188.out (by decide)) (fun _ hk => hk.2) (.slice Ao30 y200.length co30)) (fun _ hk => trivial)⟩, ⟨by (with_reducible repeat (first | refine blk_drewN ?_ _ | refine blk_drew ?_ | refine blk_alloc ?_ _)); refine blk_far ?_ NB177_188.out _; (with_reducible repeat (first | refine blk_drewN ?_ _ | refine blk_drew ?_ | refine blk_alloc ?_ _)); exact BK177.out⟩, ⟨by (with_reducible repeat (first | refine blk_drewN ?_ _ | refine blk_drew ?_ | refine blk_alloc ?_ _)); refine blk_far ?_ NB178_188.out _; (with_reducible repeat (first | refine blk_drewN ?_ _ | refine blk_drew ?_ | refine blk_alloc ?_ _)); exact BK178.out⟩, ⟨by (with_reducible repeat (first | refine blk_drewN ?_ _ | refine blk_drew ?_ | refine blk_alloc ?_ _)); refine blk_put (cs := #[.int .i64 3, .int .i64 t180, u189002, .slice Ao17 t184.length co17, .string t187]) ?_ 2 _ rfl; (with_reducible repeat (first | refine blk_drewN ?_ _ | refine blk_drew ?_ | refine blk_alloc ?_ _)); exact BK188.out⟩, ⟨by repeat (first | (with_reducible first | exact HB.out | apply below_alloc | apply pw_below_drewN | apply below_drew1 | refine below_set ?_ GE177.out | refine below_set ?_ GE178.out | refine below_set ?_ GE188.out) | exact HB.out)⟩⟩
       ·rw [if_neg c27] at H
        exact absurd H (by simp)
      ·rw [if_neg c26] at H
       exact absurd H (by simp)
     ·replace c25 := Bool.eq_false_iff.mpr c25
      subst c25
      have H1 : (if 0 ≤ x11_1 then ((ostiaryref1_Lower.f ((rd_T30 t181 x11_1).f0)).bind fun t204 => ((ostiaryref1_Has.f k1 y196 t204).bind fun t205 => (if t205 = true then (if x189002_1.length < 4398046511104 then (ostiaryref20_Share.l0 k1 t181 y196 false (wrap64 (x11_1 + 1)) 3 t180 (x189002_1 ++ [(⟨(rd_T30 t181 x11_1).f0, (rd_T30 t181 x11_1).f1⟩ : S30)]) t184 t187) else (none)) else (ostiaryref20_Share.l0 k1 t181 y196 false (wrap64 (x11_1 + 1)) 3 t180 x189002_1 t184 t187)))) else (none)) = some (r1, r2, r3, r4, r5) := by rw [if_neg (show ¬ (false = true) by decide)] at H; exact H
      clear H
      have H := H1
      clear H1
      by_cases c32 : 0 ≤ x11_1
      ·rw [if_pos c32] at H
       have c32b0 : decide (0 ≤ x11_1) = true := decide_eq_true c32
       clear c32
       replace H := Option.bind_eq_some_iff.mp H
       obtain ⟨t204, A330, H⟩ := H
       replace H : ((ostiaryref1_Has.f k1 y196 t204).bind fun t205 => (if t205 = true then (if x189002_1.length < 4398046511104 then (ostiaryref20_Share.l0 k1 t181 y196 false (wrap64 (x11_1 + 1)) 3 t180 (x189002_1 ++ [(⟨(rd_T30 t181 x11_1).f0, (rd_T30 t181 x11_1).f1⟩ : S30)]) t184 t187) else (none)) else (ostiaryref20_Share.l0 k1 t181 y196 false (wrap64 (x11_1 + 1)) 3 t180 x189002_1 t184 t187))) = some (r1, r2, r3, r4, r5) := H
       have A33 := Aside0.mk A330
       clear A330
       replace H := Option.bind_eq_some_iff.mp H
       obtain ⟨t205, A340, H⟩ := H
       replace H : (if t205 = true then (if x189002_1.length < 4398046511104 then (ostiaryref20_Share.l0 k1 t181 y196 false (wrap64 (x11_1 + 1)) 3 t180 (x189002_1 ++ [(⟨(rd_T30 t181 x11_1).f0, (rd_T30 t181 x11_1).f1⟩ : S30)]) t184 t187) else (none)) else (ostiaryref20_Share.l0 k1 t181 y196 false (wrap64 (x11_1 + 1)) 3 t180 x189002_1 t184 t187)) = some (r1, r2, r3, r4, r5) := H
       have A34 := Aside0.mk A340
       clear A340
       by_cases c35 : t205 = true
       ·subst c35
        have H1 : (if x189002_1.length < 4398046511104 then (ostiaryref20_Share.l0 k1 t181 y196 false (wrap64 (x11_1 + 1)) 3 t180 (x189002_1 ++ [(⟨(rd_T30 t181 x11_1).f0, (rd_T30 t181 x11_1).f1⟩ : S30)]) t184 t187) else (none)) = some (r1, r2, r3, r4, r5) := by rw [if_pos rfl] at H; exact H
        clear H
        have H := H1
        clear H1
        by_cases c36 : x189002_1.length < 4398046511104
        ·rw [if_pos c36] at H
         have LMc36 := Aside0.mk c36
         clear c36
         obtain ⟨y207, hy207⟩ : ∃ y_ : List (S30), y_ = (x189002_1 ++ [(⟨(rd_T30 t181 x11_1).f0, (rd_T30 t181 x11_1).f1⟩ : S30)]) := ⟨_, rfl⟩
         replace H : (ostiaryref20_Share.l0 k1 t181 y196 false (wrap64 (x11_1 + 1)) 3 t180 y207 t184 t187) = some (r1, r2, r3, r4, r5) := by first | (rw [hy207]; with_reducible exact H) | (have H2_ := (Option.bind_some _ _).symm.trans H; rw [hy207]; with_reducible exact H2_) | (have H2_ := (Option.bind_some _ _).symm.trans H; with_reducible exact H2_) | with_reducible exact H | (rw [hy207]; exact H) | exact H
         have Ny207 := Aside0.mk hy207
         clear hy207
         have H' := Aside0.mk H
         clear H
         have p203 : 0 ≤ (x11_1 : Int) := of_decide_eq_true aS
         have q203 : x11_1 < (t181.length : Int) := of_decide_eq_true aS
         obtain ⟨ad203, e203, hx203_0, hx203_1⟩ := at_T30 (Kd.R_reads' HO_8.out).2.2 x11_1 p203 q203
         cases e203
         replace p203 := eq_true p203
         replace q203 := eq_true q203
         try go_wp2_with (first | (go_at_call 102; (with_reducible refine (ostiaryref1_Lower.calls ((rd_T30 t181 x11_1).f0) t204 _ A33.out).mono ?_); rintro e w37 ⟨rfl, hb⟩; have n0_ := Aside0.mk (Kd.R_below q33_ hb); have n1_ := Aside0.mk (Kd.R_below (by (with_reducible repeat (first | apply Kd.R_alloc | apply Kd.R_drewN | apply Kd.R_drew)); exact HO_9.out) hb); have n2_ := Aside0.mk (Kd.R_below (by (with_reducible repeat (first | apply Kd.R_alloc | apply Kd.R_drewN | apply Kd.R_drew)); exact HO_189002.out) hb); have n3_ := Aside0.mk (Kd.R_below (by (with_reducible repeat (first | apply Kd.R_alloc | apply Kd.R_drewN | apply Kd.R_drew)); exact HO_189003.out) hb); have n4_ := Aside0.mk (blk_below (g := gb177) (o := .cells #[.int .i64 a0_0, .slice A0_1 l0_1.length c0_1, .slice A0_2 l0_2.length c0_2] 28 (0, 0)) q26_ hb); have n5_ := Aside0.mk (blk_below (g := gb178) (o := .cells #[.int .i64 0, .int .i64 0, .slice none 0 0, .slice none 0 0, .string (⟨#[]⟩ : ByteArray)] 93 (0, 0)) (by (with_reducible repeat (first | refine blk_drewN ?_ _ | refine blk_drew ?_ | refine blk_alloc ?_ _)); exact BK178.out) hb); have n6_ := Aside0.mk (blk_below (g := gb188) (o := .cells #[.int .i64 3, .int .i64 t180, u189002, .slice Ao17 t184.length co17, .string t187] 93 (0, 0)) (by (with_reducible repeat (first | refine blk_drewN ?_ _ | refine blk_drew ?_ | refine blk_alloc ?_ _)); exact BK188.out) hb); have n7_ := Aside0.mk (below_step q8_ hb); clear HO_8; clear HO_9; clear HO_189002; clear HO_189003; clear BK177; clear BK178; clear BK188; clear HB; have HO_8 := n0_; have HO_9 := n1_; have HO_189002 := n2_; have HO_189003 := n3_; have BK177 := n4_; have BK178 := n5_; have BK188 := n6_; have HB := n7_; clear n0_ n1_ n2_ n3_ n4_ n5_ n6_ n7_; (try clear hb); (try clear hb2); (try clear hk); (try clear hi); obtain ⟨Ao38, co38, eo38⟩ := Kd.R_slice HO_9.out; subst eo38) | (go_at_call 101; (with_reducible refine (ostiaryref1_Has.calls k1 _ _ y196 t204 true _ ?side1 ?side2 A34.out).mono ?_); (case side1 => repeat (first | exact (Kd.R_reads' HO_9.out).2.2 | (with_reducible refine Kd.C_alloc ?_ _) | (with_reducible refine Kd.C_drewN ?_ _) | (with_reducible refine Kd.C_drew ?_))); (case side2 => exact (Kd.R_reads' HO_9.out).2.1); rintro e w' ⟨rfl, ⟨nd, rfl⟩⟩; (try (rw [drewN_self w37]; generalize hq_ : World.drewN w37 _ = w37; have n0_ : Aside0 (Kd.R k30 30 w37 w.heap.size (fun k_ => some k_ ≠ (.slice (some ad203) t181.length co16 : Value).ownBlock) u189002 x189002_1) := ⟨by rw [← hq_]; exact (by (with_reducible repeat (first | apply Kd.R_alloc | apply Kd.R_drewN | apply Kd.R_drew)); exact HO_189002.out)⟩; have n1_ : Aside0 (Kd.R (Kd.int .u8) 5 w37 w.heap.size (fun _ => True) (.slice Ao17 t184.length co17) t184) := ⟨by rw [← hq_]; exact (by (with_reducible repeat (first | apply Kd.R_alloc | apply Kd.R_drewN | apply Kd.R_drew)); exact HO_189003.out)⟩; have n2_ : Aside0 (Kd.R k30 30 w37 w.heap.size (fun k_ => some k_ ≠ (u189002 : Value).ownBlock) (.slice (some ad203) t181.length co16) t181) := ⟨by rw [← hq_]; exact q33_⟩; have n3_ : Aside0 (Kd.R Kd.string 9 w37 w.heap.size (fun _ => True) (.slice Ao38 y196.length co38) y196) := ⟨by rw [← hq_]; exact (by (with_reducible repeat (first | apply Kd.R_alloc | apply Kd.R_drewN | apply Kd.R_drew)); exact HO_9.out)⟩; have n4_ : Aside0 (w37.heap[gb177]? = some (.cells #[.int .i64 a0_0, .slice A0_1 l0_1.length c0_1, .slice A0_2 l0_2.length c0_2] 28 (0, 0))) := ⟨by rw [← hq_]; exact q26_⟩; have n5_ : Aside0 (w37.heap[gb178]? = some (.cells #[.int .i64 0, .int .i64 0, .slice none 0 0, .slice none 0 0, .string (⟨#[]⟩ : ByteArray)] 93 (0, 0))) := ⟨by rw [← hq_]; exact (by (with_reducible repeat (first | refine blk_drewN ?_ _ | refine blk_drew ?_ | refine blk_alloc ?_ _)); exact BK178.out)⟩; have n6_ : Aside0 (w37.heap[gb188]? = some (.cells #[.int .i64 3, .int .i64 t180, u189002, .slice Ao17 t184.length co17, .string t187] 93 (0, 0))) := ⟨by rw [← hq_]; exact (by (with_reducible repeat (first | refine blk_drewN ?_ _ | refine blk_drew ?_ | refine blk_alloc ?_ _)); exact BK188.out)⟩; have n7_ : Aside0 (Below w.heap.size w w37) := ⟨by rw [← hq_]; exact q8_⟩; clear HO_189002 HO_189003 HO_8 HO_9 BK177 BK178 BK188 HB hq_; have HO_189002 := n0_; have HO_189003 := n1_; have HO_8 := n2_; have HO_9 := n3_; have BK177 := n4_; have BK178 := n5_; have BK188 := n6_; have HB := n7_; clear n0_ n1_ n2_ n3_ n4_ n5_ n6_ n7_))))
         have n0_ := Aside0.mk (Kd.R_drew HO_8.out)
         have n1_ := Aside0.mk (Kd.R_drew HO_9.out)
         have n2_ := Aside0.mk (Kd.R_drew HO_189002.out)
         have n3_ := Aside0.mk (Kd.R_drew HO_189003.out)
         have n4_ := Aside0.mk (blk_drew BK177.out)
         have n5_ := Aside0.mk (blk_drew BK178.out)
         have n6_ := Aside0.mk (blk_drew BK188.out)
         have n7_ := Aside0.mk (below_drew1 HB.out)
         clear HO_8
         clear HO_9
         clear HO_189002
         clear HO_189003
         clear BK177
         clear BK178
         clear BK188
         clear HB
         have HO_8 := n0_
         have HO_9 := n1_
         have HO_189002 := n2_
         have HO_189003 := n3_
         have BK177 := n4_
         have BK178 := n5_
         have BK188 := n6_
         have HB := n7_
         clear n0_ n1_ n2_ n3_ n4_ n5_ n6_ n7_
         have p206 : 0 ≤ (x11_1 : Int) := of_decide_eq_true aS
         have q206 : x11_1 < (t181.length : Int) := of_decide_eq_true aS
         obtain ⟨ad206, e206, hx206_0, hx206_1⟩ := at_T30 (Kd.R_reads' HO_8.out).2.2 x11_1 p206 q206
         obtain rfl : ad203 = ad206 := (by injection e206)
         replace p206 := eq_true p206
         replace q206 := eq_true q206
         refine start_ (n := 10) (S := fun w' => w'.cell? ⟨gb188, 0, none⟩ = some (.int .i64 3) ∧ w'.cell? ⟨gb188, 1, none⟩ = some (.int .i64 t180) ∧ w'.cell? ⟨gb188, 2, none⟩ = some (u189002) ∧ w'.cell? ⟨gb188, 3, none⟩ = some (.slice Ao17 t184.length co17) ∧ w'.cell? ⟨gb188, 4, none⟩ = some (.string t187) ∧ w'.cell? (ad203.add ((x11_1).toNat * 2)) = some (.string ((rd_T30 t181 x11_1).f0)) ∧ w'.cell? ⟨(ad203.add ((x11_1).toNat * 2)).block, (ad203.add ((x11_1).toNat * 2)).off + 1, none⟩ = some (.string ((rd_T30 t181 x11_1).f1))) (ds := [7, 9]) #[false, false, false, false, false, false, false, false, false, false] q9_ rfl rfl ⟨(blk_cell BK188.out 0).trans rfl, (blk_cell BK188.out 1).trans rfl, (blk_cell BK188.out 2).trans rfl, (blk_cell BK188.out 3).trans rfl, (blk_cell BK188.out 4).trans rfl, hx206_0, hx206_1⟩ (fun hHeld => ?_); refine with_tabW ostiaryref20_Share.tab11 ostiaryref20_Share.bits11 (fun HT_ HW_ => ?_)
         generalize w37.drew = w39 at HO_8 HO_9 HO_189002 HO_189003 BK177 BK178 BK188 HB hx206_0 hx206_1 hHeld ⊢
         refine pure_ (i := 0) (N := some 46) (v := ?_) (a' := ?_) #[true, false, false, false, false, false, false, false, false, false] rfl rfl (any_of HT_.out q9_) (fun _ _ _ h => h) (Or.inl ⟨by rfl, ?_⟩) ?_ ?_
         rotate_left
         ·intro w'
          go_simp
          with_reducible rfl
         rotate_left
         ·simp only [Act.put, List.setIfInBounds_toArray, List.set_cons_zero, List.set_cons_succ, i64_w, i32_w]
          rfl
         refine pure_ (i := 2) (N := some 48) (v := ?_) (a' := ?_) #[true, false, true, false, false, false, false, false, false, false] rfl rfl (any_of HT_.out q9_) (fun _ _ _ h => h) (Or.inl ⟨by rfl, ?_⟩) ?_ ?_
         rotate_left
         ·intro w'
          go_simp
          with_reducible rfl
         rotate_left
         ·simp only [Act.put, List.setIfInBounds_toArray, List.set_cons_zero, List.set_cons_succ, i64_w, i32_w]
          rfl
         refine pure_ (i := 3) (N := some 49) (v := ?_) (a' := ?_) #[true, false, true, true, false, false, false, false, false, false] rfl rfl (any_of HT_.out q9_) (fun _ _ _ h => h) (Or.inl ⟨by rfl, ?_⟩) ?_ ?_
         rotate_left
         ·intro w'
          go_simp
          with_reducible rfl
         rotate_left
         ·simp only [Act.put, List.setIfInBounds_toArray, List.set_cons_zero, List.set_cons_succ, i64_w, i32_w]
          rfl
         refine pure_ (i := 4) (N := some 50) (v := ?_) (a' := ?_) #[true, false, true, true, true, false, false, false, false, false] rfl rfl (any_of HT_.out q9_) (fun _ _ _ h => h) (Or.inl ⟨by rfl, ?_⟩) ?_ ?_
         rotate_left
         ·intro w'
          go_simp
          with_reducible rfl
         rotate_left
         ·simp only [Act.put, List.setIfInBounds_toArray, List.set_cons_zero, List.set_cons_succ, i64_w, i32_w]
          rfl
         refine take_ (i := 1) (N := some 47) (v := ?_) (a' := ?_) #[true, true, true, true, true, false, false, false, false, false] rfl rfl (take_ofW HT_.out HW_.out q9_) (fun _ _ _ h => h) (Or.inl ⟨by rfl, ?_⟩) hHeld ?_ ?_
         rotate_left
         ·rintro w' ⟨s0, s1, s2, s3, s4, s5, s6⟩
          go_simp
          with_reducible rfl
         rotate_left
         ·simp only [Act.put, List.setIfInBounds_toArray, List.set_cons_zero, List.set_cons_succ, i64_w, i32_w]
          rfl
         refine take_ (i := 5) (N := some 51) (v := ?_) (a' := ?_) #[true, true, true, true, true, true, false, false, false, false] rfl rfl (take_ofW HT_.out HW_.out q9_) (fun _ _ _ h => h) (Or.inl ⟨by rfl, ?_⟩) hHeld ?_ ?_
         rotate_left
         ·rintro w' ⟨s0, s1, s2, s3, s4, s5, s6⟩
          go_simp
          with_reducible rfl
         rotate_left
         ·simp only [Act.put, List.setIfInBounds_toArray, List.set_cons_zero, List.set_cons_succ, i64_w, i32_w]
          rfl
         refine one_ (i := 6) (N := some 52) #[true, true, true, true, true, true, true, false, false, false] rfl rfl (one_of HT_.out q9_) (by decide) (fun K hK => ?_)
         refine value_ (w1 := ?_) (v := ?_) (by rfl) rfl ?_ ?_
         rotate_left 2
         ·go_simp
          constructor
          ·rfl
          ·rfl
         refine hK.out _ _ ⟨(blk_cell (blk_alloc BK188.out _) 0).trans rfl, (blk_cell (blk_alloc BK188.out _) 1).trans rfl, (blk_cell (blk_alloc BK188.out _) 2).trans rfl, (blk_cell (blk_alloc BK188.out _) 3).trans rfl, (blk_cell (blk_alloc BK188.out _) 4).trans rfl, (World.cell?_alloc_lt _ _ _ (World.block_lt_of_cell? _ _ (hHeld.2.2.2.2.2.1))).trans (hHeld.2.2.2.2.2.1), (World.cell?_alloc_lt _ _ _ (World.block_lt_of_cell? _ _ (hHeld.2.2.2.2.2.2))).trans (hHeld.2.2.2.2.2.2)⟩ (fun hHeld => ?_)
         clear hK K
         refine norm_ (a' := ?_) ?_ ?_
         rotate_left
         ·show Act.put _ (some 52) _ = _
          simp only [Act.put, List.setIfInBounds_toArray, List.set_cons_zero, List.set_cons_succ, i64_w, i32_w]
          rfl
         refine last_ (i := 7) (N := some 53) #[true, true, true, true, true, true, true, true, false, false] rfl rfl (one_of HT_.out q9_) (by decide) (fun K hK => ?_)
         refine Kd.R_append_step k30 (w0 := w) w.heap.size (by rfl) (.tmp 47) (.tmp 52) 25 30 (.agg #[(.string ⟨#[]⟩), (.string ⟨#[]⟩)]) 32 rfl Tryz.underlying25 info30 rfl (by decide) (by omega) u189002 x189002_1 (⟨(rd_T30 t181 x11_1).f0, (rd_T30 t181 x11_1).f1⟩ : S30) [.string ((rd_T30 t181 x11_1).f0), .string ((rd_T30 t181 x11_1).f1)] (fun k_ => some k_ ≠ (.slice (some ad203) t181.length co16 : Value).ownBlock) (fun _ => False) rfl rfl ?aP (fun _ hk => hk.elim) ?aF ?aO ?aB ?aS ?aL ?_
         (case aP => exact k30_mkM _ _ _ (⟨(rd_T30 t181 x11_1).f0, (rd_T30 t181 x11_1).f1⟩ : S30))
         (case aB => exact q8_)
         (case aF => exact (fun k_ hk => Kd.fresh' (Kd.R_lt q33_) k_ hk))
         (case aO => exact (by (with_reducible repeat (first | apply Kd.R_alloc | apply Kd.R_drewN | apply Kd.R_drew)); exact HO_189002.out))
         (case aS => exact (below_size q8_))
         (case aL => have := LMc36.out; omega)
         intro v208 w40 ho hb hg hat
         rw [← Ny207.out] at ho
         have n0_ := Aside0.mk (Kd.R_after (ok := (fun _ => True)) (by (with_reducible repeat (first | apply Kd.R_alloc | apply Kd.R_drewN | apply Kd.R_drew)); exact Kd.R_mono HO_8.out (fun _ hk => ⟨trivial, hk⟩)) hg hat)
         have n1_ := Aside0.mk (Kd.R_over' (by (with_reducible repeat (first | apply Kd.R_alloc | apply Kd.R_drewN | apply Kd.R_drew)); exact HO_9.out) (Kd.R_typed (by (with_reducible repeat (first | apply Kd.R_alloc | apply Kd.R_drewN | apply Kd.R_drew)); exact HO_189002.out)) (by decide) hg)
         have n2_ := Aside0.mk (Kd.R_over' (by (with_reducible repeat (first | apply Kd.R_alloc | apply Kd.R_drewN | apply Kd.R_drew)); exact HO_189003.out) (Kd.R_typed (by (with_reducible repeat (first | apply Kd.R_alloc | apply Kd.R_drewN | apply Kd.R_drew)); exact HO_189002.out)) (by decide) hg)
         have n3_ := Aside0.mk (blk_grown (g := gb177) (o := .cells #[.int .i64 a0_0, .slice A0_1 l0_1.length c0_1, .slice A0_2 l0_2.length c0_2] 28 (0, 0)) q26_ hg (Kd.R_ne HO_189002.out BK177.out (by decide)))
         have n4_ := Aside0.mk (blk_grown (g := gb178) (o := .cells #[.int .i64 0, .int .i64 0, .slice none 0 0, .slice none 0 0, .string (⟨#[]⟩ : ByteArray)] 93 (0, 0)) (by (with_reducible repeat (first | refine blk_drewN ?_ _ | refine blk_drew ?_ | refine blk_alloc ?_ _)); exact BK178.out) hg (Kd.R_ne HO_189002.out BK178.out (by decide)))
         have n5_ := Aside0.mk (blk_grown (g := gb188) (o := .cells #[.int .i64 3, .int .i64 t180, u189002, .slice Ao17 t184.length co17, .string t187] 93 (0, 0)) (by (with_reducible repeat (first | refine blk_drewN ?_ _ | refine blk_drew ?_ | refine blk_alloc ?_ _)); exact BK188.out) hg (Kd.R_ne HO_189002.out BK188.out (by decide)))
         have n6_ := Aside0.mk (hb)
         have n7_ := Aside0.mk (ho)
         clear HO_8
         clear HO_9
         clear HO_189003
         clear BK177
         clear BK178
         clear BK188
         clear HB
         clear HO_189002
         have HO_8 := n0_
         have HO_9 := n1_
         have HO_189003 := n2_
         have BK177 := n3_
         have BK178 := n4_
         have BK188 := n5_
         have HB := n6_
         have HO209 := n7_
         clear n0_ n1_ n2_ n3_ n4_ n5_ n6_ n7_
         clear ho hb hg hat
         obtain ⟨Ao41, co41, eo41⟩ := Kd.R_slice HO209.out
         (first | subst eo41 | (injection eo41 with f1_ f2_ f3_; have f4_ := f1_.symm; have f5_ := f3_.symm; clear f1_ f2_ f3_; subst f4_; subst f5_))
         refine hK.out _ _ ?_
         clear hK K
         refine norm_ (a' := ?_) ?_ ?_
         rotate_left
         ·show Act.put _ (some 53) _ = _
          simp only [Act.put, List.setIfInBounds_toArray, List.set_cons_zero, List.set_cons_succ, i64_w, i32_w]
          rfl
         refine pure_ (i := 8) (N := some 54) (v := ?_) (a' := ?_) #[true, true, true, true, true, true, true, true, true, false] rfl rfl (any_of HT_.out q9_) (fun _ _ _ h => h) (Or.inl ⟨by rfl, ?_⟩) ?_ ?_
         rotate_left
         ·intro w'
          go_simp
          with_reducible rfl
         rotate_left
         ·simp only [Act.put, List.setIfInBounds_toArray, List.set_cons_zero, List.set_cons_succ, i64_w, i32_w]
          rfl
         refine last_ (i := 9) (N := none) #[true, true, true, true, true, true, true, true, true, true] rfl rfl (one_of HT_.out q9_) (by decide) (fun K hK => ?_)
         have hs42 : w40.cell? ⟨gb188, 2, none⟩ = some (u189002) := (blk_cell BK188.out 2).trans rfl
         have hfs42 := blk_frozen BK188.out 2
         have hns42_0 := NB177_188.out
         have hns42_1 := NB178_188.out
         have hms42_0 := NB188_177.out
         have hms42_1 := NB188_178.out
         refine skip_ (w1 := ?_) (by rfl) rfl ?_ ?_
         rotate_left
         ·go_simp
          rfl
         refine hK.out _ _ ?_
         clear hK K
         refine done_ (done_of HT_.out q9_) ?_
         try go_wp2
         go_roundg k1
         case measure => have := HK1.out; omega
         case rel => exact ⟨(wrap64 (x11_1 + 1)), (y207), (.slice Ao41 y207.length co41), rS, H', ⟨by have := HK1.out; omega⟩, ⟨by (with_reducible repeat (first | apply Kd.R_alloc | apply Kd.R_drewN | apply Kd.R_drew)); exact Kd.R_mono (Kd.R_far (p := ⟨gb188, 2, none⟩) (Kd.R_types HO_8.out BK188.out (by decide)) (fun _ hk => hk.2) (.slice Ao41 y207.length co41)) (fun _ hk => hk.1.2)⟩, ⟨by (with_reducible repeat (first | apply Kd.R_alloc | apply Kd.R_drewN | apply Kd.R_drew)); exact Kd.R_mono (Kd.R_far (p := ⟨gb188, 2, none⟩) (Kd.R_types HO_9.out BK188.out (by decide)) (fun _ hk => hk.2) (.slice Ao41 y207.length co41)) (fun _ hk => trivial)⟩, ⟨by (with_reducible repeat (first | apply Kd.R_alloc | apply Kd.R_drewN | apply Kd.R_drew)); exact Kd.R_mono (Kd.R_far (p := ⟨gb188, 2, none⟩) (Kd.R_types HO209.out BK188.out (by decide)) (fun _ hk => hk.2) (.slice Ao41 y207.length co41)) (fun _ hk => hk.1)⟩, ⟨by (with_reducible repeat (first | apply Kd.R_alloc | apply Kd.R_drewN | apply Kd.R_drew)); exact Kd.R_mono (Kd.R_far (p := ⟨gb188, 2, none⟩) (Kd.R_types HO_189003.out BK188.out (by decide)) (fun _ hk => hk.2) (.slice Ao41 y207.length co41)) (fun _ hk => trivial)⟩, ⟨by (with_reducible repeat (first | refine blk_drewN ?_ _ | refine blk_drew ?_ | refine blk_alloc ?_ _)); refine blk_far ?_ NB177_188.out _; (with_reducible repeat (first | refine blk_drewN ?_ _ | refine blk_drew ?_ | refine blk_alloc ?_ _)); exact BK177.out⟩, ⟨by (with_reducible repeat (first | refine blk_drewN ?_ _ | refine blk_drew ?_ | refine blk_alloc ?_ _)); refine blk_far ?_ NB178_188.out _; (with_reducible repeat (first | refine blk_drewN ?_ _ | refine blk_drew ?_ | refine blk_alloc ?_ _)); exact BK178.out⟩, ⟨by (with_reducible repeat (first | refine blk_drewN ?_ _ | refine blk_drew ?_ | refine blk_alloc ?_ _)); refine blk_put (cs := #[.int .i64 3, .int .i64 t180, u189002, .slice Ao17 t184.length co17, .string t187]) ?_ 2 _ rfl; (with_reducible repeat (first | refine blk_drewN ?_ _ | refine blk_drew ?_ | refine blk_alloc ?_ _)); exact BK188.out⟩, ⟨by repeat (first | (with_reducible first | exact HB.out | apply below_alloc | apply pw_below_drewN | apply below_drew1 | refine below_set ?_ GE177.out | refine below_set ?_ GE178.out | refine below_set ?_ GE188.out) | exact HB.out)⟩⟩
        ·rw [if_neg c36] at H
         exact absurd H (by simp)
       ·replace c35 := Bool.eq_false_iff.mpr c35
        subst c35
        have H1 : (ostiaryref20_Share.l0 k1 t181 y196 false (wrap64 (x11_1 + 1)) 3 t180 x189002_1 t184 t187) = some (r1, r2, r3, r4, r5) := by rw [if_neg (show ¬ (false = true) by decide)] at H; exact H
        clear H
        have H := H1
        clear H1
        have H' := Aside0.mk H
        clear H
        have p203 : 0 ≤ (x11_1 : Int) := of_decide_eq_true aS
        have q203 : x11_1 < (t181.length : Int) := of_decide_eq_true aS
        obtain ⟨ad203, e203, hx203_0, hx203_1⟩ := at_T30 (Kd.R_reads' HO_8.out).2.2 x11_1 p203 q203
        cases e203
        replace p203 := eq_true p203
        replace q203 := eq_true q203
        go_wp2_with (first | (go_at_call 102; (with_reducible refine (ostiaryref1_Lower.calls ((rd_T30 t181 x11_1).f0) t204 _ A33.out).mono ?_); rintro e w43 ⟨rfl, hb⟩; have n0_ := Aside0.mk (Kd.R_below q33_ hb); have n1_ := Aside0.mk (Kd.R_below (by (with_reducible repeat (first | apply Kd.R_alloc | apply Kd.R_drewN | apply Kd.R_drew)); exact HO_9.out) hb); have n2_ := Aside0.mk (Kd.R_below (by (with_reducible repeat (first | apply Kd.R_alloc | apply Kd.R_drewN | apply Kd.R_drew)); exact HO_189002.out) hb); have n3_ := Aside0.mk (Kd.R_below (by (with_reducible repeat (first | apply Kd.R_alloc | apply Kd.R_drewN | apply Kd.R_drew)); exact HO_189003.out) hb); have n4_ := Aside0.mk (blk_below (g := gb177) (o := .cells #[.int .i64 a0_0, .slice A0_1 l0_1.length c0_1, .slice A0_2 l0_2.length c0_2] 28 (0, 0)) q26_ hb); have n5_ := Aside0.mk (blk_below (g := gb178) (o := .cells #[.int .i64 0, .int .i64 0, .slice none 0 0, .slice none 0 0, .string (⟨#[]⟩ : ByteArray)] 93 (0, 0)) (by (with_reducible repeat (first | refine blk_drewN ?_ _ | refine blk_drew ?_ | refine blk_alloc ?_ _)); exact BK178.out) hb); have n6_ := Aside0.mk (blk_below (g := gb188) (o := .cells #[.int .i64 3, .int .i64 t180, u189002, .slice Ao17 t184.length co17, .string t187] 93 (0, 0)) (by (with_reducible repeat (first | refine blk_drewN ?_ _ | refine blk_drew ?_ | refine blk_alloc ?_ _)); exact BK188.out) hb); have n7_ := Aside0.mk (below_step q8_ hb); clear HO_8; clear HO_9; clear HO_189002; clear HO_189003; clear BK177; clear BK178; clear BK188; clear HB; have HO_8 := n0_; have HO_9 := n1_; have HO_189002 := n2_; have HO_189003 := n3_; have BK177 := n4_; have BK178 := n5_; have BK188 := n6_; have HB := n7_; clear n0_ n1_ n2_ n3_ n4_ n5_ n6_ n7_; (try clear hb); (try clear hb2); (try clear hk); (try clear hi); obtain ⟨Ao44, co44, eo44⟩ := Kd.R_slice HO_9.out; subst eo44) | (go_at_call 101; (with_reducible refine (ostiaryref1_Has.calls k1 _ _ y196 t204 false _ ?side1 ?side2 A34.out).mono ?_); (case side1 => repeat (first | exact (Kd.R_reads' HO_9.out).2.2 | (with_reducible refine Kd.C_alloc ?_ _) | (with_reducible refine Kd.C_drewN ?_ _) | (with_reducible refine Kd.C_drew ?_))); (case side2 => exact (Kd.R_reads' HO_9.out).2.1); rintro e w' ⟨rfl, ⟨nd, rfl⟩⟩))
        go_roundg k1
        case measure => have := HK1.out; omega
        case rel => exact ⟨(wrap64 (x11_1 + 1)), (x189002_1), (u189002), rS, H', ⟨by have := HK1.out; omega⟩, ⟨by (with_reducible repeat (first | apply Kd.R_alloc | apply Kd.R_drewN | apply Kd.R_drew)); exact HO_8.out⟩, ⟨by (with_reducible repeat (first | apply Kd.R_alloc | apply Kd.R_drewN | apply Kd.R_drew)); exact HO_9.out⟩, ⟨by (with_reducible repeat (first | apply Kd.R_alloc | apply Kd.R_drewN | apply Kd.R_drew)); exact HO_189002.out⟩, ⟨by (with_reducible repeat (first | apply Kd.R_alloc | apply Kd.R_drewN | apply Kd.R_drew)); exact HO_189003.out⟩, ⟨by (with_reducible repeat (first | refine blk_drewN ?_ _ | refine blk_drew ?_ | refine blk_alloc ?_ _)); exact BK177.out⟩, ⟨by (with_reducible repeat (first | refine blk_drewN ?_ _ | refine blk_drew ?_ | refine blk_alloc ?_ _)); exact BK178.out⟩, ⟨by (with_reducible repeat (first | refine blk_drewN ?_ _ | refine blk_drew ?_ | refine blk_alloc ?_ _)); exact BK188.out⟩, ⟨by repeat (first | (with_reducible first | exact HB.out | apply below_alloc | apply pw_below_drewN | apply below_drew1 | refine below_set ?_ GE177.out | refine below_set ?_ GE178.out | refine below_set ?_ GE188.out) | exact HB.out)⟩⟩
      ·rw [if_neg c32] at H
       exact absurd H (by simp)
    ·rw [if_neg c24] at H
     have c24b0 : decide (x11_1 < (t181.length : Int)) = false := decide_eq_false c24
     clear c24
     simp only [Option.some.injEq, Prod.mk.injEq] at H
     obtain ⟨rfl, rfl, rfl, rfl, rfl⟩ := H
     have hnb45 := NB188_177.out
     have hnc45 := NB177_188.out
     have hnb46 := NB188_178.out
     have hnc46 := NB178_188.out
     have hcz47_0 : wr.cell? ⟨gb188, 0, none⟩ = some (.int .i64 3) := (blk_cell BK188.out 0).trans rfl
     have hcz47_1 : wr.cell? ⟨gb188, 1, none⟩ = some (.int .i64 t180) := (blk_cell BK188.out 1).trans rfl
     have hcz47_2 : wr.cell? ⟨gb188, 2, none⟩ = some (u189002) := (blk_cell BK188.out 2).trans rfl
     have hcz47_3 : wr.cell? ⟨gb188, 3, none⟩ = some (.slice Ao17 t184.length co17) := (blk_cell BK188.out 3).trans rfl
     have hcz47_4 : wr.cell? ⟨gb188, 4, none⟩ = some (.string t187) := (blk_cell BK188.out 4).trans rfl
     have hfz47_0 := blk_frozen BK188.out 0
     have hfz47_1 := blk_frozen BK188.out 1
     have hfz47_2 := blk_frozen BK188.out 2
     have hfz47_3 := blk_frozen BK188.out 3
     have hfz47_4 := blk_frozen BK188.out 4
     have hnb48 := NB178_177.out
     have hnc48 := NB177_178.out
     have hcz49_0 : wr.cell? ⟨gb178, 0, none⟩ = some (.int .i64 0) := (blk_cell BK178.out 0).trans rfl
     have hcz49_1 : wr.cell? ⟨gb178, 1, none⟩ = some (.int .i64 0) := (blk_cell BK178.out 1).trans rfl
     have hcz49_2 : wr.cell? ⟨gb178, 2, none⟩ = some (.slice none 0 0) := (blk_cell BK178.out 2).trans rfl
     have hcz49_3 : wr.cell? ⟨gb178, 3, none⟩ = some (.slice none 0 0) := (blk_cell BK178.out 3).trans rfl
     have hcz49_4 : wr.cell? ⟨gb178, 4, none⟩ = some (.string (⟨#[]⟩ : ByteArray)) := (blk_cell BK178.out 4).trans rfl
     have hfz49_0 := blk_frozen BK178.out 0
     have hfz49_1 := blk_frozen BK178.out 1
     have hfz49_2 := blk_frozen BK178.out 2
     have hfz49_3 := blk_frozen BK178.out 3
     have hfz49_4 := blk_frozen BK178.out 4
     obtain ⟨Ao50, co50, eo50⟩ := Kd.R_slice HO_189002.out
     subst eo50
     go_wp2
     refine bodyPost_ret (results_cell_row rfl _ _ gb178 93 #[.int .i64 3, .int .i64 t180, .slice Ao50 x189002_1.length co50, .slice Ao17 t184.length co17, .string t187] (0, 0) _ rfl (by (with_reducible repeat (first | refine blk_drewN ?_ _ | refine blk_drew ?_ | refine blk_alloc ?_ _)); refine blk_put (cs := #[.int .i64 3, .int .i64 t180, .slice Ao50 x189002_1.length co50, .slice Ao17 t184.length co17, .string (⟨#[]⟩ : ByteArray)]) ?_ 4 _ rfl; (with_reducible repeat (first | refine blk_drewN ?_ _ | refine blk_drew ?_ | refine blk_alloc ?_ _)); refine blk_put (cs := #[.int .i64 3, .int .i64 t180, .slice Ao50 x189002_1.length co50, .slice none 0 0, .string (⟨#[]⟩ : ByteArray)]) ?_ 3 _ rfl; (with_reducible repeat (first | refine blk_drewN ?_ _ | refine blk_drew ?_ | refine blk_alloc ?_ _)); refine blk_put (cs := #[.int .i64 3, .int .i64 t180, .slice none 0 0, .slice none 0 0, .string (⟨#[]⟩ : ByteArray)]) ?_ 2 _ rfl; (with_reducible repeat (first | refine blk_drewN ?_ _ | refine blk_drew ?_ | refine blk_alloc ?_ _)); refine blk_put (cs := #[.int .i64 3, .int .i64 0, .slice none 0 0, .slice none 0 0, .string (⟨#[]⟩ : ByteArray)]) ?_ 1 _ rfl; (with_reducible repeat (first | refine blk_drewN ?_ _ | refine blk_drew ?_ | refine blk_alloc ?_ _)); refine blk_put (cs := #[.int .i64 0, .int .i64 0, .slice none 0 0, .slice none 0 0, .string (⟨#[]⟩ : ByteArray)]) ?_ 0 _ rfl; (with_reducible repeat (first | refine blk_drewN ?_ _ | refine blk_drew ?_ | refine blk_alloc ?_ _)); exact BK178.out) Tryz.underlying93 rfl q9_) rfl ?_
     exact ⟨_, _, by first | rfl | (simp [errW_none, errW_some] <;> rfl) | (simp [*, errW_none, errW_some] <;> rfl), by (with_reducible repeat (first | apply Kd.R_alloc | apply Kd.R_drewN | apply Kd.R_drew)); exact Kd.R_mono (Kd.R_far (p := ⟨gb178, 4, none⟩) (Kd.R_far (p := ⟨gb178, 3, none⟩) (Kd.R_far (p := ⟨gb178, 2, none⟩) (Kd.R_far (p := ⟨gb178, 1, none⟩) (Kd.R_far (p := ⟨gb178, 0, none⟩) (Kd.R_types HO_189002.out BK178.out (by decide)) (fun _ hk => hk.2) (.int .i64 3)) (fun _ hk => hk.2) (.int .i64 t180)) (fun _ hk => hk.2) (.slice Ao50 x189002_1.length co50)) (fun _ hk => hk.2) (.slice Ao17 t184.length co17)) (fun _ hk => hk.2) (.string t187)) (fun _ hk => trivial), by (with_reducible repeat (first | apply Kd.R_alloc | apply Kd.R_drewN | apply Kd.R_drew)); exact Kd.R_mono (Kd.R_far (p := ⟨gb178, 4, none⟩) (Kd.R_far (p := ⟨gb178, 3, none⟩) (Kd.R_far (p := ⟨gb178, 2, none⟩) (Kd.R_far (p := ⟨gb178, 1, none⟩) (Kd.R_far (p := ⟨gb178, 0, none⟩) (Kd.R_types HO_189003.out BK178.out (by decide)) (fun _ hk => hk.2) (.int .i64 3)) (fun _ hk => hk.2) (.int .i64 t180)) (fun _ hk => hk.2) (.slice Ao50 x189002_1.length co50)) (fun _ hk => hk.2) (.slice Ao17 t184.length co17)) (fun _ hk => hk.2) (.string t187)) (fun _ hk => trivial), by repeat (first | (with_reducible first | exact HB.out | apply below_alloc | apply pw_below_drewN | apply below_drew1 | refine below_set ?_ GE177.out | refine below_set ?_ GE178.out | refine below_set ?_ GE188.out) | exact HB.out)⟩
 ·rw [if_neg c6] at H
  exact absurd H (by simp)
end Go.Proofs.YtifmkgkiipckbaaGreatDoor.P
