/- A part of the proof of CorsLess: texts of walks and plain lemmas. -/
import Derived.Test.YtifmkgkiipckbaaDoorX1
import Derived.Test.YtifmkgkiipckbaaDoorX19
import Derived.Test.YtifmkgkiipckbaaDoorX11
import Derived.Test.YtifmkgkiipckbaaDoorX6
import Derived.Test.YtifmkgkiipckbaaDoorX18
import Derived.Lib.ItoaLen
import Derived.Lib.ItoaMem
namespace Go.Proofs.YtifmkgkiipckbaaDoor.P
open Go.RowKit Go.Proofs.YtifmkgkiipckbaaDoorW.PrintWords Go.Proofs.YtifmkgkiipckbaaDoorW.PrintLast Go.Proofs.YtifmkgkiipckbaaDoorW.PrintMore
attribute [local go_sem] max2_int min2_int max_two min_two max_three min_three max_four min_four
set_option linter.unusedVariables false
set_option linter.unusedSimpArgs false
def cors_Check.j0 : Nat → Bool → List (S72) → ByteArray → Bool → ByteArray → ByteArray → Int → Bool → Option (Bool)
 | 0, _, _, _, _, _, _, _, _ => none
 | k + 1, x1, x2, x7, x17, x193000, x193001, x193002, x193003 => if x17 = true then (some true) else ((origin_Text.f k x193000 x193001 x193002 x193003).bind fun t195 => (if x7.toList = t195.toList then ((headers_Get.f k x2 (⟨#[97, 99, 99, 101, 115, 115, 45, 99, 111, 110, 116, 114, 111, 108, 45, 97, 108, 108, 111, 119, 45, 99, 114, 101, 100, 101, 110, 116, 105, 97, 108, 115]⟩ : ByteArray)).bind fun bt196 => (if x1 = true then (some (bt196.1.toList == ([116, 114, 117, 101] : List UInt8))) else (some true))) else (some false)))
def cors_Check.f (k : Nat) (a0_0 : ByteArray) (a0_1 : ByteArray) (a0_2 : Int) (a0_3 : Bool) (a1 : Bool) (l2 : List (S72)) : Option (Bool) := (headers_Get.f k l2 (⟨#[97, 99, 99, 101, 115, 115, 45, 99, 111, 110, 116, 114, 111, 108, 45, 97, 108, 108, 111, 119, 45, 111, 114, 105, 103, 105, 110]⟩ : ByteArray)).bind fun bt193 => (if bt193.2 = true then (if bt193.1.toList = ([42] : List UInt8) then (cors_Check.j0 k a1 l2 bt193.1 (!a1) a0_0 a0_1 a0_2 a0_3) else (cors_Check.j0 k a1 l2 bt193.1 false a0_0 a0_1 a0_2 a0_3)) else (some false))
theorem cors_Check.mono_l : ∀ k, (∀ y0 y1 y2 y3 y4 y5 y6 y7, LeO (cors_Check.j0 k y0 y1 y2 y3 y4 y5 y6 y7) (cors_Check.j0 (k + 1) y0 y1 y2 y3 y4 y5 y6 y7))
 | 0 => fun _ _ _ _ _ _ _ _ r h => by simp [cors_Check.j0] at h
 | k + 1 => by
  have ih0 := cors_Check.mono_l k
  ·intro y0 y1 y2 y3 y4 y5 y6 y7
   unfold cors_Check.j0
   repeat' first
   | (with_reducible exact ih0 _ _ _ _ _ _ _ _)
   | (with_reducible exact headers_Get.mono _ _ _)
   | (with_reducible exact origin_Text.mono _ _ _ _ _)
   | (with_reducible exact LeO.refl _)
   | (with_reducible exact LeO.none _)
   | (with_reducible refine LeO.ite ?_ ?_)
   | (with_reducible refine LeO.bind ?_ (fun _ => ?_))
   | exact ih0 _ _ _ _ _ _ _ _
   | exact headers_Get.mono _ _ _
   | exact origin_Text.mono _ _ _ _ _
   | exact LeO.none _
   | refine LeO.ite ?_ ?_
   | refine LeO.bind ?_ (fun _ => ?_)
theorem cors_Check.mono : ∀ a0 a1 a2 a3 a4 a5 k, LeO (cors_Check.f k a0 a1 a2 a3 a4 a5) (cors_Check.f (k + 1) a0 a1 a2 a3 a4 a5) := by
 intro a0 a1 a2 a3 a4 a5 k
 have ih0 := cors_Check.mono_l k
 unfold cors_Check.f
 repeat' first
   | (with_reducible exact ih0 _ _ _ _ _ _ _ _)
   | (with_reducible exact headers_Get.mono _ _ _)
   | (with_reducible exact origin_Text.mono _ _ _ _ _)
   | (with_reducible exact LeO.refl _)
   | (with_reducible exact LeO.none _)
   | (with_reducible refine LeO.ite ?_ ?_)
   | (with_reducible refine LeO.bind ?_ (fun _ => ?_))
   | exact ih0 _ _ _ _ _ _ _ _
   | exact headers_Get.mono _ _ _
   | exact origin_Text.mono _ _ _ _ _
   | exact LeO.none _
   | refine LeO.ite ?_ ?_
   | refine LeO.bind ?_ (fun _ => ?_)
set_option maxHeartbeats 8000000 in
set_option maxRecDepth 100000 in
theorem cors_Check.calls (k : Nat) (a0_0 : ByteArray) (a0_1 : ByteArray) (a0_2 : Int) (a0_3 : Bool) (a1 : Bool) (A2 : Option Addr) (c2 : Nat) (l2 : List (S72)) (r : Bool) (w : World) (hr2 : Kd.C k72 w A2 l2.length l2) (hc2 : l2.length ≤ c2) (hLdLPow : LPow w) (h : cors_Check.f k a0_0 a0_1 a0_2 a0_3 a1 l2 = some r) :
  Calls Tryd.prog 12 #[.agg #[.string a0_0, .string a0_1, .int .i64 a0_2, .bool a0_3], .bool a1, .slice A2 l2.length c2] w fun e w' => e = .returned (.bool r) ∧ Below w.heap.size w w' := by
 have HLdLPow := Aside0.mk hLdLPow
 clear hLdLPow
 have hu25 := Tryd.underlying25
 have HR2 := Aside0.mk hr2
 have HC2 := Aside0.mk hc2
 clear hr2 hc2
 have HB := Aside0.mk (Below.refl w.heap.size w)
 have H : ((headers_Get.f k l2 (⟨#[97, 99, 99, 101, 115, 115, 45, 99, 111, 110, 116, 114, 111, 108, 45, 97, 108, 108, 111, 119, 45, 111, 114, 105, 103, 105, 110]⟩ : ByteArray)).bind fun bt193 => (if bt193.2 = true then (if bt193.1.toList = ([42] : List UInt8) then (cors_Check.j0 k a1 l2 bt193.1 (!a1) a0_0 a0_1 a0_2 a0_3) else (cors_Check.j0 k a1 l2 bt193.1 false a0_0 a0_1 a0_2 a0_3)) else (some false))) = some r := h
 clear h
 replace H := Option.bind_eq_some_iff.mp H
 obtain ⟨⟨t193, t194⟩, A40, H⟩ := H
 replace H : (if t194 = true then (if t193.toList = ([42] : List UInt8) then (cors_Check.j0 k a1 l2 t193 (!a1) a0_0 a0_1 a0_2 a0_3) else (cors_Check.j0 k a1 l2 t193 false a0_0 a0_1 a0_2 a0_3)) else (some false)) = some r := H
 have A4 := Aside0.mk A40
 clear A40
 by_cases c5 : t194 = true
 ·subst c5
  have H1 : (if t193.toList = ([42] : List UInt8) then (cors_Check.j0 k a1 l2 t193 (!a1) a0_0 a0_1 a0_2 a0_3) else (cors_Check.j0 k a1 l2 t193 false a0_0 a0_1 a0_2 a0_3)) = some r := by rw [if_pos rfl] at H; exact H
  clear H
  have H := H1
  clear H1
  have HC6 := Aside0.mk H
  clear H
  go_enter Tryd.func12, Tryd.ntmps12
  go_upto_region 4 with (first | ((with_reducible refine gate_dst (N := 3) rfl ?_); refine box_event ?hg (N := 3) ?hd (cs := #[.string a0_0, .string a0_1, .int .i64 a0_2, .bool a0_3]) (t := 25) ?hr ?_; (case hd => rfl); (case hg => rfl); (case hr => first | (go_simp; done) | (go_simp; rfl)); intro gb192 hg w7 hbox hb; have n0_ := Aside0.mk (below_step hB hb); have n1_ := Aside0.mk (hbox); have n2_ := Aside0.mk ((by rw [hg]; exact (below_size hB) : w.heap.size ≤ gb192)); have n3_ := Aside0.mk ((by rw [hg]; exact (below_size hB) : w.heap.size ≤ gb192)); clear HB; have HB := n0_; have BK192 := n1_; have GW192 := n2_; have GE192 := n3_; clear n0_ n1_ n2_ n3_; clear hb hbox hg) | ((with_reducible refine gate_callee (f := 48) rfl ?_); refine goesL_ (some 11) rfl rfl Tryd.func48 q2_ rfl #[.slice A2 l2.length c2, .string (⟨#[97, 99, 99, 101, 115, 115, 45, 99, 111, 110, 116, 114, 111, 108, 45, 97, 108, 108, 111, 119, 45, 111, 114, 105, 103, 105, 110]⟩ : ByteArray)] rfl tS ?_; (with_reducible refine (headers_Get.calls k _ _ l2 (⟨#[97, 99, 99, 101, 115, 115, 45, 99, 111, 110, 116, 114, 111, 108, 45, 97, 108, 108, 111, 119, 45, 111, 114, 105, 103, 105, 110]⟩ : ByteArray) t193 true _ ?side1 ?side2 A4.out).mono ?_); (case side1 => repeat (first | exact (Kd.C_below HR2.out HB.out) | (with_reducible refine Kd.C_alloc ?_ _) | (with_reducible refine Kd.C_drewN ?_ _) | (with_reducible refine Kd.C_drew ?_))); (case side2 => exact HC2.out); rintro e w8 ⟨rfl, hb⟩; refine ⟨_, rfl, ?_⟩; have n0_ := Aside0.mk (blk_below (g := gb192) (o := .cells #[.string a0_0, .string a0_1, .int .i64 a0_2, .bool a0_3] 25 (0, 0)) q17_ hb); have n1_ := Aside0.mk (below_step q6_ hb); clear BK192; clear HB; have BK192 := n0_; have HB := n1_; clear n0_ n1_; (try clear hb); (try clear hb2); (try clear hk); (try clear hi)))
  (try simp only [Act.put, List.setIfInBounds_toArray, List.set_cons_zero, List.set_cons_succ])
  go_cut [17] (fun v17 wc => ∃ (kq : Nat) (x17_5 : Bool), v17 = .bool x17_5 ∧ Aside0 (cors_Check.j0 kq a1 l2 t193 x17_5 a0_0 a0_1 a0_2 a0_3 = some r) ∧ Aside0 (kq ≤ k) ∧ Aside0 (wc.heap[gb192]? = some (.cells #[.string a0_0, .string a0_1, .int .i64 a0_2, .bool a0_3] 25 (0, 0))) ∧ Aside0 (Below w.heap.size w wc))
  case first =>
   have H := HC6.out
   clear HC6
   by_cases c9 : t193.toList = ([42] : List UInt8)
   ·rw [if_pos c9] at H
    have c9b0 : (t193.toList == ([42] : List UInt8)) = true := beq_iff_eq.mpr c9
    have c9b1 : (t193.toList != ([42] : List UInt8)) = false := bne_eq_false_iff_eq.mpr c9
    clear c9
    (first | rw [c9b0] | (simp only [i64_w, i32_w]; rw [c9b0]) | skip)
    have H' := Aside0.mk H
    clear H
    go_wp2
    go_meet
    case rel => exact ⟨_, (!a1), rS, H', ⟨by first | omega | exact Nat.le_refl _⟩, ⟨by (with_reducible repeat (first | refine blk_drewN ?_ _ | refine blk_drew ?_ | refine blk_alloc ?_ _)); exact BK192.out⟩, ⟨by repeat (first | (with_reducible first | exact HB.out | apply below_alloc | apply pw_below_drewN | apply below_drew1 | refine below_set ?_ GE192.out) | exact HB.out)⟩⟩
   ·rw [if_neg c9] at H
    have c9b0 : (t193.toList == ([42] : List UInt8)) = false := beq_eq_false_iff_ne.mpr c9
    have c9b1 : (t193.toList != ([42] : List UInt8)) = true := bne_iff_ne.mpr c9
    (first | rw [c9b0] | (simp only [i64_w, i32_w]; rw [c9b0]) | skip)
    have H' := Aside0.mk H
    clear H
    go_wp2
    go_meet
    case rel => exact ⟨_, (false), rS, H', ⟨by first | omega | exact Nat.le_refl _⟩, ⟨by (with_reducible repeat (first | refine blk_drewN ?_ _ | refine blk_drew ?_ | refine blk_alloc ?_ _)); exact BK192.out⟩, ⟨by repeat (first | (with_reducible first | exact HB.out | apply below_alloc | apply pw_below_drewN | apply below_drew1 | refine below_set ?_ GE192.out) | exact HB.out)⟩⟩
  case rest =>
   clear HC6
   try clear c1
   try clear c2
   try clear p2
   try clear c4
   try clear c5
   try clear c9
   try clear c9b0
   try clear c9b1
   obtain ⟨kq, x17_5, rfl, HA, HJ5, BK192, HB⟩ := hcut
   cases kq with
   | zero => exact absurd HA.out (by simp [cors_Check.j0])
   | succ kj5 =>
    have H := HA.out
    clear HA
    simp only [cors_Check.j0] at H
    by_cases c10 : x17_5 = true
    ·subst c10
     have H1 : (some true) = some r := by rw [if_pos rfl] at H; exact H
     clear H
     have H := H1
     clear H1
     obtain rfl := Option.some.inj H
     go_wp2
     go_ret
     exact ⟨by first | rfl | (simp [errW_none, errW_some] <;> rfl) | (simp [*, errW_none, errW_some] <;> rfl), by repeat (first | (with_reducible first | exact HB.out | apply below_alloc | apply pw_below_drewN | apply below_drew1 | refine below_set ?_ GE192.out) | exact HB.out)⟩
    ·replace c10 := Bool.eq_false_iff.mpr c10
     subst c10
     have H1 : ((origin_Text.f kj5 a0_0 a0_1 a0_2 a0_3).bind fun t195 => (if t193.toList = t195.toList then ((headers_Get.f kj5 l2 (⟨#[97, 99, 99, 101, 115, 115, 45, 99, 111, 110, 116, 114, 111, 108, 45, 97, 108, 108, 111, 119, 45, 99, 114, 101, 100, 101, 110, 116, 105, 97, 108, 115]⟩ : ByteArray)).bind fun bt196 => (if a1 = true then (some (bt196.1.toList == ([116, 114, 117, 101] : List UInt8))) else (some true))) else (some false))) = some r := by rw [if_neg (show ¬ (false = true) by decide)] at H; exact H
     clear H
     have H := H1
     clear H1
     replace H := Option.bind_eq_some_iff.mp H
     obtain ⟨t195, A110, H⟩ := H
     replace H : (if t193.toList = t195.toList then ((headers_Get.f kj5 l2 (⟨#[97, 99, 99, 101, 115, 115, 45, 99, 111, 110, 116, 114, 111, 108, 45, 97, 108, 108, 111, 119, 45, 99, 114, 101, 100, 101, 110, 116, 105, 97, 108, 115]⟩ : ByteArray)).bind fun bt196 => (if a1 = true then (some (bt196.1.toList == ([116, 114, 117, 101] : List UInt8))) else (some true))) else (some false)) = some r := H
     have A11 := Aside0.mk A110
     clear A110
     by_cases c12 : t193.toList = t195.toList
     ·rw [if_pos c12] at H
      have c12b0 : (t193.toList == t195.toList) = true := beq_iff_eq.mpr c12
      have c12b1 : (t193.toList != t195.toList) = false := bne_eq_false_iff_eq.mpr c12
      clear c12
      replace H := Option.bind_eq_some_iff.mp H
      obtain ⟨⟨t196, t197⟩, A130, H⟩ := H
      replace H : (if a1 = true then (some (t196.toList == ([116, 114, 117, 101] : List UInt8))) else (some true)) = some r := H
      have A13 := Aside0.mk A130
      clear A130
      by_cases c14 : a1 = true
      ·subst c14
       have H1 : (some (t196.toList == ([116, 114, 117, 101] : List UInt8))) = some r := by rw [if_pos rfl] at H; exact H
       clear H
       have H := H1
       clear H1
       obtain rfl := Option.some.inj H
       have hcz15_0 : wc.cell? ⟨gb192, 0, none⟩ = some (.string a0_0) := (blk_cell BK192.out 0).trans rfl
       have hcz15_1 : wc.cell? ⟨gb192, 1, none⟩ = some (.string a0_1) := (blk_cell BK192.out 1).trans rfl
       have hcz15_2 : wc.cell? ⟨gb192, 2, none⟩ = some (.int .i64 a0_2) := (blk_cell BK192.out 2).trans rfl
       have hcz15_3 : wc.cell? ⟨gb192, 3, none⟩ = some (.bool a0_3) := (blk_cell BK192.out 3).trans rfl
       have hfz15_0 := blk_frozen BK192.out 0
       have hfz15_1 := blk_frozen BK192.out 1
       have hfz15_2 := blk_frozen BK192.out 2
       have hfz15_3 := blk_frozen BK192.out 3
       go_wp2_with (first | ((with_reducible refine gate_callee (f := 49) rfl ?_); refine goesL_ (some 27) rfl rfl Tryd.func49 q2_ rfl #[.agg #[.string a0_0, .string a0_1, .int .i64 a0_2, .bool a0_3]] rfl tS ?_; (with_reducible refine (origin_Text.calls kj5 a0_0 a0_1 a0_2 a0_3 t195 _ ?side1 A11.out).mono ?_); (case side1 => first | exact HLdLPow.out | ((with_reducible repeat (first | exact HLdLPow.out | apply LPow.drewN | apply LPow.drew)); done) | exact LPow.below HLdLPow.out q6_); rintro e w16 ⟨rfl, hb⟩; refine ⟨_, rfl, ?_⟩; have n0_ := Aside0.mk (blk_below (g := gb192) (o := .cells #[.string a0_0, .string a0_1, .int .i64 a0_2, .bool a0_3] 25 (0, 0)) q17_ hb); have n1_ := Aside0.mk (below_step q6_ hb); clear BK192; clear HB; have BK192 := n0_; have HB := n1_; clear n0_ n1_; (try clear hb); (try clear hb2); (try clear hk); (try clear hi)) | ((with_reducible refine gate_callee (f := 48) rfl ?_); refine goesL_ (some 31) rfl rfl Tryd.func48 q2_ rfl #[.slice A2 l2.length c2, .string (⟨#[97, 99, 99, 101, 115, 115, 45, 99, 111, 110, 116, 114, 111, 108, 45, 97, 108, 108, 111, 119, 45, 99, 114, 101, 100, 101, 110, 116, 105, 97, 108, 115]⟩ : ByteArray)] rfl tS ?_; (with_reducible refine (headers_Get.calls kj5 _ _ l2 (⟨#[97, 99, 99, 101, 115, 115, 45, 99, 111, 110, 116, 114, 111, 108, 45, 97, 108, 108, 111, 119, 45, 99, 114, 101, 100, 101, 110, 116, 105, 97, 108, 115]⟩ : ByteArray) t196 t197 _ ?side1 ?side2 A13.out).mono ?_); (case side1 => repeat (first | exact (Kd.C_below HR2.out HB.out) | (with_reducible refine Kd.C_alloc ?_ _) | (with_reducible refine Kd.C_drewN ?_ _) | (with_reducible refine Kd.C_drew ?_))); (case side2 => exact HC2.out); rintro e w17 ⟨rfl, hb⟩; refine ⟨_, rfl, ?_⟩; have n0_ := Aside0.mk (blk_below (g := gb192) (o := .cells #[.string a0_0, .string a0_1, .int .i64 a0_2, .bool a0_3] 25 (0, 0)) q17_ hb); have n1_ := Aside0.mk (below_step q6_ hb); clear BK192; clear HB; have BK192 := n0_; have HB := n1_; clear n0_ n1_; (try clear hb); (try clear hb2); (try clear hk); (try clear hi)))
       go_ret
       exact ⟨by first | rfl | (simp [errW_none, errW_some] <;> rfl) | (simp [*, errW_none, errW_some] <;> rfl), by repeat (first | (with_reducible first | exact HB.out | apply below_alloc | apply pw_below_drewN | apply below_drew1 | refine below_set ?_ GE192.out) | exact HB.out)⟩
      ·replace c14 := Bool.eq_false_iff.mpr c14
       subst c14
       have H1 : (some true) = some r := by rw [if_neg (show ¬ (false = true) by decide)] at H; exact H
       clear H
       have H := H1
       clear H1
       obtain rfl := Option.some.inj H
       have hcz18_0 : wc.cell? ⟨gb192, 0, none⟩ = some (.string a0_0) := (blk_cell BK192.out 0).trans rfl
       have hcz18_1 : wc.cell? ⟨gb192, 1, none⟩ = some (.string a0_1) := (blk_cell BK192.out 1).trans rfl
       have hcz18_2 : wc.cell? ⟨gb192, 2, none⟩ = some (.int .i64 a0_2) := (blk_cell BK192.out 2).trans rfl
       have hcz18_3 : wc.cell? ⟨gb192, 3, none⟩ = some (.bool a0_3) := (blk_cell BK192.out 3).trans rfl
       have hfz18_0 := blk_frozen BK192.out 0
       have hfz18_1 := blk_frozen BK192.out 1
       have hfz18_2 := blk_frozen BK192.out 2
       have hfz18_3 := blk_frozen BK192.out 3
       go_wp2_with (first | ((with_reducible refine gate_callee (f := 49) rfl ?_); refine goesL_ (some 27) rfl rfl Tryd.func49 q2_ rfl #[.agg #[.string a0_0, .string a0_1, .int .i64 a0_2, .bool a0_3]] rfl tS ?_; (with_reducible refine (origin_Text.calls kj5 a0_0 a0_1 a0_2 a0_3 t195 _ ?side1 A11.out).mono ?_); (case side1 => first | exact HLdLPow.out | ((with_reducible repeat (first | exact HLdLPow.out | apply LPow.drewN | apply LPow.drew)); done) | exact LPow.below HLdLPow.out q6_); rintro e w19 ⟨rfl, hb⟩; refine ⟨_, rfl, ?_⟩; have n0_ := Aside0.mk (blk_below (g := gb192) (o := .cells #[.string a0_0, .string a0_1, .int .i64 a0_2, .bool a0_3] 25 (0, 0)) q17_ hb); have n1_ := Aside0.mk (below_step q6_ hb); clear BK192; clear HB; have BK192 := n0_; have HB := n1_; clear n0_ n1_; (try clear hb); (try clear hb2); (try clear hk); (try clear hi)) | ((with_reducible refine gate_callee (f := 48) rfl ?_); refine goesL_ (some 31) rfl rfl Tryd.func48 q2_ rfl #[.slice A2 l2.length c2, .string (⟨#[97, 99, 99, 101, 115, 115, 45, 99, 111, 110, 116, 114, 111, 108, 45, 97, 108, 108, 111, 119, 45, 99, 114, 101, 100, 101, 110, 116, 105, 97, 108, 115]⟩ : ByteArray)] rfl tS ?_; (with_reducible refine (headers_Get.calls kj5 _ _ l2 (⟨#[97, 99, 99, 101, 115, 115, 45, 99, 111, 110, 116, 114, 111, 108, 45, 97, 108, 108, 111, 119, 45, 99, 114, 101, 100, 101, 110, 116, 105, 97, 108, 115]⟩ : ByteArray) t196 t197 _ ?side1 ?side2 A13.out).mono ?_); (case side1 => repeat (first | exact (Kd.C_below HR2.out HB.out) | (with_reducible refine Kd.C_alloc ?_ _) | (with_reducible refine Kd.C_drewN ?_ _) | (with_reducible refine Kd.C_drew ?_))); (case side2 => exact HC2.out); rintro e w20 ⟨rfl, hb⟩; refine ⟨_, rfl, ?_⟩; have n0_ := Aside0.mk (blk_below (g := gb192) (o := .cells #[.string a0_0, .string a0_1, .int .i64 a0_2, .bool a0_3] 25 (0, 0)) q17_ hb); have n1_ := Aside0.mk (below_step q6_ hb); clear BK192; clear HB; have BK192 := n0_; have HB := n1_; clear n0_ n1_; (try clear hb); (try clear hb2); (try clear hk); (try clear hi)))
       go_ret
       exact ⟨by first | rfl | (simp [errW_none, errW_some] <;> rfl) | (simp [*, errW_none, errW_some] <;> rfl), by repeat (first | (with_reducible first | exact HB.out | apply below_alloc | apply pw_below_drewN | apply below_drew1 | refine below_set ?_ GE192.out) | exact HB.out)⟩
     ·rw [if_neg c12] at H
      have c12b0 : (t193.toList == t195.toList) = false := beq_eq_false_iff_ne.mpr c12
      have c12b1 : (t193.toList != t195.toList) = true := bne_iff_ne.mpr c12
      obtain rfl := Option.some.inj H
      have hcz21_0 : wc.cell? ⟨gb192, 0, none⟩ = some (.string a0_0) := (blk_cell BK192.out 0).trans rfl
      have hcz21_1 : wc.cell? ⟨gb192, 1, none⟩ = some (.string a0_1) := (blk_cell BK192.out 1).trans rfl
      have hcz21_2 : wc.cell? ⟨gb192, 2, none⟩ = some (.int .i64 a0_2) := (blk_cell BK192.out 2).trans rfl
      have hcz21_3 : wc.cell? ⟨gb192, 3, none⟩ = some (.bool a0_3) := (blk_cell BK192.out 3).trans rfl
      have hfz21_0 := blk_frozen BK192.out 0
      have hfz21_1 := blk_frozen BK192.out 1
      have hfz21_2 := blk_frozen BK192.out 2
      have hfz21_3 := blk_frozen BK192.out 3
      go_wp2_with (first | ((with_reducible refine gate_callee (f := 49) rfl ?_); refine goesL_ (some 27) rfl rfl Tryd.func49 q2_ rfl #[.agg #[.string a0_0, .string a0_1, .int .i64 a0_2, .bool a0_3]] rfl tS ?_; (with_reducible refine (origin_Text.calls kj5 a0_0 a0_1 a0_2 a0_3 t195 _ ?side1 A11.out).mono ?_); (case side1 => first | exact HLdLPow.out | ((with_reducible repeat (first | exact HLdLPow.out | apply LPow.drewN | apply LPow.drew)); done) | exact LPow.below HLdLPow.out q6_); rintro e w22 ⟨rfl, hb⟩; refine ⟨_, rfl, ?_⟩; have n0_ := Aside0.mk (blk_below (g := gb192) (o := .cells #[.string a0_0, .string a0_1, .int .i64 a0_2, .bool a0_3] 25 (0, 0)) q17_ hb); have n1_ := Aside0.mk (below_step q6_ hb); clear BK192; clear HB; have BK192 := n0_; have HB := n1_; clear n0_ n1_; (try clear hb); (try clear hb2); (try clear hk); (try clear hi)))
      go_ret
      exact ⟨by first | rfl | (simp [errW_none, errW_some] <;> rfl) | (simp [*, errW_none, errW_some] <;> rfl), by repeat (first | (with_reducible first | exact HB.out | apply below_alloc | apply pw_below_drewN | apply below_drew1 | refine below_set ?_ GE192.out) | exact HB.out)⟩
 ·replace c5 := Bool.eq_false_iff.mpr c5
  subst c5
  have H1 : (some false) = some r := by rw [if_neg (show ¬ (false = true) by decide)] at H; exact H
  clear H
  have H := H1
  clear H1
  obtain rfl := Option.some.inj H
  go_enter Tryd.func12, Tryd.ntmps12
  go_wp2_with (first | ((with_reducible refine gate_dst (N := 3) rfl ?_); refine box_event ?hg (N := 3) ?hd (cs := #[.string a0_0, .string a0_1, .int .i64 a0_2, .bool a0_3]) (t := 25) ?hr ?_; (case hd => rfl); (case hg => rfl); (case hr => first | (go_simp; done) | (go_simp; rfl)); intro gb192 hg w23 hbox hb; have n0_ := Aside0.mk (below_step hB hb); have n1_ := Aside0.mk (hbox); have n2_ := Aside0.mk ((by rw [hg]; exact (below_size hB) : w.heap.size ≤ gb192)); have n3_ := Aside0.mk ((by rw [hg]; exact (below_size hB) : w.heap.size ≤ gb192)); clear HB; have HB := n0_; have BK192 := n1_; have GW192 := n2_; have GE192 := n3_; clear n0_ n1_ n2_ n3_; clear hb hbox hg) | ((with_reducible refine gate_callee (f := 48) rfl ?_); refine goesL_ (some 11) rfl rfl Tryd.func48 q2_ rfl #[.slice A2 l2.length c2, .string (⟨#[97, 99, 99, 101, 115, 115, 45, 99, 111, 110, 116, 114, 111, 108, 45, 97, 108, 108, 111, 119, 45, 111, 114, 105, 103, 105, 110]⟩ : ByteArray)] rfl tS ?_; (with_reducible refine (headers_Get.calls k _ _ l2 (⟨#[97, 99, 99, 101, 115, 115, 45, 99, 111, 110, 116, 114, 111, 108, 45, 97, 108, 108, 111, 119, 45, 111, 114, 105, 103, 105, 110]⟩ : ByteArray) t193 false _ ?side1 ?side2 A4.out).mono ?_); (case side1 => repeat (first | exact (Kd.C_below HR2.out HB.out) | (with_reducible refine Kd.C_alloc ?_ _) | (with_reducible refine Kd.C_drewN ?_ _) | (with_reducible refine Kd.C_drew ?_))); (case side2 => exact HC2.out); rintro e w24 ⟨rfl, hb⟩; refine ⟨_, rfl, ?_⟩; have n0_ := Aside0.mk (blk_below (g := gb192) (o := .cells #[.string a0_0, .string a0_1, .int .i64 a0_2, .bool a0_3] 25 (0, 0)) q17_ hb); have n1_ := Aside0.mk (below_step q6_ hb); clear BK192; clear HB; have BK192 := n0_; have HB := n1_; clear n0_ n1_; (try clear hb); (try clear hb2); (try clear hk); (try clear hi)))
  go_ret
  exact ⟨by first | rfl | (simp [errW_none, errW_some] <;> rfl) | (simp [*, errW_none, errW_some] <;> rfl), by repeat (first | (with_reducible first | exact HB.out | apply below_alloc | apply pw_below_drewN | apply below_drew1 | refine below_set ?_ GE192.out) | exact HB.out)⟩
end Go.Proofs.YtifmkgkiipckbaaDoor.P
namespace Go.Proofs.YtifmkgkiipckbaaDoor.P
open Go.RowKit Go.Proofs.YtifmkgkiipckbaaDoorW.PrintWords Go.Proofs.YtifmkgkiipckbaaDoorW.PrintLast Go.Proofs.YtifmkgkiipckbaaDoorW.PrintMore
attribute [local go_sem] max2_int min2_int max_two min_two max_three min_three max_four min_four
set_option linter.unusedVariables false
set_option linter.unusedSimpArgs false
def ostiaryref4_Text.f (k : Nat) (a0_0 : ByteArray) (a0_1 : ByteArray) (a0_2 : Int) (a0_3 : Bool) : Option (ByteArray) := if a0_3 = true then (some (⟨#[110, 117, 108, 108]⟩ : ByteArray)) else (if a0_0.size + 3 ≤ 9223372036854775807 then (if (a0_0 ++ (⟨#[58, 47, 47]⟩ : ByteArray)).size + a0_1.size ≤ 9223372036854775807 then ((ostiaryref3_Own.f k a0_0).bind fun t200 => (if a0_2 = t200 then (some ((a0_0 ++ (⟨#[58, 47, 47]⟩ : ByteArray)) ++ a0_1)) else (if ((a0_0 ++ (⟨#[58, 47, 47]⟩ : ByteArray)) ++ a0_1).size + 1 ≤ 9223372036854775807 then ((ostiaryref1_Numeral.f k a0_2).bind fun t201 => (if (((a0_0 ++ (⟨#[58, 47, 47]⟩ : ByteArray)) ++ a0_1) ++ (⟨#[58]⟩ : ByteArray)).size + t201.size ≤ 9223372036854775807 then (some ((((a0_0 ++ (⟨#[58, 47, 47]⟩ : ByteArray)) ++ a0_1) ++ (⟨#[58]⟩ : ByteArray)) ++ t201)) else (none))) else (none)))) else (none)) else (none))
theorem ostiaryref4_Text.mono : ∀ a0 a1 a2 a3 k, LeO (ostiaryref4_Text.f k a0 a1 a2 a3) (ostiaryref4_Text.f (k + 1) a0 a1 a2 a3) := by
 intro a0 a1 a2 a3 k
 unfold ostiaryref4_Text.f
 repeat' first
   | (with_reducible exact ostiaryref1_Numeral.mono _ _)
   | (with_reducible exact ostiaryref3_Own.mono _ _)
   | (with_reducible exact LeO.refl _)
   | (with_reducible exact LeO.none _)
   | (with_reducible refine LeO.ite ?_ ?_)
   | (with_reducible refine LeO.bind ?_ (fun _ => ?_))
   | exact ostiaryref1_Numeral.mono _ _
   | exact ostiaryref3_Own.mono _ _
   | exact LeO.none _
   | refine LeO.ite ?_ ?_
   | refine LeO.bind ?_ (fun _ => ?_)
set_option maxHeartbeats 8000000 in
set_option maxRecDepth 100000 in
theorem ostiaryref4_Text.calls (k : Nat) (a0_0 : ByteArray) (a0_1 : ByteArray) (a0_2 : Int) (a0_3 : Bool) (r : ByteArray) (w : World) (h : ostiaryref4_Text.f k a0_0 a0_1 a0_2 a0_3 = some r) :
  Calls Tryd.prog 13 #[.agg #[.string a0_0, .string a0_1, .int .i64 a0_2, .bool a0_3]] w fun e w' => e = .returned (.string r) ∧ Below w.heap.size w w' := by
 have hu25 := Tryd.underlying25
 have HB := Aside0.mk (Below.refl w.heap.size w)
 have H : (if a0_3 = true then (some (⟨#[110, 117, 108, 108]⟩ : ByteArray)) else (if a0_0.size + 3 ≤ 9223372036854775807 then (if (a0_0 ++ (⟨#[58, 47, 47]⟩ : ByteArray)).size + a0_1.size ≤ 9223372036854775807 then ((ostiaryref3_Own.f k a0_0).bind fun t200 => (if a0_2 = t200 then (some ((a0_0 ++ (⟨#[58, 47, 47]⟩ : ByteArray)) ++ a0_1)) else (if ((a0_0 ++ (⟨#[58, 47, 47]⟩ : ByteArray)) ++ a0_1).size + 1 ≤ 9223372036854775807 then ((ostiaryref1_Numeral.f k a0_2).bind fun t201 => (if (((a0_0 ++ (⟨#[58, 47, 47]⟩ : ByteArray)) ++ a0_1) ++ (⟨#[58]⟩ : ByteArray)).size + t201.size ≤ 9223372036854775807 then (some ((((a0_0 ++ (⟨#[58, 47, 47]⟩ : ByteArray)) ++ a0_1) ++ (⟨#[58]⟩ : ByteArray)) ++ t201)) else (none))) else (none)))) else (none)) else (none))) = some r := h
 clear h
 by_cases c2 : a0_3 = true
 ·subst c2
  have H1 : (some (⟨#[110, 117, 108, 108]⟩ : ByteArray)) = some r := by rw [if_pos rfl] at H; exact H
  clear H
  have H := H1
  clear H1
  obtain rfl := Option.some.inj H
  go_enter Tryd.func13, Tryd.ntmps13
  go_wp2_with (first | ((with_reducible refine gate_dst (N := 1) rfl ?_); refine box_event ?hg (N := 1) ?hd (cs := #[.string a0_0, .string a0_1, .int .i64 a0_2, .bool true]) (t := 25) ?hr ?_; (case hd => rfl); (case hg => rfl); (case hr => first | (go_simp; done) | (go_simp; rfl)); intro gb199 hg w3 hbox hb; have n0_ := Aside0.mk (below_step hB hb); have n1_ := Aside0.mk (hbox); have n2_ := Aside0.mk ((by rw [hg]; exact (below_size hB) : w.heap.size ≤ gb199)); have n3_ := Aside0.mk ((by rw [hg]; exact (below_size hB) : w.heap.size ≤ gb199)); clear HB; have HB := n0_; have BK199 := n1_; have GW199 := n2_; have GE199 := n3_; clear n0_ n1_ n2_ n3_; clear hb hbox hg; have hcz4_0 : w3.cell? ⟨gb199, 0, none⟩ = some (.string a0_0) := (blk_cell BK199.out 0).trans rfl; have hcz4_1 : w3.cell? ⟨gb199, 1, none⟩ = some (.string a0_1) := (blk_cell BK199.out 1).trans rfl; have hcz4_2 : w3.cell? ⟨gb199, 2, none⟩ = some (.int .i64 a0_2) := (blk_cell BK199.out 2).trans rfl; have hcz4_3 : w3.cell? ⟨gb199, 3, none⟩ = some (.bool true) := (blk_cell BK199.out 3).trans rfl; have hfz4_0 := blk_frozen BK199.out 0; have hfz4_1 := blk_frozen BK199.out 1; have hfz4_2 := blk_frozen BK199.out 2; have hfz4_3 := blk_frozen BK199.out 3))
  repeat (go_quiet (first | ((with_reducible refine gate_dst (N := 1) rfl ?_); refine box_event ?hg (N := 1) ?hd (cs := #[.string a0_0, .string a0_1, .int .i64 a0_2, .bool true]) (t := 25) ?hr ?_; (case hd => rfl); (case hg => rfl); (case hr => first | (go_simp; done) | (go_simp; rfl)); intro gb199 hg w3 hbox hb; have n0_ := Aside0.mk (below_step hB hb); have n1_ := Aside0.mk (hbox); have n2_ := Aside0.mk ((by rw [hg]; exact (below_size hB) : w.heap.size ≤ gb199)); have n3_ := Aside0.mk ((by rw [hg]; exact (below_size hB) : w.heap.size ≤ gb199)); clear HB; have HB := n0_; have BK199 := n1_; have GW199 := n2_; have GE199 := n3_; clear n0_ n1_ n2_ n3_; clear hb hbox hg; have hcz4_0 : w3.cell? ⟨gb199, 0, none⟩ = some (.string a0_0) := (blk_cell BK199.out 0).trans rfl; have hcz4_1 : w3.cell? ⟨gb199, 1, none⟩ = some (.string a0_1) := (blk_cell BK199.out 1).trans rfl; have hcz4_2 : w3.cell? ⟨gb199, 2, none⟩ = some (.int .i64 a0_2) := (blk_cell BK199.out 2).trans rfl; have hcz4_3 : w3.cell? ⟨gb199, 3, none⟩ = some (.bool true) := (blk_cell BK199.out 3).trans rfl; have hfz4_0 := blk_frozen BK199.out 0; have hfz4_1 := blk_frozen BK199.out 1; have hfz4_2 := blk_frozen BK199.out 2; have hfz4_3 := blk_frozen BK199.out 3)); try go_wp2_with (first | ((with_reducible refine gate_dst (N := 1) rfl ?_); refine box_event ?hg (N := 1) ?hd (cs := #[.string a0_0, .string a0_1, .int .i64 a0_2, .bool true]) (t := 25) ?hr ?_; (case hd => rfl); (case hg => rfl); (case hr => first | (go_simp; done) | (go_simp; rfl)); intro gb199 hg w3 hbox hb; have n0_ := Aside0.mk (below_step hB hb); have n1_ := Aside0.mk (hbox); have n2_ := Aside0.mk ((by rw [hg]; exact (below_size hB) : w.heap.size ≤ gb199)); have n3_ := Aside0.mk ((by rw [hg]; exact (below_size hB) : w.heap.size ≤ gb199)); clear HB; have HB := n0_; have BK199 := n1_; have GW199 := n2_; have GE199 := n3_; clear n0_ n1_ n2_ n3_; clear hb hbox hg; have hcz4_0 : w3.cell? ⟨gb199, 0, none⟩ = some (.string a0_0) := (blk_cell BK199.out 0).trans rfl; have hcz4_1 : w3.cell? ⟨gb199, 1, none⟩ = some (.string a0_1) := (blk_cell BK199.out 1).trans rfl; have hcz4_2 : w3.cell? ⟨gb199, 2, none⟩ = some (.int .i64 a0_2) := (blk_cell BK199.out 2).trans rfl; have hcz4_3 : w3.cell? ⟨gb199, 3, none⟩ = some (.bool true) := (blk_cell BK199.out 3).trans rfl; have hfz4_0 := blk_frozen BK199.out 0; have hfz4_1 := blk_frozen BK199.out 1; have hfz4_2 := blk_frozen BK199.out 2; have hfz4_3 := blk_frozen BK199.out 3)))
  go_ret
  exact ⟨by first | rfl | (simp [errW_none, errW_some] <;> rfl) | (simp [*, errW_none, errW_some] <;> rfl), by repeat (first | (with_reducible first | exact HB.out | apply below_alloc | apply pw_below_drewN | apply below_drew1 | refine below_set ?_ GE199.out) | exact HB.out)⟩
 ·replace c2 := Bool.eq_false_iff.mpr c2
  subst c2
  have H1 : (if a0_0.size + 3 ≤ 9223372036854775807 then (if (a0_0 ++ (⟨#[58, 47, 47]⟩ : ByteArray)).size + a0_1.size ≤ 9223372036854775807 then ((ostiaryref3_Own.f k a0_0).bind fun t200 => (if a0_2 = t200 then (some ((a0_0 ++ (⟨#[58, 47, 47]⟩ : ByteArray)) ++ a0_1)) else (if ((a0_0 ++ (⟨#[58, 47, 47]⟩ : ByteArray)) ++ a0_1).size + 1 ≤ 9223372036854775807 then ((ostiaryref1_Numeral.f k a0_2).bind fun t201 => (if (((a0_0 ++ (⟨#[58, 47, 47]⟩ : ByteArray)) ++ a0_1) ++ (⟨#[58]⟩ : ByteArray)).size + t201.size ≤ 9223372036854775807 then (some ((((a0_0 ++ (⟨#[58, 47, 47]⟩ : ByteArray)) ++ a0_1) ++ (⟨#[58]⟩ : ByteArray)) ++ t201)) else (none))) else (none)))) else (none)) else (none)) = some r := by rw [if_neg (show ¬ (false = true) by decide)] at H; exact H
  clear H
  have H := H1
  clear H1
  by_cases c5 : a0_0.size + 3 ≤ 9223372036854775807
  ·rw [if_pos c5] at H
   have c5b0 := eq_true c5
   have c5b1 : decide (a0_0.size + 3 ≤ 9223372036854775807) = true := decide_eq_true c5
   try have c5b2 : (9223372036854775807 < a0_0.size + 3) = False := eq_false (Nat.not_lt.2 c5)
   by_cases c6 : (a0_0 ++ (⟨#[58, 47, 47]⟩ : ByteArray)).size + a0_1.size ≤ 9223372036854775807
   ·rw [if_pos c6] at H
    have c6b0 := eq_true c6
    have c6b1 : decide ((a0_0 ++ (⟨#[58, 47, 47]⟩ : ByteArray)).size + a0_1.size ≤ 9223372036854775807) = true := decide_eq_true c6
    have c6q := c6
    try simp only [ByteArray.size_append', ByteArray.size_mk', List.size_toArray, List.length_cons, List.length_nil, Nat.zero_add] at c6q
    have c6q0 := eq_true c6q
    have c6q1 := decide_eq_true c6q
    try have c6q2 := eq_false (Nat.not_lt.2 c6q)
    clear c6q
    try have c6b2 : (9223372036854775807 < (a0_0 ++ (⟨#[58, 47, 47]⟩ : ByteArray)).size + a0_1.size) = False := eq_false (Nat.not_lt.2 c6)
    replace H := Option.bind_eq_some_iff.mp H
    obtain ⟨t200, A70, H⟩ := H
    replace H : (if a0_2 = t200 then (some ((a0_0 ++ (⟨#[58, 47, 47]⟩ : ByteArray)) ++ a0_1)) else (if ((a0_0 ++ (⟨#[58, 47, 47]⟩ : ByteArray)) ++ a0_1).size + 1 ≤ 9223372036854775807 then ((ostiaryref1_Numeral.f k a0_2).bind fun t201 => (if (((a0_0 ++ (⟨#[58, 47, 47]⟩ : ByteArray)) ++ a0_1) ++ (⟨#[58]⟩ : ByteArray)).size + t201.size ≤ 9223372036854775807 then (some ((((a0_0 ++ (⟨#[58, 47, 47]⟩ : ByteArray)) ++ a0_1) ++ (⟨#[58]⟩ : ByteArray)) ++ t201)) else (none))) else (none))) = some r := H
    have A7 := Aside0.mk A70
    clear A70
    by_cases c8 : a0_2 = t200
    ·rw [if_pos c8] at H
     have c8b0 : (a0_2 == t200) = true := beq_iff_eq.mpr c8
     have c8b1 : (a0_2 != t200) = false := bne_eq_false_iff_eq.mpr c8
     clear c8
     obtain rfl := Option.some.inj H
     go_enter Tryd.func13, Tryd.ntmps13
     go_wp2_with (first | ((with_reducible refine gate_dst (N := 1) rfl ?_); refine box_event ?hg (N := 1) ?hd (cs := #[.string a0_0, .string a0_1, .int .i64 a0_2, .bool false]) (t := 25) ?hr ?_; (case hd => rfl); (case hg => rfl); (case hr => first | (go_simp; done) | (go_simp; rfl)); intro gb199 hg w9 hbox hb; have n0_ := Aside0.mk (below_step hB hb); have n1_ := Aside0.mk (hbox); have n2_ := Aside0.mk ((by rw [hg]; exact (below_size hB) : w.heap.size ≤ gb199)); have n3_ := Aside0.mk ((by rw [hg]; exact (below_size hB) : w.heap.size ≤ gb199)); clear HB; have HB := n0_; have BK199 := n1_; have GW199 := n2_; have GE199 := n3_; clear n0_ n1_ n2_ n3_; clear hb hbox hg; have hcz10_0 : w9.cell? ⟨gb199, 0, none⟩ = some (.string a0_0) := (blk_cell BK199.out 0).trans rfl; have hcz10_1 : w9.cell? ⟨gb199, 1, none⟩ = some (.string a0_1) := (blk_cell BK199.out 1).trans rfl; have hcz10_2 : w9.cell? ⟨gb199, 2, none⟩ = some (.int .i64 a0_2) := (blk_cell BK199.out 2).trans rfl; have hcz10_3 : w9.cell? ⟨gb199, 3, none⟩ = some (.bool false) := (blk_cell BK199.out 3).trans rfl; have hfz10_0 := blk_frozen BK199.out 0; have hfz10_1 := blk_frozen BK199.out 1; have hfz10_2 := blk_frozen BK199.out 2; have hfz10_3 := blk_frozen BK199.out 3) | (go_at_call 50; (with_reducible refine (ostiaryref3_Own.calls k a0_0 t200 _ A7.out).mono ?_); rintro e w' ⟨rfl, ⟨nd, rfl⟩⟩; (try first | exact ⟨rfl, _, World.drewN_drewN _ _ _⟩ | exact ⟨rfl, _, Eq.trans (World.drewN_drewN _ _ _) (congrArg (World.drewN _) (Nat.add_assoc _ _ _))⟩)))
     repeat (go_quiet (first | ((with_reducible refine gate_dst (N := 1) rfl ?_); refine box_event ?hg (N := 1) ?hd (cs := #[.string a0_0, .string a0_1, .int .i64 a0_2, .bool false]) (t := 25) ?hr ?_; (case hd => rfl); (case hg => rfl); (case hr => first | (go_simp; done) | (go_simp; rfl)); intro gb199 hg w9 hbox hb; have n0_ := Aside0.mk (below_step hB hb); have n1_ := Aside0.mk (hbox); have n2_ := Aside0.mk ((by rw [hg]; exact (below_size hB) : w.heap.size ≤ gb199)); have n3_ := Aside0.mk ((by rw [hg]; exact (below_size hB) : w.heap.size ≤ gb199)); clear HB; have HB := n0_; have BK199 := n1_; have GW199 := n2_; have GE199 := n3_; clear n0_ n1_ n2_ n3_; clear hb hbox hg; have hcz10_0 : w9.cell? ⟨gb199, 0, none⟩ = some (.string a0_0) := (blk_cell BK199.out 0).trans rfl; have hcz10_1 : w9.cell? ⟨gb199, 1, none⟩ = some (.string a0_1) := (blk_cell BK199.out 1).trans rfl; have hcz10_2 : w9.cell? ⟨gb199, 2, none⟩ = some (.int .i64 a0_2) := (blk_cell BK199.out 2).trans rfl; have hcz10_3 : w9.cell? ⟨gb199, 3, none⟩ = some (.bool false) := (blk_cell BK199.out 3).trans rfl; have hfz10_0 := blk_frozen BK199.out 0; have hfz10_1 := blk_frozen BK199.out 1; have hfz10_2 := blk_frozen BK199.out 2; have hfz10_3 := blk_frozen BK199.out 3) | (go_at_call 50; (with_reducible refine (ostiaryref3_Own.calls k a0_0 t200 _ A7.out).mono ?_); rintro e w' ⟨rfl, ⟨nd, rfl⟩⟩; (try first | exact ⟨rfl, _, World.drewN_drewN _ _ _⟩ | exact ⟨rfl, _, Eq.trans (World.drewN_drewN _ _ _) (congrArg (World.drewN _) (Nat.add_assoc _ _ _))⟩))); try go_wp2_with (first | ((with_reducible refine gate_dst (N := 1) rfl ?_); refine box_event ?hg (N := 1) ?hd (cs := #[.string a0_0, .string a0_1, .int .i64 a0_2, .bool false]) (t := 25) ?hr ?_; (case hd => rfl); (case hg => rfl); (case hr => first | (go_simp; done) | (go_simp; rfl)); intro gb199 hg w9 hbox hb; have n0_ := Aside0.mk (below_step hB hb); have n1_ := Aside0.mk (hbox); have n2_ := Aside0.mk ((by rw [hg]; exact (below_size hB) : w.heap.size ≤ gb199)); have n3_ := Aside0.mk ((by rw [hg]; exact (below_size hB) : w.heap.size ≤ gb199)); clear HB; have HB := n0_; have BK199 := n1_; have GW199 := n2_; have GE199 := n3_; clear n0_ n1_ n2_ n3_; clear hb hbox hg; have hcz10_0 : w9.cell? ⟨gb199, 0, none⟩ = some (.string a0_0) := (blk_cell BK199.out 0).trans rfl; have hcz10_1 : w9.cell? ⟨gb199, 1, none⟩ = some (.string a0_1) := (blk_cell BK199.out 1).trans rfl; have hcz10_2 : w9.cell? ⟨gb199, 2, none⟩ = some (.int .i64 a0_2) := (blk_cell BK199.out 2).trans rfl; have hcz10_3 : w9.cell? ⟨gb199, 3, none⟩ = some (.bool false) := (blk_cell BK199.out 3).trans rfl; have hfz10_0 := blk_frozen BK199.out 0; have hfz10_1 := blk_frozen BK199.out 1; have hfz10_2 := blk_frozen BK199.out 2; have hfz10_3 := blk_frozen BK199.out 3) | (go_at_call 50; (with_reducible refine (ostiaryref3_Own.calls k a0_0 t200 _ A7.out).mono ?_); rintro e w' ⟨rfl, ⟨nd, rfl⟩⟩; (try first | exact ⟨rfl, _, World.drewN_drewN _ _ _⟩ | exact ⟨rfl, _, Eq.trans (World.drewN_drewN _ _ _) (congrArg (World.drewN _) (Nat.add_assoc _ _ _))⟩))))
     go_ret
     exact ⟨by first | rfl | (simp [errW_none, errW_some] <;> rfl) | (simp [*, errW_none, errW_some] <;> rfl), by repeat (first | (with_reducible first | exact HB.out | apply below_alloc | apply pw_below_drewN | apply below_drew1 | refine below_set ?_ GE199.out) | exact HB.out)⟩
    ·rw [if_neg c8] at H
     have c8b0 : (a0_2 == t200) = false := beq_eq_false_iff_ne.mpr c8
     have c8b1 : (a0_2 != t200) = true := bne_iff_ne.mpr c8
     by_cases c11 : ((a0_0 ++ (⟨#[58, 47, 47]⟩ : ByteArray)) ++ a0_1).size + 1 ≤ 9223372036854775807
     ·rw [if_pos c11] at H
      have c11b0 := eq_true c11
      have c11b1 : decide (((a0_0 ++ (⟨#[58, 47, 47]⟩ : ByteArray)) ++ a0_1).size + 1 ≤ 9223372036854775807) = true := decide_eq_true c11
      have c11q := c11
      try simp only [ByteArray.size_append', ByteArray.size_mk', List.size_toArray, List.length_cons, List.length_nil, Nat.zero_add] at c11q
      have c11q0 := eq_true c11q
      have c11q1 := decide_eq_true c11q
      try have c11q2 := eq_false (Nat.not_lt.2 c11q)
      clear c11q
      try have c11b2 : (9223372036854775807 < ((a0_0 ++ (⟨#[58, 47, 47]⟩ : ByteArray)) ++ a0_1).size + 1) = False := eq_false (Nat.not_lt.2 c11)
      replace H := Option.bind_eq_some_iff.mp H
      obtain ⟨t201, A120, H⟩ := H
      replace H : (if (((a0_0 ++ (⟨#[58, 47, 47]⟩ : ByteArray)) ++ a0_1) ++ (⟨#[58]⟩ : ByteArray)).size + t201.size ≤ 9223372036854775807 then (some ((((a0_0 ++ (⟨#[58, 47, 47]⟩ : ByteArray)) ++ a0_1) ++ (⟨#[58]⟩ : ByteArray)) ++ t201)) else (none)) = some r := H
      have A12 := Aside0.mk A120
      clear A120
      by_cases c13 : (((a0_0 ++ (⟨#[58, 47, 47]⟩ : ByteArray)) ++ a0_1) ++ (⟨#[58]⟩ : ByteArray)).size + t201.size ≤ 9223372036854775807
      ·rw [if_pos c13] at H
       have c13b0 := eq_true c13
       have c13b1 : decide ((((a0_0 ++ (⟨#[58, 47, 47]⟩ : ByteArray)) ++ a0_1) ++ (⟨#[58]⟩ : ByteArray)).size + t201.size ≤ 9223372036854775807) = true := decide_eq_true c13
       have c13q := c13
       try simp only [ByteArray.size_append', ByteArray.size_mk', List.size_toArray, List.length_cons, List.length_nil, Nat.zero_add] at c13q
       have c13q0 := eq_true c13q
       have c13q1 := decide_eq_true c13q
       try have c13q2 := eq_false (Nat.not_lt.2 c13q)
       clear c13q
       try have c13b2 : (9223372036854775807 < (((a0_0 ++ (⟨#[58, 47, 47]⟩ : ByteArray)) ++ a0_1) ++ (⟨#[58]⟩ : ByteArray)).size + t201.size) = False := eq_false (Nat.not_lt.2 c13)
       obtain rfl := Option.some.inj H
       go_enter Tryd.func13, Tryd.ntmps13
       go_wp2_with (first | ((with_reducible refine gate_dst (N := 1) rfl ?_); refine box_event ?hg (N := 1) ?hd (cs := #[.string a0_0, .string a0_1, .int .i64 a0_2, .bool false]) (t := 25) ?hr ?_; (case hd => rfl); (case hg => rfl); (case hr => first | (go_simp; done) | (go_simp; rfl)); intro gb199 hg w14 hbox hb; have n0_ := Aside0.mk (below_step hB hb); have n1_ := Aside0.mk (hbox); have n2_ := Aside0.mk ((by rw [hg]; exact (below_size hB) : w.heap.size ≤ gb199)); have n3_ := Aside0.mk ((by rw [hg]; exact (below_size hB) : w.heap.size ≤ gb199)); clear HB; have HB := n0_; have BK199 := n1_; have GW199 := n2_; have GE199 := n3_; clear n0_ n1_ n2_ n3_; clear hb hbox hg; have hcz15_0 : w14.cell? ⟨gb199, 0, none⟩ = some (.string a0_0) := (blk_cell BK199.out 0).trans rfl; have hcz15_1 : w14.cell? ⟨gb199, 1, none⟩ = some (.string a0_1) := (blk_cell BK199.out 1).trans rfl; have hcz15_2 : w14.cell? ⟨gb199, 2, none⟩ = some (.int .i64 a0_2) := (blk_cell BK199.out 2).trans rfl; have hcz15_3 : w14.cell? ⟨gb199, 3, none⟩ = some (.bool false) := (blk_cell BK199.out 3).trans rfl; have hfz15_0 := blk_frozen BK199.out 0; have hfz15_1 := blk_frozen BK199.out 1; have hfz15_2 := blk_frozen BK199.out 2; have hfz15_3 := blk_frozen BK199.out 3) | (go_at_call 50; (with_reducible refine (ostiaryref3_Own.calls k a0_0 t200 _ A7.out).mono ?_); rintro e w' ⟨rfl, ⟨nd, rfl⟩⟩; (try first | exact ⟨rfl, _, World.drewN_drewN _ _ _⟩ | exact ⟨rfl, _, Eq.trans (World.drewN_drewN _ _ _) (congrArg (World.drewN _) (Nat.add_assoc _ _ _))⟩)) | (go_at_call 51; (with_reducible refine (ostiaryref1_Numeral.calls k a0_2 t201 _ A12.out).mono ?_); rintro e w' ⟨rfl, ⟨nd, rfl⟩⟩; (try first | exact ⟨rfl, _, World.drewN_drewN _ _ _⟩ | exact ⟨rfl, _, Eq.trans (World.drewN_drewN _ _ _) (congrArg (World.drewN _) (Nat.add_assoc _ _ _))⟩)))
       repeat (go_quiet (first | ((with_reducible refine gate_dst (N := 1) rfl ?_); refine box_event ?hg (N := 1) ?hd (cs := #[.string a0_0, .string a0_1, .int .i64 a0_2, .bool false]) (t := 25) ?hr ?_; (case hd => rfl); (case hg => rfl); (case hr => first | (go_simp; done) | (go_simp; rfl)); intro gb199 hg w14 hbox hb; have n0_ := Aside0.mk (below_step hB hb); have n1_ := Aside0.mk (hbox); have n2_ := Aside0.mk ((by rw [hg]; exact (below_size hB) : w.heap.size ≤ gb199)); have n3_ := Aside0.mk ((by rw [hg]; exact (below_size hB) : w.heap.size ≤ gb199)); clear HB; have HB := n0_; have BK199 := n1_; have GW199 := n2_; have GE199 := n3_; clear n0_ n1_ n2_ n3_; clear hb hbox hg; have hcz15_0 : w14.cell? ⟨gb199, 0, none⟩ = some (.string a0_0) := (blk_cell BK199.out 0).trans rfl; have hcz15_1 : w14.cell? ⟨gb199, 1, none⟩ = some (.string a0_1) := (blk_cell BK199.out 1).trans rfl; have hcz15_2 : w14.cell? ⟨gb199, 2, none⟩ = some (.int .i64 a0_2) := (blk_cell BK199.out 2).trans rfl; have hcz15_3 : w14.cell? ⟨gb199, 3, none⟩ = some (.bool false) := (blk_cell BK199.out 3).trans rfl; have hfz15_0 := blk_frozen BK199.out 0; have hfz15_1 := blk_frozen BK199.out 1; have hfz15_2 := blk_frozen BK199.out 2; have hfz15_3 := blk_frozen BK199.out 3) | (go_at_call 50; (with_reducible refine (ostiaryref3_Own.calls k a0_0 t200 _ A7.out).mono ?_); rintro e w' ⟨rfl, ⟨nd, rfl⟩⟩; (try first | exact ⟨rfl, _, World.drewN_drewN _ _ _⟩ | exact ⟨rfl, _, Eq.trans (World.drewN_drewN _ _ _) (congrArg (World.drewN _) (Nat.add_assoc _ _ _))⟩)) | (go_at_call 51; (with_reducible refine (ostiaryref1_Numeral.calls k a0_2 t201 _ A12.out).mono ?_); rintro e w' ⟨rfl, ⟨nd, rfl⟩⟩; (try first | exact ⟨rfl, _, World.drewN_drewN _ _ _⟩ | exact ⟨rfl, _, Eq.trans (World.drewN_drewN _ _ _) (congrArg (World.drewN _) (Nat.add_assoc _ _ _))⟩))); try go_wp2_with (first | ((with_reducible refine gate_dst (N := 1) rfl ?_); refine box_event ?hg (N := 1) ?hd (cs := #[.string a0_0, .string a0_1, .int .i64 a0_2, .bool false]) (t := 25) ?hr ?_; (case hd => rfl); (case hg => rfl); (case hr => first | (go_simp; done) | (go_simp; rfl)); intro gb199 hg w14 hbox hb; have n0_ := Aside0.mk (below_step hB hb); have n1_ := Aside0.mk (hbox); have n2_ := Aside0.mk ((by rw [hg]; exact (below_size hB) : w.heap.size ≤ gb199)); have n3_ := Aside0.mk ((by rw [hg]; exact (below_size hB) : w.heap.size ≤ gb199)); clear HB; have HB := n0_; have BK199 := n1_; have GW199 := n2_; have GE199 := n3_; clear n0_ n1_ n2_ n3_; clear hb hbox hg; have hcz15_0 : w14.cell? ⟨gb199, 0, none⟩ = some (.string a0_0) := (blk_cell BK199.out 0).trans rfl; have hcz15_1 : w14.cell? ⟨gb199, 1, none⟩ = some (.string a0_1) := (blk_cell BK199.out 1).trans rfl; have hcz15_2 : w14.cell? ⟨gb199, 2, none⟩ = some (.int .i64 a0_2) := (blk_cell BK199.out 2).trans rfl; have hcz15_3 : w14.cell? ⟨gb199, 3, none⟩ = some (.bool false) := (blk_cell BK199.out 3).trans rfl; have hfz15_0 := blk_frozen BK199.out 0; have hfz15_1 := blk_frozen BK199.out 1; have hfz15_2 := blk_frozen BK199.out 2; have hfz15_3 := blk_frozen BK199.out 3) | (go_at_call 50; (with_reducible refine (ostiaryref3_Own.calls k a0_0 t200 _ A7.out).mono ?_); rintro e w' ⟨rfl, ⟨nd, rfl⟩⟩; (try first | exact ⟨rfl, _, World.drewN_drewN _ _ _⟩ | exact ⟨rfl, _, Eq.trans (World.drewN_drewN _ _ _) (congrArg (World.drewN _) (Nat.add_assoc _ _ _))⟩)) | (go_at_call 51; (with_reducible refine (ostiaryref1_Numeral.calls k a0_2 t201 _ A12.out).mono ?_); rintro e w' ⟨rfl, ⟨nd, rfl⟩⟩; (try first | exact ⟨rfl, _, World.drewN_drewN _ _ _⟩ | exact ⟨rfl, _, Eq.trans (World.drewN_drewN _ _ _) (congrArg (World.drewN _) (Nat.add_assoc _ _ _))⟩))))
       go_ret
       exact ⟨by first | rfl | (simp [errW_none, errW_some] <;> rfl) | (simp [*, errW_none, errW_some] <;> rfl), by repeat (first | (with_reducible first | exact HB.out | apply below_alloc | apply pw_below_drewN | apply below_drew1 | refine below_set ?_ GE199.out) | exact HB.out)⟩
      ·rw [if_neg c13] at H
       exact absurd H (by simp)
     ·rw [if_neg c11] at H
      exact absurd H (by simp)
   ·rw [if_neg c6] at H
    exact absurd H (by simp)
  ·rw [if_neg c5] at H
   exact absurd H (by simp)
end Go.Proofs.YtifmkgkiipckbaaDoor.P
namespace Go.Proofs.YtifmkgkiipckbaaDoor.P
open Go.RowKit Go.Proofs.YtifmkgkiipckbaaDoorW.PrintWords Go.Proofs.YtifmkgkiipckbaaDoorW.PrintLast Go.Proofs.YtifmkgkiipckbaaDoorW.PrintMore
set_option linter.unusedVariables false
set_option linter.unusedSimpArgs false
theorem digit10 (t : Int) (h0 : 0 ≤ t) (h1 : t ≤ 9) : (⟨#[48, 49, 50, 51, 52, 53, 54, 55, 56, 57]⟩ : ByteArray).extract t.toNat (t + 1).toNat = ⟨#[UInt8.ofNat (48 + t.toNat)]⟩ := by
 have H : ∀ n : Fin 10, (⟨#[48, 49, 50, 51, 52, 53, 54, 55, 56, 57]⟩ : ByteArray).extract (n.val : Int).toNat ((n.val : Int) + 1).toNat = ⟨#[UInt8.ofNat (48 + (n.val : Int).toNat)]⟩ := by decide +kernel
 have := H ⟨t.toNat, by omega⟩
 rwa [show (((⟨t.toNat, by omega⟩ : Fin 10).val : Nat) : Int) = t by simp; omega] at this
theorem bytes_eq {a b : ByteArray} (h : a.data.toList = b.data.toList) : a = b := by
 cases a
 cases b
 simpa using h
theorem num_l0 : ∀ (n k : Nat) (x : Int) (q : ByteArray), 0 < x → x < 10 ^ n → x ≤ 9223372036854775807 → n + 2 ≤ k → q.size + n ≤ 20 → ostiaryref1_Numeral.l0 k x q = some ⟨(Lib.decDigits x.toNat ++ q.data.toList).toArray⟩ := by
 intro n
 induction n with
 | zero => intro k x q h0 h1 _ _ _; simp at h1; omega
 | succ n ih =>
  intro k x q h0 h1 hm hk hq
  obtain ⟨k, rfl⟩ : ∃ j, k = j + 1 := ⟨k - 1, by omega⟩
  obtain ⟨t0, t1, t2⟩ := tmod10 x (by omega)
  have t3 : Int.tmod x 10 = x % 10 := Int.tmod_eq_emod_of_nonneg (by omega)
  have hx : x / 10 < 10 ^ n := by
   rw [Int.pow_succ] at h1
   omega
  unfold ostiaryref1_Numeral.l0
  have hw : wrap64 (Int.tmod x 10 + 1) = Int.tmod x 10 + 1 := wr _ (by omega) (by omega)
  have hd : wrap64 (Int.tdiv x 10) = x / 10 := by rw [t2]; exact wr _ (by omega) (by omega)
  rw [if_pos (by omega), hw, hd, digit10 _ t0 t1, if_pos t0, if_pos (by omega), if_pos (by omega), if_pos (by rw [lit_size]; simp; omega)]
  by_cases hz : x / 10 = 0
  ·rw [hz]
   obtain ⟨k, rfl⟩ : ∃ j, k = j + 1 := ⟨k - 1, by omega⟩
   unfold ostiaryref1_Numeral.l0
   rw [if_neg (by omega), if_neg (fun h => by have := toList_nil h; rw [ByteArray.size_append, lit_size] at this; simp at this)]
   congr 1
   apply bytes_eq
   rw [Lib.decDigits_one (show x.toNat < 10 by omega)]
   have : (Int.tmod x 10).toNat = x.toNat := by omega
   simp [this]
  ·rw [ih k (x / 10) _ (by omega) hx (by omega) (by omega) (by rw [ByteArray.size_append, lit_size]; simp; omega)]
   congr 1
   apply bytes_eq
   rw [Lib.decDigits.eq_1 x.toNat, dif_neg (show ¬ x.toNat < 10 by omega)]
   have e1 : (Int.tmod x 10).toNat = x.toNat % 10 := by omega
   have e2 : (x / 10).toNat = x.toNat / 10 := by omega
   simp [e1, e2]
theorem num_eq (k : Nat) (x : Int) (h0 : 0 ≤ x) (h1 : x ≤ 9223372036854775807) (hk : 30 ≤ k) : ostiaryref1_Numeral.f k x = some ⟨(Lib.itoa x).toArray⟩ := by
 obtain ⟨k, rfl⟩ : ∃ j, k = j + 3 := ⟨k - 3, by omega⟩
 unfold ostiaryref1_Numeral.f
 rw [if_neg (by omega), if_neg (by omega)]
 by_cases hz : x = 0
 ·subst hz
  unfold ostiaryref1_Numeral.l0
  rw [if_neg (by omega), if_pos (toList_nil' (by decide))]
  have e : Int.tmod 0 10 = 0 := by decide
  have e2 : Int.tdiv 0 10 = 0 := by decide
  have hw : wrap64 ((0 : Int) + 1) = 0 + 1 := wr _ (by omega) (by omega)
  have hd : wrap64 (0 : Int) = 0 := wr _ (by omega) (by omega)
  rw [e, e2, hw, hd, digit10 0 (by omega) (by omega), if_pos (by omega), if_pos (by omega), if_pos (by omega), if_pos (by decide)]
  unfold ostiaryref1_Numeral.l0
  rw [if_neg (by omega), if_neg (fun h => by have := toList_nil h; revert this; decide)]
  congr 1
  apply bytes_eq
  simp [Lib.itoa, Lib.decDigits]
 ·rw [num_l0 19 _ x _ (by omega) (by omega) h1 (by omega) (by decide)]
  congr 1
  apply bytes_eq
  simp [Lib.itoa, show ¬ x < 0 by omega]
theorem num_neg (k : Nat) (hk : 40 ≤ k) : ostiaryref1_Numeral.f k (-1) = some ⟨(Lib.itoa (-1)).toArray⟩ := by
 obtain ⟨k, rfl⟩ : ∃ j, k = j + 1 := ⟨k - 1, by omega⟩
 unfold ostiaryref1_Numeral.f
 have e : wrap64 (-(-1)) = 1 := wr _ (by omega) (by omega)
 rw [if_neg (by omega), if_pos (by omega), e, num_eq k 1 (by omega) (by omega) (by omega)]
 simp only [Option.bind_some]
 have l1 : Lib.itoa 1 = [49] := by simp [Lib.itoa, Lib.decDigits]
 have l2 : Lib.itoa (-1) = [45, 49] := by simp [Lib.itoa, Lib.decDigits]
 rw [l1, l2, if_pos (by decide)]
 congr 1
theorem own_eq (k j : Nat) (s : ByteArray) (hk : 3 ≤ k) (hj : 3 ≤ j) : url_Own.f k s = ostiaryref3_Own.f j s := by
 obtain ⟨k, rfl⟩ : ∃ i, k = i + 2 := ⟨k - 2, by omega⟩
 obtain ⟨j, rfl⟩ : ∃ i, j = i + 2 := ⟨j - 2, by omega⟩
 unfold url_Own.f ostiaryref3_Own.f
 simp only [url_Own.j0, url_Own.j1, ostiaryref3_Own.j0, ostiaryref3_Own.j1]
theorem text_eq (k j : Nat) (o : ByteArray × ByteArray × Int × Bool) (ho : OOk o) (hk : 50 ≤ k) (hj : 50 ≤ j) : ∃ t, origin_Text.f k o.1 o.2.1 o.2.2.1 o.2.2.2 = some t ∧ ostiaryref4_Text.f j o.1 o.2.1 o.2.2.1 o.2.2.2 = some t := by
 obtain ⟨a, b, p, q⟩ := o
 obtain ⟨h1, h2, h3, h4⟩ := ho
 simp only at h1 h2 h3 h4 ⊢
 unfold origin_Text.f ostiaryref4_Text.f
 obtain ⟨n, hn, hn2⟩ := Own_tot j a (by omega)
 rw [own_eq k j a (by omega) (by omega), hn]
 have hnum : ostiaryref1_Numeral.f j p = some ⟨(Lib.itoa p).toArray⟩ := by
  by_cases hp : p = -1
  ·subst hp
   exact num_neg j (by omega)
  ·exact num_eq j p (by omega) (by omega) (by omega)
 have hit : strconv_Itoa.f p = some ⟨(Lib.itoa p).toArray⟩ := by
  unfold strconv_Itoa.f
  rw [if_pos (by omega), if_pos (by omega)]
 have hlen := Lib.itoa_length_le p (by omega) (by omega)
 rw [hnum, hit]
 simp only [Option.bind_some]
 cases q with
 | true => exact ⟨_, rfl, rfl⟩
 | false =>
  have z0 : (⟨(Lib.itoa p).toArray⟩ : ByteArray).size = (Lib.itoa p).length := by rw [lit_size]; simp
  have z1 : (a ++ (⟨#[58, 47, 47]⟩ : ByteArray)).size = a.size + 3 := by rw [ByteArray.size_append]; rfl
  have z2 : ((a ++ (⟨#[58, 47, 47]⟩ : ByteArray)) ++ b).size = a.size + 3 + b.size := by rw [ByteArray.size_append, z1]
  have z3 : (((a ++ (⟨#[58, 47, 47]⟩ : ByteArray)) ++ b) ++ (⟨#[58]⟩ : ByteArray)).size = a.size + 3 + b.size + 1 := by rw [ByteArray.size_append, z2]; rfl
  have z4 : ((⟨#[58]⟩ : ByteArray) ++ (⟨(Lib.itoa p).toArray⟩ : ByteArray)).size = 1 + (Lib.itoa p).length := by rw [ByteArray.size_append, z0]; rfl
  by_cases he : p = n
  ·refine ⟨(a ++ (⟨#[58, 47, 47]⟩ : ByteArray)) ++ b, ?_, ?_⟩
   ·rw [if_neg (by simp), if_pos (by omega), if_pos (by omega), if_pos he]
   ·rw [if_neg (by simp), if_pos (by omega), if_pos (by omega), if_pos he]
  ·refine ⟨((a ++ (⟨#[58, 47, 47]⟩ : ByteArray)) ++ b) ++ ((⟨#[58]⟩ : ByteArray) ++ ⟨(Lib.itoa p).toArray⟩), ?_, ?_⟩
   ·rw [if_neg (by simp), if_pos (by omega), if_pos (by omega), if_neg he, if_pos (by omega), if_pos (by omega)]
   ·rw [if_neg (by simp), if_pos (by omega), if_pos (by omega), if_neg he, if_pos (by omega), if_pos (by omega)]
    congr 1
    apply bytes_eq
    simp
end Go.Proofs.YtifmkgkiipckbaaDoor.P
