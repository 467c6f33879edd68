/- A part of the proof of CorsLess: texts of walks and plain lemmas. -/
import Derived.Test.YtifmkgkiipckbaaDoorX1
import Derived.Test.YtifmkgkiipckbaaDoorX3
import Derived.Test.YtifmkgkiipckbaaDoorX11
namespace Go.Proofs.YtifmkgkiipckbaaDoor.P
open Go.RowKit Go.Proofs.YtifmkgkiipckbaaDoorW.PrintWords Go.Proofs.YtifmkgkiipckbaaDoorW.PrintLast Go.Proofs.YtifmkgkiipckbaaDoorW.PrintMore
attribute [local go_sem] max2_int min2_int max_two min_two max_three min_three max_four min_four
set_option linter.unusedVariables false
set_option linter.unusedSimpArgs false
mutual
def ostiaryref3_path.l0 : Nat → List ByteArray → List ByteArray → Int → Option (List ByteArray)
 | 0, _, _, _ => none
 | k + 1, x5, x6, x7 => if x7 < (x6.length : Int) then (if 0 ≤ x7 then ((ostiaryref3_dots.f k (rdOf ByteArray.empty x6 x7)).bind fun t285 => (if t285 = 2 then (ostiaryref3_path.j1 k x5 x6 x7 t285 (decide ((x5.length : Int) > 0))) else (ostiaryref3_path.j1 k x5 x6 x7 t285 false))) else (none)) else (some x5)
def ostiaryref3_path.j1 : Nat → List ByteArray → List ByteArray → Int → Int → Bool → Option (List ByteArray)
 | 0, _, _, _, _, _ => none
 | k + 1, x5, x6, x7, x8, x31 => if x31 = true then (if 0 ≤ (wrap64 ((x5.length : Int) - 1)) then (if (wrap64 ((x5.length : Int) - 1)) ≤ (x5.length : Int) then (ostiaryref3_path.j2 k (x5.take ((wrap64 ((x5.length : Int) - 1)) : Int).toNat) x6 x7 x8) else (none)) else (none)) else (ostiaryref3_path.j2 k x5 x6 x7 x8)
def ostiaryref3_path.j2 : Nat → List ByteArray → List ByteArray → Int → Int → Option (List ByteArray)
 | 0, _, _, _, _ => none
 | k + 1, x5, x6, x7, x8 => if x8 = 1 then (ostiaryref3_path.j3 k x5 x6 x7 true) else (ostiaryref3_path.j3 k x5 x6 x7 (x8 == 2))
def ostiaryref3_path.j3 : Nat → List ByteArray → List ByteArray → Int → Bool → Option (List ByteArray)
 | 0, _, _, _, _ => none
 | k + 1, x5, x6, x7, x42 => if x42 = true then (if x7 = (wrap64 ((x6.length : Int) - 1)) then (if x5.length < 8796093022208 then (ostiaryref3_path.l0 k (x5 ++ [(⟨#[]⟩ : ByteArray)]) x6 (wrap64 (x7 + 1))) else (none)) else (ostiaryref3_path.l0 k x5 x6 (wrap64 (x7 + 1)))) else (if 0 ≤ x7 then (if x7 < (x6.length : Int) then ((ostiaryref1_Percent.f k (rdOf ByteArray.empty x6 x7) 5).bind fun t293 => (if x5.length < 8796093022208 then (ostiaryref3_path.l0 k (x5 ++ [t293]) x6 (wrap64 (x7 + 1))) else (none))) else (none)) else (none))
end
def ostiaryref3_path.f (k : Nat) (l0 : List ByteArray) (a1 : ByteArray) : Option (List ByteArray) := (some (([] : List ByteArray) : List ByteArray)).bind fun y275 => (if y275.length + l0.length < 8796093022208 then ((ostiaryref1_Cut.f k a1 47).bind fun t281 => (ostiaryref3_path.l0 k (y275 ++ l0) t281 0)) else (none))
theorem ostiaryref3_path.mono_l : ∀ k, (∀ y0 y1 y2, LeO (ostiaryref3_path.l0 k y0 y1 y2) (ostiaryref3_path.l0 (k + 1) y0 y1 y2)) ∧ (∀ y0 y1 y2 y3 y4, LeO (ostiaryref3_path.j1 k y0 y1 y2 y3 y4) (ostiaryref3_path.j1 (k + 1) y0 y1 y2 y3 y4)) ∧ (∀ y0 y1 y2 y3, LeO (ostiaryref3_path.j2 k y0 y1 y2 y3) (ostiaryref3_path.j2 (k + 1) y0 y1 y2 y3)) ∧ (∀ y0 y1 y2 y3, LeO (ostiaryref3_path.j3 k y0 y1 y2 y3) (ostiaryref3_path.j3 (k + 1) y0 y1 y2 y3))
 | 0 => ⟨fun _ _ _ r h => by simp [ostiaryref3_path.l0] at h, fun _ _ _ _ _ r h => by simp [ostiaryref3_path.j1] at h, fun _ _ _ _ r h => by simp [ostiaryref3_path.j2] at h, fun _ _ _ _ r h => by simp [ostiaryref3_path.j3] at h⟩
 | k + 1 => by
  obtain ⟨ih0, ih1, ih2, ih3⟩ := ostiaryref3_path.mono_l k
  refine ⟨?_, ?_, ?_, ?_⟩
  ·intro y0 y1 y2
   unfold ostiaryref3_path.l0
   repeat' first
   | (with_reducible exact ih0 _ _ _)
   | (with_reducible exact ih1 _ _ _ _ _)
   | (with_reducible exact ih2 _ _ _ _)
   | (with_reducible exact ih3 _ _ _ _)
   | (with_reducible exact ostiaryref1_Cut.mono _ _ _)
   | (with_reducible exact ostiaryref1_Percent.mono _ _ _)
   | (with_reducible exact ostiaryref3_dots.mono _ _)
   | (with_reducible exact LeO.refl _)
   | (with_reducible exact LeO.none _)
   | (with_reducible refine LeO.ite ?_ ?_)
   | (with_reducible refine LeO.bind ?_ (fun _ => ?_))
   | exact ih0 _ _ _
   | exact ih1 _ _ _ _ _
   | exact ih2 _ _ _ _
   | exact ih3 _ _ _ _
   | exact ostiaryref1_Cut.mono _ _ _
   | exact ostiaryref1_Percent.mono _ _ _
   | exact ostiaryref3_dots.mono _ _
   | exact LeO.none _
   | refine LeO.ite ?_ ?_
   | refine LeO.bind ?_ (fun _ => ?_)
  ·intro y0 y1 y2 y3 y4
   unfold ostiaryref3_path.j1
   repeat' first
   | (with_reducible exact ih0 _ _ _)
   | (with_reducible exact ih1 _ _ _ _ _)
   | (with_reducible exact ih2 _ _ _ _)
   | (with_reducible exact ih3 _ _ _ _)
   | (with_reducible exact ostiaryref1_Cut.mono _ _ _)
   | (with_reducible exact ostiaryref1_Percent.mono _ _ _)
   | (with_reducible exact ostiaryref3_dots.mono _ _)
   | (with_reducible exact LeO.refl _)
   | (with_reducible exact LeO.none _)
   | (with_reducible refine LeO.ite ?_ ?_)
   | (with_reducible refine LeO.bind ?_ (fun _ => ?_))
   | exact ih0 _ _ _
   | exact ih1 _ _ _ _ _
   | exact ih2 _ _ _ _
   | exact ih3 _ _ _ _
   | exact ostiaryref1_Cut.mono _ _ _
   | exact ostiaryref1_Percent.mono _ _ _
   | exact ostiaryref3_dots.mono _ _
   | exact LeO.none _
   | refine LeO.ite ?_ ?_
   | refine LeO.bind ?_ (fun _ => ?_)
  ·intro y0 y1 y2 y3
   unfold ostiaryref3_path.j2
   repeat' first
   | (with_reducible exact ih0 _ _ _)
   | (with_reducible exact ih1 _ _ _ _ _)
   | (with_reducible exact ih2 _ _ _ _)
   | (with_reducible exact ih3 _ _ _ _)
   | (with_reducible exact ostiaryref1_Cut.mono _ _ _)
   | (with_reducible exact ostiaryref1_Percent.mono _ _ _)
   | (with_reducible exact ostiaryref3_dots.mono _ _)
   | (with_reducible exact LeO.refl _)
   | (with_reducible exact LeO.none _)
   | (with_reducible refine LeO.ite ?_ ?_)
   | (with_reducible refine LeO.bind ?_ (fun _ => ?_))
   | exact ih0 _ _ _
   | exact ih1 _ _ _ _ _
   | exact ih2 _ _ _ _
   | exact ih3 _ _ _ _
   | exact ostiaryref1_Cut.mono _ _ _
   | exact ostiaryref1_Percent.mono _ _ _
   | exact ostiaryref3_dots.mono _ _
   | exact LeO.none _
   | refine LeO.ite ?_ ?_
   | refine LeO.bind ?_ (fun _ => ?_)
  ·intro y0 y1 y2 y3
   unfold ostiaryref3_path.j3
   repeat' first
   | (with_reducible exact ih0 _ _ _)
   | (with_reducible exact ih1 _ _ _ _ _)
   | (with_reducible exact ih2 _ _ _ _)
   | (with_reducible exact ih3 _ _ _ _)
   | (with_reducible exact ostiaryref1_Cut.mono _ _ _)
   | (with_reducible exact ostiaryref1_Percent.mono _ _ _)
   | (with_reducible exact ostiaryref3_dots.mono _ _)
   | (with_reducible exact LeO.refl _)
   | (with_reducible exact LeO.none _)
   | (with_reducible refine LeO.ite ?_ ?_)
   | (with_reducible refine LeO.bind ?_ (fun _ => ?_))
   | exact ih0 _ _ _
   | exact ih1 _ _ _ _ _
   | exact ih2 _ _ _ _
   | exact ih3 _ _ _ _
   | exact ostiaryref1_Cut.mono _ _ _
   | exact ostiaryref1_Percent.mono _ _ _
   | exact ostiaryref3_dots.mono _ _
   | exact LeO.none _
   | refine LeO.ite ?_ ?_
   | refine LeO.bind ?_ (fun _ => ?_)
theorem ostiaryref3_path.mono : ∀ a0 a1 k, LeO (ostiaryref3_path.f k a0 a1) (ostiaryref3_path.f (k + 1) a0 a1) := by
 intro a0 a1 k
 obtain ⟨ih0, ih1, ih2, ih3⟩ := ostiaryref3_path.mono_l k
 unfold ostiaryref3_path.f
 repeat' first
   | (with_reducible exact ih0 _ _ _)
   | (with_reducible exact ih1 _ _ _ _ _)
   | (with_reducible exact ih2 _ _ _ _)
   | (with_reducible exact ih3 _ _ _ _)
   | (with_reducible exact ostiaryref1_Cut.mono _ _ _)
   | (with_reducible exact ostiaryref1_Percent.mono _ _ _)
   | (with_reducible exact ostiaryref3_dots.mono _ _)
   | (with_reducible exact LeO.refl _)
   | (with_reducible exact LeO.none _)
   | (with_reducible refine LeO.ite ?_ ?_)
   | (with_reducible refine LeO.bind ?_ (fun _ => ?_))
   | exact ih0 _ _ _
   | exact ih1 _ _ _ _ _
   | exact ih2 _ _ _ _
   | exact ih3 _ _ _ _
   | exact ostiaryref1_Cut.mono _ _ _
   | exact ostiaryref1_Percent.mono _ _ _
   | exact ostiaryref3_dots.mono _ _
   | exact LeO.none _
   | refine LeO.ite ?_ ?_
   | refine LeO.bind ?_ (fun _ => ?_)
set_option maxHeartbeats 8000000 in
set_option maxRecDepth 100000 in
theorem ostiaryref3_path.calls (k : Nat) (A0 : Option Addr) (c0 : Nat) (l0 : List ByteArray) (a1 : ByteArray) (r : List ByteArray) (w : World) (hr0 : Kd.C Kd.string w A0 l0.length l0) (hc0 : l0.length ≤ c0) (h : ostiaryref3_path.f k l0 a1 = some r) :
  Calls Tryd.prog 164 #[.slice A0 l0.length c0, .string a1] w fun e w' => ∃ v0_ : Value, e = .returned (v0_) ∧ Kd.R Kd.string 9 w' w.heap.size (fun _ => True) v0_ r ∧ Below w.heap.size w w' := by
 have HR0 := Aside0.mk hr0
 have HC0 := Aside0.mk hc0
 clear hr0 hc0
 have HB := Aside0.mk (Below.refl w.heap.size w)
 have H : ((some (([] : List ByteArray) : List ByteArray)).bind fun y275 => (if y275.length + l0.length < 8796093022208 then ((ostiaryref1_Cut.f k a1 47).bind fun t281 => (ostiaryref3_path.l0 k (y275 ++ l0) t281 0)) else (none))) = some r := h
 clear h
 obtain ⟨y275, hy275⟩ : ∃ y_ : List ByteArray, y_ = (([] : List ByteArray)) := ⟨_, rfl⟩
 replace H : (if y275.length + l0.length < 8796093022208 then ((ostiaryref1_Cut.f k a1 47).bind fun t281 => (ostiaryref3_path.l0 k (y275 ++ l0) t281 0)) else (none)) = some r := by first | (rw [hy275]; with_reducible exact H) | (have H2_ := (Option.bind_some _ _).symm.trans H; rw [hy275]; with_reducible exact H2_) | (have H2_ := (Option.bind_some _ _).symm.trans H; with_reducible exact H2_) | with_reducible exact H | (rw [hy275]; exact H) | exact H
 have Ny275 := Aside0.mk hy275
 clear hy275
 by_cases c3 : y275.length + l0.length < 8796093022208
 ·rw [if_pos c3] at H
  have LMc3 := Aside0.mk c3
  clear c3
  obtain ⟨y278, hy278⟩ : ∃ y_ : List ByteArray, y_ = (y275 ++ l0) := ⟨_, rfl⟩
  replace H : ((ostiaryref1_Cut.f k a1 47).bind fun t281 => (ostiaryref3_path.l0 k y278 t281 0)) = some r := by first | (rw [hy278]; with_reducible exact H) | (have H2_ := (Option.bind_some _ _).symm.trans H; rw [hy278]; with_reducible exact H2_) | (have H2_ := (Option.bind_some _ _).symm.trans H; with_reducible exact H2_) | with_reducible exact H | (rw [hy278]; exact H) | exact H
  have Ny278 := Aside0.mk hy278
  clear hy278
  replace H := Option.bind_eq_some_iff.mp H
  obtain ⟨t281, A40, H⟩ := H
  replace H : (ostiaryref3_path.l0 k y278 t281 0) = some r := H
  have A4 := Aside0.mk A40
  clear A40
  have H' := Aside0.mk H
  clear H
  go_enter Tryd.func164, Tryd.ntmps164
  go_wp2_with (first | ((with_reducible refine gate_dst (N := 9) rfl ?_); (try (refine gate_guard (by rfl) ?_; dsimp only)); refine Kd.R_lit Kd.string _ 9 ?hg (N := 9) ?hd (xs := ([] : List ByteArray)) (inner := []) (ok := fun _ => True) (okp := fun _ => True) ?hr ?hp (fun _ hk => hk) trivial (Below.refl _ _) (Nat.le_refl _) (by simp) ?_; (case hd => rfl); (case hg => rfl); (case hr => first | (go_simp; done) | (go_simp; rfl)); (case hp => exact (Reps.none _ _)); intro v276 w5 ho6 hb hg_ hnew_; clear hg_ hnew_; (first | rw [← Ny275.out] at ho6 | (simp only [Int.reduceToNat] at ho6; rw [← Ny275.out] at ho6)); have n0_ := Aside0.mk (Kd.R_lower ho6 (below_size hB)); have n1_ := Aside0.mk (below_step hB hb); clear HB; have HO277 := n0_; have HB := n1_; clear n0_ n1_; clear hb ho6) | ((with_reducible refine gate_builtin (b := .append) (xs := #[.tmp 9, .tmp 10]) rfl ?_); (try (refine gate_guard (by rfl) ?_; dsimp only)); at_builtin; refine Kd.R_append_rows Kd.string (w0 := w) w.heap.size rfl (.tmp 9) (.tmp 10) 84 9 (.string ⟨#[]⟩) 16 rfl Tryd.underlying84 info9 rfl (by decide) (by omega) v276 y275 l0 _ _ _ (fun _ => True) (fun _ => False) rfl rfl ?aO ?aR (fun _ _ h => h) (fun _ h => h.elim) ?aF ?aB ?aS ?aL ?_; (case aR => repeat (first | exact (Kd.C_below HR0.out HB.out) | (with_reducible refine Kd.C_alloc ?_ _) | (with_reducible refine Kd.C_drewN ?_ _) | (with_reducible refine Kd.C_drew ?_))); (case aB => exact hB); (case aF => exact (fun _ _ => trivial)); (case aO => exact (by (with_reducible repeat (first | apply Kd.R_alloc | apply Kd.R_drewN | apply Kd.R_drew)); exact HO277.out)); (case aS => exact (below_size hB)); (case aL => have := LMc3.out; omega); intro v279 w7 ho hb hg hat; rw [← Ny278.out] at ho; have n0_ := Aside0.mk (hb); have n1_ := Aside0.mk (ho); clear HB; clear HO277; have HB := n0_; have HO280 := n1_; clear n0_ n1_; clear ho hb hg hat) | ((with_reducible refine gate_callee (f := 183) rfl ?_); refine goesL_ (some 13) rfl rfl Tryd.func183 q2_ rfl #[.string a1, .int .u8 47] rfl tS ?_; (with_reducible refine (ostiaryref1_Cut.calls k a1 47 t281 _ A4.out).mono ?_); rintro e w8 ⟨v282, rfl, ho0, hb⟩; refine ⟨_, rfl, ?_⟩; have n0_ := Aside0.mk (Kd.R_elder' (by (with_reducible repeat (first | apply Kd.R_alloc | apply Kd.R_drewN | apply Kd.R_drew)); exact HO280.out) (Kd.R_base ho0) hb); have n1_ := Aside0.mk (Kd.R_lower (Kd.R_new' ho0 (Kd.R_lt (by (with_reducible repeat (first | apply Kd.R_alloc | apply Kd.R_drewN | apply Kd.R_drew)); exact HO280.out))) (below_size hB)); have n2_ := Aside0.mk (below_step hB hb); clear HO280; clear HB; have HO280 := n0_; have HO283 := n1_; have HB := n2_; clear n0_ n1_ n2_; (try clear hb); (try clear hb2); (try clear hk); (try clear hi); (try clear ho0)))
  go_loopg [5, 7] k (fun kq v5 v7 w' => ∃ (x5_1 : List ByteArray) (x7_1 : Int), v7 = .int .i64 x7_1 ∧ Aside0 (ostiaryref3_path.l0 kq x5_1 t281 x7_1 = some r) ∧ Aside0 (kq ≤ k) ∧ Aside0 (Kd.R Kd.string 9 w' w.heap.size (fun k_ => some k_ ≠ (v282 : Value).ownBlock) v5 x5_1) ∧ Aside0 (Kd.R Kd.string 9 w' w.heap.size (fun k_ => some k_ ≠ (v5 : Value).ownBlock) v282 t281) ∧ Aside0 (Below w.heap.size w w'))
  case atStart => exact ⟨(y278), (0), rS, H', ⟨Nat.le_refl _⟩, ⟨by (with_reducible repeat (first | apply Kd.R_alloc | apply Kd.R_drewN | apply Kd.R_drew)); exact Kd.R_mono HO280.out (fun _ hk => hk.2)⟩, ⟨by (with_reducible repeat (first | apply Kd.R_alloc | apply Kd.R_drewN | apply Kd.R_drew)); exact Kd.R_mono HO283.out (fun _ hk => hk.2)⟩, ⟨by repeat (first | (with_reducible first | exact HB.out | apply below_alloc | apply pw_below_drewN | apply below_drew1) | exact HB.out)⟩⟩
  case round =>
   clear H'
   try clear c1
   try clear p2
   try clear c3
   obtain ⟨x5_1, x7_1, rfl, HA, HK1, HO_5, HO_6, HB⟩ := hrel
   cases gk with
   | zero => exact absurd HA.out (by simp [ostiaryref3_path.l0])
   | succ k1 =>
    have H := HA.out
    clear HA
    simp only [ostiaryref3_path.l0] at H
    by_cases c9 : x7_1 < (t281.length : Int)
    ·rw [if_pos c9] at H
     have c9b0 : decide (x7_1 < (t281.length : Int)) = true := decide_eq_true c9
     clear c9
     by_cases c10 : 0 ≤ x7_1
     ·rw [if_pos c10] at H
      have c10b0 : decide (0 ≤ x7_1) = true := decide_eq_true c10
      clear c10
      replace H := Option.bind_eq_some_iff.mp H
      obtain ⟨t285, A110, H⟩ := H
      replace H : (if t285 = 2 then (ostiaryref3_path.j1 k1 x5_1 t281 x7_1 t285 (decide ((x5_1.length : Int) > 0))) else (ostiaryref3_path.j1 k1 x5_1 t281 x7_1 t285 false)) = some r := H
      have A11 := Aside0.mk A110
      clear A110
      have HC12 := Aside0.mk H
      clear H
      obtain ⟨Ao13, co13, eo13⟩ := Kd.R_slice HO_6.out
      subst eo13
      have p284 : 0 ≤ (x7_1 : Int) := of_decide_eq_true aS
      have q284 : x7_1 < (t281.length : Int) := of_decide_eq_true aS
      obtain ⟨ad284, e284, hx284_0⟩ := Kd.at_string (Kd.R_reads' HO_6.out).2.2 x7_1 p284 q284
      cases e284
      replace p284 := eq_true p284
      replace q284 := eq_true q284
      go_upto_region 7 with (first | ((with_reducible refine gate_callee (f := 184) rfl ?_); refine goesL_ (some 24) rfl rfl Tryd.func184 q2_ rfl #[.string (rdOf ByteArray.empty t281 x7_1)] rfl tS ?_; (with_reducible refine (ostiaryref3_dots.calls k1 (rdOf ByteArray.empty t281 x7_1) t285 _ A11.out).mono ?_); rintro e w14 ⟨rfl, hb⟩; refine ⟨_, rfl, ?_⟩; have n0_ := Aside0.mk (Kd.R_below q10_ hb); have n1_ := Aside0.mk (Kd.R_below q7_ hb); have n2_ := Aside0.mk (below_step hB hb); clear HO_5; clear HO_6; clear HB; have HO_5 := n0_; have HO_6 := n1_; have HB := n2_; clear n0_ n1_ n2_; (try clear hb); (try clear hb2); (try clear hk); (try clear hi)))
      (try simp only [Act.put, List.setIfInBounds_toArray, List.set_cons_zero, List.set_cons_succ])
      go_cut [31] (fun v31 wc => ∃ (kq : Nat) (x31_11 : Bool), v31 = .bool x31_11 ∧ Aside0 (ostiaryref3_path.j1 kq x5_1 t281 x7_1 t285 x31_11 = some r) ∧ Aside0 (kq ≤ k1) ∧ Aside0 (Kd.R Kd.string 9 wc w.heap.size (fun k_ => some k_ ≠ ((.slice (some ad284) t281.length co13) : Value).ownBlock) u5 x5_1) ∧ Aside0 (Kd.R Kd.string 9 wc w.heap.size (fun k_ => some k_ ≠ (u5 : Value).ownBlock) (.slice (some ad284) t281.length co13) t281) ∧ Aside0 (Below w.heap.size w wc))
      case first =>
       have H := HC12.out
       clear HC12
       by_cases c15 : t285 = 2
       ·rw [if_pos c15] at H
        have c15b0 : (t285 == 2) = true := beq_iff_eq.mpr c15
        have c15b1 : (t285 != 2) = false := bne_eq_false_iff_eq.mpr c15
        clear c15
        (first | rw [c15b0] | (simp only [i64_w, i32_w]; rw [c15b0]) | skip)
        have H' := Aside0.mk H
        clear H
        obtain ⟨Ao16, co16, eo16⟩ := Kd.R_slice HO_5.out
        subst eo16
        go_wp2
        go_meet
        case rel => exact ⟨_, (decide ((x5_1.length : Int) > 0)), rS, H', ⟨by have := HK1.out; first | omega | exact Nat.le_refl _⟩, ⟨by (with_reducible repeat (first | apply Kd.R_alloc | apply Kd.R_drewN | apply Kd.R_drew)); exact HO_5.out⟩, ⟨by (with_reducible repeat (first | apply Kd.R_alloc | apply Kd.R_drewN | apply Kd.R_drew)); first | exact HO_6.out | exact Kd.R_mono HO_6.out (fun _ h_ => by first | exact h_ | (cases Ao22 <;> exact h_))⟩, ⟨by repeat (first | (with_reducible first | exact HB.out | apply below_alloc | apply pw_below_drewN | apply below_drew1) | exact HB.out)⟩⟩
       ·rw [if_neg c15] at H
        have c15b0 : (t285 == 2) = false := beq_eq_false_iff_ne.mpr c15
        have c15b1 : (t285 != 2) = true := bne_iff_ne.mpr c15
        (first | rw [c15b0] | (simp only [i64_w, i32_w]; rw [c15b0]) | skip)
        have H' := Aside0.mk H
        clear H
        go_wp2
        go_meet
        case rel => exact ⟨_, (false), rS, H', ⟨by have := HK1.out; first | omega | exact Nat.le_refl _⟩, ⟨by (with_reducible repeat (first | apply Kd.R_alloc | apply Kd.R_drewN | apply Kd.R_drew)); exact HO_5.out⟩, ⟨by (with_reducible repeat (first | apply Kd.R_alloc | apply Kd.R_drewN | apply Kd.R_drew)); first | exact HO_6.out | exact Kd.R_mono HO_6.out (fun _ h_ => by first | exact h_ | (cases Ao22 <;> exact h_))⟩, ⟨by repeat (first | (with_reducible first | exact HB.out | apply below_alloc | apply pw_below_drewN | apply below_drew1) | exact HB.out)⟩⟩
      case rest =>
       clear HC12
       try clear c1
       try clear p2
       try clear q2
       try clear hx2
       try clear c3
       try clear c9
       try clear c9b0
       try clear c10
       try clear c10b0
       try clear c15
       try clear c15b0
       try clear c15b1
       try clear c16
       try clear hx284_0
       try clear p2
       try clear p284
       try clear q284
       obtain ⟨kq, x31_11, rfl, HA, HJ11, HO_5, HO_6, HB⟩ := hcut
       cases kq with
       | zero => exact absurd HA.out (by simp [ostiaryref3_path.j1])
       | succ kj11 =>
        have H := HA.out
        clear HA
        simp only [ostiaryref3_path.j1] at H
        have HC17 := Aside0.mk H
        clear H
        go_upto_if 31 with (fail)
        go_cut [5] (fun v5 wc => ∃ (kq : Nat) (x5_16 : List ByteArray), Aside0 (ostiaryref3_path.j2 kq x5_16 t281 x7_1 t285 = some r) ∧ Aside0 (kq ≤ kj11) ∧ Aside0 (Kd.R Kd.string 9 wc w.heap.size (fun k_ => some k_ ≠ ((.slice (some ad284) t281.length co13) : Value).ownBlock) v5 x5_16) ∧ Aside0 (Kd.R Kd.string 9 wc w.heap.size (fun k_ => some k_ ≠ (v5 : Value).ownBlock) (.slice (some ad284) t281.length co13) t281) ∧ Aside0 (Below w.heap.size w wc))
        case first =>
         have H := HC17.out
         clear HC17
         by_cases c18 : x31_11 = true
         ·subst c18
          have H1 : (if 0 ≤ (wrap64 ((x5_1.length : Int) - 1)) then (if (wrap64 ((x5_1.length : Int) - 1)) ≤ (x5_1.length : Int) then (ostiaryref3_path.j2 kj11 (x5_1.take ((wrap64 ((x5_1.length : Int) - 1)) : Int).toNat) t281 x7_1 t285) else (none)) else (none)) = some r := by rw [if_pos rfl] at H; exact H
          clear H
          have H := H1
          clear H1
          obtain ⟨ji19, hji19⟩ : ∃ j_ : Int, (wrap64 ((x5_1.length : Int) - 1)) = j_ := ⟨_, rfl⟩
          replace H : (if 0 ≤ (ji19) then (if (ji19) ≤ (x5_1.length : Int) then (ostiaryref3_path.j2 kj11 (x5_1.take ((ji19) : Int).toNat) t281 x7_1 t285) else (none)) else (none)) = some r := by first | (rw [hji19] at H; exact H) | (simp only [hji19] at H ⊢; exact H)
          have hji19w : (IntKind.i64.wrap ((x5_1.length : Int) - 1)) = ji19 := (i64_w _).trans hji19
          by_cases c20 : 0 ≤ (ji19)
          ·rw [if_pos c20] at H
           have c20b0 := eq_true c20
           have c20b1 : decide (0 ≤ (ji19)) = true := decide_eq_true c20
           clear c20
           by_cases c21 : (ji19) ≤ (x5_1.length : Int)
           ·rw [if_pos c21] at H
            have c21b0 := eq_true c21
            have c21b1 : decide ((ji19) ≤ (x5_1.length : Int)) = true := decide_eq_true c21
            clear c21
            obtain ⟨y286, hy286⟩ : ∃ y_ : List ByteArray, y_ = (x5_1.take ((ji19) : Int).toNat) := ⟨_, rfl⟩
            replace H : (ostiaryref3_path.j2 kj11 y286 t281 x7_1 t285) = some r := by first | (rw [hy286]; with_reducible exact H) | (have H2_ := (Option.bind_some _ _).symm.trans H; rw [hy286]; with_reducible exact H2_) | (have H2_ := (Option.bind_some _ _).symm.trans H; with_reducible exact H2_) | with_reducible exact H | (rw [hy286]; exact H) | exact H
            have Ny286 := Aside0.mk hy286
            clear hy286
            have H' := Aside0.mk H
            clear H
            obtain ⟨Ao22, co22, eo22⟩ := Kd.R_slice HO_5.out
            subst eo22
            have q23 : ((ji19) : Int) ≤ ((x5_1.length : Int) : Int) := of_decide_eq_true aS
            obtain ⟨i023, hi023, _, hsz23, _⟩ := info_parts info9
            have hcut23 := cut_to (P := Tryd.prog) 84 9 .i64 Tryd.underlying84 hi023 Ao22 x5_1.length co22 (ji19) (of_decide_eq_true aS) q23 (Kd.R_reads' HO_5.out).2.1
            have hr23 := Kd.R_take (m := ((ji19) : Int).toNat) HO_5.out (by omega)
            have hy23 : y286.length = ((ji19) : Int).toNat := (by rw [Ny286.out, List.length_take]; omega)
            rw [← Ny286.out] at hr23
            rw [← hy23] at hr23 hcut23
            clear hy23 hi023 hsz23 HO_5
            have HO288 := Aside0.mk hr23
            clear hr23
            replace q23 := eq_true q23
            go_wp2
            go_meet
            case rel => exact ⟨_, (y286), H', ⟨by have := HK1.out; have := HJ11.out; first | omega | exact Nat.le_refl _⟩, ⟨by (with_reducible repeat (first | apply Kd.R_alloc | apply Kd.R_drewN | apply Kd.R_drew)); exact HO288.out⟩, ⟨by (with_reducible repeat (first | apply Kd.R_alloc | apply Kd.R_drewN | apply Kd.R_drew)); first | exact HO_6.out | exact Kd.R_mono HO_6.out (fun _ h_ => by first | exact h_ | (cases Ao22 <;> exact h_))⟩, ⟨by repeat (first | (with_reducible first | exact HB.out | apply below_alloc | apply pw_below_drewN | apply below_drew1) | exact HB.out)⟩⟩
           ·rw [if_neg c21] at H
            exact absurd H (by simp)
          ·rw [if_neg c20] at H
           exact absurd H (by simp)
         ·replace c18 := Bool.eq_false_iff.mpr c18
          subst c18
          have H1 : (ostiaryref3_path.j2 kj11 x5_1 t281 x7_1 t285) = some r := by rw [if_neg (show ¬ (false = true) by decide)] at H; exact H
          clear H
          have H := H1
          clear H1
          have H' := Aside0.mk H
          clear H
          go_wp2
          go_meet
          case rel => exact ⟨_, (x5_1), H', ⟨by have := HK1.out; have := HJ11.out; first | omega | exact Nat.le_refl _⟩, ⟨by (with_reducible repeat (first | apply Kd.R_alloc | apply Kd.R_drewN | apply Kd.R_drew)); exact HO_5.out⟩, ⟨by (with_reducible repeat (first | apply Kd.R_alloc | apply Kd.R_drewN | apply Kd.R_drew)); first | exact HO_6.out | exact Kd.R_mono HO_6.out (fun _ h_ => by first | exact h_ | (cases Ao22 <;> exact h_))⟩, ⟨by repeat (first | (with_reducible first | exact HB.out | apply below_alloc | apply pw_below_drewN | apply below_drew1) | exact HB.out)⟩⟩
        case rest =>
         clear HC17
         try clear c1
         try clear c2
         try clear p2
         try clear q2
         try clear hx2
         try clear c3
         try clear p6
         try clear c9
         try clear c9b0
         try clear c10
         try clear c10b0
         try clear c15
         try clear c15b0
         try clear c15b1
         try clear c16
         try clear c18
         try clear c20
         try clear c20b0
         try clear c20b1
         try clear c21
         try clear c21b0
         try clear c21b1
         try clear q23
         try clear hx284_0
         try clear p2
         try clear p284
         try clear q2
         try clear q23
         try clear q284
         obtain ⟨kq, x5_16, HA, HJ16, HO_5, HO_6, HB⟩ := hcut
         cases kq with
         | zero => exact absurd HA.out (by simp [ostiaryref3_path.j2])
         | succ kj16 =>
          have H := HA.out
          clear HA
          simp only [ostiaryref3_path.j2] at H
          have HC24 := Aside0.mk H
          clear H
          go_upto_region 9 with (fail)
          go_cut [42] (fun v42 wc => ∃ (kq : Nat) (x42_23 : Bool), v42 = .bool x42_23 ∧ Aside0 (ostiaryref3_path.j3 kq x5_16 t281 x7_1 x42_23 = some r) ∧ Aside0 (kq ≤ kj16) ∧ Aside0 (Kd.R Kd.string 9 wc w.heap.size (fun k_ => some k_ ≠ ((.slice (some ad284) t281.length co13) : Value).ownBlock) u5 x5_16) ∧ Aside0 (Kd.R Kd.string 9 wc w.heap.size (fun k_ => some k_ ≠ (u5 : Value).ownBlock) (.slice (some ad284) t281.length co13) t281) ∧ Aside0 (Below w.heap.size w wc))
          case first =>
           have H := HC24.out
           clear HC24
           by_cases c25 : t285 = 1
           ·rw [if_pos c25] at H
            have c25b0 : (t285 == 1) = true := beq_iff_eq.mpr c25
            have c25b1 : (t285 != 1) = false := bne_eq_false_iff_eq.mpr c25
            clear c25
            (first | rw [c25b0] | (simp only [i64_w, i32_w]; rw [c25b0]) | skip)
            have H' := Aside0.mk H
            clear H
            go_wp2
            go_meet
            case rel => exact ⟨_, (true), rS, H', ⟨by have := HK1.out; have := HJ11.out; have := HJ16.out; first | omega | exact Nat.le_refl _⟩, ⟨by (with_reducible repeat (first | apply Kd.R_alloc | apply Kd.R_drewN | apply Kd.R_drew)); exact HO_5.out⟩, ⟨by (with_reducible repeat (first | apply Kd.R_alloc | apply Kd.R_drewN | apply Kd.R_drew)); first | exact HO_6.out | exact Kd.R_mono HO_6.out (fun _ h_ => by first | exact h_ | (cases Ao22 <;> exact h_))⟩, ⟨by repeat (first | (with_reducible first | exact HB.out | apply below_alloc | apply pw_below_drewN | apply below_drew1) | exact HB.out)⟩⟩
           ·rw [if_neg c25] at H
            have c25b0 : (t285 == 1) = false := beq_eq_false_iff_ne.mpr c25
            have c25b1 : (t285 != 1) = true := bne_iff_ne.mpr c25
            (first | rw [c25b0] | (simp only [i64_w, i32_w]; rw [c25b0]) | skip)
            have H' := Aside0.mk H
            clear H
            go_wp2
            go_meet
            case rel => exact ⟨_, ((t285 == 2)), rS, H', ⟨by have := HK1.out; have := HJ11.out; have := HJ16.out; first | omega | exact Nat.le_refl _⟩, ⟨by (with_reducible repeat (first | apply Kd.R_alloc | apply Kd.R_drewN | apply Kd.R_drew)); exact HO_5.out⟩, ⟨by (with_reducible repeat (first | apply Kd.R_alloc | apply Kd.R_drewN | apply Kd.R_drew)); first | exact HO_6.out | exact Kd.R_mono HO_6.out (fun _ h_ => by first | exact h_ | (cases Ao22 <;> exact h_))⟩, ⟨by repeat (first | (with_reducible first | exact HB.out | apply below_alloc | apply pw_below_drewN | apply below_drew1) | exact HB.out)⟩⟩
          case rest =>
           clear HC24
           try clear c1
           try clear c2
           try clear p2
           try clear q2
           try clear hx2
           try clear c3
           try clear p6
           try clear c9
           try clear c9b0
           try clear c10
           try clear c10b0
           try clear c15
           try clear c15b0
           try clear c15b1
           try clear c16
           try clear c18
           try clear c20
           try clear c20b0
           try clear c20b1
           try clear c21
           try clear c21b0
           try clear c21b1
           try clear q23
           try clear c25
           try clear c25b0
           try clear c25b1
           try clear hx284_0
           try clear p2
           try clear p284
           try clear p6
           try clear q2
           try clear q23
           try clear q284
           obtain ⟨kq, x42_23, rfl, HA, HJ23, HO_5, HO_6, HB⟩ := hcut
           cases kq with
           | zero => exact absurd HA.out (by simp [ostiaryref3_path.j3])
           | succ kj23 =>
            have H := HA.out
            clear HA
            simp only [ostiaryref3_path.j3] at H
            by_cases c26 : x42_23 = true
            ·subst c26
             have H1 : (if x7_1 = (wrap64 ((t281.length : Int) - 1)) then (if x5_16.length < 8796093022208 then (ostiaryref3_path.l0 kj23 (x5_16 ++ [(⟨#[]⟩ : ByteArray)]) t281 (wrap64 (x7_1 + 1))) else (none)) else (ostiaryref3_path.l0 kj23 x5_16 t281 (wrap64 (x7_1 + 1)))) = some r := by rw [if_pos rfl] at H; exact H
             clear H
             have H := H1
             clear H1
             by_cases c27 : x7_1 = (wrap64 ((t281.length : Int) - 1))
             ·rw [if_pos c27] at H
              have c27b0 : (x7_1 == (wrap64 ((t281.length : Int) - 1))) = true := beq_iff_eq.mpr c27
              have c27b1 : (x7_1 != (wrap64 ((t281.length : Int) - 1))) = false := bne_eq_false_iff_eq.mpr c27
              clear c27
              by_cases c28 : x5_16.length < 8796093022208
              ·rw [if_pos c28] at H
               have LMc28 := Aside0.mk c28
               clear c28
               obtain ⟨y289, hy289⟩ : ∃ y_ : List ByteArray, y_ = (x5_16 ++ [(⟨#[]⟩ : ByteArray)]) := ⟨_, rfl⟩
               replace H : (ostiaryref3_path.l0 kj23 y289 t281 (wrap64 (x7_1 + 1))) = some r := by first | (rw [hy289]; with_reducible exact H) | (have H2_ := (Option.bind_some _ _).symm.trans H; rw [hy289]; with_reducible exact H2_) | (have H2_ := (Option.bind_some _ _).symm.trans H; with_reducible exact H2_) | with_reducible exact H | (rw [hy289]; exact H) | exact H
               have Ny289 := Aside0.mk hy289
               clear hy289
               have H' := Aside0.mk H
               clear H
               go_wp2_with (first | ((with_reducible refine gate_builtin (b := .append) (xs := #[.tmp 48, .tmp 49]) rfl ?_); (try (refine gate_guard (by rfl) ?_; dsimp only)); at_builtin; refine Kd.R_append Kd.string (w0 := w) w.heap.size rfl (.tmp 48) (.tmp 49) 84 9 (.string ⟨#[]⟩) 16 rfl Tryd.underlying84 info9 rfl (by decide) (by omega) u5 x5_16 (⟨#[]⟩ : ByteArray) [.string (⟨#[]⟩ : ByteArray)] (fun k_ => some k_ ≠ (.slice (some ad284) t281.length co13 : Value).ownBlock) (fun _ => False) rfl rfl ?aP (fun _ hk => hk.elim) ?aF ?aO ?aB ?aS ?aL ?_; (case aP => exact rfl); (case aB => exact hB); (case aF => exact (fun k_ hk => Kd.fresh' (Kd.R_lt q7_) k_ hk)); (case aO => exact q10_); (case aS => exact (below_size hB)); (case aL => have := LMc28.out; omega); intro v290 w29 ho hb hg hat; rw [← Ny289.out] at ho; have n0_ := Aside0.mk (Kd.R_after (ok := (fun _ => True)) (by (with_reducible repeat (first | apply Kd.R_alloc | apply Kd.R_drewN | apply Kd.R_drew)); exact Kd.R_mono HO_6.out (fun _ hk => ⟨trivial, hk⟩)) hg hat); have n1_ := Aside0.mk (hb); have n2_ := Aside0.mk (ho); clear HO_6; clear HB; clear HO_5; have HO_6 := n0_; have HB := n1_; have HO291 := n2_; clear n0_ n1_ n2_; clear ho hb hg hat))
               go_roundg kj23
               case measure => have := HK1.out; have := HJ11.out; have := HJ16.out; have := HJ23.out; omega
               case rel => exact ⟨(y289), (wrap64 (x7_1 + 1)), rS, H', ⟨by have := HK1.out; have := HJ11.out; have := HJ16.out; have := HJ23.out; omega⟩, ⟨by (with_reducible repeat (first | apply Kd.R_alloc | apply Kd.R_drewN | apply Kd.R_drew)); exact HO291.out⟩, ⟨by (with_reducible repeat (first | apply Kd.R_alloc | apply Kd.R_drewN | apply Kd.R_drew)); exact Kd.R_mono HO_6.out (fun _ hk => hk.2)⟩, ⟨by repeat (first | (with_reducible first | exact HB.out | apply below_alloc | apply pw_below_drewN | apply below_drew1) | exact HB.out)⟩⟩
              ·rw [if_neg c28] at H
               exact absurd H (by simp)
             ·rw [if_neg c27] at H
              have c27b0 : (x7_1 == (wrap64 ((t281.length : Int) - 1))) = false := beq_eq_false_iff_ne.mpr c27
              have c27b1 : (x7_1 != (wrap64 ((t281.length : Int) - 1))) = true := bne_iff_ne.mpr c27
              have H' := Aside0.mk H
              clear H
              go_wp2
              go_roundg kj23
              case measure => have := HK1.out; have := HJ11.out; have := HJ16.out; have := HJ23.out; omega
              case rel => exact ⟨(x5_16), (wrap64 (x7_1 + 1)), rS, H', ⟨by have := HK1.out; have := HJ11.out; have := HJ16.out; have := HJ23.out; omega⟩, ⟨by (with_reducible repeat (first | apply Kd.R_alloc | apply Kd.R_drewN | apply Kd.R_drew)); exact HO_5.out⟩, ⟨by (with_reducible repeat (first | apply Kd.R_alloc | apply Kd.R_drewN | apply Kd.R_drew)); first | exact HO_6.out | exact Kd.R_mono HO_6.out (fun _ h_ => by first | exact h_ | (cases Ao22 <;> exact h_))⟩, ⟨by repeat (first | (with_reducible first | exact HB.out | apply below_alloc | apply pw_below_drewN | apply below_drew1) | exact HB.out)⟩⟩
            ·replace c26 := Bool.eq_false_iff.mpr c26
             subst c26
             have H1 : (if 0 ≤ x7_1 then (if x7_1 < (t281.length : Int) then ((ostiaryref1_Percent.f kj23 (rdOf ByteArray.empty t281 x7_1) 5).bind fun t293 => (if x5_16.length < 8796093022208 then (ostiaryref3_path.l0 kj23 (x5_16 ++ [t293]) t281 (wrap64 (x7_1 + 1))) else (none))) else (none)) else (none)) = some r := by rw [if_neg (show ¬ (false = true) by decide)] at H; exact H
             clear H
             have H := H1
             clear H1
             by_cases c30 : 0 ≤ x7_1
             ·rw [if_pos c30] at H
              have c30b0 : decide (0 ≤ x7_1) = true := decide_eq_true c30
              clear c30
              by_cases c31 : x7_1 < (t281.length : Int)
              ·rw [if_pos c31] at H
               have c31b0 : decide (x7_1 < (t281.length : Int)) = true := decide_eq_true c31
               clear c31
               replace H := Option.bind_eq_some_iff.mp H
               obtain ⟨t293, A320, H⟩ := H
               replace H : (if x5_16.length < 8796093022208 then (ostiaryref3_path.l0 kj23 (x5_16 ++ [t293]) t281 (wrap64 (x7_1 + 1))) else (none)) = some r := H
               have A32 := Aside0.mk A320
               clear A320
               by_cases c33 : x5_16.length < 8796093022208
               ·rw [if_pos c33] at H
                have LMc33 := Aside0.mk c33
                clear c33
                obtain ⟨y294, hy294⟩ : ∃ y_ : List ByteArray, y_ = (x5_16 ++ [t293]) := ⟨_, rfl⟩
                replace H : (ostiaryref3_path.l0 kj23 y294 t281 (wrap64 (x7_1 + 1))) = some r := by first | (rw [hy294]; with_reducible exact H) | (have H2_ := (Option.bind_some _ _).symm.trans H; rw [hy294]; with_reducible exact H2_) | (have H2_ := (Option.bind_some _ _).symm.trans H; with_reducible exact H2_) | with_reducible exact H | (rw [hy294]; exact H) | exact H
                have Ny294 := Aside0.mk hy294
                clear hy294
                have H' := Aside0.mk H
                clear H
                have p292 : 0 ≤ (x7_1 : Int) := of_decide_eq_true aS
                have q292 : x7_1 < (t281.length : Int) := of_decide_eq_true aS
                obtain ⟨ad292, e292, hx292_0⟩ := Kd.at_string (Kd.R_reads' HO_6.out).2.2 x7_1 p292 q292
                obtain rfl : ad284 = ad292 := (by injection e292)
                replace p292 := eq_true p292
                replace q292 := eq_true q292
                go_wp2_with (first | ((with_reducible refine gate_callee (f := 128) rfl ?_); refine goesL_ (some 56) rfl rfl Tryd.func128 q2_ rfl #[.string (rdOf ByteArray.empty t281 x7_1), .int .i64 5] rfl tS ?_; (with_reducible refine (ostiaryref1_Percent.calls kj23 (rdOf ByteArray.empty t281 x7_1) 5 t293 _ A32.out).mono ?_); rintro e w' ⟨rfl, ⟨nd, rfl⟩⟩; refine ⟨_, rfl, ?_⟩) | ((with_reducible refine gate_builtin (b := .append) (xs := #[.tmp 51, .tmp 57]) rfl ?_); (try (refine gate_guard (by rfl) ?_; dsimp only)); at_builtin; refine Kd.R_append Kd.string (w0 := w) w.heap.size rfl (.tmp 51) (.tmp 57) 84 9 (.string ⟨#[]⟩) 16 rfl Tryd.underlying84 info9 rfl (by decide) (by omega) u5 x5_16 t293 [.string t293] (fun k_ => some k_ ≠ (.slice (some ad284) t281.length co13 : Value).ownBlock) (fun _ => False) rfl rfl ?aP (fun _ hk => hk.elim) ?aF ?aO ?aB ?aS ?aL ?_; (case aP => exact rfl); (case aB => exact hB); (case aF => exact (fun k_ hk => Kd.fresh' (Kd.R_lt q7_) k_ hk)); (case aO => exact q10_); (case aS => exact (below_size hB)); (case aL => have := LMc33.out; omega); intro v295 w34 ho hb hg hat; rw [← Ny294.out] at ho; have n0_ := Aside0.mk (Kd.R_after (ok := (fun _ => True)) (by (with_reducible repeat (first | apply Kd.R_alloc | apply Kd.R_drewN | apply Kd.R_drew)); exact Kd.R_mono HO_6.out (fun _ hk => ⟨trivial, hk⟩)) hg hat); have n1_ := Aside0.mk (hb); have n2_ := Aside0.mk (ho); clear HO_6; clear HB; clear HO_5; have HO_6 := n0_; have HB := n1_; have HO296 := n2_; clear n0_ n1_ n2_; clear ho hb hg hat))
                go_roundg kj23
                case measure => have := HK1.out; have := HJ11.out; have := HJ16.out; have := HJ23.out; omega
                case rel => exact ⟨(y294), (wrap64 (x7_1 + 1)), rS, H', ⟨by have := HK1.out; have := HJ11.out; have := HJ16.out; have := HJ23.out; omega⟩, ⟨by (with_reducible repeat (first | apply Kd.R_alloc | apply Kd.R_drewN | apply Kd.R_drew)); exact HO296.out⟩, ⟨by (with_reducible repeat (first | apply Kd.R_alloc | apply Kd.R_drewN | apply Kd.R_drew)); exact Kd.R_mono HO_6.out (fun _ hk => hk.2)⟩, ⟨by repeat (first | (with_reducible first | exact HB.out | apply below_alloc | apply pw_below_drewN | apply below_drew1) | exact HB.out)⟩⟩
               ·rw [if_neg c33] at H
                exact absurd H (by simp)
              ·rw [if_neg c31] at H
               exact absurd H (by simp)
             ·rw [if_neg c30] at H
              exact absurd H (by simp)
     ·rw [if_neg c10] at H
      exact absurd H (by simp)
    ·rw [if_neg c9] at H
     have c9b0 : decide (x7_1 < (t281.length : Int)) = false := decide_eq_false c9
     clear c9
     obtain rfl := Option.some.inj H
     obtain ⟨Ao35, co35, eo35⟩ := Kd.R_slice HO_6.out
     subst eo35
     go_wp2
     go_ret
     exact ⟨_, by first | rfl | (simp [errW_none, errW_some] <;> rfl) | (simp [*, errW_none, errW_some] <;> rfl), by (with_reducible repeat (first | apply Kd.R_alloc | apply Kd.R_drewN | apply Kd.R_drew)); exact Kd.R_mono HO_5.out (fun _ hk => trivial), by repeat (first | (with_reducible first | exact HB.out | apply below_alloc | apply pw_below_drewN | apply below_drew1) | exact HB.out)⟩
 ·rw [if_neg c3] at H
  exact absurd H (by simp)
end Go.Proofs.YtifmkgkiipckbaaDoor.P
namespace Go.Proofs.YtifmkgkiipckbaaDoor.P
open Go.RowKit Go.Proofs.YtifmkgkiipckbaaDoorW.PrintWords Go.Proofs.YtifmkgkiipckbaaDoorW.PrintLast Go.Proofs.YtifmkgkiipckbaaDoorW.PrintMore
attribute [local go_sem] max2_int min2_int max_two min_two max_three min_three max_four min_four
set_option linter.unusedVariables false
set_option linter.unusedSimpArgs false
def ostiaryref3_ahead.l0 : Nat → ByteArray → Int → Int → Int → Option (ByteArray × ByteArray)
 | 0, _, _, _, _ => none
 | k + 1, x0, x1, x2, x8 => if x8 < (x0.size : Int) then (if 0 ≤ x8 then (if (bt x0 x8) = x1 then (if x8 ≤ (x0.size : Int) then (some (x0.extract 0 (x8 : Int).toNat, x0.extract (x8 : Int).toNat x0.size)) else (none)) else (if (bt x0 x8) = x2 then (if x8 ≤ (x0.size : Int) then (some (x0.extract 0 (x8 : Int).toNat, x0.extract (x8 : Int).toNat x0.size)) else (none)) else (ostiaryref3_ahead.l0 k x0 x1 x2 (wrap64 (x8 + 1))))) else (none)) else (some (x0, (⟨#[]⟩ : ByteArray)))
def ostiaryref3_ahead.f (k : Nat) (a0 : ByteArray) (a1 : Int) (a2 : Int) : Option (ByteArray × ByteArray) := ostiaryref3_ahead.l0 k a0 a1 a2 0
theorem ostiaryref3_ahead.mono_l : ∀ k, (∀ y0 y1 y2 y3, LeO (ostiaryref3_ahead.l0 k y0 y1 y2 y3) (ostiaryref3_ahead.l0 (k + 1) y0 y1 y2 y3))
 | 0 => fun _ _ _ _ r h => by simp [ostiaryref3_ahead.l0] at h
 | k + 1 => by
  have ih0 := ostiaryref3_ahead.mono_l k
  ·intro y0 y1 y2 y3
   unfold ostiaryref3_ahead.l0
   exact lO
theorem ostiaryref3_ahead.mono : ∀ a0 a1 a2 k, LeO (ostiaryref3_ahead.f k a0 a1 a2) (ostiaryref3_ahead.f (k + 1) a0 a1 a2) := by
 intro a0 a1 a2 k
 have ih0 := ostiaryref3_ahead.mono_l k
 unfold ostiaryref3_ahead.f
 exact lO
set_option maxHeartbeats 8000000 in
set_option maxRecDepth 100000 in
theorem ostiaryref3_ahead.calls (k : Nat) (a0 : ByteArray) (a1 : Int) (a2 : Int) (r1 : ByteArray) (r2 : ByteArray) (w : World) (h : ostiaryref3_ahead.f k a0 a1 a2 = some (r1, r2)) :
  Calls Tryd.prog 136 #[.string a0, .int .u8 a1, .int .u8 a2] w fun e w' => e = .returned (.tuple #[.string r1, .string r2]) ∧ Drawn0 w w' := by
 have H : (ostiaryref3_ahead.l0 k a0 a1 a2 0) = some (r1, r2) := h
 clear h
 have H' := Aside0.mk H
 clear H
 go_enter Tryd.func136, Tryd.ntmps136
 go_wp2
 repeat (go_quiet (fail); try go_wp2)
 go_loopg [8] k (fun kq v8 w' => ∃ (x8_1 : Int), v8 = .int .i64 x8_1 ∧ Aside0 (ostiaryref3_ahead.l0 kq a0 a1 a2 x8_1 = some (r1, r2)) ∧ Aside0 (kq ≤ k) ∧ Drawn0 w w')
 case atStart => exact ⟨(0), rS, H', ⟨Nat.le_refl _⟩, by repeat (first | exact Drawn0.refl _ | apply Drawn0.step)⟩
 case round =>
  clear H'
  try clear c1
  try clear p2
  obtain ⟨x8_1, rfl, HA, HK1, ⟨m1, rfl⟩⟩ := hrel
  cases gk with
  | zero => exact absurd HA.out (by simp [ostiaryref3_ahead.l0])
  | succ k1 =>
   have H := HA.out
   clear HA
   simp only [ostiaryref3_ahead.l0] at H
   by_cases c4 : x8_1 < (a0.size : Int)
   ·rw [if_pos c4] at H
    have c4b0 : decide (x8_1 < (a0.size : Int)) = true := decide_eq_true c4
    clear c4
    by_cases c5 : 0 ≤ x8_1
    ·rw [if_pos c5] at H
     have c5b0 : decide (0 ≤ x8_1) = true := decide_eq_true c5
     clear c5
     by_cases c7 : (bt a0 x8_1) = a1
     ·rw [if_pos c7] at H
      have c7b0 : ((bt a0 x8_1) == a1) = true := beq_iff_eq.mpr c7
      have c7b1 : ((bt a0 x8_1) != a1) = false := bne_eq_false_iff_eq.mpr c7
      clear c7
      have c8b0 := eq_true (of_decide_eq_true aS : 0 ≤ x8_1)
      by_cases c9 : x8_1 ≤ (a0.size : Int)
      ·rw [if_pos c9] at H
       have c9b0 := eq_true c9
       have c9b1 : decide (x8_1 ≤ (a0.size : Int)) = true := decide_eq_true c9
       clear c9
       have c10b0 := eq_true (of_decide_eq_true aS : 0 ≤ x8_1)
       have c11b0 := eq_true (of_decide_eq_true aS : x8_1 ≤ (a0.size : Int))
       simp only [Option.some.injEq, Prod.mk.injEq] at H
       obtain ⟨rfl, rfl⟩ := H
       have p6 : 0 ≤ (x8_1 : Int) := of_decide_eq_true aS
       have q6 : x8_1 < (a0.size : Int) := of_decide_eq_true aS
       have hx6 := bt_at a0 x8_1
       replace p6 := eq_true p6
       replace q6 := eq_true q6
       go_wp2
       repeat (go_quiet (fail); try go_wp2)
       go_ret2
       exact ⟨rS, by repeat (first | exact Drawn0.refl _ | apply Drawn0.step)⟩
      ·rw [if_neg c9] at H
       exact absurd H (by simp)
     ·rw [if_neg c7] at H
      have c7b0 : ((bt a0 x8_1) == a1) = false := beq_eq_false_iff_ne.mpr c7
      have c7b1 : ((bt a0 x8_1) != a1) = true := bne_iff_ne.mpr c7
      by_cases c13 : (bt a0 x8_1) = a2
      ·rw [if_pos c13] at H
       have c13b0 : ((bt a0 x8_1) == a2) = true := beq_iff_eq.mpr c13
       have c13b1 : ((bt a0 x8_1) != a2) = false := bne_eq_false_iff_eq.mpr c13
       clear c13
       have c14b0 := eq_true (of_decide_eq_true aS : 0 ≤ x8_1)
       by_cases c15 : x8_1 ≤ (a0.size : Int)
       ·rw [if_pos c15] at H
        have c15b0 := eq_true c15
        have c15b1 : decide (x8_1 ≤ (a0.size : Int)) = true := decide_eq_true c15
        clear c15
        have c16b0 := eq_true (of_decide_eq_true aS : 0 ≤ x8_1)
        have c17b0 := eq_true (of_decide_eq_true aS : x8_1 ≤ (a0.size : Int))
        simp only [Option.some.injEq, Prod.mk.injEq] at H
        obtain ⟨rfl, rfl⟩ := H
        have p6 : 0 ≤ (x8_1 : Int) := of_decide_eq_true aS
        have q6 : x8_1 < (a0.size : Int) := of_decide_eq_true aS
        have hx6 := bt_at a0 x8_1
        replace p6 := eq_true p6
        replace q6 := eq_true q6
        have p12 : 0 ≤ (x8_1 : Int) := of_decide_eq_true aS
        have q12 : x8_1 < (a0.size : Int) := of_decide_eq_true aS
        have hx12 := bt_at a0 x8_1
        replace p12 := eq_true p12
        replace q12 := eq_true q12
        go_wp2
        repeat (go_quiet (fail); try go_wp2)
        go_ret2
        exact ⟨rS, by repeat (first | exact Drawn0.refl _ | apply Drawn0.step)⟩
       ·rw [if_neg c15] at H
        exact absurd H (by simp)
      ·rw [if_neg c13] at H
       have c13b0 : ((bt a0 x8_1) == a2) = false := beq_eq_false_iff_ne.mpr c13
       have c13b1 : ((bt a0 x8_1) != a2) = true := bne_iff_ne.mpr c13
       have H' := Aside0.mk H
       clear H
       have p6 : 0 ≤ (x8_1 : Int) := of_decide_eq_true aS
       have q6 : x8_1 < (a0.size : Int) := of_decide_eq_true aS
       have hx6 := bt_at a0 x8_1
       replace p6 := eq_true p6
       replace q6 := eq_true q6
       have p12 : 0 ≤ (x8_1 : Int) := of_decide_eq_true aS
       have q12 : x8_1 < (a0.size : Int) := of_decide_eq_true aS
       have hx12 := bt_at a0 x8_1
       replace p12 := eq_true p12
       replace q12 := eq_true q12
       go_wp2
       repeat (go_quiet (fail); try go_wp2)
       go_roundg k1
       case measure => have := HK1.out; omega
       case rel => exact ⟨(wrap64 (x8_1 + 1)), rS, H', ⟨by have := HK1.out; omega⟩, by repeat (first | exact Drawn0.refl _ | apply Drawn0.step)⟩
    ·rw [if_neg c5] at H
     exact absurd H (by simp)
   ·rw [if_neg c4] at H
    have c4b0 : decide (x8_1 < (a0.size : Int)) = false := decide_eq_false c4
    clear c4
    simp only [Option.some.injEq, Prod.mk.injEq] at H
    obtain ⟨rfl, rfl⟩ := H
    go_wp2
    repeat (go_quiet (fail); try go_wp2)
    go_ret2
    exact ⟨rS, by repeat (first | exact Drawn0.refl _ | apply Drawn0.step)⟩
end Go.Proofs.YtifmkgkiipckbaaDoor.P
namespace Go.Proofs.YtifmkgkiipckbaaDoor.P
open Go.RowKit Go.Proofs.YtifmkgkiipckbaaDoorW.PrintWords Go.Proofs.YtifmkgkiipckbaaDoorW.PrintLast Go.Proofs.YtifmkgkiipckbaaDoorW.PrintMore
attribute [local go_sem] max2_int min2_int max_two min_two max_three min_three max_four min_four
set_option linter.unusedVariables false
set_option linter.unusedSimpArgs false
def ostiaryref3_over.l0 : Nat → ByteArray → Option (ByteArray)
 | 0, _ => none
 | k + 1, x0 => if (x0.size : Int) > 0 then (if 0 < (x0.size : Int) then (if (bt x0 0) = 47 then (if 1 ≤ (x0.size : Int) then (ostiaryref3_over.l0 k (x0.extract 1 x0.size)) else (none)) else (some x0)) else (none)) else (some x0)
def ostiaryref3_over.f (k : Nat) (a0 : ByteArray) : Option (ByteArray) := ostiaryref3_over.l0 k a0
theorem ostiaryref3_over.mono_l : ∀ k, (∀ y0, LeO (ostiaryref3_over.l0 k y0) (ostiaryref3_over.l0 (k + 1) y0))
 | 0 => fun _ r h => by simp [ostiaryref3_over.l0] at h
 | k + 1 => by
  have ih0 := ostiaryref3_over.mono_l k
  ·intro y0
   unfold ostiaryref3_over.l0
   exact lO
theorem ostiaryref3_over.mono : ∀ a0 k, LeO (ostiaryref3_over.f k a0) (ostiaryref3_over.f (k + 1) a0) := by
 intro a0 k
 have ih0 := ostiaryref3_over.mono_l k
 unfold ostiaryref3_over.f
 exact lO
set_option maxHeartbeats 8000000 in
set_option maxRecDepth 100000 in
theorem ostiaryref3_over.calls (k : Nat) (a0 : ByteArray) (r : ByteArray) (w : World) (h : ostiaryref3_over.f k a0 = some r) :
  Calls Tryd.prog 132 #[.string a0] w fun e w' => e = .returned (.string r) ∧ Drawn0 w w' := by
 have H : (ostiaryref3_over.l0 k a0) = some r := h
 clear h
 have H' := Aside0.mk H
 clear H
 go_enter Tryd.func132, Tryd.ntmps132
 go_wp2
 go_loopg [0] k (fun kq v0 w' => ∃ (x0_1 : ByteArray), v0 = .string x0_1 ∧ Aside0 (ostiaryref3_over.l0 kq x0_1 = some r) ∧ Aside0 (kq ≤ k) ∧ Drawn0 w w')
 case atStart => exact ⟨(a0), rS, H', ⟨Nat.le_refl _⟩, by repeat (first | exact Drawn0.refl _ | apply Drawn0.step)⟩
 case round =>
  clear H'
  try clear c1
  obtain ⟨x0_1, rfl, HA, HK1, ⟨m1, rfl⟩⟩ := hrel
  cases gk with
  | zero => exact absurd HA.out (by simp [ostiaryref3_over.l0])
  | succ k1 =>
   have H := HA.out
   clear HA
   simp only [ostiaryref3_over.l0] at H
   by_cases c2 : (x0_1.size : Int) > 0
   ·rw [if_pos c2] at H
    have c2b0 : decide (0 < (x0_1.size : Int)) = true := decide_eq_true c2
    have c2b1 : decide (0 < x0_1.size) = true := decide_eq_true (by omega)
    clear c2
    by_cases c3 : 0 < (x0_1.size : Int)
    ·rw [if_pos c3] at H
     have c3b0 : decide (0 < (x0_1.size : Int)) = true := decide_eq_true c3
     have c3b1 : decide (0 < x0_1.size) = true := decide_eq_true (by omega)
     clear c3
     by_cases c5 : (bt x0_1 0) = 47
     ·rw [if_pos c5] at H
      have c5b0 : ((bt x0_1 0) == 47) = true := beq_iff_eq.mpr c5
      have c5b1 : ((bt x0_1 0) != 47) = false := bne_eq_false_iff_eq.mpr c5
      clear c5
      by_cases c6 : 1 ≤ (x0_1.size : Int)
      ·rw [if_pos c6] at H
       have c6b0 := eq_true c6
       have c6b1 : decide (1 ≤ (x0_1.size : Int)) = true := decide_eq_true c6
       clear c6
       have H' := Aside0.mk H
       clear H
       have p4 : 0 ≤ (0 : Int) := (by omega)
       have q4 : 0 < x0_1.size := (by have : (0 : Int) < (x0_1.size : Int) := of_decide_eq_true aS; omega)
       have hx4 : ∀ h : 0 < x0_1.size, ((x0_1[0]'h).toNat : Int) = bt x0_1 0 := bt_at x0_1 0
       clear p4
       have qi4 : (0 < (x0_1.size : Int)) = True := eq_true (of_decide_eq_true aS)
       replace q4 := eq_true q4
       go_wp2
       go_roundg k1
       case measure => have := HK1.out; omega
       case rel => exact ⟨(x0_1.extract 1 x0_1.size), rS, H', ⟨by have := HK1.out; omega⟩, by repeat (first | exact Drawn0.refl _ | apply Drawn0.step)⟩
      ·rw [if_neg c6] at H
       exact absurd H (by simp)
     ·rw [if_neg c5] at H
      have c5b0 : ((bt x0_1 0) == 47) = false := beq_eq_false_iff_ne.mpr c5
      have c5b1 : ((bt x0_1 0) != 47) = true := bne_iff_ne.mpr c5
      obtain rfl := Option.some.inj H
      have p4 : 0 ≤ (0 : Int) := (by omega)
      have q4 : 0 < x0_1.size := (by have : (0 : Int) < (x0_1.size : Int) := of_decide_eq_true aS; omega)
      have hx4 : ∀ h : 0 < x0_1.size, ((x0_1[0]'h).toNat : Int) = bt x0_1 0 := bt_at x0_1 0
      clear p4
      have qi4 : (0 < (x0_1.size : Int)) = True := eq_true (of_decide_eq_true aS)
      replace q4 := eq_true q4
      go_wp2
      go_ret
      exact ⟨rS, by repeat (first | exact Drawn0.refl _ | apply Drawn0.step)⟩
    ·rw [if_neg c3] at H
     exact absurd H (by simp)
   ·rw [if_neg c2] at H
    have c2b0 : decide (0 < (x0_1.size : Int)) = false := decide_eq_false c2
    have c2b1 : decide (0 < x0_1.size) = false := decide_eq_false (by omega)
    clear c2
    obtain rfl := Option.some.inj H
    go_wp2
    go_ret
    exact ⟨rS, by repeat (first | exact Drawn0.refl _ | apply Drawn0.step)⟩
end Go.Proofs.YtifmkgkiipckbaaDoor.P
namespace Go.Proofs.YtifmkgkiipckbaaDoor.P
open Go.RowKit Go.Proofs.YtifmkgkiipckbaaDoorW.PrintWords Go.Proofs.YtifmkgkiipckbaaDoorW.PrintLast Go.Proofs.YtifmkgkiipckbaaDoorW.PrintMore
attribute [local go_sem] max2_int min2_int max_two min_two max_three min_three max_four min_four
set_option linter.unusedVariables false
set_option linter.unusedSimpArgs false
def ostiaryref1_Letter.f (a0 : Int) : Option (Bool) := if a0 ≥ 97 then (if a0 ≤ 122 then (some true) else (if a0 ≥ 65 then (some (decide (a0 ≤ 90))) else (some false))) else (if a0 ≥ 65 then (some (decide (a0 ≤ 90))) else (some false))
set_option maxHeartbeats 8000000 in
set_option maxRecDepth 100000 in
theorem ostiaryref1_Letter.calls (a0 : Int) (r : Bool) (w : World) (h : ostiaryref1_Letter.f a0 = some r) :
  Calls Tryd.prog 129 #[.int .u8 a0] w fun e w' => e = .returned (.bool r) ∧ Drawn0 w w' := by
 have H : (if a0 ≥ 97 then (if a0 ≤ 122 then (some true) else (if a0 ≥ 65 then (some (decide (a0 ≤ 90))) else (some false))) else (if a0 ≥ 65 then (some (decide (a0 ≤ 90))) else (some false))) = some r := h
 clear h
 by_cases c2 : a0 ≥ 97
 ·rw [if_pos c2] at H
  have c2b0 : decide (97 ≤ a0) = true := decide_eq_true c2
  clear c2
  by_cases c3 : a0 ≤ 122
  ·rw [if_pos c3] at H
   have c3b0 : decide (a0 ≤ 122) = true := decide_eq_true c3
   clear c3
   obtain rfl := Option.some.inj H
   go_enter Tryd.func129, Tryd.ntmps129
   go_wp2
   go_ret
   exact ⟨rS, by repeat (first | exact Drawn0.refl _ | apply Drawn0.step)⟩
  ·rw [if_neg c3] at H
   have c3b0 : decide (a0 ≤ 122) = false := decide_eq_false c3
   clear c3
   by_cases c4 : a0 ≥ 65
   ·rw [if_pos c4] at H
    have c4b0 : decide (65 ≤ a0) = true := decide_eq_true c4
    clear c4
    obtain rfl := Option.some.inj H
    go_enter Tryd.func129, Tryd.ntmps129
    go_wp2
    go_ret
    exact ⟨rS, by repeat (first | exact Drawn0.refl _ | apply Drawn0.step)⟩
   ·rw [if_neg c4] at H
    have c4b0 : decide (65 ≤ a0) = false := decide_eq_false c4
    clear c4
    obtain rfl := Option.some.inj H
    go_enter Tryd.func129, Tryd.ntmps129
    go_wp2
    go_ret
    exact ⟨rS, by repeat (first | exact Drawn0.refl _ | apply Drawn0.step)⟩
 ·rw [if_neg c2] at H
  have c2b0 : decide (97 ≤ a0) = false := decide_eq_false c2
  clear c2
  by_cases c5 : a0 ≥ 65
  ·rw [if_pos c5] at H
   have c5b0 : decide (65 ≤ a0) = true := decide_eq_true c5
   clear c5
   obtain rfl := Option.some.inj H
   go_enter Tryd.func129, Tryd.ntmps129
   go_wp2
   go_ret
   exact ⟨rS, by repeat (first | exact Drawn0.refl _ | apply Drawn0.step)⟩
  ·rw [if_neg c5] at H
   have c5b0 : decide (65 ≤ a0) = false := decide_eq_false c5
   clear c5
   obtain rfl := Option.some.inj H
   go_enter Tryd.func129, Tryd.ntmps129
   go_wp2
   go_ret
   exact ⟨rS, by repeat (first | exact Drawn0.refl _ | apply Drawn0.step)⟩
end Go.Proofs.YtifmkgkiipckbaaDoor.P
