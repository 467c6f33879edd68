/- A part of the proof of CorsLess: texts of walks and plain lemmas. -/
import Derived.Test.YtifmkgkiipckbaaDoorX1
import Derived.Test.YtifmkgkiipckbaaDoorX18
namespace Go.Proofs.YtifmkgkiipckbaaDoor.P
open Go.RowKit Go.Proofs.YtifmkgkiipckbaaDoorW.PrintWords Go.Proofs.YtifmkgkiipckbaaDoorW.PrintLast Go.Proofs.YtifmkgkiipckbaaDoorW.PrintMore
attribute [local go_sem] max2_int min2_int max_two min_two max_three min_three max_four min_four
set_option linter.unusedVariables false
set_option linter.unusedSimpArgs false
def headers_Get.l0 : Nat → ByteArray → List ByteArray → List (S72) → Int → Int → Option (ByteArray × Bool)
 | 0, _, _, _, _, _ => none
 | k + 1, x1, x6, x9, x10, x11 => if x11 < x10 then (if 0 ≤ x11 then (if x11 < (x9.length : Int) then ((headers_is.f ((rd_T72 x9 x11).f0) ((rd_T72 x9 x11).f1) x1).bind fun t184 => (if t184 = true then (if x6.length < 8796093022208 then (headers_Get.l0 k x1 (x6 ++ [(rd_T72 x9 x11).f1]) x9 x10 (wrap64 (x11 + 1))) else (none)) else (headers_Get.l0 k x1 x6 x9 x10 (wrap64 (x11 + 1))))) else (none)) else (none)) else ((strings_Join.f x6 (⟨#[44, 32]⟩ : ByteArray)).bind fun t188 => (some (t188, decide ((x6.length : Int) > 0))))
def headers_Get.f (k : Nat) (l0 : List (S72)) (a1 : ByteArray) : Option (ByteArray × Bool) := headers_Get.l0 k a1 ([] : List ByteArray) l0 (l0.length : Int) 0
theorem headers_Get.mono_l : ∀ k, (∀ y0 y1 y2 y3 y4, LeO (headers_Get.l0 k y0 y1 y2 y3 y4) (headers_Get.l0 (k + 1) y0 y1 y2 y3 y4))
 | 0 => fun _ _ _ _ _ r h => by simp [headers_Get.l0] at h
 | k + 1 => by
  have ih0 := headers_Get.mono_l k
  ·intro y0 y1 y2 y3 y4
   unfold headers_Get.l0
   exact lO
theorem headers_Get.mono : ∀ a0 a1 k, LeO (headers_Get.f k a0 a1) (headers_Get.f (k + 1) a0 a1) := by
 intro a0 a1 k
 have ih0 := headers_Get.mono_l k
 unfold headers_Get.f
 exact lO
set_option maxHeartbeats 8000000 in
set_option maxRecDepth 100000 in
theorem headers_Get.calls (k : Nat) (A0 : Option Addr) (c0 : Nat) (l0 : List (S72)) (a1 : ByteArray) (r1 : ByteArray) (r2 : Bool) (w : World) (hr0 : Kd.C k72 w A0 l0.length l0) (hc0 : l0.length ≤ c0) (h : headers_Get.f k l0 a1 = some (r1, r2)) :
  Calls Tryd.prog 48 #[.slice A0 l0.length c0, .string a1] w fun e w' => e = .returned (.tuple #[.string r1, .bool r2]) ∧ Below w.heap.size w w' := by
 have hu72 := Tryd.underlying72
 have HR0 := Aside0.mk hr0
 have HC0 := Aside0.mk hc0
 clear hr0 hc0
 have HB := Aside0.mk (Below.refl w.heap.size w)
 have H : (headers_Get.l0 k a1 ([] : List ByteArray) l0 (l0.length : Int) 0) = some (r1, r2) := h
 clear h
 have H' := Aside0.mk H
 clear H
 go_enter Tryd.func48, Tryd.ntmps48
 go_wp2
 go_loopg [6, 11] k (fun kq v6 v11 w' => ∃ (x6_1 : List ByteArray) (x11_1 : Int), v11 = .int .i64 x11_1 ∧ Aside0 (headers_Get.l0 kq a1 x6_1 l0 (l0.length : Int) x11_1 = some (r1, r2)) ∧ Aside0 (kq ≤ k) ∧ Aside0 (Kd.R Kd.string 9 w' w.heap.size (fun _ => True) v6 x6_1) ∧ Aside0 (Below w.heap.size w w'))
 case atStart => exact ⟨(([] : List ByteArray)), (0), rS, H', ⟨Nat.le_refl _⟩, ⟨by first | exact Kd.R_nil _ _ _ _ _ | exact Kd.N_nil _ _ _ _ _ | exact Kd.V_nil _ _ _ _ _ | exact Kd.Q_nil _ _ _ _ _ | exact Kd.S_nil _ _ _ _ _⟩, ⟨by repeat (first | (with_reducible first | exact HB.out | apply below_alloc | apply pw_below_drewN | apply below_drew1) | exact HB.out)⟩⟩
 case round =>
  clear H'
  try clear p2
  obtain ⟨x6_1, x11_1, rfl, HA, HK1, HO_6, HB⟩ := hrel
  cases gk with
  | zero => exact absurd HA.out (by simp [headers_Get.l0])
  | succ k1 =>
   have H := HA.out
   clear HA
   simp only [headers_Get.l0] at H
   by_cases c3 : x11_1 < (l0.length : Int)
   ·rw [if_pos c3] at H
    have c3b0 : decide (x11_1 < (l0.length : Int)) = true := decide_eq_true c3
    clear c3
    by_cases c4 : 0 ≤ x11_1
    ·rw [if_pos c4] at H
     have c4b0 : decide (0 ≤ x11_1) = true := decide_eq_true c4
     clear c4
     by_cases c5 : x11_1 < (l0.length : Int)
     ·rw [if_pos c5] at H
      have c5b0 : decide (x11_1 < (l0.length : Int)) = true := decide_eq_true c5
      clear c5
      replace H := Option.bind_eq_some_iff.mp H
      obtain ⟨t184, A60, H⟩ := H
      replace H : (if t184 = true then (if x6_1.length < 8796093022208 then (headers_Get.l0 k1 a1 (x6_1 ++ [(rd_T72 l0 x11_1).f1]) l0 (l0.length : Int) (wrap64 (x11_1 + 1))) else (none)) else (headers_Get.l0 k1 a1 x6_1 l0 (l0.length : Int) (wrap64 (x11_1 + 1)))) = some (r1, r2) := H
      have A6 := Aside0.mk A60
      clear A60
      by_cases c7 : t184 = true
      ·subst c7
       have H1 : (if x6_1.length < 8796093022208 then (headers_Get.l0 k1 a1 (x6_1 ++ [(rd_T72 l0 x11_1).f1]) l0 (l0.length : Int) (wrap64 (x11_1 + 1))) else (none)) = some (r1, r2) := by rw [if_pos rfl] at H; exact H
       clear H
       have H := H1
       clear H1
       by_cases c8 : x6_1.length < 8796093022208
       ·rw [if_pos c8] at H
        have LMc8 := Aside0.mk c8
        clear c8
        obtain ⟨y185, hy185⟩ : ∃ y_ : List ByteArray, y_ = (x6_1 ++ [(rd_T72 l0 x11_1).f1]) := ⟨_, rfl⟩
        replace H : (headers_Get.l0 k1 a1 y185 l0 (l0.length : Int) (wrap64 (x11_1 + 1))) = some (r1, r2) := by first | (rw [hy185]; with_reducible exact H) | (have H2_ := (Option.bind_some _ _).symm.trans H; rw [hy185]; with_reducible exact H2_) | (have H2_ := (Option.bind_some _ _).symm.trans H; with_reducible exact H2_) | with_reducible exact H | (rw [hy185]; exact H) | exact H
        have Ny185 := Aside0.mk hy185
        clear hy185
        have H' := Aside0.mk H
        clear H
        have p182 : 0 ≤ (x11_1 : Int) := of_decide_eq_true aS
        have q182 : x11_1 < (l0.length : Int) := of_decide_eq_true aS
        obtain ⟨ad182, e182, hx182_0, hx182_1⟩ := at_T72 HR0.out x11_1 p182 q182
        cases e182
        replace hx182_0 := (HB.out.cell (World.block_lt_of_cell? w _ hx182_0)).trans hx182_0
        replace hx182_1 := (HB.out.cell (World.block_lt_of_cell? w _ hx182_1)).trans hx182_1
        replace p182 := eq_true p182
        replace q182 := eq_true q182
        go_wp2_with (first | ((with_reducible refine gate_dst (N := 8) rfl ?_); refine box_event ?hg (N := 8) ?hd (cs := #[.string (⟨#[]⟩ : ByteArray), .string (⟨#[]⟩ : ByteArray)]) (t := 72) ?hr ?_; (case hd => rfl); (case hg => rfl); (case hr => first | (go_simp; done) | (go_simp; rfl)); intro gb183 hg w9 hbox hb; have n0_ := Aside0.mk (Kd.R_below q7_ hb); have n1_ := Aside0.mk (below_step hB hb); have n2_ := Aside0.mk (hbox); have n3_ := Aside0.mk ((by rw [hg]; exact (below_size hB) : w.heap.size ≤ gb183)); have n4_ := Aside0.mk ((by rw [hg]; exact (below_size hB) : w.heap.size ≤ gb183)); clear HO_6; clear HB; have HO_6 := n0_; have HB := n1_; have BK183 := n2_; have GW183 := n3_; have GE183 := n4_; clear n0_ n1_ n2_ n3_ n4_; clear hb hbox hg; have hcz10_0 : w9.cell? ⟨gb183, 0, none⟩ = some (.string (⟨#[]⟩ : ByteArray)) := (blk_cell BK183.out 0).trans rfl; have hcz10_1 : w9.cell? ⟨gb183, 1, none⟩ = some (.string (⟨#[]⟩ : ByteArray)) := (blk_cell BK183.out 1).trans rfl; have hfz10_0 := blk_frozen BK183.out 0; have hfz10_1 := blk_frozen BK183.out 1) | ((with_reducible refine gate_callee (f := 86) rfl ?_); refine goesL_ (some 17) rfl rfl Tryd.func86 q2_ rfl #[.agg #[.string ((rd_T72 l0 x11_1).f0), .string ((rd_T72 l0 x11_1).f1)], .string a1] rfl tS ?_; (with_reducible refine (headers_is.calls ((rd_T72 l0 x11_1).f0) ((rd_T72 l0 x11_1).f1) a1 true _ A6.out).mono ?_); rintro e w11 ⟨rfl, hb⟩; refine ⟨_, rfl, ?_⟩; have n0_ := Aside0.mk (Kd.R_below (by (with_reducible repeat (first | apply Kd.R_alloc | apply Kd.R_drewN | apply Kd.R_drew)); exact (Kd.R_mono (Kd.R_far (p := ⟨gb183, 1, none⟩) (Kd.R_far (p := ⟨gb183, 0, none⟩) (Kd.R_types HO_6.out BK183.out (by decide)) (fun _ hk => hk.2) (.string ((rd_T72 l0 x11_1).f0))) (fun _ hk => hk.2) (.string ((rd_T72 l0 x11_1).f1))) (fun _ h_ => h_.1))) hb); have n1_ := Aside0.mk (blk_below (g := gb183) (o := .cells #[.string ((rd_T72 l0 x11_1).f0), .string ((rd_T72 l0 x11_1).f1)] 72 (0, 0)) (by (with_reducible repeat (first | refine blk_drewN ?_ _ | refine blk_drew ?_ | refine blk_alloc ?_ _)); refine blk_put (cs := #[.string ((rd_T72 l0 x11_1).f0), .string (⟨#[]⟩ : ByteArray)]) ?_ 1 _ rfl; (with_reducible repeat (first | refine blk_drewN ?_ _ | refine blk_drew ?_ | refine blk_alloc ?_ _)); refine blk_put (cs := #[.string (⟨#[]⟩ : ByteArray), .string (⟨#[]⟩ : ByteArray)]) ?_ 0 _ rfl; (with_reducible repeat (first | refine blk_drewN ?_ _ | refine blk_drew ?_ | refine blk_alloc ?_ _)); exact BK183.out) hb); have n2_ := Aside0.mk (below_step (by repeat (first | (with_reducible first | exact HB.out | apply below_alloc | apply pw_below_drewN | apply below_drew1 | refine below_set ?_ GE183.out) | exact HB.out)) hb); clear HO_6; clear BK183; clear HB; have HO_6 := n0_; have BK183 := n1_; have HB := n2_; clear n0_ n1_ n2_; (try clear hb); (try clear hb2); (try clear hk); (try clear hi); have hcz12_0 : w11.cell? ⟨gb183, 0, none⟩ = some (.string ((rd_T72 l0 x11_1).f0)) := (blk_cell BK183.out 0).trans rfl; have hcz12_1 : w11.cell? ⟨gb183, 1, none⟩ = some (.string ((rd_T72 l0 x11_1).f1)) := (blk_cell BK183.out 1).trans rfl; have hfz12_0 := blk_frozen BK183.out 0; have hfz12_1 := blk_frozen BK183.out 1) | ((with_reducible refine gate_builtin (b := .append) (xs := #[.tmp 18, .tmp 21]) rfl ?_); at_builtin; refine Kd.R_append Kd.string (w0 := w) w.heap.size rfl (.tmp 18) (.tmp 21) 84 9 (.string ⟨#[]⟩) 16 rfl Tryd.underlying84 info9 rfl (by decide) (by omega) u6 x6_1 ((rd_T72 l0 x11_1).f1) [.string ((rd_T72 l0 x11_1).f1)] (fun _ => True) (fun _ => False) rfl rfl ?aP (fun _ hk => hk.elim) ?aF ?aO ?aB ?aS ?aL ?_; (case aP => exact rfl); (case aB => exact (by repeat (first | (with_reducible first | exact HB.out | apply below_alloc | apply pw_below_drewN | apply below_drew1 | refine below_set ?_ GE183.out) | exact HB.out))); (case aF => exact (fun _ _ => trivial)); (case aO => exact q7_); (case aS => exact (below_size (by repeat (first | (with_reducible first | exact HB.out | apply below_alloc | apply pw_below_drewN | apply below_drew1 | refine below_set ?_ GE183.out) | exact HB.out)))); (case aL => have := LMc8.out; omega); intro v186 w13 ho hb hg hat; rw [← Ny185.out] at ho; have n0_ := Aside0.mk (blk_grown (g := gb183) (o := .cells #[.string ((rd_T72 l0 x11_1).f0), .string ((rd_T72 l0 x11_1).f1)] 72 (0, 0)) (by (with_reducible repeat (first | refine blk_drewN ?_ _ | refine blk_drew ?_ | refine blk_alloc ?_ _)); exact BK183.out) hg (Kd.R_ne HO_6.out BK183.out (by decide))); have n1_ := Aside0.mk (hb); have n2_ := Aside0.mk (ho); clear BK183; clear HB; clear HO_6; have BK183 := n0_; have HB := n1_; have HO187 := n2_; clear n0_ n1_ n2_; clear ho hb hg hat))
        go_roundg k1
        case measure => have := HK1.out; omega
        case rel => exact ⟨(y185), (wrap64 (x11_1 + 1)), rS, H', ⟨by have := HK1.out; omega⟩, ⟨by (with_reducible repeat (first | apply Kd.R_alloc | apply Kd.R_drewN | apply Kd.R_drew)); exact HO187.out⟩, ⟨by repeat (first | (with_reducible first | exact HB.out | apply below_alloc | apply pw_below_drewN | apply below_drew1 | refine below_set ?_ GE183.out) | exact HB.out)⟩⟩
       ·rw [if_neg c8] at H
        exact absurd H (by simp)
      ·replace c7 := Bool.eq_false_iff.mpr c7
       subst c7
       have H1 : (headers_Get.l0 k1 a1 x6_1 l0 (l0.length : Int) (wrap64 (x11_1 + 1))) = some (r1, r2) := by rw [if_neg (show ¬ (false = true) by decide)] at H; exact H
       clear H
       have H := H1
       clear H1
       have H' := Aside0.mk H
       clear H
       have p182 : 0 ≤ (x11_1 : Int) := of_decide_eq_true aS
       have q182 : x11_1 < (l0.length : Int) := of_decide_eq_true aS
       obtain ⟨ad182, e182, hx182_0, hx182_1⟩ := at_T72 HR0.out x11_1 p182 q182
       cases e182
       replace hx182_0 := (HB.out.cell (World.block_lt_of_cell? w _ hx182_0)).trans hx182_0
       replace hx182_1 := (HB.out.cell (World.block_lt_of_cell? w _ hx182_1)).trans hx182_1
       replace p182 := eq_true p182
       replace q182 := eq_true q182
       go_wp2_with (first | ((with_reducible refine gate_dst (N := 8) rfl ?_); refine box_event ?hg (N := 8) ?hd (cs := #[.string (⟨#[]⟩ : ByteArray), .string (⟨#[]⟩ : ByteArray)]) (t := 72) ?hr ?_; (case hd => rfl); (case hg => rfl); (case hr => first | (go_simp; done) | (go_simp; rfl)); intro gb183 hg w14 hbox hb; have n0_ := Aside0.mk (Kd.R_below q7_ hb); have n1_ := Aside0.mk (below_step hB hb); have n2_ := Aside0.mk (hbox); have n3_ := Aside0.mk ((by rw [hg]; exact (below_size hB) : w.heap.size ≤ gb183)); have n4_ := Aside0.mk ((by rw [hg]; exact (below_size hB) : w.heap.size ≤ gb183)); clear HO_6; clear HB; have HO_6 := n0_; have HB := n1_; have BK183 := n2_; have GW183 := n3_; have GE183 := n4_; clear n0_ n1_ n2_ n3_ n4_; clear hb hbox hg; have hcz15_0 : w14.cell? ⟨gb183, 0, none⟩ = some (.string (⟨#[]⟩ : ByteArray)) := (blk_cell BK183.out 0).trans rfl; have hcz15_1 : w14.cell? ⟨gb183, 1, none⟩ = some (.string (⟨#[]⟩ : ByteArray)) := (blk_cell BK183.out 1).trans rfl; have hfz15_0 := blk_frozen BK183.out 0; have hfz15_1 := blk_frozen BK183.out 1) | ((with_reducible refine gate_callee (f := 86) rfl ?_); refine goesL_ (some 17) rfl rfl Tryd.func86 q2_ rfl #[.agg #[.string ((rd_T72 l0 x11_1).f0), .string ((rd_T72 l0 x11_1).f1)], .string a1] rfl tS ?_; (with_reducible refine (headers_is.calls ((rd_T72 l0 x11_1).f0) ((rd_T72 l0 x11_1).f1) a1 false _ A6.out).mono ?_); rintro e w16 ⟨rfl, hb⟩; refine ⟨_, rfl, ?_⟩; have n0_ := Aside0.mk (Kd.R_below (by (with_reducible repeat (first | apply Kd.R_alloc | apply Kd.R_drewN | apply Kd.R_drew)); exact (Kd.R_mono (Kd.R_far (p := ⟨gb183, 1, none⟩) (Kd.R_far (p := ⟨gb183, 0, none⟩) (Kd.R_types HO_6.out BK183.out (by decide)) (fun _ hk => hk.2) (.string ((rd_T72 l0 x11_1).f0))) (fun _ hk => hk.2) (.string ((rd_T72 l0 x11_1).f1))) (fun _ h_ => h_.1))) hb); have n1_ := Aside0.mk (blk_below (g := gb183) (o := .cells #[.string ((rd_T72 l0 x11_1).f0), .string ((rd_T72 l0 x11_1).f1)] 72 (0, 0)) (by (with_reducible repeat (first | refine blk_drewN ?_ _ | refine blk_drew ?_ | refine blk_alloc ?_ _)); refine blk_put (cs := #[.string ((rd_T72 l0 x11_1).f0), .string (⟨#[]⟩ : ByteArray)]) ?_ 1 _ rfl; (with_reducible repeat (first | refine blk_drewN ?_ _ | refine blk_drew ?_ | refine blk_alloc ?_ _)); refine blk_put (cs := #[.string (⟨#[]⟩ : ByteArray), .string (⟨#[]⟩ : ByteArray)]) ?_ 0 _ rfl; (with_reducible repeat (first | refine blk_drewN ?_ _ | refine blk_drew ?_ | refine blk_alloc ?_ _)); exact BK183.out) hb); have n2_ := Aside0.mk (below_step (by repeat (first | (with_reducible first | exact HB.out | apply below_alloc | apply pw_below_drewN | apply below_drew1 | refine below_set ?_ GE183.out) | exact HB.out)) hb); clear HO_6; clear BK183; clear HB; have HO_6 := n0_; have BK183 := n1_; have HB := n2_; clear n0_ n1_ n2_; (try clear hb); (try clear hb2); (try clear hk); (try clear hi)))
       go_roundg k1
       case measure => have := HK1.out; omega
       case rel => exact ⟨(x6_1), (wrap64 (x11_1 + 1)), rS, H', ⟨by have := HK1.out; omega⟩, ⟨by (with_reducible repeat (first | apply Kd.R_alloc | apply Kd.R_drewN | apply Kd.R_drew)); exact HO_6.out⟩, ⟨by repeat (first | (with_reducible first | exact HB.out | apply below_alloc | apply pw_below_drewN | apply below_drew1 | refine below_set ?_ GE183.out) | exact HB.out)⟩⟩
     ·rw [if_neg c5] at H
      exact absurd H (by simp)
    ·rw [if_neg c4] at H
     exact absurd H (by simp)
   ·rw [if_neg c3] at H
    have c3b0 : decide (x11_1 < (l0.length : Int)) = false := decide_eq_false c3
    clear c3
    replace H := Option.bind_eq_some_iff.mp H
    obtain ⟨t188, A170, H⟩ := H
    replace H : (some (t188, decide ((x6_1.length : Int) > 0))) = some (r1, r2) := H
    have A17 := Aside0.mk A170
    clear A170
    simp only [Option.some.injEq, Prod.mk.injEq] at H
    obtain ⟨rfl, rfl⟩ := H
    obtain ⟨Ao18, co18, eo18⟩ := Kd.R_slice HO_6.out
    subst eo18
    go_wp2_with (first | ((with_reducible refine gate_callee (f := 87) rfl ?_); refine goesL_ (some 25) rfl rfl Tryd.func87 q2_ rfl #[.slice Ao18 x6_1.length co18, .string (⟨#[44, 32]⟩ : ByteArray)] rfl tS ?_; (with_reducible refine (strings_Join.calls _ _ x6_1 (⟨#[44, 32]⟩ : ByteArray) t188 _ ?side1 ?side2 A17.out).mono ?_); (case side1 => repeat (first | exact (Kd.R_reads' HO_6.out).2.2 | (with_reducible refine Kd.C_alloc ?_ _) | (with_reducible refine Kd.C_drewN ?_ _) | (with_reducible refine Kd.C_drew ?_))); (case side2 => exact (Kd.R_reads' HO_6.out).2.1); rintro e w19 ⟨rfl, hb⟩; refine ⟨_, rfl, ?_⟩; have n0_ := Aside0.mk (Kd.R_below q7_ hb); have n1_ := Aside0.mk (below_step hB hb); clear HO_6; clear HB; have HO_6 := n0_; have HB := n1_; clear n0_ n1_; (try clear hb); (try clear hb2); (try clear hk); (try clear hi)))
    go_ret2
    exact ⟨by first | rfl | (simp [errW_none, errW_some] <;> rfl) | (simp [*, errW_none, errW_some] <;> rfl), by repeat (first | (with_reducible first | exact HB.out | apply below_alloc | apply pw_below_drewN | apply below_drew1) | exact HB.out)⟩
end Go.Proofs.YtifmkgkiipckbaaDoor.P
namespace Go.Proofs.YtifmkgkiipckbaaDoor.P
open Go.RowKit Go.Proofs.YtifmkgkiipckbaaDoorW.PrintWords Go.Proofs.YtifmkgkiipckbaaDoorW.PrintLast Go.Proofs.YtifmkgkiipckbaaDoorW.PrintMore
attribute [local go_sem] max2_int min2_int max_two min_two max_three min_three max_four min_four
set_option linter.unusedVariables false
set_option linter.unusedSimpArgs false
mutual
def url_Own.j0 : Nat → ByteArray → Bool → Option (Int)
 | 0, _, _ => none
 | k + 1, x3, x4 => if x4 = true then (some 80) else (if x3.toList = ([104, 116, 116, 112, 115] : List UInt8) then (url_Own.j1 k x3 (x3.toList == ([104, 116, 116, 112, 115] : List UInt8))) else (url_Own.j1 k x3 (x3.toList == ([119, 115, 115] : List UInt8))))
def url_Own.j1 : Nat → ByteArray → Bool → Option (Int)
 | 0, _, _ => none
 | k + 1, x3, x7 => if x7 = true then (some 443) else (if x3.toList = ([102, 116, 112] : List UInt8) then (some 21) else (some (-1)))
end
def url_Own.f (k : Nat) (a0 : ByteArray) : Option (Int) := if a0.toList = ([104, 116, 116, 112] : List UInt8) then (url_Own.j0 k a0 (a0.toList == ([104, 116, 116, 112] : List UInt8))) else (url_Own.j0 k a0 (a0.toList == ([119, 115] : List UInt8)))
theorem url_Own.mono_l : ∀ k, (∀ y0 y1, LeO (url_Own.j0 k y0 y1) (url_Own.j0 (k + 1) y0 y1)) ∧ (∀ y0 y1, LeO (url_Own.j1 k y0 y1) (url_Own.j1 (k + 1) y0 y1))
 | 0 => ⟨fun _ _ r h => by simp [url_Own.j0] at h, fun _ _ r h => by simp [url_Own.j1] at h⟩
 | k + 1 => by
  obtain ⟨ih0, ih1⟩ := url_Own.mono_l k
  refine ⟨?_, ?_⟩
  ·intro y0 y1
   unfold url_Own.j0
   exact lO
  ·intro y0 y1
   unfold url_Own.j1
   exact lO
theorem url_Own.mono : ∀ a0 k, LeO (url_Own.f k a0) (url_Own.f (k + 1) a0) := by
 intro a0 k
 obtain ⟨ih0, ih1⟩ := url_Own.mono_l k
 unfold url_Own.f
 exact lO
set_option maxHeartbeats 8000000 in
set_option maxRecDepth 100000 in
theorem url_Own.calls (k : Nat) (a0 : ByteArray) (r : Int) (w : World) (h : url_Own.f k a0 = some r) :
  Calls Tryd.prog 88 #[.string a0] w fun e w' => e = .returned (.int .i64 r) ∧ Drawn0 w w' := by
 have H : (if a0.toList = ([104, 116, 116, 112] : List UInt8) then (url_Own.j0 k a0 (a0.toList == ([104, 116, 116, 112] : List UInt8))) else (url_Own.j0 k a0 (a0.toList == ([119, 115] : List UInt8)))) = some r := h
 clear h
 have HC2 := Aside0.mk H
 clear H
 go_enter Tryd.func88, Tryd.ntmps88
 go_upto_if 4 with (fail)
 go_cut [4] (fun v4 wc => ∃ (kq : Nat) (x4_1 : Bool), v4 = .bool x4_1 ∧ Aside0 (url_Own.j0 kq a0 x4_1 = some r) ∧ Aside0 (kq ≤ k) ∧ Drawn0 w wc)
 case first =>
  have H := HC2.out
  clear HC2
  by_cases c3 : a0.toList = ([104, 116, 116, 112] : List UInt8)
  ·rw [if_pos c3] at H
   have c3b0 : (a0.toList == ([104, 116, 116, 112] : List UInt8)) = true := beq_iff_eq.mpr c3
   have c3b1 : (a0.toList != ([104, 116, 116, 112] : List UInt8)) = false := bne_eq_false_iff_eq.mpr c3
   clear c3
   (first | rw [c3b0] | (simp only [i64_w, i32_w]; rw [c3b0]) | skip)
   have H' := Aside0.mk H
   clear H
   go_wp2
   go_meet
   case rel => exact ⟨_, ((a0.toList == ([104, 116, 116, 112] : List UInt8))), rS, H', ⟨by first | omega | exact Nat.le_refl _⟩, by repeat (first | exact Drawn0.refl _ | apply Drawn0.step)⟩
  ·rw [if_neg c3] at H
   have c3b0 : (a0.toList == ([104, 116, 116, 112] : List UInt8)) = false := beq_eq_false_iff_ne.mpr c3
   have c3b1 : (a0.toList != ([104, 116, 116, 112] : List UInt8)) = true := bne_iff_ne.mpr c3
   (first | rw [c3b0] | (simp only [i64_w, i32_w]; rw [c3b0]) | skip)
   have H' := Aside0.mk H
   clear H
   go_wp2
   go_meet
   case rel => exact ⟨_, ((a0.toList == ([119, 115] : List UInt8))), rS, H', ⟨by first | omega | exact Nat.le_refl _⟩, by repeat (first | exact Drawn0.refl _ | apply Drawn0.step)⟩
 case rest =>
  clear HC2
  try clear p2
  try clear c3
  try clear c3b0
  try clear c3b1
  obtain ⟨kq, x4_1, rfl, HA, HJ1, ⟨mc1, rfl⟩⟩ := hcut
  cases kq with
  | zero => exact absurd HA.out (by simp [url_Own.j0])
  | succ kj1 =>
   have H := HA.out
   clear HA
   simp only [url_Own.j0] at H
   by_cases c4 : x4_1 = true
   ·subst c4
    have H1 : (some 80) = some r := by rw [if_pos rfl] at H; exact H
    clear H
    have H := H1
    clear H1
    obtain rfl := Option.some.inj H
    go_wp2
    go_ret
    exact ⟨rS, by repeat (first | exact Drawn0.refl _ | apply Drawn0.step)⟩
   ·replace c4 := Bool.eq_false_iff.mpr c4
    subst c4
    have H1 : (if a0.toList = ([104, 116, 116, 112, 115] : List UInt8) then (url_Own.j1 kj1 a0 (a0.toList == ([104, 116, 116, 112, 115] : List UInt8))) else (url_Own.j1 kj1 a0 (a0.toList == ([119, 115, 115] : List UInt8)))) = some r := by rw [if_neg (show ¬ (false = true) by decide)] at H; exact H
    clear H
    have H := H1
    clear H1
    have HC5 := Aside0.mk H
    clear H
    go_upto_if 7 with (fail)
    go_cut [7] (fun v7 wc => ∃ (kq : Nat) (x7_4 : Bool), v7 = .bool x7_4 ∧ Aside0 (url_Own.j1 kq a0 x7_4 = some r) ∧ Aside0 (kq ≤ kj1) ∧ Drawn0 w wc)
    case first =>
     have H := HC5.out
     clear HC5
     by_cases c6 : a0.toList = ([104, 116, 116, 112, 115] : List UInt8)
     ·rw [if_pos c6] at H
      have c6b0 : (a0.toList == ([104, 116, 116, 112, 115] : List UInt8)) = true := beq_iff_eq.mpr c6
      have c6b1 : (a0.toList != ([104, 116, 116, 112, 115] : List UInt8)) = false := bne_eq_false_iff_eq.mpr c6
      clear c6
      (first | rw [c6b0] | (simp only [i64_w, i32_w]; rw [c6b0]) | skip)
      have H' := Aside0.mk H
      clear H
      go_wp2
      go_meet
      case rel => exact ⟨_, ((a0.toList == ([104, 116, 116, 112, 115] : List UInt8))), rS, H', ⟨by have := HJ1.out; first | omega | exact Nat.le_refl _⟩, by repeat (first | exact Drawn0.refl _ | apply Drawn0.step)⟩
     ·rw [if_neg c6] at H
      have c6b0 : (a0.toList == ([104, 116, 116, 112, 115] : List UInt8)) = false := beq_eq_false_iff_ne.mpr c6
      have c6b1 : (a0.toList != ([104, 116, 116, 112, 115] : List UInt8)) = true := bne_iff_ne.mpr c6
      (first | rw [c6b0] | (simp only [i64_w, i32_w]; rw [c6b0]) | skip)
      have H' := Aside0.mk H
      clear H
      go_wp2
      go_meet
      case rel => exact ⟨_, ((a0.toList == ([119, 115, 115] : List UInt8))), rS, H', ⟨by have := HJ1.out; first | omega | exact Nat.le_refl _⟩, by repeat (first | exact Drawn0.refl _ | apply Drawn0.step)⟩
    case rest =>
     clear HC5
     try clear c1
     try clear p2
     try clear c3
     try clear c3b0
     try clear c3b1
     try clear c4
     try clear c6
     try clear c6b0
     try clear c6b1
     try clear p2
     obtain ⟨kq, x7_4, rfl, HA, HJ4, ⟨mc4, rfl⟩⟩ := hcut
     cases kq with
     | zero => exact absurd HA.out (by simp [url_Own.j1])
     | succ kj4 =>
      have H := HA.out
      clear HA
      simp only [url_Own.j1] at H
      by_cases c7 : x7_4 = true
      ·subst c7
       have H1 : (some 443) = some r := by rw [if_pos rfl] at H; exact H
       clear H
       have H := H1
       clear H1
       obtain rfl := Option.some.inj H
       go_wp2
       go_ret
       exact ⟨rS, by repeat (first | exact Drawn0.refl _ | apply Drawn0.step)⟩
      ·replace c7 := Bool.eq_false_iff.mpr c7
       subst c7
       have H1 : (if a0.toList = ([102, 116, 112] : List UInt8) then (some 21) else (some (-1))) = some r := by rw [if_neg (show ¬ (false = true) by decide)] at H; exact H
       clear H
       have H := H1
       clear H1
       by_cases c8 : a0.toList = ([102, 116, 112] : List UInt8)
       ·rw [if_pos c8] at H
        have c8b0 : (a0.toList == ([102, 116, 112] : List UInt8)) = true := beq_iff_eq.mpr c8
        have c8b1 : (a0.toList != ([102, 116, 112] : List UInt8)) = false := bne_eq_false_iff_eq.mpr c8
        clear c8
        obtain rfl := Option.some.inj H
        go_wp2
        go_ret
        exact ⟨rS, by repeat (first | exact Drawn0.refl _ | apply Drawn0.step)⟩
       ·rw [if_neg c8] at H
        have c8b0 : (a0.toList == ([102, 116, 112] : List UInt8)) = false := beq_eq_false_iff_ne.mpr c8
        have c8b1 : (a0.toList != ([102, 116, 112] : List UInt8)) = true := bne_iff_ne.mpr c8
        obtain rfl := Option.some.inj H
        go_wp2
        go_ret
        exact ⟨rS, by repeat (first | exact Drawn0.refl _ | apply Drawn0.step)⟩
end Go.Proofs.YtifmkgkiipckbaaDoor.P
namespace Go.Proofs.YtifmkgkiipckbaaDoor.P
open Go.RowKit Go.Proofs.YtifmkgkiipckbaaDoorW.PrintWords Go.Proofs.YtifmkgkiipckbaaDoorW.PrintLast Go.Proofs.YtifmkgkiipckbaaDoorW.PrintMore
attribute [local go_sem] max2_int min2_int max_two min_two max_three min_three max_four min_four
set_option linter.unusedVariables false
set_option linter.unusedSimpArgs false
def origin_Text.f (k : Nat) (a0_0 : ByteArray) (a0_1 : ByteArray) (a0_2 : Int) (a0_3 : Bool) : Option (ByteArray) := if a0_3 = true then (some (⟨#[110, 117, 108, 108]⟩ : ByteArray)) else (if a0_0.size + 3 ≤ 9223372036854775807 then (if (a0_0 ++ (⟨#[58, 47, 47]⟩ : ByteArray)).size + a0_1.size ≤ 9223372036854775807 then ((url_Own.f k a0_0).bind fun t190 => (if a0_2 = t190 then (some ((a0_0 ++ (⟨#[58, 47, 47]⟩ : ByteArray)) ++ a0_1)) else ((strconv_Itoa.f a0_2).bind fun t191 => (if 1 + t191.size ≤ 9223372036854775807 then (if ((a0_0 ++ (⟨#[58, 47, 47]⟩ : ByteArray)) ++ a0_1).size + ((⟨#[58]⟩ : ByteArray) ++ t191).size ≤ 9223372036854775807 then (some (((a0_0 ++ (⟨#[58, 47, 47]⟩ : ByteArray)) ++ a0_1) ++ ((⟨#[58]⟩ : ByteArray) ++ t191))) else (none)) else (none))))) else (none)) else (none))
theorem origin_Text.mono : ∀ a0 a1 a2 a3 k, LeO (origin_Text.f k a0 a1 a2 a3) (origin_Text.f (k + 1) a0 a1 a2 a3) := by
 intro a0 a1 a2 a3 k
 unfold origin_Text.f
 repeat' first
   | (with_reducible exact url_Own.mono _ _)
   | (with_reducible exact LeO.refl _)
   | (with_reducible exact LeO.none _)
   | (with_reducible refine LeO.ite ?_ ?_)
   | (with_reducible refine LeO.bind ?_ (fun _ => ?_))
   | exact url_Own.mono _ _
   | exact LeO.none _
   | refine LeO.ite ?_ ?_
   | refine LeO.bind ?_ (fun _ => ?_)
set_option maxHeartbeats 8000000 in
set_option maxRecDepth 100000 in
theorem origin_Text.calls (k : Nat) (a0_0 : ByteArray) (a0_1 : ByteArray) (a0_2 : Int) (a0_3 : Bool) (r : ByteArray) (w : World) (hLdLPow : LPow w) (h : origin_Text.f k a0_0 a0_1 a0_2 a0_3 = some r) :
  Calls Tryd.prog 49 #[.agg #[.string a0_0, .string a0_1, .int .i64 a0_2, .bool a0_3]] w fun e w' => e = .returned (.string r) ∧ Below w.heap.size w w' := by
 have HLdLPow := Aside0.mk hLdLPow
 clear hLdLPow
 have hu25 := Tryd.underlying25
 have HB := Aside0.mk (Below.refl w.heap.size w)
 have H : (if a0_3 = true then (some (⟨#[110, 117, 108, 108]⟩ : ByteArray)) else (if a0_0.size + 3 ≤ 9223372036854775807 then (if (a0_0 ++ (⟨#[58, 47, 47]⟩ : ByteArray)).size + a0_1.size ≤ 9223372036854775807 then ((url_Own.f k a0_0).bind fun t190 => (if a0_2 = t190 then (some ((a0_0 ++ (⟨#[58, 47, 47]⟩ : ByteArray)) ++ a0_1)) else ((strconv_Itoa.f a0_2).bind fun t191 => (if 1 + t191.size ≤ 9223372036854775807 then (if ((a0_0 ++ (⟨#[58, 47, 47]⟩ : ByteArray)) ++ a0_1).size + ((⟨#[58]⟩ : ByteArray) ++ t191).size ≤ 9223372036854775807 then (some (((a0_0 ++ (⟨#[58, 47, 47]⟩ : ByteArray)) ++ a0_1) ++ ((⟨#[58]⟩ : ByteArray) ++ t191))) else (none)) else (none))))) else (none)) else (none))) = some r := h
 clear h
 by_cases c2 : a0_3 = true
 ·subst c2
  have H1 : (some (⟨#[110, 117, 108, 108]⟩ : ByteArray)) = some r := by rw [if_pos rfl] at H; exact H
  clear H
  have H := H1
  clear H1
  obtain rfl := Option.some.inj H
  go_enter Tryd.func49, Tryd.ntmps49
  go_wp2_with (first | ((with_reducible refine gate_dst (N := 1) rfl ?_); refine box_event ?hg (N := 1) ?hd (cs := #[.string a0_0, .string a0_1, .int .i64 a0_2, .bool true]) (t := 25) ?hr ?_; (case hd => rfl); (case hg => rfl); (case hr => first | (go_simp; done) | (go_simp; rfl)); intro gb189 hg w3 hbox hb; have n0_ := Aside0.mk (below_step hB hb); have n1_ := Aside0.mk (hbox); have n2_ := Aside0.mk ((by rw [hg]; exact (below_size hB) : w.heap.size ≤ gb189)); have n3_ := Aside0.mk ((by rw [hg]; exact (below_size hB) : w.heap.size ≤ gb189)); clear HB; have HB := n0_; have BK189 := n1_; have GW189 := n2_; have GE189 := n3_; clear n0_ n1_ n2_ n3_; clear hb hbox hg; have hcz4_0 : w3.cell? ⟨gb189, 0, none⟩ = some (.string a0_0) := (blk_cell BK189.out 0).trans rfl; have hcz4_1 : w3.cell? ⟨gb189, 1, none⟩ = some (.string a0_1) := (blk_cell BK189.out 1).trans rfl; have hcz4_2 : w3.cell? ⟨gb189, 2, none⟩ = some (.int .i64 a0_2) := (blk_cell BK189.out 2).trans rfl; have hcz4_3 : w3.cell? ⟨gb189, 3, none⟩ = some (.bool true) := (blk_cell BK189.out 3).trans rfl; have hfz4_0 := blk_frozen BK189.out 0; have hfz4_1 := blk_frozen BK189.out 1; have hfz4_2 := blk_frozen BK189.out 2; have hfz4_3 := blk_frozen BK189.out 3))
  repeat (go_quiet (first | ((with_reducible refine gate_dst (N := 1) rfl ?_); refine box_event ?hg (N := 1) ?hd (cs := #[.string a0_0, .string a0_1, .int .i64 a0_2, .bool true]) (t := 25) ?hr ?_; (case hd => rfl); (case hg => rfl); (case hr => first | (go_simp; done) | (go_simp; rfl)); intro gb189 hg w3 hbox hb; have n0_ := Aside0.mk (below_step hB hb); have n1_ := Aside0.mk (hbox); have n2_ := Aside0.mk ((by rw [hg]; exact (below_size hB) : w.heap.size ≤ gb189)); have n3_ := Aside0.mk ((by rw [hg]; exact (below_size hB) : w.heap.size ≤ gb189)); clear HB; have HB := n0_; have BK189 := n1_; have GW189 := n2_; have GE189 := n3_; clear n0_ n1_ n2_ n3_; clear hb hbox hg; have hcz4_0 : w3.cell? ⟨gb189, 0, none⟩ = some (.string a0_0) := (blk_cell BK189.out 0).trans rfl; have hcz4_1 : w3.cell? ⟨gb189, 1, none⟩ = some (.string a0_1) := (blk_cell BK189.out 1).trans rfl; have hcz4_2 : w3.cell? ⟨gb189, 2, none⟩ = some (.int .i64 a0_2) := (blk_cell BK189.out 2).trans rfl; have hcz4_3 : w3.cell? ⟨gb189, 3, none⟩ = some (.bool true) := (blk_cell BK189.out 3).trans rfl; have hfz4_0 := blk_frozen BK189.out 0; have hfz4_1 := blk_frozen BK189.out 1; have hfz4_2 := blk_frozen BK189.out 2; have hfz4_3 := blk_frozen BK189.out 3)); try go_wp2_with (first | ((with_reducible refine gate_dst (N := 1) rfl ?_); refine box_event ?hg (N := 1) ?hd (cs := #[.string a0_0, .string a0_1, .int .i64 a0_2, .bool true]) (t := 25) ?hr ?_; (case hd => rfl); (case hg => rfl); (case hr => first | (go_simp; done) | (go_simp; rfl)); intro gb189 hg w3 hbox hb; have n0_ := Aside0.mk (below_step hB hb); have n1_ := Aside0.mk (hbox); have n2_ := Aside0.mk ((by rw [hg]; exact (below_size hB) : w.heap.size ≤ gb189)); have n3_ := Aside0.mk ((by rw [hg]; exact (below_size hB) : w.heap.size ≤ gb189)); clear HB; have HB := n0_; have BK189 := n1_; have GW189 := n2_; have GE189 := n3_; clear n0_ n1_ n2_ n3_; clear hb hbox hg; have hcz4_0 : w3.cell? ⟨gb189, 0, none⟩ = some (.string a0_0) := (blk_cell BK189.out 0).trans rfl; have hcz4_1 : w3.cell? ⟨gb189, 1, none⟩ = some (.string a0_1) := (blk_cell BK189.out 1).trans rfl; have hcz4_2 : w3.cell? ⟨gb189, 2, none⟩ = some (.int .i64 a0_2) := (blk_cell BK189.out 2).trans rfl; have hcz4_3 : w3.cell? ⟨gb189, 3, none⟩ = some (.bool true) := (blk_cell BK189.out 3).trans rfl; have hfz4_0 := blk_frozen BK189.out 0; have hfz4_1 := blk_frozen BK189.out 1; have hfz4_2 := blk_frozen BK189.out 2; have hfz4_3 := blk_frozen BK189.out 3)))
  go_ret
  exact ⟨by first | rfl | (simp [errW_none, errW_some] <;> rfl) | (simp [*, errW_none, errW_some] <;> rfl), by repeat (first | (with_reducible first | exact HB.out | apply below_alloc | apply pw_below_drewN | apply below_drew1 | refine below_set ?_ GE189.out) | exact HB.out)⟩
 ·replace c2 := Bool.eq_false_iff.mpr c2
  subst c2
  have H1 : (if a0_0.size + 3 ≤ 9223372036854775807 then (if (a0_0 ++ (⟨#[58, 47, 47]⟩ : ByteArray)).size + a0_1.size ≤ 9223372036854775807 then ((url_Own.f k a0_0).bind fun t190 => (if a0_2 = t190 then (some ((a0_0 ++ (⟨#[58, 47, 47]⟩ : ByteArray)) ++ a0_1)) else ((strconv_Itoa.f a0_2).bind fun t191 => (if 1 + t191.size ≤ 9223372036854775807 then (if ((a0_0 ++ (⟨#[58, 47, 47]⟩ : ByteArray)) ++ a0_1).size + ((⟨#[58]⟩ : ByteArray) ++ t191).size ≤ 9223372036854775807 then (some (((a0_0 ++ (⟨#[58, 47, 47]⟩ : ByteArray)) ++ a0_1) ++ ((⟨#[58]⟩ : ByteArray) ++ t191))) else (none)) else (none))))) else (none)) else (none)) = some r := by rw [if_neg (show ¬ (false = true) by decide)] at H; exact H
  clear H
  have H := H1
  clear H1
  by_cases c5 : a0_0.size + 3 ≤ 9223372036854775807
  ·rw [if_pos c5] at H
   have c5b0 := eq_true c5
   have c5b1 : decide (a0_0.size + 3 ≤ 9223372036854775807) = true := decide_eq_true c5
   try have c5b2 : (9223372036854775807 < a0_0.size + 3) = False := eq_false (Nat.not_lt.2 c5)
   by_cases c6 : (a0_0 ++ (⟨#[58, 47, 47]⟩ : ByteArray)).size + a0_1.size ≤ 9223372036854775807
   ·rw [if_pos c6] at H
    have c6b0 := eq_true c6
    have c6b1 : decide ((a0_0 ++ (⟨#[58, 47, 47]⟩ : ByteArray)).size + a0_1.size ≤ 9223372036854775807) = true := decide_eq_true c6
    have c6q := c6
    try simp only [ByteArray.size_append', ByteArray.size_mk', List.size_toArray, List.length_cons, List.length_nil, Nat.zero_add] at c6q
    have c6q0 := eq_true c6q
    have c6q1 := decide_eq_true c6q
    try have c6q2 := eq_false (Nat.not_lt.2 c6q)
    clear c6q
    try have c6b2 : (9223372036854775807 < (a0_0 ++ (⟨#[58, 47, 47]⟩ : ByteArray)).size + a0_1.size) = False := eq_false (Nat.not_lt.2 c6)
    replace H := Option.bind_eq_some_iff.mp H
    obtain ⟨t190, A70, H⟩ := H
    replace H : (if a0_2 = t190 then (some ((a0_0 ++ (⟨#[58, 47, 47]⟩ : ByteArray)) ++ a0_1)) else ((strconv_Itoa.f a0_2).bind fun t191 => (if 1 + t191.size ≤ 9223372036854775807 then (if ((a0_0 ++ (⟨#[58, 47, 47]⟩ : ByteArray)) ++ a0_1).size + ((⟨#[58]⟩ : ByteArray) ++ t191).size ≤ 9223372036854775807 then (some (((a0_0 ++ (⟨#[58, 47, 47]⟩ : ByteArray)) ++ a0_1) ++ ((⟨#[58]⟩ : ByteArray) ++ t191))) else (none)) else (none)))) = some r := H
    have A7 := Aside0.mk A70
    clear A70
    by_cases c8 : a0_2 = t190
    ·rw [if_pos c8] at H
     have c8b0 : (a0_2 == t190) = true := beq_iff_eq.mpr c8
     have c8b1 : (a0_2 != t190) = false := bne_eq_false_iff_eq.mpr c8
     clear c8
     obtain rfl := Option.some.inj H
     go_enter Tryd.func49, Tryd.ntmps49
     go_wp2_with (first | ((with_reducible refine gate_dst (N := 1) rfl ?_); refine box_event ?hg (N := 1) ?hd (cs := #[.string a0_0, .string a0_1, .int .i64 a0_2, .bool false]) (t := 25) ?hr ?_; (case hd => rfl); (case hg => rfl); (case hr => first | (go_simp; done) | (go_simp; rfl)); intro gb189 hg w9 hbox hb; have n0_ := Aside0.mk (below_step hB hb); have n1_ := Aside0.mk (hbox); have n2_ := Aside0.mk ((by rw [hg]; exact (below_size hB) : w.heap.size ≤ gb189)); have n3_ := Aside0.mk ((by rw [hg]; exact (below_size hB) : w.heap.size ≤ gb189)); clear HB; have HB := n0_; have BK189 := n1_; have GW189 := n2_; have GE189 := n3_; clear n0_ n1_ n2_ n3_; clear hb hbox hg; have hcz10_0 : w9.cell? ⟨gb189, 0, none⟩ = some (.string a0_0) := (blk_cell BK189.out 0).trans rfl; have hcz10_1 : w9.cell? ⟨gb189, 1, none⟩ = some (.string a0_1) := (blk_cell BK189.out 1).trans rfl; have hcz10_2 : w9.cell? ⟨gb189, 2, none⟩ = some (.int .i64 a0_2) := (blk_cell BK189.out 2).trans rfl; have hcz10_3 : w9.cell? ⟨gb189, 3, none⟩ = some (.bool false) := (blk_cell BK189.out 3).trans rfl; have hfz10_0 := blk_frozen BK189.out 0; have hfz10_1 := blk_frozen BK189.out 1; have hfz10_2 := blk_frozen BK189.out 2; have hfz10_3 := blk_frozen BK189.out 3) | (go_at_call 88; (with_reducible refine (url_Own.calls k a0_0 t190 _ A7.out).mono ?_); rintro e w' ⟨rfl, ⟨nd, rfl⟩⟩; (try first | exact ⟨rfl, _, World.drewN_drewN _ _ _⟩ | exact ⟨rfl, _, Eq.trans (World.drewN_drewN _ _ _) (congrArg (World.drewN _) (Nat.add_assoc _ _ _))⟩)))
     repeat (go_quiet (first | ((with_reducible refine gate_dst (N := 1) rfl ?_); refine box_event ?hg (N := 1) ?hd (cs := #[.string a0_0, .string a0_1, .int .i64 a0_2, .bool false]) (t := 25) ?hr ?_; (case hd => rfl); (case hg => rfl); (case hr => first | (go_simp; done) | (go_simp; rfl)); intro gb189 hg w9 hbox hb; have n0_ := Aside0.mk (below_step hB hb); have n1_ := Aside0.mk (hbox); have n2_ := Aside0.mk ((by rw [hg]; exact (below_size hB) : w.heap.size ≤ gb189)); have n3_ := Aside0.mk ((by rw [hg]; exact (below_size hB) : w.heap.size ≤ gb189)); clear HB; have HB := n0_; have BK189 := n1_; have GW189 := n2_; have GE189 := n3_; clear n0_ n1_ n2_ n3_; clear hb hbox hg; have hcz10_0 : w9.cell? ⟨gb189, 0, none⟩ = some (.string a0_0) := (blk_cell BK189.out 0).trans rfl; have hcz10_1 : w9.cell? ⟨gb189, 1, none⟩ = some (.string a0_1) := (blk_cell BK189.out 1).trans rfl; have hcz10_2 : w9.cell? ⟨gb189, 2, none⟩ = some (.int .i64 a0_2) := (blk_cell BK189.out 2).trans rfl; have hcz10_3 : w9.cell? ⟨gb189, 3, none⟩ = some (.bool false) := (blk_cell BK189.out 3).trans rfl; have hfz10_0 := blk_frozen BK189.out 0; have hfz10_1 := blk_frozen BK189.out 1; have hfz10_2 := blk_frozen BK189.out 2; have hfz10_3 := blk_frozen BK189.out 3) | (go_at_call 88; (with_reducible refine (url_Own.calls k a0_0 t190 _ A7.out).mono ?_); rintro e w' ⟨rfl, ⟨nd, rfl⟩⟩; (try first | exact ⟨rfl, _, World.drewN_drewN _ _ _⟩ | exact ⟨rfl, _, Eq.trans (World.drewN_drewN _ _ _) (congrArg (World.drewN _) (Nat.add_assoc _ _ _))⟩))); try go_wp2_with (first | ((with_reducible refine gate_dst (N := 1) rfl ?_); refine box_event ?hg (N := 1) ?hd (cs := #[.string a0_0, .string a0_1, .int .i64 a0_2, .bool false]) (t := 25) ?hr ?_; (case hd => rfl); (case hg => rfl); (case hr => first | (go_simp; done) | (go_simp; rfl)); intro gb189 hg w9 hbox hb; have n0_ := Aside0.mk (below_step hB hb); have n1_ := Aside0.mk (hbox); have n2_ := Aside0.mk ((by rw [hg]; exact (below_size hB) : w.heap.size ≤ gb189)); have n3_ := Aside0.mk ((by rw [hg]; exact (below_size hB) : w.heap.size ≤ gb189)); clear HB; have HB := n0_; have BK189 := n1_; have GW189 := n2_; have GE189 := n3_; clear n0_ n1_ n2_ n3_; clear hb hbox hg; have hcz10_0 : w9.cell? ⟨gb189, 0, none⟩ = some (.string a0_0) := (blk_cell BK189.out 0).trans rfl; have hcz10_1 : w9.cell? ⟨gb189, 1, none⟩ = some (.string a0_1) := (blk_cell BK189.out 1).trans rfl; have hcz10_2 : w9.cell? ⟨gb189, 2, none⟩ = some (.int .i64 a0_2) := (blk_cell BK189.out 2).trans rfl; have hcz10_3 : w9.cell? ⟨gb189, 3, none⟩ = some (.bool false) := (blk_cell BK189.out 3).trans rfl; have hfz10_0 := blk_frozen BK189.out 0; have hfz10_1 := blk_frozen BK189.out 1; have hfz10_2 := blk_frozen BK189.out 2; have hfz10_3 := blk_frozen BK189.out 3) | (go_at_call 88; (with_reducible refine (url_Own.calls k a0_0 t190 _ A7.out).mono ?_); rintro e w' ⟨rfl, ⟨nd, rfl⟩⟩; (try first | exact ⟨rfl, _, World.drewN_drewN _ _ _⟩ | exact ⟨rfl, _, Eq.trans (World.drewN_drewN _ _ _) (congrArg (World.drewN _) (Nat.add_assoc _ _ _))⟩))))
     go_ret
     exact ⟨by first | rfl | (simp [errW_none, errW_some] <;> rfl) | (simp [*, errW_none, errW_some] <;> rfl), by repeat (first | (with_reducible first | exact HB.out | apply below_alloc | apply pw_below_drewN | apply below_drew1 | refine below_set ?_ GE189.out) | exact HB.out)⟩
    ·rw [if_neg c8] at H
     have c8b0 : (a0_2 == t190) = false := beq_eq_false_iff_ne.mpr c8
     have c8b1 : (a0_2 != t190) = true := bne_iff_ne.mpr c8
     replace H := Option.bind_eq_some_iff.mp H
     obtain ⟨t191, A110, H⟩ := H
     replace H : (if 1 + t191.size ≤ 9223372036854775807 then (if ((a0_0 ++ (⟨#[58, 47, 47]⟩ : ByteArray)) ++ a0_1).size + ((⟨#[58]⟩ : ByteArray) ++ t191).size ≤ 9223372036854775807 then (some (((a0_0 ++ (⟨#[58, 47, 47]⟩ : ByteArray)) ++ a0_1) ++ ((⟨#[58]⟩ : ByteArray) ++ t191))) else (none)) else (none)) = some r := H
     have A11 := Aside0.mk A110
     clear A110
     by_cases c12 : 1 + t191.size ≤ 9223372036854775807
     ·rw [if_pos c12] at H
      have c12b0 := eq_true c12
      have c12b1 : decide (1 + t191.size ≤ 9223372036854775807) = true := decide_eq_true c12
      try have c12b2 : (9223372036854775807 < 1 + t191.size) = False := eq_false (Nat.not_lt.2 c12)
      by_cases c13 : ((a0_0 ++ (⟨#[58, 47, 47]⟩ : ByteArray)) ++ a0_1).size + ((⟨#[58]⟩ : ByteArray) ++ t191).size ≤ 9223372036854775807
      ·rw [if_pos c13] at H
       have c13b0 := eq_true c13
       have c13b1 : decide (((a0_0 ++ (⟨#[58, 47, 47]⟩ : ByteArray)) ++ a0_1).size + ((⟨#[58]⟩ : ByteArray) ++ t191).size ≤ 9223372036854775807) = true := decide_eq_true c13
       have c13q := c13
       try simp only [ByteArray.size_append', ByteArray.size_mk', List.size_toArray, List.length_cons, List.length_nil, Nat.zero_add] at c13q
       have c13q0 := eq_true c13q
       have c13q1 := decide_eq_true c13q
       try have c13q2 := eq_false (Nat.not_lt.2 c13q)
       clear c13q
       try have c13b2 : (9223372036854775807 < ((a0_0 ++ (⟨#[58, 47, 47]⟩ : ByteArray)) ++ a0_1).size + ((⟨#[58]⟩ : ByteArray) ++ t191).size) = False := eq_false (Nat.not_lt.2 c13)
       obtain rfl := Option.some.inj H
       go_enter Tryd.func49, Tryd.ntmps49
       go_wp2_with (first | ((with_reducible refine gate_dst (N := 1) rfl ?_); refine box_event ?hg (N := 1) ?hd (cs := #[.string a0_0, .string a0_1, .int .i64 a0_2, .bool false]) (t := 25) ?hr ?_; (case hd => rfl); (case hg => rfl); (case hr => first | (go_simp; done) | (go_simp; rfl)); intro gb189 hg w14 hbox hb; have n0_ := Aside0.mk (below_step hB hb); have n1_ := Aside0.mk (hbox); have n2_ := Aside0.mk ((by rw [hg]; exact (below_size hB) : w.heap.size ≤ gb189)); have n3_ := Aside0.mk ((by rw [hg]; exact (below_size hB) : w.heap.size ≤ gb189)); clear HB; have HB := n0_; have BK189 := n1_; have GW189 := n2_; have GE189 := n3_; clear n0_ n1_ n2_ n3_; clear hb hbox hg; have hcz15_0 : w14.cell? ⟨gb189, 0, none⟩ = some (.string a0_0) := (blk_cell BK189.out 0).trans rfl; have hcz15_1 : w14.cell? ⟨gb189, 1, none⟩ = some (.string a0_1) := (blk_cell BK189.out 1).trans rfl; have hcz15_2 : w14.cell? ⟨gb189, 2, none⟩ = some (.int .i64 a0_2) := (blk_cell BK189.out 2).trans rfl; have hcz15_3 : w14.cell? ⟨gb189, 3, none⟩ = some (.bool false) := (blk_cell BK189.out 3).trans rfl; have hfz15_0 := blk_frozen BK189.out 0; have hfz15_1 := blk_frozen BK189.out 1; have hfz15_2 := blk_frozen BK189.out 2; have hfz15_3 := blk_frozen BK189.out 3) | (go_at_call 88; (with_reducible refine (url_Own.calls k a0_0 t190 _ A7.out).mono ?_); rintro e w' ⟨rfl, ⟨nd, rfl⟩⟩; (try first | exact ⟨rfl, _, World.drewN_drewN _ _ _⟩ | exact ⟨rfl, _, Eq.trans (World.drewN_drewN _ _ _) (congrArg (World.drewN _) (Nat.add_assoc _ _ _))⟩)) | (go_at_call 74; (with_reducible refine (strconv_Itoa.calls a0_2 t191 _ ?side1 A11.out).mono ?_); (case side1 => first | exact HLdLPow.out | ((with_reducible repeat (first | exact HLdLPow.out | apply LPow.drewN | apply LPow.drew)); done) | exact LPow.below HLdLPow.out q15_); rintro e w16 ⟨rfl, hb⟩; have n0_ := Aside0.mk (blk_below (g := gb189) (o := .cells #[.string a0_0, .string a0_1, .int .i64 a0_2, .bool false] 25 (0, 0)) (by (with_reducible repeat (first | refine blk_drewN ?_ _ | refine blk_drew ?_ | refine blk_alloc ?_ _)); exact BK189.out) hb); have n1_ := Aside0.mk (below_step q15_ hb); clear BK189; clear HB; have BK189 := n0_; have HB := n1_; clear n0_ n1_; (try clear hb); (try clear hb2); (try clear hk); (try clear hi)))
       repeat (go_quiet (first | ((with_reducible refine gate_dst (N := 1) rfl ?_); refine box_event ?hg (N := 1) ?hd (cs := #[.string a0_0, .string a0_1, .int .i64 a0_2, .bool false]) (t := 25) ?hr ?_; (case hd => rfl); (case hg => rfl); (case hr => first | (go_simp; done) | (go_simp; rfl)); intro gb189 hg w14 hbox hb; have n0_ := Aside0.mk (below_step hB hb); have n1_ := Aside0.mk (hbox); have n2_ := Aside0.mk ((by rw [hg]; exact (below_size hB) : w.heap.size ≤ gb189)); have n3_ := Aside0.mk ((by rw [hg]; exact (below_size hB) : w.heap.size ≤ gb189)); clear HB; have HB := n0_; have BK189 := n1_; have GW189 := n2_; have GE189 := n3_; clear n0_ n1_ n2_ n3_; clear hb hbox hg; have hcz15_0 : w14.cell? ⟨gb189, 0, none⟩ = some (.string a0_0) := (blk_cell BK189.out 0).trans rfl; have hcz15_1 : w14.cell? ⟨gb189, 1, none⟩ = some (.string a0_1) := (blk_cell BK189.out 1).trans rfl; have hcz15_2 : w14.cell? ⟨gb189, 2, none⟩ = some (.int .i64 a0_2) := (blk_cell BK189.out 2).trans rfl; have hcz15_3 : w14.cell? ⟨gb189, 3, none⟩ = some (.bool false) := (blk_cell BK189.out 3).trans rfl; have hfz15_0 := blk_frozen BK189.out 0; have hfz15_1 := blk_frozen BK189.out 1; have hfz15_2 := blk_frozen BK189.out 2; have hfz15_3 := blk_frozen BK189.out 3) | (go_at_call 88; (with_reducible refine (url_Own.calls k a0_0 t190 _ A7.out).mono ?_); rintro e w' ⟨rfl, ⟨nd, rfl⟩⟩; (try first | exact ⟨rfl, _, World.drewN_drewN _ _ _⟩ | exact ⟨rfl, _, Eq.trans (World.drewN_drewN _ _ _) (congrArg (World.drewN _) (Nat.add_assoc _ _ _))⟩)) | (go_at_call 74; (with_reducible refine (strconv_Itoa.calls a0_2 t191 _ ?side1 A11.out).mono ?_); (case side1 => first | exact HLdLPow.out | ((with_reducible repeat (first | exact HLdLPow.out | apply LPow.drewN | apply LPow.drew)); done) | exact LPow.below HLdLPow.out q15_); rintro e w16 ⟨rfl, hb⟩; have n0_ := Aside0.mk (blk_below (g := gb189) (o := .cells #[.string a0_0, .string a0_1, .int .i64 a0_2, .bool false] 25 (0, 0)) (by (with_reducible repeat (first | refine blk_drewN ?_ _ | refine blk_drew ?_ | refine blk_alloc ?_ _)); exact BK189.out) hb); have n1_ := Aside0.mk (below_step q15_ hb); clear BK189; clear HB; have BK189 := n0_; have HB := n1_; clear n0_ n1_; (try clear hb); (try clear hb2); (try clear hk); (try clear hi))); try go_wp2_with (first | ((with_reducible refine gate_dst (N := 1) rfl ?_); refine box_event ?hg (N := 1) ?hd (cs := #[.string a0_0, .string a0_1, .int .i64 a0_2, .bool false]) (t := 25) ?hr ?_; (case hd => rfl); (case hg => rfl); (case hr => first | (go_simp; done) | (go_simp; rfl)); intro gb189 hg w14 hbox hb; have n0_ := Aside0.mk (below_step hB hb); have n1_ := Aside0.mk (hbox); have n2_ := Aside0.mk ((by rw [hg]; exact (below_size hB) : w.heap.size ≤ gb189)); have n3_ := Aside0.mk ((by rw [hg]; exact (below_size hB) : w.heap.size ≤ gb189)); clear HB; have HB := n0_; have BK189 := n1_; have GW189 := n2_; have GE189 := n3_; clear n0_ n1_ n2_ n3_; clear hb hbox hg; have hcz15_0 : w14.cell? ⟨gb189, 0, none⟩ = some (.string a0_0) := (blk_cell BK189.out 0).trans rfl; have hcz15_1 : w14.cell? ⟨gb189, 1, none⟩ = some (.string a0_1) := (blk_cell BK189.out 1).trans rfl; have hcz15_2 : w14.cell? ⟨gb189, 2, none⟩ = some (.int .i64 a0_2) := (blk_cell BK189.out 2).trans rfl; have hcz15_3 : w14.cell? ⟨gb189, 3, none⟩ = some (.bool false) := (blk_cell BK189.out 3).trans rfl; have hfz15_0 := blk_frozen BK189.out 0; have hfz15_1 := blk_frozen BK189.out 1; have hfz15_2 := blk_frozen BK189.out 2; have hfz15_3 := blk_frozen BK189.out 3) | (go_at_call 88; (with_reducible refine (url_Own.calls k a0_0 t190 _ A7.out).mono ?_); rintro e w' ⟨rfl, ⟨nd, rfl⟩⟩; (try first | exact ⟨rfl, _, World.drewN_drewN _ _ _⟩ | exact ⟨rfl, _, Eq.trans (World.drewN_drewN _ _ _) (congrArg (World.drewN _) (Nat.add_assoc _ _ _))⟩)) | (go_at_call 74; (with_reducible refine (strconv_Itoa.calls a0_2 t191 _ ?side1 A11.out).mono ?_); (case side1 => first | exact HLdLPow.out | ((with_reducible repeat (first | exact HLdLPow.out | apply LPow.drewN | apply LPow.drew)); done) | exact LPow.below HLdLPow.out q15_); rintro e w16 ⟨rfl, hb⟩; have n0_ := Aside0.mk (blk_below (g := gb189) (o := .cells #[.string a0_0, .string a0_1, .int .i64 a0_2, .bool false] 25 (0, 0)) (by (with_reducible repeat (first | refine blk_drewN ?_ _ | refine blk_drew ?_ | refine blk_alloc ?_ _)); exact BK189.out) hb); have n1_ := Aside0.mk (below_step q15_ hb); clear BK189; clear HB; have BK189 := n0_; have HB := n1_; clear n0_ n1_; (try clear hb); (try clear hb2); (try clear hk); (try clear hi))))
       go_ret
       exact ⟨by first | rfl | (simp [errW_none, errW_some] <;> rfl) | (simp [*, errW_none, errW_some] <;> rfl), by repeat (first | (with_reducible first | exact HB.out | apply below_alloc | apply pw_below_drewN | apply below_drew1 | refine below_set ?_ GE189.out) | exact HB.out)⟩
      ·rw [if_neg c13] at H
       exact absurd H (by simp)
     ·rw [if_neg c12] at H
      exact absurd H (by simp)
   ·rw [if_neg c6] at H
    exact absurd H (by simp)
  ·rw [if_neg c5] at H
   exact absurd H (by simp)
end Go.Proofs.YtifmkgkiipckbaaDoor.P
