/- A part of the proof of CorsLess: texts of walks and plain lemmas. -/
import Derived.Test.YtifmkgkiipckbaaDoorX1
import Derived.Test.YtifmkgkiipckbaaDoorX11
import Derived.Test.YtifmkgkiipckbaaDoorX16
import Derived.Lib.Hide
namespace Go.Proofs.YtifmkgkiipckbaaDoor.P
open Go.RowKit Go.Proofs.YtifmkgkiipckbaaDoorW.PrintWords Go.Proofs.YtifmkgkiipckbaaDoorW.PrintLast Go.Proofs.YtifmkgkiipckbaaDoorW.PrintMore
attribute [local go_sem] max2_int min2_int max_two min_two max_three min_three max_four min_four
set_option linter.unusedVariables false
set_option linter.unusedSimpArgs false
def ostiaryref4_Port.f (k : Nat) (a0_0 : ByteArray) (a0_1 : ByteArray) (a0_2 : ByteArray) (a0_3 : ByteArray) (a0_4 : Bool) (a0_5 : Int) (a0_6 : Bool) (l0_7 : List ByteArray) (a0_8 : ByteArray) (a0_9 : ByteArray) (a0_10 : Bool) (a0_11 : Bool) : Option (Int) := if a0_5 = (-1) then ((ostiaryref3_Own.f k a0_0).bind fun t128 => (some t128)) else (some a0_5)
theorem ostiaryref4_Port.mono : ∀ a0 a1 a2 a3 a4 a5 a6 a7 a8 a9 a10 a11 k, LeO (ostiaryref4_Port.f k a0 a1 a2 a3 a4 a5 a6 a7 a8 a9 a10 a11) (ostiaryref4_Port.f (k + 1) a0 a1 a2 a3 a4 a5 a6 a7 a8 a9 a10 a11) := by
 intro a0 a1 a2 a3 a4 a5 a6 a7 a8 a9 a10 a11 k
 unfold ostiaryref4_Port.f
 repeat' first
   | (with_reducible exact ostiaryref3_Own.mono _ _)
   | (with_reducible exact LeO.refl _)
   | (with_reducible exact LeO.none _)
   | (with_reducible refine LeO.ite ?_ ?_)
   | (with_reducible refine LeO.bind ?_ (fun _ => ?_))
   | exact ostiaryref3_Own.mono _ _
   | exact LeO.none _
   | refine LeO.ite ?_ ?_
   | refine LeO.bind ?_ (fun _ => ?_)
set_option maxHeartbeats 8000000 in
set_option maxRecDepth 100000 in
theorem ostiaryref4_Port.calls (k : Nat) (a0_0 : ByteArray) (a0_1 : ByteArray) (a0_2 : ByteArray) (a0_3 : ByteArray) (a0_4 : Bool) (a0_5 : Int) (a0_6 : Bool) (A0_7 : Option Addr) (c0_7 : Nat) (l0_7 : List ByteArray) (a0_8 : ByteArray) (a0_9 : ByteArray) (a0_10 : Bool) (a0_11 : Bool) (r : Int) (w : World) (hr0_7 : Kd.C Kd.string w A0_7 l0_7.length l0_7) (hc0_7 : l0_7.length ≤ c0_7) (h : ostiaryref4_Port.f k a0_0 a0_1 a0_2 a0_3 a0_4 a0_5 a0_6 l0_7 a0_8 a0_9 a0_10 a0_11 = some r) :
  Calls Tryd.prog 85 #[.agg #[.string a0_0, .string a0_1, .string a0_2, .string a0_3, .bool a0_4, .int .i64 a0_5, .bool a0_6, .slice A0_7 l0_7.length c0_7, .string a0_8, .string a0_9, .bool a0_10, .bool a0_11]] w fun e w' => e = .returned (.int .i64 r) ∧ Below w.heap.size w w' := by
 have hu86 := Tryd.underlying86
 have HR0_7 := Aside0.mk hr0_7
 have HC0_7 := Aside0.mk hc0_7
 clear hr0_7 hc0_7
 have HB := Aside0.mk (Below.refl w.heap.size w)
 have H : (if a0_5 = (-1) then ((ostiaryref3_Own.f k a0_0).bind fun t128 => (some t128)) else (some a0_5)) = some r := h
 clear h
 by_cases c2 : a0_5 = (-1)
 ·rw [if_pos c2] at H
  have c2b0 : (a0_5 == (-1)) = true := beq_iff_eq.mpr c2
  have c2b1 : (a0_5 != (-1)) = false := bne_eq_false_iff_eq.mpr c2
  clear c2
  replace H := Option.bind_eq_some_iff.mp H
  obtain ⟨t128, A30, H⟩ := H
  replace H : (some t128) = some r := H
  have A3 := Aside0.mk A30
  clear A30
  obtain rfl := Option.some.inj H
  go_enter Tryd.func85, Tryd.ntmps85
  go_wp2_with (first | ((with_reducible refine gate_dst (N := 1) rfl ?_); refine box_event ?hg (N := 1) ?hd (cs := #[.string a0_0, .string a0_1, .string a0_2, .string a0_3, .bool a0_4, .int .i64 a0_5, .bool a0_6, .slice A0_7 l0_7.length c0_7, .string a0_8, .string a0_9, .bool a0_10, .bool a0_11]) (t := 86) ?hr ?_; (case hd => rfl); (case hg => rfl); (case hr => first | (go_simp; done) | (go_simp; rfl)); intro gb127 hg w4 hbox hb; have n0_ := Aside0.mk (below_step hB hb); have n1_ := Aside0.mk (hbox); have n2_ := Aside0.mk ((by rw [hg]; exact (below_size hB) : w.heap.size ≤ gb127)); have n3_ := Aside0.mk ((by rw [hg]; exact (below_size hB) : w.heap.size ≤ gb127)); clear HB; have HB := n0_; have BK127 := n1_; have GW127 := n2_; have GE127 := n3_; clear n0_ n1_ n2_ n3_; clear hb hbox hg; have hcz5_0 : w4.cell? ⟨gb127, 0, none⟩ = some (.string a0_0) := (blk_cell BK127.out 0).trans rfl; have hcz5_1 : w4.cell? ⟨gb127, 1, none⟩ = some (.string a0_1) := (blk_cell BK127.out 1).trans rfl; have hcz5_2 : w4.cell? ⟨gb127, 2, none⟩ = some (.string a0_2) := (blk_cell BK127.out 2).trans rfl; have hcz5_3 : w4.cell? ⟨gb127, 3, none⟩ = some (.string a0_3) := (blk_cell BK127.out 3).trans rfl; have hcz5_4 : w4.cell? ⟨gb127, 4, none⟩ = some (.bool a0_4) := (blk_cell BK127.out 4).trans rfl; have hcz5_5 : w4.cell? ⟨gb127, 5, none⟩ = some (.int .i64 a0_5) := (blk_cell BK127.out 5).trans rfl; have hcz5_6 : w4.cell? ⟨gb127, 6, none⟩ = some (.bool a0_6) := (blk_cell BK127.out 6).trans rfl; have hcz5_7 : w4.cell? ⟨gb127, 7, none⟩ = some (.slice A0_7 l0_7.length c0_7) := (blk_cell BK127.out 7).trans rfl; have hcz5_8 : w4.cell? ⟨gb127, 8, none⟩ = some (.string a0_8) := (blk_cell BK127.out 8).trans rfl; have hcz5_9 : w4.cell? ⟨gb127, 9, none⟩ = some (.string a0_9) := (blk_cell BK127.out 9).trans rfl; have hcz5_10 : w4.cell? ⟨gb127, 10, none⟩ = some (.bool a0_10) := (blk_cell BK127.out 10).trans rfl; have hcz5_11 : w4.cell? ⟨gb127, 11, none⟩ = some (.bool a0_11) := (blk_cell BK127.out 11).trans rfl; have hfz5_0 := blk_frozen BK127.out 0; have hfz5_1 := blk_frozen BK127.out 1; have hfz5_2 := blk_frozen BK127.out 2; have hfz5_3 := blk_frozen BK127.out 3; have hfz5_4 := blk_frozen BK127.out 4; have hfz5_5 := blk_frozen BK127.out 5; have hfz5_6 := blk_frozen BK127.out 6; have hfz5_7 := blk_frozen BK127.out 7; have hfz5_8 := blk_frozen BK127.out 8; have hfz5_9 := blk_frozen BK127.out 9; have hfz5_10 := blk_frozen BK127.out 10; have hfz5_11 := blk_frozen BK127.out 11) | ((with_reducible refine gate_callee (f := 50) rfl ?_); refine goesL_ (some 8) rfl rfl Tryd.func50 q2_ rfl #[.string a0_0] rfl tS ?_; (with_reducible refine (ostiaryref3_Own.calls k a0_0 t128 _ A3.out).mono ?_); rintro e w' ⟨rfl, ⟨nd, rfl⟩⟩; refine ⟨_, rfl, ?_⟩))
  go_ret
  exact ⟨by first | rfl | (simp [errW_none, errW_some] <;> rfl) | (simp [*, errW_none, errW_some] <;> rfl), by repeat (first | (with_reducible first | exact HB.out | apply below_alloc | apply pw_below_drewN | apply below_drew1 | refine below_set ?_ GE127.out) | exact HB.out)⟩
 ·rw [if_neg c2] at H
  have c2b0 : (a0_5 == (-1)) = false := beq_eq_false_iff_ne.mpr c2
  have c2b1 : (a0_5 != (-1)) = true := bne_iff_ne.mpr c2
  obtain rfl := Option.some.inj H
  go_enter Tryd.func85, Tryd.ntmps85
  go_wp2_with (first | ((with_reducible refine gate_dst (N := 1) rfl ?_); refine box_event ?hg (N := 1) ?hd (cs := #[.string a0_0, .string a0_1, .string a0_2, .string a0_3, .bool a0_4, .int .i64 a0_5, .bool a0_6, .slice A0_7 l0_7.length c0_7, .string a0_8, .string a0_9, .bool a0_10, .bool a0_11]) (t := 86) ?hr ?_; (case hd => rfl); (case hg => rfl); (case hr => first | (go_simp; done) | (go_simp; rfl)); intro gb127 hg w6 hbox hb; have n0_ := Aside0.mk (below_step hB hb); have n1_ := Aside0.mk (hbox); have n2_ := Aside0.mk ((by rw [hg]; exact (below_size hB) : w.heap.size ≤ gb127)); have n3_ := Aside0.mk ((by rw [hg]; exact (below_size hB) : w.heap.size ≤ gb127)); clear HB; have HB := n0_; have BK127 := n1_; have GW127 := n2_; have GE127 := n3_; clear n0_ n1_ n2_ n3_; clear hb hbox hg; have hcz7_0 : w6.cell? ⟨gb127, 0, none⟩ = some (.string a0_0) := (blk_cell BK127.out 0).trans rfl; have hcz7_1 : w6.cell? ⟨gb127, 1, none⟩ = some (.string a0_1) := (blk_cell BK127.out 1).trans rfl; have hcz7_2 : w6.cell? ⟨gb127, 2, none⟩ = some (.string a0_2) := (blk_cell BK127.out 2).trans rfl; have hcz7_3 : w6.cell? ⟨gb127, 3, none⟩ = some (.string a0_3) := (blk_cell BK127.out 3).trans rfl; have hcz7_4 : w6.cell? ⟨gb127, 4, none⟩ = some (.bool a0_4) := (blk_cell BK127.out 4).trans rfl; have hcz7_5 : w6.cell? ⟨gb127, 5, none⟩ = some (.int .i64 a0_5) := (blk_cell BK127.out 5).trans rfl; have hcz7_6 : w6.cell? ⟨gb127, 6, none⟩ = some (.bool a0_6) := (blk_cell BK127.out 6).trans rfl; have hcz7_7 : w6.cell? ⟨gb127, 7, none⟩ = some (.slice A0_7 l0_7.length c0_7) := (blk_cell BK127.out 7).trans rfl; have hcz7_8 : w6.cell? ⟨gb127, 8, none⟩ = some (.string a0_8) := (blk_cell BK127.out 8).trans rfl; have hcz7_9 : w6.cell? ⟨gb127, 9, none⟩ = some (.string a0_9) := (blk_cell BK127.out 9).trans rfl; have hcz7_10 : w6.cell? ⟨gb127, 10, none⟩ = some (.bool a0_10) := (blk_cell BK127.out 10).trans rfl; have hcz7_11 : w6.cell? ⟨gb127, 11, none⟩ = some (.bool a0_11) := (blk_cell BK127.out 11).trans rfl; have hfz7_0 := blk_frozen BK127.out 0; have hfz7_1 := blk_frozen BK127.out 1; have hfz7_2 := blk_frozen BK127.out 2; have hfz7_3 := blk_frozen BK127.out 3; have hfz7_4 := blk_frozen BK127.out 4; have hfz7_5 := blk_frozen BK127.out 5; have hfz7_6 := blk_frozen BK127.out 6; have hfz7_7 := blk_frozen BK127.out 7; have hfz7_8 := blk_frozen BK127.out 8; have hfz7_9 := blk_frozen BK127.out 9; have hfz7_10 := blk_frozen BK127.out 10; have hfz7_11 := blk_frozen BK127.out 11))
  go_ret
  exact ⟨by first | rfl | (simp [errW_none, errW_some] <;> rfl) | (simp [*, errW_none, errW_some] <;> rfl), by repeat (first | (with_reducible first | exact HB.out | apply below_alloc | apply pw_below_drewN | apply below_drew1 | refine below_set ?_ GE127.out) | exact HB.out)⟩
end Go.Proofs.YtifmkgkiipckbaaDoor.P
namespace Go.Proofs.YtifmkgkiipckbaaDoor.P
open Go.RowKit Go.Proofs.YtifmkgkiipckbaaDoorW.PrintWords Go.Proofs.YtifmkgkiipckbaaDoorW.PrintLast Go.Proofs.YtifmkgkiipckbaaDoorW.PrintMore
attribute [local go_sem] max2_int min2_int max_two min_two max_three min_three max_four min_four
set_option linter.unusedVariables false
set_option linter.unusedSimpArgs false
mutual
def ostiaryref4_Of.j0 : Nat → Bool → ByteArray → ByteArray → ByteArray → ByteArray → Bool → Int → Bool → List ByteArray → ByteArray → ByteArray → Bool → Bool → Option (ByteArray × ByteArray × Int × Bool)
 | 0, _, _, _, _, _, _, _, _, _, _, _, _, _ => none
 | k + 1, x17, x130000, x130001, x130002, x130003, x130004, x130005, x130006, x130007, x130008, x130009, x130010, x130011 => if x17 = true then (if 0 < (x130007.length : Int) then ((ostiaryref3_Parse.f k (rdOf ByteArray.empty x130007 0)).bind fun bt132 => (if bt132.2.2.2.2.2.2.2.2.2.2.2.2 = 0 then (if bt132.1.toList = ([104, 116, 116, 112] : List UInt8) then ((ostiaryref4_Of.f k bt132.1 bt132.2.1 bt132.2.2.1 bt132.2.2.2.1 bt132.2.2.2.2.1 bt132.2.2.2.2.2.1 bt132.2.2.2.2.2.2.1 bt132.2.2.2.2.2.2.2.1 bt132.2.2.2.2.2.2.2.2.1 bt132.2.2.2.2.2.2.2.2.2.1 bt132.2.2.2.2.2.2.2.2.2.2.1 bt132.2.2.2.2.2.2.2.2.2.2.2.1).bind fun bt148 => (some (bt148.1, bt148.2.1, bt148.2.2.1, bt148.2.2.2))) else (if bt132.1.toList = ([104, 116, 116, 112, 115] : List UInt8) then ((ostiaryref4_Of.f k bt132.1 bt132.2.1 bt132.2.2.1 bt132.2.2.2.1 bt132.2.2.2.2.1 bt132.2.2.2.2.2.1 bt132.2.2.2.2.2.2.1 bt132.2.2.2.2.2.2.2.1 bt132.2.2.2.2.2.2.2.2.1 bt132.2.2.2.2.2.2.2.2.2.1 bt132.2.2.2.2.2.2.2.2.2.2.1 bt132.2.2.2.2.2.2.2.2.2.2.2.1).bind fun bt152 => (some (bt152.1, bt152.2.1, bt152.2.2.1, bt152.2.2.2))) else (ostiaryref4_Of.j1 k x130000 x130001 x130002 x130003 x130004 x130005 x130006 x130007 x130008 x130009 x130010 x130011))) else (ostiaryref4_Of.j1 k x130000 x130001 x130002 x130003 x130004 x130005 x130006 x130007 x130008 x130009 x130010 x130011))) else (none)) else (ostiaryref4_Of.j1 k x130000 x130001 x130002 x130003 x130004 x130005 x130006 x130007 x130008 x130009 x130010 x130011)
def ostiaryref4_Of.j1 : Nat → ByteArray → ByteArray → ByteArray → ByteArray → Bool → Int → Bool → List ByteArray → ByteArray → ByteArray → Bool → Bool → Option (ByteArray × ByteArray × Int × Bool)
 | 0, _, _, _, _, _, _, _, _, _, _, _, _ => none
 | k + 1, x130000, x130001, x130002, x130003, x130004, x130005, x130006, x130007, x130008, x130009, x130010, x130011 => (ostiaryref3_Special.f k x130000).bind fun t156 => (if t156 = true then ((ostiaryref4_Port.f k x130000 x130001 x130002 x130003 x130004 x130005 x130006 x130007 x130008 x130009 x130010 x130011).bind fun t157 => (some (x130000, x130003, t157, false))) else (some ((⟨#[]⟩ : ByteArray), (⟨#[]⟩ : ByteArray), 0, true)))
def ostiaryref4_Of.f : Nat → ByteArray → ByteArray → ByteArray → ByteArray → Bool → Int → Bool → List ByteArray → ByteArray → ByteArray → Bool → Bool → Option (ByteArray × ByteArray × Int × Bool)
 | 0, _, _, _, _, _, _, _, _, _, _, _, _ => none
 | k + 1, a0_0, a0_1, a0_2, a0_3, a0_4, a0_5, a0_6, l0_7, a0_8, a0_9, a0_10, a0_11 => if a0_0.toList = ([98, 108, 111, 98] : List UInt8) then (if a0_6 = true then (ostiaryref4_Of.j0 k ((l0_7.length : Int) == 1) a0_0 a0_1 a0_2 a0_3 a0_4 a0_5 a0_6 l0_7 a0_8 a0_9 a0_10 a0_11) else (ostiaryref4_Of.j0 k false a0_0 a0_1 a0_2 a0_3 a0_4 a0_5 a0_6 l0_7 a0_8 a0_9 a0_10 a0_11)) else (ostiaryref4_Of.j0 k false a0_0 a0_1 a0_2 a0_3 a0_4 a0_5 a0_6 l0_7 a0_8 a0_9 a0_10 a0_11)
end
theorem ostiaryref4_Of.mono_l : ∀ k, (∀ y0 y1 y2 y3 y4 y5 y6 y7 y8 y9 y10 y11, LeO (ostiaryref4_Of.f k y0 y1 y2 y3 y4 y5 y6 y7 y8 y9 y10 y11) (ostiaryref4_Of.f (k + 1) y0 y1 y2 y3 y4 y5 y6 y7 y8 y9 y10 y11)) ∧ (∀ y0 y1 y2 y3 y4 y5 y6 y7 y8 y9 y10 y11 y12, LeO (ostiaryref4_Of.j0 k y0 y1 y2 y3 y4 y5 y6 y7 y8 y9 y10 y11 y12) (ostiaryref4_Of.j0 (k + 1) y0 y1 y2 y3 y4 y5 y6 y7 y8 y9 y10 y11 y12)) ∧ (∀ y0 y1 y2 y3 y4 y5 y6 y7 y8 y9 y10 y11, LeO (ostiaryref4_Of.j1 k y0 y1 y2 y3 y4 y5 y6 y7 y8 y9 y10 y11) (ostiaryref4_Of.j1 (k + 1) y0 y1 y2 y3 y4 y5 y6 y7 y8 y9 y10 y11))
 | 0 => ⟨fun _ _ _ _ _ _ _ _ _ _ _ _ r h => by simp [ostiaryref4_Of.f] at h, fun _ _ _ _ _ _ _ _ _ _ _ _ _ r h => by simp [ostiaryref4_Of.j0] at h, fun _ _ _ _ _ _ _ _ _ _ _ _ r h => by simp [ostiaryref4_Of.j1] at h⟩
 | k + 1 => by
  obtain ⟨ih0, ih1, ih2⟩ := ostiaryref4_Of.mono_l k
  refine ⟨?_, ?_, ?_⟩
  ·intro y0 y1 y2 y3 y4 y5 y6 y7 y8 y9 y10 y11
   unfold ostiaryref4_Of.f
   repeat' first
   | (with_reducible exact ih0 _ _ _ _ _ _ _ _ _ _ _ _)
   | (with_reducible exact ih1 _ _ _ _ _ _ _ _ _ _ _ _ _)
   | (with_reducible exact ih2 _ _ _ _ _ _ _ _ _ _ _ _)
   | (with_reducible exact ostiaryref3_Parse.mono _ _)
   | (with_reducible exact ostiaryref3_Special.mono _ _)
   | (with_reducible exact ostiaryref4_Port.mono _ _ _ _ _ _ _ _ _ _ _ _ _)
   | (with_reducible exact LeO.refl _)
   | (with_reducible exact LeO.none _)
   | (with_reducible refine LeO.ite ?_ ?_)
   | (with_reducible refine LeO.bind ?_ (fun _ => ?_))
   | exact ih0 _ _ _ _ _ _ _ _ _ _ _ _
   | exact ih1 _ _ _ _ _ _ _ _ _ _ _ _ _
   | exact ih2 _ _ _ _ _ _ _ _ _ _ _ _
   | exact ostiaryref3_Parse.mono _ _
   | exact ostiaryref3_Special.mono _ _
   | exact ostiaryref4_Port.mono _ _ _ _ _ _ _ _ _ _ _ _ _
   | exact LeO.none _
   | refine LeO.ite ?_ ?_
   | refine LeO.bind ?_ (fun _ => ?_)
  ·intro y0 y1 y2 y3 y4 y5 y6 y7 y8 y9 y10 y11 y12
   unfold ostiaryref4_Of.j0
   repeat' first
   | (with_reducible exact ih0 _ _ _ _ _ _ _ _ _ _ _ _)
   | (with_reducible exact ih1 _ _ _ _ _ _ _ _ _ _ _ _ _)
   | (with_reducible exact ih2 _ _ _ _ _ _ _ _ _ _ _ _)
   | (with_reducible exact ostiaryref3_Parse.mono _ _)
   | (with_reducible exact ostiaryref3_Special.mono _ _)
   | (with_reducible exact ostiaryref4_Port.mono _ _ _ _ _ _ _ _ _ _ _ _ _)
   | (with_reducible exact LeO.refl _)
   | (with_reducible exact LeO.none _)
   | (with_reducible refine LeO.ite ?_ ?_)
   | (with_reducible refine LeO.bind ?_ (fun _ => ?_))
   | exact ih0 _ _ _ _ _ _ _ _ _ _ _ _
   | exact ih1 _ _ _ _ _ _ _ _ _ _ _ _ _
   | exact ih2 _ _ _ _ _ _ _ _ _ _ _ _
   | exact ostiaryref3_Parse.mono _ _
   | exact ostiaryref3_Special.mono _ _
   | exact ostiaryref4_Port.mono _ _ _ _ _ _ _ _ _ _ _ _ _
   | exact LeO.none _
   | refine LeO.ite ?_ ?_
   | refine LeO.bind ?_ (fun _ => ?_)
  ·intro y0 y1 y2 y3 y4 y5 y6 y7 y8 y9 y10 y11
   unfold ostiaryref4_Of.j1
   repeat' first
   | (with_reducible exact ih0 _ _ _ _ _ _ _ _ _ _ _ _)
   | (with_reducible exact ih1 _ _ _ _ _ _ _ _ _ _ _ _ _)
   | (with_reducible exact ih2 _ _ _ _ _ _ _ _ _ _ _ _)
   | (with_reducible exact ostiaryref3_Parse.mono _ _)
   | (with_reducible exact ostiaryref3_Special.mono _ _)
   | (with_reducible exact ostiaryref4_Port.mono _ _ _ _ _ _ _ _ _ _ _ _ _)
   | (with_reducible exact LeO.refl _)
   | (with_reducible exact LeO.none _)
   | (with_reducible refine LeO.ite ?_ ?_)
   | (with_reducible refine LeO.bind ?_ (fun _ => ?_))
   | exact ih0 _ _ _ _ _ _ _ _ _ _ _ _
   | exact ih1 _ _ _ _ _ _ _ _ _ _ _ _ _
   | exact ih2 _ _ _ _ _ _ _ _ _ _ _ _
   | exact ostiaryref3_Parse.mono _ _
   | exact ostiaryref3_Special.mono _ _
   | exact ostiaryref4_Port.mono _ _ _ _ _ _ _ _ _ _ _ _ _
   | exact LeO.none _
   | refine LeO.ite ?_ ?_
   | refine LeO.bind ?_ (fun _ => ?_)
theorem ostiaryref4_Of.mono : ∀ a0 a1 a2 a3 a4 a5 a6 a7 a8 a9 a10 a11 k, LeO (ostiaryref4_Of.f k a0 a1 a2 a3 a4 a5 a6 a7 a8 a9 a10 a11) (ostiaryref4_Of.f (k + 1) a0 a1 a2 a3 a4 a5 a6 a7 a8 a9 a10 a11) := by
 intro a0 a1 a2 a3 a4 a5 a6 a7 a8 a9 a10 a11 k
 obtain ⟨ih0, ih1, ih2⟩ := ostiaryref4_Of.mono_l k
 exact ih0 a0 a1 a2 a3 a4 a5 a6 a7 a8 a9 a10 a11
def ostiaryref4_Of.T7 : Bool × List (List Nat × List Nat) := (true, [([], []), ([0], [0]), ([], []), ([2], [2]), ([], []), ([4], [4]), ([1, 3, 5], [1, 3, 5]), ([6, 5, 0, 1, 2, 3, 4, 5, 6], [6])])
def ostiaryref4_Of.B7 : List Nat := [0, 1, 0, 4, 0, 16, 63, 127]
theorem ostiaryref4_Of.tab7 : rtab .any (opsOf Tryd.f47 7) = ostiaryref4_Of.T7 := by kernel_rfl
theorem ostiaryref4_Of.bits7 : waitsOk ostiaryref4_Of.T7.2 ostiaryref4_Of.B7 = true := by kernel_rfl
end Go.Proofs.YtifmkgkiipckbaaDoor.P
namespace Go.Proofs.YtifmkgkiipckbaaDoor.P
open Go.RowKit Go.Proofs.YtifmkgkiipckbaaDoorW.PrintWords Go.Proofs.YtifmkgkiipckbaaDoorW.PrintLast Go.Proofs.YtifmkgkiipckbaaDoorW.PrintMore
set_option linter.unusedVariables false
set_option linter.unusedSimpArgs false
abbrev oj1 (k : Nat) (u : S86) := ostiaryref4_Of.j1 k u.f0 u.f1 u.f2 u.f3 u.f4 u.f5 u.f6 u.f7 u.f8 u.f9 u.f10 u.f11
abbrev oj0 (k : Nat) (b : Bool) (u : S86) := ostiaryref4_Of.j0 k b u.f0 u.f1 u.f2 u.f3 u.f4 u.f5 u.f6 u.f7 u.f8 u.f9 u.f10 u.f11
abbrev of_ (k : Nat) (u : S86) := ostiaryref4_Of.f k u.f0 u.f1 u.f2 u.f3 u.f4 u.f5 u.f6 u.f7 u.f8 u.f9 u.f10 u.f11
abbrev ozero : Array Value := #[.string ⟨#[]⟩, .string ⟨#[]⟩, .int .i64 0, .bool false]
theorem put4 {W : World} {b T : Nat} {c0 c1 c2 c3 : Value} (hb : W.heap[b]? = some (.cells #[c0, c1, c2, c3] T (0, 0))) (v0 v1 v2 v3 : Value) :
  ((((W.setCell ⟨b, 0, none⟩ v0).setCell ⟨b, 1, none⟩ v1).setCell ⟨b, 2, none⟩ v2).setCell ⟨b, 3, none⟩ v3).heap[b]? = some (.cells #[v0, v1, v2, v3] T (0, 0)) := by
 simpa using blk_set (blk_set (blk_set (blk_set hb 0 v0) 1 v1) 2 v2) 3 v3
theorem below4 {B : Nat} {w W : World} {b : Nat} (h : Below B w W) (hb : B ≤ b) (v0 v1 v2 v3 : Value) :
  Below B w ((((W.setCell ⟨b, 0, none⟩ v0).setCell ⟨b, 1, none⟩ v1).setCell ⟨b, 2, none⟩ v2).setCell ⟨b, 3, none⟩ v3) :=
 (((h.setCell (p := ⟨b, 0, none⟩) hb v0).setCell (p := ⟨b, 1, none⟩) hb v1).setCell (p := ⟨b, 2, none⟩) hb v2).setCell (p := ⟨b, 3, none⟩) hb v3
set_option maxHeartbeats 4000000 in
set_option maxRecDepth 100000 in
theorem of_walk : ∀ (k : Nat) (u : S86) (A : Option Addr) (c : Nat) (r : ByteArray × ByteArray × Int × Bool) (w : World) (hr : Kd.C Kd.string w A u.f7.length u.f7) (hc : u.f7.length ≤ c) (h : of_ k u = some r),
  Calls Tryd.prog 47 #[.agg (cellsU u (.slice A u.f7.length c))] w fun e w' => e = .returned (.agg #[.string r.1, .string r.2.1, .int .i64 r.2.2.1, .bool r.2.2.2]) ∧ Below w.heap.size w w' := by
 intro k
 induction k using Nat.strongRecOn with
 | _ k ih =>
 intro u A c r w hr hc h
 cases k with
 | zero => exact absurd h (by simp [of_, ostiaryref4_Of.f])
 | succ k =>
 obtain ⟨W, hW⟩ : ∃ W, W = (w.alloc (.cells (cellsU u (.slice A u.f7.length c)) 86)).alloc (.cells ozero 25) := ⟨_, rfl⟩
 have hu : W.heap[w.heap.size]? = some (.cells (cellsU u (.slice A u.f7.length c)) 86 (0, 0)) := by rw [hW]; exact blk_alloc (blk_new _ _) _
 have ho : W.heap[w.heap.size + 1]? = some (.cells ozero 25 (0, 0)) := by rw [hW, show w.heap.size + 1 = (w.alloc (.cells (cellsU u (.slice A u.f7.length c)) 86)).heap.size by simp]; exact blk_new _ _
 have hB : Below w.heap.size w W := by rw [hW]; exact below_alloc (below_alloc (Below.refl _ _) _) _
 have hsz : W.heap.size = w.heap.size + 2 := by rw [hW]; simp
 obtain ⟨y0, y1, y2, y3, y4, y5, y6, y7, y8, y9, y10, y11, yf⟩ := cellsU_at hu
 have HW := Aside0.mk hW
 have HU := Aside0.mk hu
 have HO := Aside0.mk ho
 have HB := Aside0.mk hB
 have HS := Aside0.mk hsz
 have HR := Aside0.mk (Kd.C_below hr hB)
 have H' := Aside0.mk h
 have IH := Aside0.mk ih
 clear hW hu ho hB hsz hr h ih
 unfold cellsU
 go_enter Tryd.func47, Tryd.ntmps47
 go_upto_region 1 with (fail)
 (try simp only [Act.put, List.setIfInBounds_toArray, List.set_cons_zero, List.set_cons_succ])
 rw [show (w.alloc (.cells #[.string u.f0, .string u.f1, .string u.f2, .string u.f3, .bool u.f4, .int .i64 u.f5, .bool u.f6, .slice A u.f7.length c, .string u.f8, .string u.f9, .bool u.f10, .bool u.f11] 86)).alloc (.cells #[.string ⟨#[]⟩, .string ⟨#[]⟩, .int .i64 0, .bool false] 25) = W from HW.out.symm]
 go_cut [0, 17] (fun v0 v17 wc => ∃ (b : Bool), v17 = .bool b ∧ Aside0 (oj0 k b u = some r) ∧ Aside0 (b = true → 0 < u.f7.length) ∧ wc = W)
 case first =>
  have H := H'.out
  clear H'
  simp only [of_, ostiaryref4_Of.f] at H
  by_cases c1 : u.f0.toList = ([98, 108, 111, 98] : List UInt8)
  ·rw [if_pos c1] at H
   have c1b : (u.f0.toList == ([98, 108, 111, 98] : List UInt8)) = true := beq_iff_eq.mpr c1
   clear c1
   cases hb : u.f6 with
   | true =>
    rw [if_pos hb] at H
    rw [hb] at y6
    have H4 := Lib.hid H
    clear H hb
    go_wp2_with fail
    go_meet
    case rel => exact ⟨_, rfl, ⟨H4.out⟩, ⟨fun q => by have := beq_iff_eq.1 q; omega⟩, rfl⟩
   | false =>
    rw [if_neg (by rw [hb]; simp)] at H
    rw [hb] at y6
    have H4 := Lib.hid H
    clear H hb
    go_wp2_with fail
    go_meet
    case rel => exact ⟨_, rfl, ⟨H4.out⟩, ⟨fun q => by cases q⟩, rfl⟩
  ·rw [if_neg c1] at H
   have c1b : (u.f0.toList == ([98, 108, 111, 98] : List UInt8)) = false := beq_eq_false_iff_ne.mpr c1
   have H4 := Lib.hid H
   clear H c1
   go_wp2_with fail
   go_meet
   case rel => exact ⟨_, rfl, ⟨H4.out⟩, ⟨fun q => by cases q⟩, rfl⟩
 case rest =>
  clear H'
  obtain ⟨b, rfl, HA, HL, rfl⟩ := hcut
  cases k with
  | zero => exact absurd HA.out (by simp [oj0, ostiaryref4_Of.j0])
  | succ k =>
  go_upto_if 17 with (fail)
  go_cut [0] (fun v0 wd => ∃ (kq : Nat), Aside0 (oj1 kq u = some r) ∧ Aside0 (wd.heap[w.heap.size]? = some (.cells (cellsU u (.slice A u.f7.length c)) 86 (0, 0))) ∧ Aside0 (wd.heap[w.heap.size + 1]? = some (.cells ozero 25 (0, 0))) ∧ Aside0 (Below w.heap.size w wd) ∧ Aside0 (Kd.C Kd.string wd A u.f7.length u.f7))
  case first =>
   have H := HA.out
   simp only [oj0, ostiaryref4_Of.j0] at H
   cases b with
   | false =>
    rw [if_neg (by simp)] at H
    have H4 := Lib.hid H
    clear H HA
    go_wp2_with fail
    go_meet
    case rel => exact ⟨_, ⟨H4.out⟩, HU, HO, HB, HR⟩
   | true =>
    have hl := HL.out rfl
    rw [if_pos rfl, if_pos (by omega)] at H
    obtain ⟨⟨q1, q2, q3, q4, q5, q6, q7, q8, q9, q10, q11, q12, q13⟩, h1, h⟩ := Option.bind_eq_some_iff.mp H
    have H1 := Lib.hid h1
    have H4 := Lib.hid h
    clear H HA HL h1 h
    have hrd := Kd.reads_of_C (enc := Value.string) (d := ByteArray.empty) (h1 := fun _ => rfl) HR.out
    obtain ⟨ad, rfl, hcell⟩ := hrd.2.2 hl
    have hc0 : wc.cell? ad = some (.string (rdOf ByteArray.empty u.f7 0)) := by
     have := hcell 0 hl
     rwa [show ad.add 0 = ad by unfold Addr.add; split <;> simp_all] at this
    clear hcell hrd
    go_wp2_with fail
    refine (ostiaryref3_Parse.calls k _ q1 q2 q3 q4 q5 q6 q7 q8 q9 q10 q11 q12 q13 _ H1.out).mono ?_
    rintro e w1 ⟨v7, rfl, hR, hb⟩
    obtain ⟨A8, c8, rfl, hc8, hC8⟩ := Kd.R_reads hR
    have hu := blk_below HU.out hb
    have ho := blk_below HO.out hb
    have HU1 := Aside0.mk hu
    have HO1 := Aside0.mk ho
    have hR1 := Kd.C_below HR.out hb
    have HR1 := Aside0.mk hR1
    have HB1 := Aside0.mk (below_step HB.out hb)
    have HC8 := Aside0.mk hC8
    have HS1 := Aside0.mk (show w.heap.size + 2 ≤ w1.heap.size by have := hb.size; rw [HS.out] at this; exact this)
    clear hR hb hu ho hR1 hC8 y0 y1 y2 y3 y4 y5 y6 y7 y8 y9 y10 y11 yf hc0
    have HC9 := Aside0.mk (Kd.C_below HC8.out (below_alloc (Below.refl _ _) (.cells #[.string q1, .string q2, .string q3, .string q4, .bool q5, .int .i64 q6, .bool q7, .slice A8 q8.length c8, .string q9, .string q10, .bool q11, .bool q12] 86)))
    have h := H4.out
    clear H4
    by_cases e1 : q13 = 0
    ·rw [if_pos e1] at h
     have e1b : (q13 == 0) = true := beq_iff_eq.2 e1
     by_cases s1 : q1.toList = ([104, 116, 116, 112] : List UInt8)
     ·rw [if_pos s1] at h
      have s1b : (q1.toList == ([104, 116, 116, 112] : List UInt8)) = true := beq_iff_eq.mpr s1
      clear s1 e1
      obtain ⟨r', h5, h6⟩ := Option.bind_eq_some_iff.mp h
      have hr : (r'.1, r'.2.1, r'.2.2.1, r'.2.2.2) = r := Option.some.inj h6
      subst hr
      have H5 := Lib.hid h5
      clear h h5 h6
      go_wp2_with fail
      refine (IH.out k (by omega) ⟨q1, q2, q3, q4, q5, q6, q7, q8, q9, q10, q11, q12⟩ A8 c8 r' _ HC9.out hc8 H5.out).mono ?_
      rintro e w3 ⟨rfl, hb3⟩
      have ho3 := blk_below (blk_alloc HO1.out _) hb3
      have HB3 := Aside0.mk (below_step (below_alloc HB1.out _) hb3)
      have hz0 : w3.cell? ⟨w.heap.size + 1, 0, none⟩ = some (.string ⟨#[]⟩) := (blk_cell ho3 0).trans rfl
      have hz1 : w3.cell? ⟨w.heap.size + 1, 1, none⟩ = some (.string ⟨#[]⟩) := (blk_cell ho3 1).trans rfl
      have hz2 : w3.cell? ⟨w.heap.size + 1, 2, none⟩ = some (.int .i64 0) := (blk_cell ho3 2).trans rfl
      have hz3 : w3.cell? ⟨w.heap.size + 1, 3, none⟩ = some (.bool false) := (blk_cell ho3 3).trans rfl
      have hzf : ∀ o, w3.frozen? ⟨w.heap.size + 1, o, none⟩ = false := fun o => blk_frozen ho3 o
      have HO3 := Aside0.mk ho3
      clear ho3 hb3
      go_wp2_with fail
      refine bodyPost_ret (results_cell_row rfl _ _ (w.heap.size + 1) 25 #[.string r'.1, .string r'.2.1, .int .i64 r'.2.2.1, .bool r'.2.2.2] (0, 0) _ rfl ?_ Tryd.underlying25 rfl q2_) rfl ?_
      ·exact put4 HO3.out _ _ _ _
      ·exact ⟨rfl, below4 HB3.out (by omega) _ _ _ _⟩
     ·rw [if_neg s1] at h
      have s1b : (q1.toList == ([104, 116, 116, 112] : List UInt8)) = false := beq_eq_false_iff_ne.mpr s1
      by_cases s2 : q1.toList = ([104, 116, 116, 112, 115] : List UInt8)
      ·rw [if_pos s2] at h
       have s2b : (q1.toList == ([104, 116, 116, 112, 115] : List UInt8)) = true := beq_iff_eq.mpr s2
       clear s1 s2 e1
       obtain ⟨r', h5, h6⟩ := Option.bind_eq_some_iff.mp h
       have hr : (r'.1, r'.2.1, r'.2.2.1, r'.2.2.2) = r := Option.some.inj h6
       subst hr
       have H5 := Lib.hid h5
       clear h h5 h6
       go_wp2_with fail
       refine (IH.out k (by omega) ⟨q1, q2, q3, q4, q5, q6, q7, q8, q9, q10, q11, q12⟩ A8 c8 r' _ HC9.out hc8 H5.out).mono ?_
       rintro e w3 ⟨rfl, hb3⟩
       have ho3 := blk_below (blk_alloc HO1.out _) hb3
       have HB3 := Aside0.mk (below_step (below_alloc HB1.out _) hb3)
       have hz0 : w3.cell? ⟨w.heap.size + 1, 0, none⟩ = some (.string ⟨#[]⟩) := (blk_cell ho3 0).trans rfl
       have hz1 : w3.cell? ⟨w.heap.size + 1, 1, none⟩ = some (.string ⟨#[]⟩) := (blk_cell ho3 1).trans rfl
       have hz2 : w3.cell? ⟨w.heap.size + 1, 2, none⟩ = some (.int .i64 0) := (blk_cell ho3 2).trans rfl
       have hz3 : w3.cell? ⟨w.heap.size + 1, 3, none⟩ = some (.bool false) := (blk_cell ho3 3).trans rfl
       have hzf : ∀ o, w3.frozen? ⟨w.heap.size + 1, o, none⟩ = false := fun o => blk_frozen ho3 o
       have HO3 := Aside0.mk ho3
       clear ho3 hb3
       go_wp2_with fail
       refine bodyPost_ret (results_cell_row rfl _ _ (w.heap.size + 1) 25 #[.string r'.1, .string r'.2.1, .int .i64 r'.2.2.1, .bool r'.2.2.2] (0, 0) _ rfl ?_ Tryd.underlying25 rfl q2_) rfl ?_
       ·exact put4 HO3.out _ _ _ _
       ·exact ⟨rfl, below4 HB3.out (by omega) _ _ _ _⟩
      ·rw [if_neg s2] at h
       have s2b : (q1.toList == ([104, 116, 116, 112, 115] : List UInt8)) = false := beq_eq_false_iff_ne.mpr s2
       have H4 := Lib.hid h
       clear s1 s2 e1 h
       go_wp2_with fail
       go_meet
       case rel => exact ⟨k, ⟨H4.out⟩, ⟨blk_alloc HU1.out _⟩, ⟨blk_alloc HO1.out _⟩, ⟨below_alloc HB1.out _⟩, ⟨Kd.C_below HR1.out (below_alloc (Below.refl _ _) _)⟩⟩
    ·rw [if_neg e1] at h
     have e1b : (q13 == 0) = false := beq_eq_false_iff_ne.2 e1
     have H4 := Lib.hid h
     clear e1 h
     go_wp2_with fail
     go_meet
     case rel => exact ⟨k, ⟨H4.out⟩, ⟨blk_alloc HU1.out _⟩, ⟨blk_alloc HO1.out _⟩, ⟨below_alloc HB1.out _⟩, ⟨Kd.C_below HR1.out (below_alloc (Below.refl _ _) _)⟩⟩
  case rest =>
   clear HU HO HB HR HS HA HL y0 y1 y2 y3 y4 y5 y6 y7 y8 y9 y10 y11 yf IH
   obtain ⟨kq, HA, BK129, BK130, HB, HR2⟩ := hcut
   cases kq with
   | zero => exact absurd HA.out (by simp [oj1, ostiaryref4_Of.j1])
   | succ kq =>
   have H := HA.out
   simp only [oj1, ostiaryref4_Of.j1] at H
   obtain ⟨sp, h1, h⟩ := Option.bind_eq_some_iff.mp H
   have H1 := Lib.hid h1
   clear H HA h1
   obtain ⟨y0, y1, y2, y3, y4, y5, y6, y7, y8, y9, y10, y11, yf⟩ := cellsU_at BK129.out
   cases sp with
   | true =>
    rw [if_pos rfl] at h
    obtain ⟨p, h2, h⟩ := Option.bind_eq_some_iff.mp h
    have hr : (u.f0, u.f3, p, false) = r := Option.some.inj h
    subst hr
    have A60 := Aside0.mk h2
    clear h h2
    have NB129_130 := Aside0.mk (show w.heap.size ≠ w.heap.size + 1 by omega)
    have NB130_129 := Aside0.mk (show w.heap.size + 1 ≠ w.heap.size by omega)
    go_wp2_with fail
    refine (ostiaryref3_Special.calls kq u.f0 true _ H1.out).mono ?_
    rintro e w1 ⟨rfl, n1, rfl⟩
    go_wp2_with fail
    have bk1 := blk_drewN BK129.out n1
    have bk2 := blk_drewN BK130.out n1
    have bk3 := pw_below_drewN HB.out n1
    have bk4 := Kd.C_below HR2.out (pw_below_drewN (Below.refl wc.heap.size wc) n1)
    clear BK129 BK130 HB HR2 y0 y1 y2 y3 y4 y5 y6 y7 y8 y9 y10 y11 yf
    generalize wc.drewN n1 = wd at bk1 bk2 bk3 bk4 ⊢
    have BK129 := Aside0.mk (blk_drew bk1)
    have BK130 := Aside0.mk (blk_drew bk2)
    have HB := Aside0.mk (below_drew1 bk3)
    have HR2 := Aside0.mk (Kd.C_below bk4 (below_drew1 (Below.refl wd.heap.size wd)))
    clear bk1 bk2 bk3 bk4
    refine start_ (n := 8) (S := fun w' => w'.cell? ⟨w.heap.size, 0, none⟩ = some (.string u.f0) ∧ w'.cell? ⟨w.heap.size, 1, none⟩ = some (.string u.f1) ∧ w'.cell? ⟨w.heap.size, 2, none⟩ = some (.string u.f2) ∧ w'.cell? ⟨w.heap.size, 3, none⟩ = some (.string u.f3) ∧ w'.cell? ⟨w.heap.size, 4, none⟩ = some (.bool u.f4) ∧ w'.cell? ⟨w.heap.size, 5, none⟩ = some (.int .i64 u.f5) ∧ w'.cell? ⟨w.heap.size, 6, none⟩ = some (.bool u.f6) ∧ w'.cell? ⟨w.heap.size, 7, none⟩ = some (.slice A u.f7.length c) ∧ w'.cell? ⟨w.heap.size, 8, none⟩ = some (.string u.f8) ∧ w'.cell? ⟨w.heap.size, 9, none⟩ = some (.string u.f9) ∧ w'.cell? ⟨w.heap.size, 10, none⟩ = some (.bool u.f10) ∧ w'.cell? ⟨w.heap.size, 11, none⟩ = some (.bool u.f11)) (ds := []) #[false, false, false, false, false, false, false, false] q2_ rfl rfl ⟨(blk_cell BK129.out 0).trans rfl, (blk_cell BK129.out 1).trans rfl, (blk_cell BK129.out 2).trans rfl, (blk_cell BK129.out 3).trans rfl, (blk_cell BK129.out 4).trans rfl, (blk_cell BK129.out 5).trans rfl, (blk_cell BK129.out 6).trans rfl, (blk_cell BK129.out 7).trans rfl, (blk_cell BK129.out 8).trans rfl, (blk_cell BK129.out 9).trans rfl, (blk_cell BK129.out 10).trans rfl, (blk_cell BK129.out 11).trans rfl⟩ (fun hHeld => ?_); refine with_tabW ostiaryref4_Of.tab7 ostiaryref4_Of.bits7 (fun HT_ HW_ => ?_)
    generalize wd.drew = w63 at BK129 BK130 HB HR2 hHeld ⊢
    refine pure_ (i := 0) (N := some 45) (v := ?_) (a' := ?_) #[true, false, false, false, false, false, false, false] rfl rfl (any_of HT_.out q2_) (fun _ _ _ h => h) (Or.inl ⟨by rfl, ?_⟩) ?_ ?_
    rotate_left
    ·intro w'
     go_simp
     with_reducible rfl
    rotate_left
    ·simp only [Act.put, List.setIfInBounds_toArray, List.set_cons_zero, List.set_cons_succ, i64_w, i32_w]
     rfl
    refine pure_ (i := 2) (N := some 47) (v := ?_) (a' := ?_) #[true, false, true, false, false, false, false, false] rfl rfl (any_of HT_.out q2_) (fun _ _ _ h => h) (Or.inl ⟨by rfl, ?_⟩) ?_ ?_
    rotate_left
    ·intro w'
     go_simp
     with_reducible rfl
    rotate_left
    ·simp only [Act.put, List.setIfInBounds_toArray, List.set_cons_zero, List.set_cons_succ, i64_w, i32_w]
     rfl
    refine take_ (i := 1) (N := some 46) (v := ?_) (a' := ?_) #[true, true, true, false, false, false, false, false] rfl rfl (take_ofW HT_.out HW_.out q2_) (fun _ _ _ h => h) (Or.inl ⟨by rfl, ?_⟩) hHeld ?_ ?_
    rotate_left
    ·rintro w' ⟨s0, s1, s2, s3, s4, s5, s6, s7, s8, s9, s10, s11⟩
     go_simp
     with_reducible rfl
    rotate_left
    ·simp only [Act.put, List.setIfInBounds_toArray, List.set_cons_zero, List.set_cons_succ, i64_w, i32_w]
     rfl
    refine take_ (i := 3) (N := some 48) (v := ?_) (a' := ?_) #[true, true, true, true, false, false, false, false] rfl rfl (take_ofW HT_.out HW_.out q2_) (fun _ _ _ h => h) (Or.inl ⟨by rfl, ?_⟩) hHeld ?_ ?_
    rotate_left
    ·rintro w' ⟨s0, s1, s2, s3, s4, s5, s6, s7, s8, s9, s10, s11⟩
     go_simp
     with_reducible rfl
    rotate_left
    ·simp only [Act.put, List.setIfInBounds_toArray, List.set_cons_zero, List.set_cons_succ, i64_w, i32_w]
     rfl
    refine take_ (i := 4) (N := some 49) (v := ?_) (a' := ?_) #[true, true, true, true, true, false, false, false] rfl rfl (take_ofW HT_.out HW_.out q2_) (fun _ _ _ h => h) (Or.inl ⟨by rfl, ?_⟩) hHeld ?_ ?_
    rotate_left
    ·rintro w' ⟨s0, s1, s2, s3, s4, s5, s6, s7, s8, s9, s10, s11⟩
     go_simp
     with_reducible rfl
    rotate_left
    ·simp only [Act.put, List.setIfInBounds_toArray, List.set_cons_zero, List.set_cons_succ, i64_w, i32_w]
     rfl
    refine one_ (i := 5) (N := some 50) #[true, true, true, true, true, true, false, false] rfl rfl (one_of HT_.out q2_) (by decide) (fun K hK => ?_)
    refine goes_ Tryd.func85 q2_ rfl #[.agg #[.string u.f0, .string u.f1, .string u.f2, .string u.f3, .bool u.f4, .int .i64 u.f5, .bool u.f6, .slice A u.f7.length c, .string u.f8, .string u.f9, .bool u.f10, .bool u.f11]] (by rfl) rfl rfl tS ?_
    with_reducible refine (ostiaryref4_Port.calls kq u.f0 u.f1 u.f2 u.f3 u.f4 u.f5 u.f6 _ _ u.f7 u.f8 u.f9 u.f10 u.f11 p _ ?side1 ?side2 A60.out).mono ?_
    (case side1 => exact Kd.C_below HR2.out (Below.refl _ _))
    (case side2 => exact hc)
    rintro e w64 ⟨rfl, hb⟩
    refine ⟨_, rfl, ?_⟩
    have n0_ := Aside0.mk (blk_below (g := w.heap.size) (o := .cells #[.string u.f0, .string u.f1, .string u.f2, .string u.f3, .bool u.f4, .int .i64 u.f5, .bool u.f6, .slice A u.f7.length c, .string u.f8, .string u.f9, .bool u.f10, .bool u.f11] 86 (0, 0)) (by (with_reducible repeat (first | refine blk_drewN ?_ _ | refine blk_drew ?_ | refine blk_alloc ?_ _)); exact BK129.out) hb)
    have n1_ := Aside0.mk (blk_below (g := w.heap.size + 1) (o := .cells #[.string (⟨#[]⟩ : ByteArray), .string (⟨#[]⟩ : ByteArray), .int .i64 0, .bool false] 25 (0, 0)) (by (with_reducible repeat (first | refine blk_drewN ?_ _ | refine blk_drew ?_ | refine blk_alloc ?_ _)); exact BK130.out) hb)
    have n2_ := Aside0.mk (below_step (by repeat (first | (with_reducible first | exact HB.out | apply below_alloc | apply pw_below_drewN | apply below_drew1 | refine below_set ?_ GE129.out | refine below_set ?_ GE130.out) | exact HB.out)) hb)
    clear BK129
    clear BK130
    clear HB
    have BK129 := n0_
    have BK130 := n1_
    have HB := n2_
    clear n0_ n1_ n2_
    (try clear hb)
    (try clear hb2)
    (try clear hk)
    (try clear hi)
    refine hK.out _ _ ⟨(blk_cell BK129.out 0).trans rfl, (blk_cell BK129.out 1).trans rfl, (blk_cell BK129.out 2).trans rfl, (blk_cell BK129.out 3).trans rfl, (blk_cell BK129.out 4).trans rfl, (blk_cell BK129.out 5).trans rfl, (blk_cell BK129.out 6).trans rfl, (blk_cell BK129.out 7).trans rfl, (blk_cell BK129.out 8).trans rfl, (blk_cell BK129.out 9).trans rfl, (blk_cell BK129.out 10).trans rfl, (blk_cell BK129.out 11).trans rfl⟩ (fun hHeld => ?_)
    clear hK K
    refine norm_ (a' := ?_) ?_ ?_
    rotate_left
    ·show Act.put _ (some 50) _ = _
     simp only [Act.put, List.setIfInBounds_toArray, List.set_cons_zero, List.set_cons_succ, i64_w, i32_w]
     rfl
    refine pure_ (i := 6) (N := some 51) (v := ?_) (a' := ?_) #[true, true, true, true, true, true, true, false] rfl rfl (any_of HT_.out q2_) (fun _ _ _ h => h) (Or.inl ⟨by rfl, ?_⟩) ?_ ?_
    rotate_left
    ·intro w'
     go_simp
     with_reducible rfl
    rotate_left
    ·simp only [Act.put, List.setIfInBounds_toArray, List.set_cons_zero, List.set_cons_succ, i64_w, i32_w]
     rfl
    refine one_ (i := 7) (N := none) #[true, true, true, true, true, true, true, true] rfl rfl (one_of HT_.out q2_) (by decide) (fun K hK => ?_)
    have hs65 : w64.cell? ⟨w.heap.size + 1, 0, none⟩ = some (.string (⟨#[]⟩ : ByteArray)) := (blk_cell BK130.out 0).trans rfl
    have hfs65 := blk_frozen BK130.out 0
    have hns65_0 := NB129_130.out
    have hms65_0 := NB130_129.out
    have hs66 : w64.cell? ⟨w.heap.size + 1, 1, none⟩ = some (.string (⟨#[]⟩ : ByteArray)) := (blk_cell BK130.out 1).trans rfl
    have hfs66 := blk_frozen BK130.out 1
    have hns66_0 := NB129_130.out
    have hms66_0 := NB130_129.out
    have hs67 : w64.cell? ⟨w.heap.size + 1, 2, none⟩ = some (.int .i64 0) := (blk_cell BK130.out 2).trans rfl
    have hfs67 := blk_frozen BK130.out 2
    have hns67_0 := NB129_130.out
    have hms67_0 := NB130_129.out
    have hs68 : w64.cell? ⟨w.heap.size + 1, 3, none⟩ = some (.bool false) := (blk_cell BK130.out 3).trans rfl
    have hfs68 := blk_frozen BK130.out 3
    have hns68_0 := NB129_130.out
    have hms68_0 := NB130_129.out
    refine skip_ (w1 := ?_) (by rfl) rfl ?_ ?_
    rotate_left
    ·go_simp
     rfl
    refine hK.out _ _ ⟨((cell_far (p := ⟨w.heap.size + 1, _, none⟩) NB129_130.out _).trans (((cell_far (p := ⟨w.heap.size + 1, _, none⟩) NB129_130.out _).trans (((cell_far (p := ⟨w.heap.size + 1, _, none⟩) NB129_130.out _).trans (((cell_far (p := ⟨w.heap.size + 1, _, none⟩) NB129_130.out _).trans (hHeld.1)))))))), ((cell_far (p := ⟨w.heap.size + 1, _, none⟩) NB129_130.out _).trans (((cell_far (p := ⟨w.heap.size + 1, _, none⟩) NB129_130.out _).trans (((cell_far (p := ⟨w.heap.size + 1, _, none⟩) NB129_130.out _).trans (((cell_far (p := ⟨w.heap.size + 1, _, none⟩) NB129_130.out _).trans (hHeld.2.1)))))))), ((cell_far (p := ⟨w.heap.size + 1, _, none⟩) NB129_130.out _).trans (((cell_far (p := ⟨w.heap.size + 1, _, none⟩) NB129_130.out _).trans (((cell_far (p := ⟨w.heap.size + 1, _, none⟩) NB129_130.out _).trans (((cell_far (p := ⟨w.heap.size + 1, _, none⟩) NB129_130.out _).trans (hHeld.2.2.1)))))))), ((cell_far (p := ⟨w.heap.size + 1, _, none⟩) NB129_130.out _).trans (((cell_far (p := ⟨w.heap.size + 1, _, none⟩) NB129_130.out _).trans (((cell_far (p := ⟨w.heap.size + 1, _, none⟩) NB129_130.out _).trans (((cell_far (p := ⟨w.heap.size + 1, _, none⟩) NB129_130.out _).trans (hHeld.2.2.2.1)))))))), ((cell_far (p := ⟨w.heap.size + 1, _, none⟩) NB129_130.out _).trans (((cell_far (p := ⟨w.heap.size + 1, _, none⟩) NB129_130.out _).trans (((cell_far (p := ⟨w.heap.size + 1, _, none⟩) NB129_130.out _).trans (((cell_far (p := ⟨w.heap.size + 1, _, none⟩) NB129_130.out _).trans (hHeld.2.2.2.2.1)))))))), ((cell_far (p := ⟨w.heap.size + 1, _, none⟩) NB129_130.out _).trans (((cell_far (p := ⟨w.heap.size + 1, _, none⟩) NB129_130.out _).trans (((cell_far (p := ⟨w.heap.size + 1, _, none⟩) NB129_130.out _).trans (((cell_far (p := ⟨w.heap.size + 1, _, none⟩) NB129_130.out _).trans (hHeld.2.2.2.2.2.1)))))))), ((cell_far (p := ⟨w.heap.size + 1, _, none⟩) NB129_130.out _).trans (((cell_far (p := ⟨w.heap.size + 1, _, none⟩) NB129_130.out _).trans (((cell_far (p := ⟨w.heap.size + 1, _, none⟩) NB129_130.out _).trans (((cell_far (p := ⟨w.heap.size + 1, _, none⟩) NB129_130.out _).trans (hHeld.2.2.2.2.2.2.1)))))))), ((cell_far (p := ⟨w.heap.size + 1, _, none⟩) NB129_130.out _).trans (((cell_far (p := ⟨w.heap.size + 1, _, none⟩) NB129_130.out _).trans (((cell_far (p := ⟨w.heap.size + 1, _, none⟩) NB129_130.out _).trans (((cell_far (p := ⟨w.heap.size + 1, _, none⟩) NB129_130.out _).trans (hHeld.2.2.2.2.2.2.2.1)))))))), ((cell_far (p := ⟨w.heap.size + 1, _, none⟩) NB129_130.out _).trans (((cell_far (p := ⟨w.heap.size + 1, _, none⟩) NB129_130.out _).trans (((cell_far (p := ⟨w.heap.size + 1, _, none⟩) NB129_130.out _).trans (((cell_far (p := ⟨w.heap.size + 1, _, none⟩) NB129_130.out _).trans (hHeld.2.2.2.2.2.2.2.2.1)))))))), ((cell_far (p := ⟨w.heap.size + 1, _, none⟩) NB129_130.out _).trans (((cell_far (p := ⟨w.heap.size + 1, _, none⟩) NB129_130.out _).trans (((cell_far (p := ⟨w.heap.size + 1, _, none⟩) NB129_130.out _).trans (((cell_far (p := ⟨w.heap.size + 1, _, none⟩) NB129_130.out _).trans (hHeld.2.2.2.2.2.2.2.2.2.1)))))))), ((cell_far (p := ⟨w.heap.size + 1, _, none⟩) NB129_130.out _).trans (((cell_far (p := ⟨w.heap.size + 1, _, none⟩) NB129_130.out _).trans (((cell_far (p := ⟨w.heap.size + 1, _, none⟩) NB129_130.out _).trans (((cell_far (p := ⟨w.heap.size + 1, _, none⟩) NB129_130.out _).trans (hHeld.2.2.2.2.2.2.2.2.2.2.1)))))))), ((cell_far (p := ⟨w.heap.size + 1, _, none⟩) NB129_130.out _).trans (((cell_far (p := ⟨w.heap.size + 1, _, none⟩) NB129_130.out _).trans (((cell_far (p := ⟨w.heap.size + 1, _, none⟩) NB129_130.out _).trans (((cell_far (p := ⟨w.heap.size + 1, _, none⟩) NB129_130.out _).trans (hHeld.2.2.2.2.2.2.2.2.2.2.2))))))))⟩ (fun hHeld => ?_)
    clear hK K
    refine done_ (done_of HT_.out q2_) ?_
    go_wp2_with fail
    refine bodyPost_ret (results_cell_row rfl _ _ (w.heap.size + 1) 25 #[.string u.f0, .string u.f3, .int .i64 p, .bool false] (0, 0) _ rfl ?_ Tryd.underlying25 rfl q2_) rfl ?_
    ·exact put4 BK130.out _ _ _ _
    ·exact ⟨rfl, below4 HB.out (by omega) _ _ _ _⟩
   | false =>
    rw [if_neg (by simp)] at h
    have hr : ((⟨#[]⟩ : ByteArray), (⟨#[]⟩ : ByteArray), (0 : Int), true) = r := Option.some.inj h
    subst hr
    clear h
    go_wp2_with fail
    refine (ostiaryref3_Special.calls kq u.f0 false _ H1.out).mono ?_
    rintro e w1 ⟨rfl, n1, rfl⟩
    have ho3 := blk_drewN BK130.out n1
    have hz0 : wc.cell? ⟨w.heap.size + 1, 0, none⟩ = some (.string ⟨#[]⟩) := (blk_cell BK130.out 0).trans rfl
    have hz1 : wc.cell? ⟨w.heap.size + 1, 1, none⟩ = some (.string ⟨#[]⟩) := (blk_cell BK130.out 1).trans rfl
    have hz2 : wc.cell? ⟨w.heap.size + 1, 2, none⟩ = some (.int .i64 0) := (blk_cell BK130.out 2).trans rfl
    have hz3 : wc.cell? ⟨w.heap.size + 1, 3, none⟩ = some (.bool false) := (blk_cell BK130.out 3).trans rfl
    have hzf : ∀ o, wc.frozen? ⟨w.heap.size + 1, o, none⟩ = false := fun o => blk_frozen BK130.out o
    have HO3 := Aside0.mk ho3
    clear ho3
    go_wp2_with fail
    refine bodyPost_ret (results_cell_row rfl _ _ (w.heap.size + 1) 25 #[.string ⟨#[]⟩, .string ⟨#[]⟩, .int .i64 0, .bool true] (0, 0) _ rfl ?_ Tryd.underlying25 rfl q2_) rfl ?_
    ·exact put4 HO3.out _ _ _ _
    ·exact ⟨rfl, below4 (pw_below_drewN HB.out n1) (by omega) _ _ _ _⟩
theorem of_calls (k : Nat) : ∀ (f0 f1 f2 f3 : ByteArray) (f4 : Bool) (f5 : Int) (f6 : Bool) (A7 : Option Addr) (c7 : Nat) (f7 : List ByteArray) (f8 f9 : ByteArray) (f10 f11 : Bool) (r1 r2 : ByteArray) (r3 : Int) (r4 : Bool) (w : World) (hr : Kd.C Kd.string w A7 f7.length f7) (hc : f7.length ≤ c7) (h : ostiaryref4_Of.f k f0 f1 f2 f3 f4 f5 f6 f7 f8 f9 f10 f11 = some (r1, r2, r3, r4)),
  Calls Tryd.prog 47 #[.agg #[.string f0, .string f1, .string f2, .string f3, .bool f4, .int .i64 f5, .bool f6, .slice A7 f7.length c7, .string f8, .string f9, .bool f10, .bool f11]] w fun e w' => e = .returned (.agg #[.string r1, .string r2, .int .i64 r3, .bool r4]) ∧ Below w.heap.size w w' :=
 fun f0 f1 f2 f3 f4 f5 f6 A7 c7 f7 f8 f9 f10 f11 r1 r2 r3 r4 w hr hc h => of_walk k ⟨f0, f1, f2, f3, f4, f5, f6, f7, f8, f9, f10, f11⟩ A7 c7 (r1, r2, r3, r4) w hr hc h
end Go.Proofs.YtifmkgkiipckbaaDoor.P
