/- A part of the proof of CorsLess: texts of walks and plain lemmas. -/
import Derived.Test.YtifmkgkiipckbaaDoorX1
import Derived.Test.YtifmkgkiipckbaaDoorX21
import Derived.Test.YtifmkgkiipckbaaDoorX18
import Derived.Test.YtifmkgkiipckbaaDoorX20
import Derived.Test.YtifmkgkiipckbaaDoorX22
import Derived.Test.YtifmkgkiipckbaaDoorX14
namespace Go.Proofs.YtifmkgkiipckbaaDoor.P
open Go.RowKit Go.Proofs.YtifmkgkiipckbaaDoorW.PrintWords Go.Proofs.YtifmkgkiipckbaaDoorW.PrintLast Go.Proofs.YtifmkgkiipckbaaDoorW.PrintMore
attribute [local go_sem] max2_int min2_int max_two min_two max_three min_three max_four min_four
set_option linter.unusedVariables false
set_option linter.unusedSimpArgs false
mutual
def ostiarylaw18_CorsLess.j0 : Nat → List (S72) → ByteArray → Bool → ByteArray → ByteArray → Int → Bool → ByteArray → ByteArray → Int → Bool → Option (Bool)
 | 0, _, _, _, _, _, _, _, _, _, _, _ => none
 | k + 1, x2, x3, x29, x245000, x245001, x245002, x245003, x250000, x250001, x250002, x250003 => if x29 = true then (some false) else ((ostiaryref4_Text.f k x245000 x245001 x245002 x245003).bind fun t252 => ((ostiaryref4_Text.f k x250000 x250001 x250002 x250003).bind fun t253 => (if t252.toList = t253.toList then (ostiarylaw18_CorsLess.j1 k x3 false) else ((cors_Check.f k x245000 x245001 x245002 x245003 true x2).bind fun t254 => (if t254 = true then ((cors_Check.f k x250000 x250001 x250002 x250003 true x2).bind fun t255 => (ostiarylaw18_CorsLess.j1 k x3 t255)) else (ostiarylaw18_CorsLess.j1 k x3 false))))))
def ostiarylaw18_CorsLess.j1 : Nat → ByteArray → Bool → Option (Bool)
 | 0, _, _ => none
 | k + 1, x3, x44 => if x44 = true then (some false) else ((ostiarykeep_Few.f x3 60).bind fun t256 => ((cors_Method.f k t256).bind fun bt257 => ((cors_Method.f k bt257.1).bind fun bt259 => (if (bt257.2 == bt259.2) = true then (if bt257.1.toList = bt259.1.toList then ((ostiarylaw18_known.f k).bind fun t261 => (some t261)) else (some false)) else (some false)))))
end
def ostiarylaw18_CorsLess.f (k : Nat) (a0 : ByteArray) (a1 : ByteArray) (l2 : List (S72)) (a3 : ByteArray) : Option (Bool) := (ostiarykeep_FewHeaders.f k l2 10 100).bind fun t237 => ((ostiarylaw18_of.f k a0).bind fun bt240 => ((ostiarylaw18_of.f k a1).bind fun bt245 => ((cors_Check.f k bt240.1 bt240.2.1 bt240.2.2.1 bt240.2.2.2 true t237).bind fun t250 => (if t250 = true then ((cors_Check.f k bt240.1 bt240.2.1 bt240.2.2.1 bt240.2.2.2 false t237).bind fun t251 => (ostiarylaw18_CorsLess.j0 k t237 a3 (!t251) bt240.1 bt240.2.1 bt240.2.2.1 bt240.2.2.2 bt245.1 bt245.2.1 bt245.2.2.1 bt245.2.2.2)) else (ostiarylaw18_CorsLess.j0 k t237 a3 false bt240.1 bt240.2.1 bt240.2.2.1 bt240.2.2.2 bt245.1 bt245.2.1 bt245.2.2.1 bt245.2.2.2)))))
theorem ostiarylaw18_CorsLess.mono_l : ∀ k, (∀ y0 y1 y2 y3 y4 y5 y6 y7 y8 y9 y10, LeO (ostiarylaw18_CorsLess.j0 k y0 y1 y2 y3 y4 y5 y6 y7 y8 y9 y10) (ostiarylaw18_CorsLess.j0 (k + 1) y0 y1 y2 y3 y4 y5 y6 y7 y8 y9 y10)) ∧ (∀ y0 y1, LeO (ostiarylaw18_CorsLess.j1 k y0 y1) (ostiarylaw18_CorsLess.j1 (k + 1) y0 y1))
 | 0 => ⟨fun _ _ _ _ _ _ _ _ _ _ _ r h => by simp [ostiarylaw18_CorsLess.j0] at h, fun _ _ r h => by simp [ostiarylaw18_CorsLess.j1] at h⟩
 | k + 1 => by
  obtain ⟨ih0, ih1⟩ := ostiarylaw18_CorsLess.mono_l k
  refine ⟨?_, ?_⟩
  ·intro y0 y1 y2 y3 y4 y5 y6 y7 y8 y9 y10
   unfold ostiarylaw18_CorsLess.j0
   repeat' first
   | (with_reducible exact ih0 _ _ _ _ _ _ _ _ _ _ _)
   | (with_reducible exact ih1 _ _)
   | (with_reducible exact cors_Check.mono _ _ _ _ _ _ _)
   | (with_reducible exact cors_Method.mono _ _)
   | (with_reducible exact ostiarykeep_FewHeaders.mono _ _ _ _)
   | (with_reducible exact ostiarylaw18_known.mono _)
   | (with_reducible exact ostiarylaw18_of.mono _ _)
   | (with_reducible exact ostiaryref4_Text.mono _ _ _ _ _)
   | (with_reducible exact LeO.refl _)
   | (with_reducible exact LeO.none _)
   | (with_reducible refine LeO.ite ?_ ?_)
   | (with_reducible refine LeO.bind ?_ (fun _ => ?_))
   | exact ih0 _ _ _ _ _ _ _ _ _ _ _
   | exact ih1 _ _
   | exact cors_Check.mono _ _ _ _ _ _ _
   | exact cors_Method.mono _ _
   | exact ostiarykeep_FewHeaders.mono _ _ _ _
   | exact ostiarylaw18_known.mono _
   | exact ostiarylaw18_of.mono _ _
   | exact ostiaryref4_Text.mono _ _ _ _ _
   | exact LeO.none _
   | refine LeO.ite ?_ ?_
   | refine LeO.bind ?_ (fun _ => ?_)
  ·intro y0 y1
   unfold ostiarylaw18_CorsLess.j1
   repeat' first
   | (with_reducible exact ih0 _ _ _ _ _ _ _ _ _ _ _)
   | (with_reducible exact ih1 _ _)
   | (with_reducible exact cors_Check.mono _ _ _ _ _ _ _)
   | (with_reducible exact cors_Method.mono _ _)
   | (with_reducible exact ostiarykeep_FewHeaders.mono _ _ _ _)
   | (with_reducible exact ostiarylaw18_known.mono _)
   | (with_reducible exact ostiarylaw18_of.mono _ _)
   | (with_reducible exact ostiaryref4_Text.mono _ _ _ _ _)
   | (with_reducible exact LeO.refl _)
   | (with_reducible exact LeO.none _)
   | (with_reducible refine LeO.ite ?_ ?_)
   | (with_reducible refine LeO.bind ?_ (fun _ => ?_))
   | exact ih0 _ _ _ _ _ _ _ _ _ _ _
   | exact ih1 _ _
   | exact cors_Check.mono _ _ _ _ _ _ _
   | exact cors_Method.mono _ _
   | exact ostiarykeep_FewHeaders.mono _ _ _ _
   | exact ostiarylaw18_known.mono _
   | exact ostiarylaw18_of.mono _ _
   | exact ostiaryref4_Text.mono _ _ _ _ _
   | exact LeO.none _
   | refine LeO.ite ?_ ?_
   | refine LeO.bind ?_ (fun _ => ?_)
theorem ostiarylaw18_CorsLess.mono : ∀ a0 a1 a2 a3 k, LeO (ostiarylaw18_CorsLess.f k a0 a1 a2 a3) (ostiarylaw18_CorsLess.f (k + 1) a0 a1 a2 a3) := by
 intro a0 a1 a2 a3 k
 obtain ⟨ih0, ih1⟩ := ostiarylaw18_CorsLess.mono_l k
 unfold ostiarylaw18_CorsLess.f
 repeat' first
   | (with_reducible exact ih0 _ _ _ _ _ _ _ _ _ _ _)
   | (with_reducible exact ih1 _ _)
   | (with_reducible exact cors_Check.mono _ _ _ _ _ _ _)
   | (with_reducible exact cors_Method.mono _ _)
   | (with_reducible exact ostiarykeep_FewHeaders.mono _ _ _ _)
   | (with_reducible exact ostiarylaw18_known.mono _)
   | (with_reducible exact ostiarylaw18_of.mono _ _)
   | (with_reducible exact ostiaryref4_Text.mono _ _ _ _ _)
   | (with_reducible exact LeO.refl _)
   | (with_reducible exact LeO.none _)
   | (with_reducible refine LeO.ite ?_ ?_)
   | (with_reducible refine LeO.bind ?_ (fun _ => ?_))
   | exact ih0 _ _ _ _ _ _ _ _ _ _ _
   | exact ih1 _ _
   | exact cors_Check.mono _ _ _ _ _ _ _
   | exact cors_Method.mono _ _
   | exact ostiarykeep_FewHeaders.mono _ _ _ _
   | exact ostiarylaw18_known.mono _
   | exact ostiarylaw18_of.mono _ _
   | exact ostiaryref4_Text.mono _ _ _ _ _
   | exact LeO.none _
   | refine LeO.ite ?_ ?_
   | refine LeO.bind ?_ (fun _ => ?_)
def ostiarylaw18_CorsLess.T6 : Bool × List (List Nat × List Nat) := (true, [([], []), ([0], [0]), ([], []), ([2, 1], [2]), ([1, 3], [1, 3]), ([4, 3], [4]), ([5], [5]), ([5], [5]), ([6, 7, 5, 5], [5, 6, 7]), ([5, 8], [5, 8]), ([9, 8], [9]), ([10], [10]), ([10], [10]), ([11, 12, 10, 10], [10, 11, 12]), ([10, 13], [10, 13])])
def ostiarylaw18_CorsLess.B6 : List Nat := [0, 1, 0, 7, 15, 31, 63, 63, 255, 511, 1023, 2047, 2047, 8191, 16383]
theorem ostiarylaw18_CorsLess.tab6 : rtab .any (opsOf Tryd.f3 6) = ostiarylaw18_CorsLess.T6 := by kernel_rfl
theorem ostiarylaw18_CorsLess.bits6 : waitsOk ostiarylaw18_CorsLess.T6.2 ostiarylaw18_CorsLess.B6 = true := by kernel_rfl
set_option maxHeartbeats 8000000 in
set_option maxRecDepth 100000 in
theorem ostiarylaw18_CorsLess.calls (k : Nat) (a0 : ByteArray) (a1 : ByteArray) (A2 : Option Addr) (c2 : Nat) (l2 : List (S72)) (a3 : ByteArray) (r : Bool) (w : World) (hr2 : Kd.C k72 w A2 l2.length l2) (hc2 : l2.length ≤ c2) (hLdLPow : LPow w) (h : ostiarylaw18_CorsLess.f k a0 a1 l2 a3 = some r) :
  Calls Tryd.prog 3 #[.string a0, .string a1, .slice A2 l2.length c2, .string a3] w fun e w' => e = .returned (.bool r) ∧ Below w.heap.size w w' := by
 have HLdLPow := Aside0.mk hLdLPow
 clear hLdLPow
 have hu25 := Tryd.underlying25
 have HR2 := Aside0.mk hr2
 have HC2 := Aside0.mk hc2
 clear hr2 hc2
 have HB := Aside0.mk (Below.refl w.heap.size w)
 have H : ((ostiarykeep_FewHeaders.f k l2 10 100).bind fun t237 => ((ostiarylaw18_of.f k a0).bind fun bt240 => ((ostiarylaw18_of.f k a1).bind fun bt245 => ((cors_Check.f k bt240.1 bt240.2.1 bt240.2.2.1 bt240.2.2.2 true t237).bind fun t250 => (if t250 = true then ((cors_Check.f k bt240.1 bt240.2.1 bt240.2.2.1 bt240.2.2.2 false t237).bind fun t251 => (ostiarylaw18_CorsLess.j0 k t237 a3 (!t251) bt240.1 bt240.2.1 bt240.2.2.1 bt240.2.2.2 bt245.1 bt245.2.1 bt245.2.2.1 bt245.2.2.2)) else (ostiarylaw18_CorsLess.j0 k t237 a3 false bt240.1 bt240.2.1 bt240.2.2.1 bt240.2.2.2 bt245.1 bt245.2.1 bt245.2.2.1 bt245.2.2.2)))))) = some r := h
 clear h
 replace H := Option.bind_eq_some_iff.mp H
 obtain ⟨t237, A50, H⟩ := H
 replace H : ((ostiarylaw18_of.f k a0).bind fun bt240 => ((ostiarylaw18_of.f k a1).bind fun bt245 => ((cors_Check.f k bt240.1 bt240.2.1 bt240.2.2.1 bt240.2.2.2 true t237).bind fun t250 => (if t250 = true then ((cors_Check.f k bt240.1 bt240.2.1 bt240.2.2.1 bt240.2.2.2 false t237).bind fun t251 => (ostiarylaw18_CorsLess.j0 k t237 a3 (!t251) bt240.1 bt240.2.1 bt240.2.2.1 bt240.2.2.2 bt245.1 bt245.2.1 bt245.2.2.1 bt245.2.2.2)) else (ostiarylaw18_CorsLess.j0 k t237 a3 false bt240.1 bt240.2.1 bt240.2.2.1 bt240.2.2.2 bt245.1 bt245.2.1 bt245.2.2.1 bt245.2.2.2))))) = some r := H
 have A5 := Aside0.mk A50
 clear A50
 replace H := Option.bind_eq_some_iff.mp H
 obtain ⟨⟨t240, t241, t242, t243⟩, A60, H⟩ := H
 replace H : ((ostiarylaw18_of.f k a1).bind fun bt245 => ((cors_Check.f k t240 t241 t242 t243 true t237).bind fun t250 => (if t250 = true then ((cors_Check.f k t240 t241 t242 t243 false t237).bind fun t251 => (ostiarylaw18_CorsLess.j0 k t237 a3 (!t251) t240 t241 t242 t243 bt245.1 bt245.2.1 bt245.2.2.1 bt245.2.2.2)) else (ostiarylaw18_CorsLess.j0 k t237 a3 false t240 t241 t242 t243 bt245.1 bt245.2.1 bt245.2.2.1 bt245.2.2.2)))) = some r := H
 have A6 := Aside0.mk A60
 clear A60
 replace H := Option.bind_eq_some_iff.mp H
 obtain ⟨⟨t245, t246, t247, t248⟩, A70, H⟩ := H
 replace H : ((cors_Check.f k t240 t241 t242 t243 true t237).bind fun t250 => (if t250 = true then ((cors_Check.f k t240 t241 t242 t243 false t237).bind fun t251 => (ostiarylaw18_CorsLess.j0 k t237 a3 (!t251) t240 t241 t242 t243 t245 t246 t247 t248)) else (ostiarylaw18_CorsLess.j0 k t237 a3 false t240 t241 t242 t243 t245 t246 t247 t248))) = some r := H
 have A7 := Aside0.mk A70
 clear A70
 have HC8 := Aside0.mk H
 clear H
 go_enter Tryd.func3, Tryd.ntmps3
 go_upto_region 4 with (first | ((with_reducible refine gate_callee (f := 10) rfl ?_); refine goesL_ (some 16) rfl rfl Tryd.func10 q2_ rfl #[.slice A2 l2.length c2, .int .i64 10, .int .i64 100] rfl tS ?_; (with_reducible refine (ostiarykeep_FewHeaders.calls k _ _ l2 10 100 t237 _ ?side1 ?side2 A5.out).mono ?_); (case side1 => repeat (first | exact HR2.out | (with_reducible refine Kd.C_alloc ?_ _) | (with_reducible refine Kd.C_drewN ?_ _) | (with_reducible refine Kd.C_drew ?_))); (case side2 => exact HC2.out); rintro e w9 ⟨v238, rfl, ho0, hb⟩; refine ⟨_, rfl, ?_⟩; have n0_ := Aside0.mk (Kd.R_lower ho0 (below_size hB)); have n1_ := Aside0.mk (below_step hB hb); clear HB; have HO239 := n0_; have HB := n1_; clear n0_ n1_; (try clear hb); (try clear hb2); (try clear hk); (try clear hi); (try clear ho0)) | ((with_reducible refine gate_callee (f := 11) rfl ?_); refine goesL_ (some 18) rfl rfl Tryd.func11 q2_ rfl #[.string a0] rfl tS ?_; (with_reducible refine (ostiarylaw18_of.calls k a0 t240 t241 t242 t243 _ A6.out).mono ?_); rintro e w10 ⟨rfl, hb⟩; refine ⟨_, rfl, ?_⟩; have n0_ := Aside0.mk (Kd.R_below (by (with_reducible repeat (first | apply Kd.R_alloc | apply Kd.R_drewN | apply Kd.R_drew)); exact HO239.out) hb); have n1_ := Aside0.mk (below_step hB hb); clear HO239; clear HB; have HO239 := n0_; have HB := n1_; clear n0_ n1_; (try clear hb); (try clear hb2); (try clear hk); (try clear hi)) | ((with_reducible refine gate_dst (N := 9) rfl ?_); refine box_event ?hg (N := 9) ?hd (cs := #[.string (⟨#[]⟩ : ByteArray), .string (⟨#[]⟩ : ByteArray), .int .i64 0, .bool false]) (t := 25) ?hr ?_; (case hd => rfl); (case hg => rfl); (case hr => first | (go_simp; done) | (go_simp; rfl)); intro gb244 hg w11 hbox hb; have n0_ := Aside0.mk (Kd.R_below (by (with_reducible repeat (first | apply Kd.R_alloc | apply Kd.R_drewN | apply Kd.R_drew)); exact HO239.out) hb); have n1_ := Aside0.mk (below_step hB hb); have n2_ := Aside0.mk (hbox); have n3_ := Aside0.mk ((by rw [hg]; exact (below_size hB) : w.heap.size ≤ gb244)); have n4_ := Aside0.mk ((by rw [hg]; exact (below_size hB) : w.heap.size ≤ gb244)); clear HO239; clear HB; have HO239 := n0_; have HB := n1_; have BK244 := n2_; have GW244 := n3_; have GE244 := n4_; clear n0_ n1_ n2_ n3_ n4_; clear hb hbox hg; have hcz12_0 : w11.cell? ⟨gb244, 0, none⟩ = some (.string (⟨#[]⟩ : ByteArray)) := (blk_cell BK244.out 0).trans rfl; have hcz12_1 : w11.cell? ⟨gb244, 1, none⟩ = some (.string (⟨#[]⟩ : ByteArray)) := (blk_cell BK244.out 1).trans rfl; have hcz12_2 : w11.cell? ⟨gb244, 2, none⟩ = some (.int .i64 0) := (blk_cell BK244.out 2).trans rfl; have hcz12_3 : w11.cell? ⟨gb244, 3, none⟩ = some (.bool false) := (blk_cell BK244.out 3).trans rfl; have hfz12_0 := blk_frozen BK244.out 0; have hfz12_1 := blk_frozen BK244.out 1; have hfz12_2 := blk_frozen BK244.out 2; have hfz12_3 := blk_frozen BK244.out 3) | ((with_reducible refine gate_callee (f := 11) rfl ?_); refine goesL_ (some 20) rfl rfl Tryd.func11 q2_ rfl #[.string a1] rfl tS ?_; (with_reducible refine (ostiarylaw18_of.calls k a1 t245 t246 t247 t248 _ A7.out).mono ?_); rintro e w13 ⟨rfl, hb⟩; refine ⟨_, rfl, ?_⟩; have n0_ := Aside0.mk (Kd.R_below (by (with_reducible repeat (first | apply Kd.R_alloc | apply Kd.R_drewN | apply Kd.R_drew)); exact (Kd.R_mono (Kd.R_far (p := ⟨gb244, 3, none⟩) (Kd.R_far (p := ⟨gb244, 2, none⟩) (Kd.R_far (p := ⟨gb244, 1, none⟩) (Kd.R_far (p := ⟨gb244, 0, none⟩) (Kd.R_types HO239.out BK244.out (by decide)) (fun _ hk => hk.2) (.string t240)) (fun _ hk => hk.2) (.string t241)) (fun _ hk => hk.2) (.int .i64 t242)) (fun _ hk => hk.2) (.bool t243)) (fun _ h_ => h_.1))) hb); have n1_ := Aside0.mk (blk_below (g := gb244) (o := .cells #[.string t240, .string t241, .int .i64 t242, .bool t243] 25 (0, 0)) (by (with_reducible repeat (first | refine blk_drewN ?_ _ | refine blk_drew ?_ | refine blk_alloc ?_ _)); refine blk_put (cs := #[.string t240, .string t241, .int .i64 t242, .bool false]) ?_ 3 _ rfl; (with_reducible repeat (first | refine blk_drewN ?_ _ | refine blk_drew ?_ | refine blk_alloc ?_ _)); refine blk_put (cs := #[.string t240, .string t241, .int .i64 0, .bool false]) ?_ 2 _ rfl; (with_reducible repeat (first | refine blk_drewN ?_ _ | refine blk_drew ?_ | refine blk_alloc ?_ _)); refine blk_put (cs := #[.string t240, .string (⟨#[]⟩ : ByteArray), .int .i64 0, .bool false]) ?_ 1 _ rfl; (with_reducible repeat (first | refine blk_drewN ?_ _ | refine blk_drew ?_ | refine blk_alloc ?_ _)); refine blk_put (cs := #[.string (⟨#[]⟩ : ByteArray), .string (⟨#[]⟩ : ByteArray), .int .i64 0, .bool false]) ?_ 0 _ rfl; (with_reducible repeat (first | refine blk_drewN ?_ _ | refine blk_drew ?_ | refine blk_alloc ?_ _)); exact BK244.out) hb); have n2_ := Aside0.mk (below_step (by repeat (first | (with_reducible first | exact HB.out | apply below_alloc | apply pw_below_drewN | apply below_drew1 | refine below_set ?_ GE244.out) | exact HB.out)) hb); clear HO239; clear BK244; clear HB; have HO239 := n0_; have BK244 := n1_; have HB := n2_; clear n0_ n1_ n2_; (try clear hb); (try clear hb2); (try clear hk); (try clear hi)) | ((with_reducible refine gate_dst (N := 10) rfl ?_); refine box_event ?hg (N := 10) ?hd (cs := #[.string (⟨#[]⟩ : ByteArray), .string (⟨#[]⟩ : ByteArray), .int .i64 0, .bool false]) (t := 25) ?hr ?_; (case hd => rfl); (case hg => rfl); (case hr => first | (go_simp; done) | (go_simp; rfl)); intro gb249 hg w14 hbox hb; have n0_ := Aside0.mk (Kd.R_below (by (with_reducible repeat (first | apply Kd.R_alloc | apply Kd.R_drewN | apply Kd.R_drew)); exact HO239.out) hb); have n1_ := Aside0.mk (blk_below (g := gb244) (o := .cells #[.string t240, .string t241, .int .i64 t242, .bool t243] 25 (0, 0)) q3_ hb); have n2_ := Aside0.mk (below_step (by repeat (first | (with_reducible first | exact HB.out | apply below_alloc | apply pw_below_drewN | apply below_drew1 | refine below_set ?_ GE244.out) | exact HB.out)) hb); have n3_ := Aside0.mk (hbox); have n4_ := Aside0.mk ((by rw [hg]; exact (below_size (by repeat (first | (with_reducible first | exact HB.out | apply below_alloc | apply pw_below_drewN | apply below_drew1 | refine below_set ?_ GE244.out) | exact HB.out))) : w.heap.size ≤ gb249)); have n5_ := Aside0.mk ((by rw [hg]; exact (below_size (by repeat (first | (with_reducible first | exact HB.out | apply below_alloc | apply pw_below_drewN | apply below_drew1 | refine below_set ?_ GE244.out) | exact HB.out))) : w.heap.size ≤ gb249)); have n6_ := Aside0.mk ((by rw [hg]; exact Nat.ne_of_lt (blk_lt (g := gb244) (o := .cells #[.string t240, .string t241, .int .i64 t242, .bool t243] 25 (0, 0)) q3_) : gb244 ≠ gb249)); have n7_ := Aside0.mk ((by rw [hg]; exact Nat.ne_of_gt (blk_lt (g := gb244) (o := .cells #[.string t240, .string t241, .int .i64 t242, .bool t243] 25 (0, 0)) q3_) : gb249 ≠ gb244)); clear HO239; clear BK244; clear HB; have HO239 := n0_; have BK244 := n1_; have HB := n2_; have BK249 := n3_; have GW249 := n4_; have GE249 := n5_; have NB244_249 := n6_; have NB249_244 := n7_; clear n0_ n1_ n2_ n3_ n4_ n5_ n6_ n7_; clear hb hbox hg; have hnb15 := NB249_244.out; have hnc15 := NB244_249.out; have hcz16_0 : w14.cell? ⟨gb249, 0, none⟩ = some (.string (⟨#[]⟩ : ByteArray)) := (blk_cell BK249.out 0).trans rfl; have hcz16_1 : w14.cell? ⟨gb249, 1, none⟩ = some (.string (⟨#[]⟩ : ByteArray)) := (blk_cell BK249.out 1).trans rfl; have hcz16_2 : w14.cell? ⟨gb249, 2, none⟩ = some (.int .i64 0) := (blk_cell BK249.out 2).trans rfl; have hcz16_3 : w14.cell? ⟨gb249, 3, none⟩ = some (.bool false) := (blk_cell BK249.out 3).trans rfl; have hfz16_0 := blk_frozen BK249.out 0; have hfz16_1 := blk_frozen BK249.out 1; have hfz16_2 := blk_frozen BK249.out 2; have hfz16_3 := blk_frozen BK249.out 3))
 (try simp only [Act.put, List.setIfInBounds_toArray, List.set_cons_zero, List.set_cons_succ])
 go_cut [29] (fun v29 wc => ∃ (kq : Nat) (x29_7 : Bool), v29 = .bool x29_7 ∧ Aside0 (ostiarylaw18_CorsLess.j0 kq t237 a3 x29_7 t240 t241 t242 t243 t245 t246 t247 t248 = some r) ∧ Aside0 (kq ≤ k) ∧ Aside0 (Kd.R k72 72 wc w.heap.size (fun _ => True) v238 t237) ∧ Aside0 (wc.heap[gb244]? = some (.cells #[.string t240, .string t241, .int .i64 t242, .bool t243] 25 (0, 0))) ∧ Aside0 (wc.heap[gb249]? = some (.cells #[.string t245, .string t246, .int .i64 t247, .bool t248] 25 (0, 0))) ∧ Aside0 (Below w.heap.size w wc))
 case first =>
  have H := HC8.out
  clear HC8
  replace H := Option.bind_eq_some_iff.mp H
  obtain ⟨t250, A170, H⟩ := H
  replace H : (if t250 = true then ((cors_Check.f k t240 t241 t242 t243 false t237).bind fun t251 => (ostiarylaw18_CorsLess.j0 k t237 a3 (!t251) t240 t241 t242 t243 t245 t246 t247 t248)) else (ostiarylaw18_CorsLess.j0 k t237 a3 false t240 t241 t242 t243 t245 t246 t247 t248)) = some r := H
  have A17 := Aside0.mk A170
  clear A170
  by_cases c18 : t250 = true
  ·subst c18
   have H1 : ((cors_Check.f k t240 t241 t242 t243 false t237).bind fun t251 => (ostiarylaw18_CorsLess.j0 k t237 a3 (!t251) t240 t241 t242 t243 t245 t246 t247 t248)) = some r := by rw [if_pos rfl] at H; exact H
   clear H
   have H := H1
   clear H1
   replace H := Option.bind_eq_some_iff.mp H
   obtain ⟨t251, A190, H⟩ := H
   replace H : (ostiarylaw18_CorsLess.j0 k t237 a3 (!t251) t240 t241 t242 t243 t245 t246 t247 t248) = some r := H
   have A19 := Aside0.mk A190
   clear A190
   have H' := Aside0.mk H
   clear H
   have hnb20 := NB244_249.out
   have hnc20 := NB249_244.out
   have hcz21_0 : w14.cell? ⟨gb244, 0, none⟩ = some (.string t240) := (blk_cell BK244.out 0).trans rfl
   have hcz21_1 : w14.cell? ⟨gb244, 1, none⟩ = some (.string t241) := (blk_cell BK244.out 1).trans rfl
   have hcz21_2 : w14.cell? ⟨gb244, 2, none⟩ = some (.int .i64 t242) := (blk_cell BK244.out 2).trans rfl
   have hcz21_3 : w14.cell? ⟨gb244, 3, none⟩ = some (.bool t243) := (blk_cell BK244.out 3).trans rfl
   have hfz21_0 := blk_frozen BK244.out 0
   have hfz21_1 := blk_frozen BK244.out 1
   have hfz21_2 := blk_frozen BK244.out 2
   have hfz21_3 := blk_frozen BK244.out 3
   obtain ⟨Ao22, co22, eo22⟩ := Kd.R_slice HO239.out
   subst eo22
   have tok0 : True := trivial
   have tok1 : True := trivial
   go_wp2_with (first | (revert tok0; intro tok0; (with_reducible refine gate_callee (f := 12) rfl ?_); refine goesL_ (some 23) rfl rfl Tryd.func12 q2_ rfl #[.agg #[.string t240, .string t241, .int .i64 t242, .bool t243], .bool true, .slice Ao22 t237.length co22] rfl tS ?_; (with_reducible refine (cors_Check.calls k t240 t241 t242 t243 true _ _ t237 true _ ?side1 ?side2 ?side3 A17.out).mono ?_); (case side1 => refine (Kd.R_reads' (e := 72) (base := w.heap.size) (ok := fun k_ => True) (n := t237.length) (c := co22) ?_).2.2; exact q8_); (case side2 => exact (Kd.R_reads' HO239.out).2.1); (case side3 => first | exact HLdLPow.out | ((with_reducible repeat (first | exact HLdLPow.out | apply LPow.drewN | apply LPow.drew)); done) | exact LPow.below HLdLPow.out q0_); rintro e w23 ⟨rfl, hb⟩; refine ⟨_, rfl, ?_⟩; have n0_ := Aside0.mk (Kd.R_below q8_ hb); have n1_ := Aside0.mk (blk_below (g := gb244) (o := .cells #[.string t240, .string t241, .int .i64 t242, .bool t243] 25 (0, 0)) q18_ hb); have n2_ := Aside0.mk (blk_below (g := gb249) (o := .cells #[.string t245, .string t246, .int .i64 t247, .bool t248] 25 (0, 0)) (by (with_reducible repeat (first | refine blk_drewN ?_ _ | refine blk_drew ?_ | refine blk_alloc ?_ _)); refine blk_put (cs := #[.string t245, .string t246, .int .i64 t247, .bool false]) ?_ 3 _ rfl; (with_reducible repeat (first | refine blk_drewN ?_ _ | refine blk_drew ?_ | refine blk_alloc ?_ _)); refine blk_put (cs := #[.string t245, .string t246, .int .i64 0, .bool false]) ?_ 2 _ rfl; (with_reducible repeat (first | refine blk_drewN ?_ _ | refine blk_drew ?_ | refine blk_alloc ?_ _)); refine blk_put (cs := #[.string t245, .string (⟨#[]⟩ : ByteArray), .int .i64 0, .bool false]) ?_ 1 _ rfl; (with_reducible repeat (first | refine blk_drewN ?_ _ | refine blk_drew ?_ | refine blk_alloc ?_ _)); refine blk_put (cs := #[.string (⟨#[]⟩ : ByteArray), .string (⟨#[]⟩ : ByteArray), .int .i64 0, .bool false]) ?_ 0 _ rfl; (with_reducible repeat (first | refine blk_drewN ?_ _ | refine blk_drew ?_ | refine blk_alloc ?_ _)); exact BK249.out) hb); have n3_ := Aside0.mk (below_step q0_ hb); clear HO239; clear BK244; clear BK249; clear HB; have HO239 := n0_; have BK244 := n1_; have BK249 := n2_; have HB := n3_; clear n0_ n1_ n2_ n3_; (try clear hb); (try clear hb2); (try clear hk); (try clear hi); have hcz24_0 : w23.cell? ⟨gb244, 0, none⟩ = some (.string t240) := (blk_cell BK244.out 0).trans rfl; have hcz24_1 : w23.cell? ⟨gb244, 1, none⟩ = some (.string t241) := (blk_cell BK244.out 1).trans rfl; have hcz24_2 : w23.cell? ⟨gb244, 2, none⟩ = some (.int .i64 t242) := (blk_cell BK244.out 2).trans rfl; have hcz24_3 : w23.cell? ⟨gb244, 3, none⟩ = some (.bool t243) := (blk_cell BK244.out 3).trans rfl; have hfz24_0 := blk_frozen BK244.out 0; have hfz24_1 := blk_frozen BK244.out 1; have hfz24_2 := blk_frozen BK244.out 2; have hfz24_3 := blk_frozen BK244.out 3; clear tok0) | (revert tok1; intro tok1; go_at_call 12; (with_reducible refine (cors_Check.calls k t240 t241 t242 t243 false _ _ t237 t251 _ ?side1 ?side2 ?side3 A19.out).mono ?_); (case side1 => repeat (first | exact (Kd.R_reads' HO239.out).2.2 | (with_reducible refine Kd.C_alloc ?_ _) | (with_reducible refine Kd.C_drewN ?_ _) | (with_reducible refine Kd.C_drew ?_))); (case side2 => exact (Kd.R_reads' HO239.out).2.1); (case side3 => first | exact HLdLPow.out | ((with_reducible repeat (first | exact HLdLPow.out | apply LPow.drewN | apply LPow.drew)); done) | exact LPow.below HLdLPow.out q0_); rintro e w25 ⟨rfl, hb⟩; have n0_ := Aside0.mk (Kd.R_below (by (with_reducible repeat (first | apply Kd.R_alloc | apply Kd.R_drewN | apply Kd.R_drew)); exact HO239.out) hb); have n1_ := Aside0.mk (blk_below (g := gb244) (o := .cells #[.string t240, .string t241, .int .i64 t242, .bool t243] 25 (0, 0)) q3_ hb); have n2_ := Aside0.mk (blk_below (g := gb249) (o := .cells #[.string t245, .string t246, .int .i64 t247, .bool t248] 25 (0, 0)) q4_ hb); have n3_ := Aside0.mk (below_step q0_ hb); clear HO239; clear BK244; clear BK249; clear HB; have HO239 := n0_; have BK244 := n1_; have BK249 := n2_; have HB := n3_; clear n0_ n1_ n2_ n3_; (try clear hb); (try clear hb2); (try clear hk); (try clear hi); clear tok1))
   go_meet
   case rel => exact ⟨_, (!t251), rS, H', ⟨by first | omega | exact Nat.le_refl _⟩, ⟨by (with_reducible repeat (first | apply Kd.R_alloc | apply Kd.R_drewN | apply Kd.R_drew)); exact HO239.out⟩, ⟨by (with_reducible repeat (first | refine blk_drewN ?_ _ | refine blk_drew ?_ | refine blk_alloc ?_ _)); exact BK244.out⟩, ⟨by (with_reducible repeat (first | refine blk_drewN ?_ _ | refine blk_drew ?_ | refine blk_alloc ?_ _)); exact BK249.out⟩, ⟨by repeat (first | (with_reducible first | exact HB.out | apply below_alloc | apply pw_below_drewN | apply below_drew1 | refine below_set ?_ GE244.out | refine below_set ?_ GE249.out) | exact HB.out)⟩⟩
  ·replace c18 := Bool.eq_false_iff.mpr c18
   subst c18
   have H1 : (ostiarylaw18_CorsLess.j0 k t237 a3 false t240 t241 t242 t243 t245 t246 t247 t248) = some r := by rw [if_neg (show ¬ (false = true) by decide)] at H; exact H
   clear H
   have H := H1
   clear H1
   have H' := Aside0.mk H
   clear H
   have hnb26 := NB244_249.out
   have hnc26 := NB249_244.out
   have hcz27_0 : w14.cell? ⟨gb244, 0, none⟩ = some (.string t240) := (blk_cell BK244.out 0).trans rfl
   have hcz27_1 : w14.cell? ⟨gb244, 1, none⟩ = some (.string t241) := (blk_cell BK244.out 1).trans rfl
   have hcz27_2 : w14.cell? ⟨gb244, 2, none⟩ = some (.int .i64 t242) := (blk_cell BK244.out 2).trans rfl
   have hcz27_3 : w14.cell? ⟨gb244, 3, none⟩ = some (.bool t243) := (blk_cell BK244.out 3).trans rfl
   have hfz27_0 := blk_frozen BK244.out 0
   have hfz27_1 := blk_frozen BK244.out 1
   have hfz27_2 := blk_frozen BK244.out 2
   have hfz27_3 := blk_frozen BK244.out 3
   obtain ⟨Ao28, co28, eo28⟩ := Kd.R_slice HO239.out
   subst eo28
   go_wp2_with (first | ((with_reducible refine gate_callee (f := 12) rfl ?_); refine goesL_ (some 23) rfl rfl Tryd.func12 q2_ rfl #[.agg #[.string t240, .string t241, .int .i64 t242, .bool t243], .bool true, .slice Ao28 t237.length co28] rfl tS ?_; (with_reducible refine (cors_Check.calls k t240 t241 t242 t243 true _ _ t237 false _ ?side1 ?side2 ?side3 A17.out).mono ?_); (case side1 => refine (Kd.R_reads' (e := 72) (base := w.heap.size) (ok := fun k_ => True) (n := t237.length) (c := co28) ?_).2.2; exact q8_); (case side2 => exact (Kd.R_reads' HO239.out).2.1); (case side3 => first | exact HLdLPow.out | ((with_reducible repeat (first | exact HLdLPow.out | apply LPow.drewN | apply LPow.drew)); done) | exact LPow.below HLdLPow.out q0_); rintro e w29 ⟨rfl, hb⟩; refine ⟨_, rfl, ?_⟩; have n0_ := Aside0.mk (Kd.R_below q8_ hb); have n1_ := Aside0.mk (blk_below (g := gb244) (o := .cells #[.string t240, .string t241, .int .i64 t242, .bool t243] 25 (0, 0)) q18_ hb); have n2_ := Aside0.mk (blk_below (g := gb249) (o := .cells #[.string t245, .string t246, .int .i64 t247, .bool t248] 25 (0, 0)) (by (with_reducible repeat (first | refine blk_drewN ?_ _ | refine blk_drew ?_ | refine blk_alloc ?_ _)); refine blk_put (cs := #[.string t245, .string t246, .int .i64 t247, .bool false]) ?_ 3 _ rfl; (with_reducible repeat (first | refine blk_drewN ?_ _ | refine blk_drew ?_ | refine blk_alloc ?_ _)); refine blk_put (cs := #[.string t245, .string t246, .int .i64 0, .bool false]) ?_ 2 _ rfl; (with_reducible repeat (first | refine blk_drewN ?_ _ | refine blk_drew ?_ | refine blk_alloc ?_ _)); refine blk_put (cs := #[.string t245, .string (⟨#[]⟩ : ByteArray), .int .i64 0, .bool false]) ?_ 1 _ rfl; (with_reducible repeat (first | refine blk_drewN ?_ _ | refine blk_drew ?_ | refine blk_alloc ?_ _)); refine blk_put (cs := #[.string (⟨#[]⟩ : ByteArray), .string (⟨#[]⟩ : ByteArray), .int .i64 0, .bool false]) ?_ 0 _ rfl; (with_reducible repeat (first | refine blk_drewN ?_ _ | refine blk_drew ?_ | refine blk_alloc ?_ _)); exact BK249.out) hb); have n3_ := Aside0.mk (below_step q0_ hb); clear HO239; clear BK244; clear BK249; clear HB; have HO239 := n0_; have BK244 := n1_; have BK249 := n2_; have HB := n3_; clear n0_ n1_ n2_ n3_; (try clear hb); (try clear hb2); (try clear hk); (try clear hi)))
   go_meet
   case rel => exact ⟨_, (false), rS, H', ⟨by first | omega | exact Nat.le_refl _⟩, ⟨by (with_reducible repeat (first | apply Kd.R_alloc | apply Kd.R_drewN | apply Kd.R_drew)); exact HO239.out⟩, ⟨by (with_reducible repeat (first | refine blk_drewN ?_ _ | refine blk_drew ?_ | refine blk_alloc ?_ _)); exact BK244.out⟩, ⟨by (with_reducible repeat (first | refine blk_drewN ?_ _ | refine blk_drew ?_ | refine blk_alloc ?_ _)); exact BK249.out⟩, ⟨by repeat (first | (with_reducible first | exact HB.out | apply below_alloc | apply pw_below_drewN | apply below_drew1 | refine below_set ?_ GE244.out | refine below_set ?_ GE249.out) | exact HB.out)⟩⟩
 case rest =>
  clear HC8
  try clear c1
  try clear c2
  try clear p2
  try clear c3
  try clear c10
  try clear c11
  try clear c12
  try clear c15
  try clear c18
  try clear c20
  try clear c26
  try clear hcz12_0
  try clear hcz12_1
  try clear hcz12_2
  try clear hcz12_3
  try clear hcz16_0
  try clear hcz16_1
  try clear hcz16_2
  try clear hcz16_3
  try clear hcz21_0
  try clear hcz21_1
  try clear hcz21_2
  try clear hcz21_3
  try clear hcz24_0
  try clear hcz24_1
  try clear hcz24_2
  try clear hcz24_3
  try clear hcz27_0
  try clear hcz27_1
  try clear hcz27_2
  try clear hcz27_3
  try clear hfz12_0
  try clear hfz12_1
  try clear hfz12_2
  try clear hfz12_3
  try clear hfz16_0
  try clear hfz16_1
  try clear hfz16_2
  try clear hfz16_3
  try clear hfz21_0
  try clear hfz21_1
  try clear hfz21_2
  try clear hfz21_3
  try clear hfz24_0
  try clear hfz24_1
  try clear hfz24_2
  try clear hfz24_3
  try clear hfz27_0
  try clear hfz27_1
  try clear hfz27_2
  try clear hfz27_3
  obtain ⟨kq, x29_7, rfl, HA, HJ7, HO_2, BK244, BK249, HB⟩ := hcut
  cases kq with
  | zero => exact absurd HA.out (by simp [ostiarylaw18_CorsLess.j0])
  | succ kj7 =>
   have H := HA.out
   clear HA
   simp only [ostiarylaw18_CorsLess.j0] at H
   by_cases c30 : x29_7 = true
   ·subst c30
    have H1 : (some false) = some r := by rw [if_pos rfl] at H; exact H
    clear H
    have H := H1
    clear H1
    obtain rfl := Option.some.inj H
    go_wp2
    go_ret
    exact ⟨by first | rfl | (simp [errW_none, errW_some] <;> rfl) | (simp [*, errW_none, errW_some] <;> rfl), by repeat (first | (with_reducible first | exact HB.out | apply below_alloc | apply pw_below_drewN | apply below_drew1 | refine below_set ?_ GE244.out | refine below_set ?_ GE249.out) | exact HB.out)⟩
   ·replace c30 := Bool.eq_false_iff.mpr c30
    subst c30
    have H1 : ((ostiaryref4_Text.f kj7 t240 t241 t242 t243).bind fun t252 => ((ostiaryref4_Text.f kj7 t245 t246 t247 t248).bind fun t253 => (if t252.toList = t253.toList then (ostiarylaw18_CorsLess.j1 kj7 a3 false) else ((cors_Check.f kj7 t240 t241 t242 t243 true t237).bind fun t254 => (if t254 = true then ((cors_Check.f kj7 t245 t246 t247 t248 true t237).bind fun t255 => (ostiarylaw18_CorsLess.j1 kj7 a3 t255)) else (ostiarylaw18_CorsLess.j1 kj7 a3 false)))))) = some r := by rw [if_neg (show ¬ (false = true) by decide)] at H; exact H
    clear H
    have H := H1
    clear H1
    have HC31 := Aside0.mk H
    clear H
    go_upto_region 6 with (fail)
    go_cut [44] (fun v44 wc => ∃ (kq : Nat) (x44_30 : Bool), v44 = .bool x44_30 ∧ Aside0 (ostiarylaw18_CorsLess.j1 kq a3 x44_30 = some r) ∧ Aside0 (kq ≤ kj7) ∧ Aside0 (wc.heap[gb244]? = some (.cells #[.string t240, .string t241, .int .i64 t242, .bool t243] 25 (0, 0))) ∧ Aside0 (wc.heap[gb249]? = some (.cells #[.string t245, .string t246, .int .i64 t247, .bool t248] 25 (0, 0))) ∧ Aside0 (Below w.heap.size w wc))
    case first =>
     have H := HC31.out
     clear HC31
     replace H := Option.bind_eq_some_iff.mp H
     obtain ⟨t252, A320, H⟩ := H
     replace H : ((ostiaryref4_Text.f kj7 t245 t246 t247 t248).bind fun t253 => (if t252.toList = t253.toList then (ostiarylaw18_CorsLess.j1 kj7 a3 false) else ((cors_Check.f kj7 t240 t241 t242 t243 true t237).bind fun t254 => (if t254 = true then ((cors_Check.f kj7 t245 t246 t247 t248 true t237).bind fun t255 => (ostiarylaw18_CorsLess.j1 kj7 a3 t255)) else (ostiarylaw18_CorsLess.j1 kj7 a3 false))))) = some r := H
     have A32 := Aside0.mk A320
     clear A320
     replace H := Option.bind_eq_some_iff.mp H
     obtain ⟨t253, A330, H⟩ := H
     replace H : (if t252.toList = t253.toList then (ostiarylaw18_CorsLess.j1 kj7 a3 false) else ((cors_Check.f kj7 t240 t241 t242 t243 true t237).bind fun t254 => (if t254 = true then ((cors_Check.f kj7 t245 t246 t247 t248 true t237).bind fun t255 => (ostiarylaw18_CorsLess.j1 kj7 a3 t255)) else (ostiarylaw18_CorsLess.j1 kj7 a3 false)))) = some r := H
     have A33 := Aside0.mk A330
     clear A330
     by_cases c34 : t252.toList = t253.toList
     ·rw [if_pos c34] at H
      have c34b0 : (t252.toList == t253.toList) = true := beq_iff_eq.mpr c34
      have c34b1 : (t252.toList != t253.toList) = false := bne_eq_false_iff_eq.mpr c34
      clear c34
      (first | rw [c34b0] | (simp only [i64_w, i32_w]; rw [c34b0]) | skip)
      have H' := Aside0.mk H
      clear H
      try go_wp2
      have n0_ := Aside0.mk (Kd.R_drew HO_2.out)
      have n1_ := Aside0.mk (blk_drew BK244.out)
      have n2_ := Aside0.mk (blk_drew BK249.out)
      have n3_ := Aside0.mk (below_drew1 HB.out)
      clear HO_2
      clear BK244
      clear BK249
      clear HB
      have HO_2 := n0_
      have BK244 := n1_
      have BK249 := n2_
      have HB := n3_
      clear n0_ n1_ n2_ n3_
      refine start_ (n := 15) (S := fun w' => w'.cell? ⟨gb244, 0, none⟩ = some (.string t240) ∧ w'.cell? ⟨gb244, 1, none⟩ = some (.string t241) ∧ w'.cell? ⟨gb244, 2, none⟩ = some (.int .i64 t242) ∧ w'.cell? ⟨gb244, 3, none⟩ = some (.bool t243) ∧ w'.cell? ⟨gb249, 0, none⟩ = some (.string t245) ∧ w'.cell? ⟨gb249, 1, none⟩ = some (.string t246) ∧ w'.cell? ⟨gb249, 2, none⟩ = some (.int .i64 t247) ∧ w'.cell? ⟨gb249, 3, none⟩ = some (.bool t248)) (ds := []) #[false, false, false, false, false, false, false, false, false, false, false, false, false, false, false] q2_ rfl rfl ⟨(blk_cell BK244.out 0).trans rfl, (blk_cell BK244.out 1).trans rfl, (blk_cell BK244.out 2).trans rfl, (blk_cell BK244.out 3).trans rfl, (blk_cell BK249.out 0).trans rfl, (blk_cell BK249.out 1).trans rfl, (blk_cell BK249.out 2).trans rfl, (blk_cell BK249.out 3).trans rfl⟩ (fun hHeld => ?_); refine with_tabW ostiarylaw18_CorsLess.tab6 ostiarylaw18_CorsLess.bits6 (fun HT_ HW_ => ?_)
      generalize wc.drew = w35 at HO_2 BK244 BK249 HB hHeld ⊢
      refine take_ (i := 0) (N := some 30) (v := ?_) (a' := ?_) #[true, false, false, false, false, false, false, false, false, false, false, false, false, false, false] rfl rfl (take_ofW HT_.out HW_.out q2_) (fun _ _ _ h => h) (Or.inl ⟨by rfl, ?_⟩) hHeld ?_ ?_
      rotate_left
      ·rintro w' ⟨s0, s1, s2, s3, s4, s5, s6, s7⟩
       go_simp
       with_reducible rfl
      rotate_left
      ·simp only [Act.put, List.setIfInBounds_toArray, List.set_cons_zero, List.set_cons_succ, i64_w, i32_w]
       rfl
      refine take_ (i := 2) (N := some 32) (v := ?_) (a' := ?_) #[true, false, true, false, false, false, false, false, false, false, false, false, false, false, false] rfl rfl (take_ofW HT_.out HW_.out q2_) (fun _ _ _ h => h) (Or.inl ⟨by rfl, ?_⟩) hHeld ?_ ?_
      rotate_left
      ·rintro w' ⟨s0, s1, s2, s3, s4, s5, s6, s7⟩
       go_simp
       with_reducible rfl
      rotate_left
      ·simp only [Act.put, List.setIfInBounds_toArray, List.set_cons_zero, List.set_cons_succ, i64_w, i32_w]
       rfl
      refine one_ (i := 1) (N := some 31) #[true, true, true, false, false, false, false, false, false, false, false, false, false, false, false] rfl rfl (one_of HT_.out q2_) (by decide) (fun K hK => ?_)
      refine goes_ Tryd.func13 q2_ rfl #[.agg #[.string t240, .string t241, .int .i64 t242, .bool t243]] (by rfl) rfl rfl tS ?_
      with_reducible refine (ostiaryref4_Text.calls kj7 t240 t241 t242 t243 t252 _ A32.out).mono ?_
      rintro e w36 ⟨rfl, hb⟩
      refine ⟨_, rfl, ?_⟩
      have n0_ := Aside0.mk (Kd.R_below q13_ hb)
      have n1_ := Aside0.mk (blk_below (g := gb244) (o := .cells #[.string t240, .string t241, .int .i64 t242, .bool t243] 25 (0, 0)) q3_ hb)
      have n2_ := Aside0.mk (blk_below (g := gb249) (o := .cells #[.string t245, .string t246, .int .i64 t247, .bool t248] 25 (0, 0)) q4_ hb)
      have n3_ := Aside0.mk (below_step q0_ hb)
      clear HO_2
      clear BK244
      clear BK249
      clear HB
      have HO_2 := n0_
      have BK244 := n1_
      have BK249 := n2_
      have HB := n3_
      clear n0_ n1_ n2_ n3_
      (try clear hb)
      (try clear hb2)
      (try clear hk)
      (try clear hi)
      refine hK.out _ _ ⟨(blk_cell BK244.out 0).trans rfl, (blk_cell BK244.out 1).trans rfl, (blk_cell BK244.out 2).trans rfl, (blk_cell BK244.out 3).trans rfl, (blk_cell BK249.out 0).trans rfl, (blk_cell BK249.out 1).trans rfl, (blk_cell BK249.out 2).trans rfl, (blk_cell BK249.out 3).trans rfl⟩ (fun hHeld => ?_)
      clear hK K
      refine norm_ (a' := ?_) ?_ ?_
      rotate_left
      ·show Act.put _ (some 31) _ = _
       simp only [Act.put, List.setIfInBounds_toArray, List.set_cons_zero, List.set_cons_succ, i64_w, i32_w]
       rfl
      refine one_ (i := 3) (N := some 33) #[true, true, true, true, false, false, false, false, false, false, false, false, false, false, false] rfl rfl (one_of HT_.out q2_) (by decide) (fun K hK => ?_)
      refine goes_ Tryd.func13 q2_ rfl #[.agg #[.string t245, .string t246, .int .i64 t247, .bool t248]] (by rfl) rfl rfl tS ?_
      with_reducible refine (ostiaryref4_Text.calls kj7 t245 t246 t247 t248 t253 _ A33.out).mono ?_
      rintro e w37 ⟨rfl, hb⟩
      refine ⟨_, rfl, ?_⟩
      have n0_ := Aside0.mk (Kd.R_below q13_ hb)
      have n1_ := Aside0.mk (blk_below (g := gb244) (o := .cells #[.string t240, .string t241, .int .i64 t242, .bool t243] 25 (0, 0)) q3_ hb)
      have n2_ := Aside0.mk (blk_below (g := gb249) (o := .cells #[.string t245, .string t246, .int .i64 t247, .bool t248] 25 (0, 0)) q4_ hb)
      have n3_ := Aside0.mk (below_step q0_ hb)
      clear HO_2
      clear BK244
      clear BK249
      clear HB
      have HO_2 := n0_
      have BK244 := n1_
      have BK249 := n2_
      have HB := n3_
      clear n0_ n1_ n2_ n3_
      (try clear hb)
      (try clear hb2)
      (try clear hk)
      (try clear hi)
      refine hK.out _ _ ⟨(blk_cell BK244.out 0).trans rfl, (blk_cell BK244.out 1).trans rfl, (blk_cell BK244.out 2).trans rfl, (blk_cell BK244.out 3).trans rfl, (blk_cell BK249.out 0).trans rfl, (blk_cell BK249.out 1).trans rfl, (blk_cell BK249.out 2).trans rfl, (blk_cell BK249.out 3).trans rfl⟩ (fun hHeld => ?_)
      clear hK K
      refine norm_ (a' := ?_) ?_ ?_
      rotate_left
      ·show Act.put _ (some 33) _ = _
       simp only [Act.put, List.setIfInBounds_toArray, List.set_cons_zero, List.set_cons_succ, i64_w, i32_w]
       rfl
      refine pure_ (i := 4) (N := some 34) (v := ?_) (a' := ?_) #[true, true, true, true, true, false, false, false, false, false, false, false, false, false, false] rfl rfl (any_of HT_.out q2_) (fun _ _ _ h => h) (Or.inl ⟨by rfl, ?_⟩) ?_ ?_
      rotate_left
      ·intro w'
       go_simp
       with_reducible rfl
      rotate_left
      ·simp only [Act.put, List.setIfInBounds_toArray, List.set_cons_zero, List.set_cons_succ, i64_w, i32_w]
       rfl
      refine pure_ (i := 5) (N := some 35) (v := ?_) (a' := ?_) #[true, true, true, true, true, true, false, false, false, false, false, false, false, false, false] rfl rfl (any_of HT_.out q2_) (fun _ _ _ h => h) (Or.inl ⟨by rfl, ?_⟩) ?_ ?_
      rotate_left
      ·intro w'
       go_simp
       with_reducible rfl
      rotate_left
      ·simp only [Act.put, List.setIfInBounds_toArray, List.set_cons_zero, List.set_cons_succ, i64_w, i32_w]
       rfl
      refine pure_ (i := 6) (N := some 36) (v := undef) (a' := ?_) #[true, true, true, true, true, true, true, false, false, false, false, false, false, false, false] rfl rfl (any_of HT_.out q2_) (fun _ _ _ h => h) (Or.inr ⟨by rfl, rfl⟩) ?_ ?_
      rotate_left
      ·simp only [Act.put, List.setIfInBounds_toArray, List.set_cons_zero, List.set_cons_succ, i64_w, i32_w]
       rfl
      refine pure_ (i := 7) (N := some 37) (v := undef) (a' := ?_) #[true, true, true, true, true, true, true, true, false, false, false, false, false, false, false] rfl rfl (any_of HT_.out q2_) (fun _ _ _ h => h) (Or.inr ⟨by rfl, rfl⟩) ?_ ?_
      rotate_left
      ·simp only [Act.put, List.setIfInBounds_toArray, List.set_cons_zero, List.set_cons_succ, i64_w, i32_w]
       rfl
      refine pure_ (i := 8) (N := some 38) (v := undef) (a' := ?_) #[true, true, true, true, true, true, true, true, true, false, false, false, false, false, false] rfl rfl (any_of HT_.out q2_) (fun _ _ _ h => h) (Or.inr ⟨by rfl, rfl⟩) ?_ ?_
      rotate_left
      ·simp only [Act.put, List.setIfInBounds_toArray, List.set_cons_zero, List.set_cons_succ, i64_w, i32_w]
       rfl
      refine pure_ (i := 9) (N := some 39) (v := ?_) (a' := ?_) #[true, true, true, true, true, true, true, true, true, true, false, false, false, false, false] rfl rfl (any_of HT_.out q2_) (fun _ _ _ h => h) (Or.inl ⟨by rfl, ?_⟩) ?_ ?_
      rotate_left
      ·intro w'
       go_simp
       with_reducible rfl
      rotate_left
      ·simp only [Act.put, List.setIfInBounds_toArray, List.set_cons_zero, List.set_cons_succ, i64_w, i32_w]
       rfl
      refine pure_ (i := 10) (N := some 40) (v := ?_) (a' := ?_) #[true, true, true, true, true, true, true, true, true, true, true, false, false, false, false] rfl rfl (any_of HT_.out q2_) (fun _ _ _ h => h) (Or.inl ⟨by rfl, ?_⟩) ?_ ?_
      rotate_left
      ·intro w'
       go_simp
       with_reducible rfl
      rotate_left
      ·simp only [Act.put, List.setIfInBounds_toArray, List.set_cons_zero, List.set_cons_succ, i64_w, i32_w]
       rfl
      refine pure_ (i := 11) (N := some 41) (v := undef) (a' := ?_) #[true, true, true, true, true, true, true, true, true, true, true, true, false, false, false] rfl rfl (any_of HT_.out q2_) (fun _ _ _ h => h) (Or.inr ⟨by rfl, rfl⟩) ?_ ?_
      rotate_left
      ·simp only [Act.put, List.setIfInBounds_toArray, List.set_cons_zero, List.set_cons_succ, i64_w, i32_w]
       rfl
      refine pure_ (i := 12) (N := some 42) (v := undef) (a' := ?_) #[true, true, true, true, true, true, true, true, true, true, true, true, true, false, false] rfl rfl (any_of HT_.out q2_) (fun _ _ _ h => h) (Or.inr ⟨by rfl, rfl⟩) ?_ ?_
      rotate_left
      ·simp only [Act.put, List.setIfInBounds_toArray, List.set_cons_zero, List.set_cons_succ, i64_w, i32_w]
       rfl
      refine pure_ (i := 13) (N := some 43) (v := undef) (a' := ?_) #[true, true, true, true, true, true, true, true, true, true, true, true, true, true, false] rfl rfl (any_of HT_.out q2_) (fun _ _ _ h => h) (Or.inr ⟨by rfl, rfl⟩) ?_ ?_
      rotate_left
      ·simp only [Act.put, List.setIfInBounds_toArray, List.set_cons_zero, List.set_cons_succ, i64_w, i32_w]
       rfl
      refine pure_ (i := 14) (N := some 44) (v := ?_) (a' := ?_) #[true, true, true, true, true, true, true, true, true, true, true, true, true, true, true] rfl rfl (any_of HT_.out q2_) (fun _ _ _ h => h) (Or.inl ⟨by rfl, ?_⟩) ?_ ?_
      rotate_left
      ·intro w'
       go_simp
       with_reducible rfl
      rotate_left
      ·simp only [Act.put, List.setIfInBounds_toArray, List.set_cons_zero, List.set_cons_succ, i64_w, i32_w]
       rfl
      refine done_ (done_of HT_.out q2_) ?_
      try go_wp2
      go_meet
      case rel => exact ⟨_, (false), rS, H', ⟨by have := HJ7.out; first | omega | exact Nat.le_refl _⟩, ⟨by (with_reducible repeat (first | refine blk_drewN ?_ _ | refine blk_drew ?_ | refine blk_alloc ?_ _)); exact BK244.out⟩, ⟨by (with_reducible repeat (first | refine blk_drewN ?_ _ | refine blk_drew ?_ | refine blk_alloc ?_ _)); exact BK249.out⟩, ⟨by repeat (first | (with_reducible first | exact HB.out | apply below_alloc | apply pw_below_drewN | apply below_drew1 | refine below_set ?_ GE244.out | refine below_set ?_ GE249.out) | exact HB.out)⟩⟩
     ·rw [if_neg c34] at H
      have c34b0 : (t252.toList == t253.toList) = false := beq_eq_false_iff_ne.mpr c34
      have c34b1 : (t252.toList != t253.toList) = true := bne_iff_ne.mpr c34
      (first | rw [c34b0] | (simp only [i64_w, i32_w]; rw [c34b0]) | skip)
      replace H := Option.bind_eq_some_iff.mp H
      obtain ⟨t254, A380, H⟩ := H
      replace H : (if t254 = true then ((cors_Check.f kj7 t245 t246 t247 t248 true t237).bind fun t255 => (ostiarylaw18_CorsLess.j1 kj7 a3 t255)) else (ostiarylaw18_CorsLess.j1 kj7 a3 false)) = some r := H
      have A38 := Aside0.mk A380
      clear A380
      by_cases c39 : t254 = true
      ·subst c39
       have H1 : ((cors_Check.f kj7 t245 t246 t247 t248 true t237).bind fun t255 => (ostiarylaw18_CorsLess.j1 kj7 a3 t255)) = some r := by rw [if_pos rfl] at H; exact H
       clear H
       have H := H1
       clear H1
       replace H := Option.bind_eq_some_iff.mp H
       obtain ⟨t255, A400, H⟩ := H
       replace H : (ostiarylaw18_CorsLess.j1 kj7 a3 t255) = some r := H
       have A40 := Aside0.mk A400
       clear A400
       have H' := Aside0.mk H
       clear H
       try go_wp2
       have n0_ := Aside0.mk (Kd.R_drew HO_2.out)
       have n1_ := Aside0.mk (blk_drew BK244.out)
       have n2_ := Aside0.mk (blk_drew BK249.out)
       have n3_ := Aside0.mk (below_drew1 HB.out)
       clear HO_2
       clear BK244
       clear BK249
       clear HB
       have HO_2 := n0_
       have BK244 := n1_
       have BK249 := n2_
       have HB := n3_
       clear n0_ n1_ n2_ n3_
       refine start_ (n := 15) (S := fun w' => w'.cell? ⟨gb244, 0, none⟩ = some (.string t240) ∧ w'.cell? ⟨gb244, 1, none⟩ = some (.string t241) ∧ w'.cell? ⟨gb244, 2, none⟩ = some (.int .i64 t242) ∧ w'.cell? ⟨gb244, 3, none⟩ = some (.bool t243) ∧ w'.cell? ⟨gb249, 0, none⟩ = some (.string t245) ∧ w'.cell? ⟨gb249, 1, none⟩ = some (.string t246) ∧ w'.cell? ⟨gb249, 2, none⟩ = some (.int .i64 t247) ∧ w'.cell? ⟨gb249, 3, none⟩ = some (.bool t248)) (ds := []) #[false, false, false, false, false, false, false, false, false, false, false, false, false, false, false] q2_ rfl rfl ⟨(blk_cell BK244.out 0).trans rfl, (blk_cell BK244.out 1).trans rfl, (blk_cell BK244.out 2).trans rfl, (blk_cell BK244.out 3).trans rfl, (blk_cell BK249.out 0).trans rfl, (blk_cell BK249.out 1).trans rfl, (blk_cell BK249.out 2).trans rfl, (blk_cell BK249.out 3).trans rfl⟩ (fun hHeld => ?_); refine with_tabW ostiarylaw18_CorsLess.tab6 ostiarylaw18_CorsLess.bits6 (fun HT_ HW_ => ?_)
       generalize wc.drew = w41 at HO_2 BK244 BK249 HB hHeld ⊢
       refine take_ (i := 0) (N := some 30) (v := ?_) (a' := ?_) #[true, false, false, false, false, false, false, false, false, false, false, false, false, false, false] rfl rfl (take_ofW HT_.out HW_.out q2_) (fun _ _ _ h => h) (Or.inl ⟨by rfl, ?_⟩) hHeld ?_ ?_
       rotate_left
       ·rintro w' ⟨s0, s1, s2, s3, s4, s5, s6, s7⟩
        go_simp
        with_reducible rfl
       rotate_left
       ·simp only [Act.put, List.setIfInBounds_toArray, List.set_cons_zero, List.set_cons_succ, i64_w, i32_w]
        rfl
       refine take_ (i := 2) (N := some 32) (v := ?_) (a' := ?_) #[true, false, true, false, false, false, false, false, false, false, false, false, false, false, false] rfl rfl (take_ofW HT_.out HW_.out q2_) (fun _ _ _ h => h) (Or.inl ⟨by rfl, ?_⟩) hHeld ?_ ?_
       rotate_left
       ·rintro w' ⟨s0, s1, s2, s3, s4, s5, s6, s7⟩
        go_simp
        with_reducible rfl
       rotate_left
       ·simp only [Act.put, List.setIfInBounds_toArray, List.set_cons_zero, List.set_cons_succ, i64_w, i32_w]
        rfl
       refine one_ (i := 1) (N := some 31) #[true, true, true, false, false, false, false, false, false, false, false, false, false, false, false] rfl rfl (one_of HT_.out q2_) (by decide) (fun K hK => ?_)
       refine goes_ Tryd.func13 q2_ rfl #[.agg #[.string t240, .string t241, .int .i64 t242, .bool t243]] (by rfl) rfl rfl tS ?_
       with_reducible refine (ostiaryref4_Text.calls kj7 t240 t241 t242 t243 t252 _ A32.out).mono ?_
       rintro e w42 ⟨rfl, hb⟩
       refine ⟨_, rfl, ?_⟩
       have n0_ := Aside0.mk (Kd.R_below q13_ hb)
       have n1_ := Aside0.mk (blk_below (g := gb244) (o := .cells #[.string t240, .string t241, .int .i64 t242, .bool t243] 25 (0, 0)) q3_ hb)
       have n2_ := Aside0.mk (blk_below (g := gb249) (o := .cells #[.string t245, .string t246, .int .i64 t247, .bool t248] 25 (0, 0)) q4_ hb)
       have n3_ := Aside0.mk (below_step q0_ hb)
       clear HO_2
       clear BK244
       clear BK249
       clear HB
       have HO_2 := n0_
       have BK244 := n1_
       have BK249 := n2_
       have HB := n3_
       clear n0_ n1_ n2_ n3_
       (try clear hb)
       (try clear hb2)
       (try clear hk)
       (try clear hi)
       refine hK.out _ _ ⟨(blk_cell BK244.out 0).trans rfl, (blk_cell BK244.out 1).trans rfl, (blk_cell BK244.out 2).trans rfl, (blk_cell BK244.out 3).trans rfl, (blk_cell BK249.out 0).trans rfl, (blk_cell BK249.out 1).trans rfl, (blk_cell BK249.out 2).trans rfl, (blk_cell BK249.out 3).trans rfl⟩ (fun hHeld => ?_)
       clear hK K
       refine norm_ (a' := ?_) ?_ ?_
       rotate_left
       ·show Act.put _ (some 31) _ = _
        simp only [Act.put, List.setIfInBounds_toArray, List.set_cons_zero, List.set_cons_succ, i64_w, i32_w]
        rfl
       refine one_ (i := 3) (N := some 33) #[true, true, true, true, false, false, false, false, false, false, false, false, false, false, false] rfl rfl (one_of HT_.out q2_) (by decide) (fun K hK => ?_)
       refine goes_ Tryd.func13 q2_ rfl #[.agg #[.string t245, .string t246, .int .i64 t247, .bool t248]] (by rfl) rfl rfl tS ?_
       with_reducible refine (ostiaryref4_Text.calls kj7 t245 t246 t247 t248 t253 _ A33.out).mono ?_
       rintro e w43 ⟨rfl, hb⟩
       refine ⟨_, rfl, ?_⟩
       have n0_ := Aside0.mk (Kd.R_below q13_ hb)
       have n1_ := Aside0.mk (blk_below (g := gb244) (o := .cells #[.string t240, .string t241, .int .i64 t242, .bool t243] 25 (0, 0)) q3_ hb)
       have n2_ := Aside0.mk (blk_below (g := gb249) (o := .cells #[.string t245, .string t246, .int .i64 t247, .bool t248] 25 (0, 0)) q4_ hb)
       have n3_ := Aside0.mk (below_step q0_ hb)
       clear HO_2
       clear BK244
       clear BK249
       clear HB
       have HO_2 := n0_
       have BK244 := n1_
       have BK249 := n2_
       have HB := n3_
       clear n0_ n1_ n2_ n3_
       (try clear hb)
       (try clear hb2)
       (try clear hk)
       (try clear hi)
       obtain ⟨Ao44, co44, eo44⟩ := Kd.R_slice HO_2.out
       (first | subst eo44 | (injection eo44 with f1_ f2_ f3_; have f4_ := f1_.symm; have f5_ := f3_.symm; clear f1_ f2_ f3_; subst f4_; subst f5_))
       refine hK.out _ _ ⟨(blk_cell BK244.out 0).trans rfl, (blk_cell BK244.out 1).trans rfl, (blk_cell BK244.out 2).trans rfl, (blk_cell BK244.out 3).trans rfl, (blk_cell BK249.out 0).trans rfl, (blk_cell BK249.out 1).trans rfl, (blk_cell BK249.out 2).trans rfl, (blk_cell BK249.out 3).trans rfl⟩ (fun hHeld => ?_)
       clear hK K
       refine norm_ (a' := ?_) ?_ ?_
       rotate_left
       ·show Act.put _ (some 33) _ = _
        simp only [Act.put, List.setIfInBounds_toArray, List.set_cons_zero, List.set_cons_succ, i64_w, i32_w]
        rfl
       refine pure_ (i := 4) (N := some 34) (v := ?_) (a' := ?_) #[true, true, true, true, true, false, false, false, false, false, false, false, false, false, false] rfl rfl (any_of HT_.out q2_) (fun _ _ _ h => h) (Or.inl ⟨by rfl, ?_⟩) ?_ ?_
       rotate_left
       ·intro w'
        go_simp
        with_reducible rfl
       rotate_left
       ·simp only [Act.put, List.setIfInBounds_toArray, List.set_cons_zero, List.set_cons_succ, i64_w, i32_w]
        rfl
       refine pure_ (i := 5) (N := some 35) (v := ?_) (a' := ?_) #[true, true, true, true, true, true, false, false, false, false, false, false, false, false, false] rfl rfl (any_of HT_.out q2_) (fun _ _ _ h => h) (Or.inl ⟨by rfl, ?_⟩) ?_ ?_
       rotate_left
       ·intro w'
        go_simp
        with_reducible rfl
       rotate_left
       ·simp only [Act.put, List.setIfInBounds_toArray, List.set_cons_zero, List.set_cons_succ, i64_w, i32_w]
        rfl
       refine pure_ (i := 7) (N := some 37) (v := ?_) (a' := ?_) #[true, true, true, true, true, true, false, true, false, false, false, false, false, false, false] rfl rfl (any_of HT_.out q2_) (fun _ _ _ h => h) (Or.inl ⟨by rfl, ?_⟩) ?_ ?_
       rotate_left
       ·intro w'
        go_simp
        with_reducible rfl
       rotate_left
       ·simp only [Act.put, List.setIfInBounds_toArray, List.set_cons_zero, List.set_cons_succ, i64_w, i32_w]
        rfl
       refine take_ (i := 6) (N := some 36) (v := ?_) (a' := ?_) #[true, true, true, true, true, true, true, true, false, false, false, false, false, false, false] rfl rfl (take_ofW HT_.out HW_.out q2_) (fun _ _ _ h => h) (Or.inl ⟨by rfl, ?_⟩) hHeld ?_ ?_
       rotate_left
       ·rintro w' ⟨s0, s1, s2, s3, s4, s5, s6, s7⟩
        go_simp
        with_reducible rfl
       rotate_left
       ·simp only [Act.put, List.setIfInBounds_toArray, List.set_cons_zero, List.set_cons_succ, i64_w, i32_w]
        rfl
       refine one_ (i := 8) (N := some 38) #[true, true, true, true, true, true, true, true, true, false, false, false, false, false, false] rfl rfl (one_of HT_.out q2_) (by decide) (fun K hK => ?_)
       refine goes_ Tryd.func12 q2_ rfl #[.agg #[.string t240, .string t241, .int .i64 t242, .bool t243], .bool true, .slice Ao44 t237.length co44] (by rfl) rfl rfl tS ?_
       with_reducible refine (cors_Check.calls kj7 t240 t241 t242 t243 true _ _ t237 true _ ?side1 ?side2 ?side3 A38.out).mono ?_
       (case side1 => repeat (first | exact (Kd.R_reads' HO_2.out).2.2 | (with_reducible refine Kd.C_alloc ?_ _) | (with_reducible refine Kd.C_drewN ?_ _) | (with_reducible refine Kd.C_drew ?_)))
       (case side2 => exact (Kd.R_reads' HO_2.out).2.1)
       (case side3 => first | exact HLdLPow.out | ((with_reducible repeat (first | exact HLdLPow.out | apply LPow.drewN | apply LPow.drew)); done) | exact LPow.below HLdLPow.out q0_)
       rintro e w45 ⟨rfl, hb⟩
       refine ⟨_, rfl, ?_⟩
       have n0_ := Aside0.mk (Kd.R_below q13_ hb)
       have n1_ := Aside0.mk (blk_below (g := gb244) (o := .cells #[.string t240, .string t241, .int .i64 t242, .bool t243] 25 (0, 0)) q3_ hb)
       have n2_ := Aside0.mk (blk_below (g := gb249) (o := .cells #[.string t245, .string t246, .int .i64 t247, .bool t248] 25 (0, 0)) q4_ hb)
       have n3_ := Aside0.mk (below_step q0_ hb)
       clear HO_2
       clear BK244
       clear BK249
       clear HB
       have HO_2 := n0_
       have BK244 := n1_
       have BK249 := n2_
       have HB := n3_
       clear n0_ n1_ n2_ n3_
       (try clear hb)
       (try clear hb2)
       (try clear hk)
       (try clear hi)
       refine hK.out _ _ ⟨(blk_cell BK244.out 0).trans rfl, (blk_cell BK244.out 1).trans rfl, (blk_cell BK244.out 2).trans rfl, (blk_cell BK244.out 3).trans rfl, (blk_cell BK249.out 0).trans rfl, (blk_cell BK249.out 1).trans rfl, (blk_cell BK249.out 2).trans rfl, (blk_cell BK249.out 3).trans rfl⟩ (fun hHeld => ?_)
       clear hK K
       refine norm_ (a' := ?_) ?_ ?_
       rotate_left
       ·show Act.put _ (some 38) _ = _
        simp only [Act.put, List.setIfInBounds_toArray, List.set_cons_zero, List.set_cons_succ, i64_w, i32_w]
        rfl
       refine pure_ (i := 9) (N := some 39) (v := ?_) (a' := ?_) #[true, true, true, true, true, true, true, true, true, true, false, false, false, false, false] rfl rfl (any_of HT_.out q2_) (fun _ _ _ h => h) (Or.inl ⟨by rfl, ?_⟩) ?_ ?_
       rotate_left
       ·intro w'
        go_simp
        with_reducible rfl
       rotate_left
       ·simp only [Act.put, List.setIfInBounds_toArray, List.set_cons_zero, List.set_cons_succ, i64_w, i32_w]
        rfl
       refine pure_ (i := 10) (N := some 40) (v := ?_) (a' := ?_) #[true, true, true, true, true, true, true, true, true, true, true, false, false, false, false] rfl rfl (any_of HT_.out q2_) (fun _ _ _ h => h) (Or.inl ⟨by rfl, ?_⟩) ?_ ?_
       rotate_left
       ·intro w'
        go_simp
        with_reducible rfl
       rotate_left
       ·simp only [Act.put, List.setIfInBounds_toArray, List.set_cons_zero, List.set_cons_succ, i64_w, i32_w]
        rfl
       refine pure_ (i := 12) (N := some 42) (v := ?_) (a' := ?_) #[true, true, true, true, true, true, true, true, true, true, true, false, true, false, false] rfl rfl (any_of HT_.out q2_) (fun _ _ _ h => h) (Or.inl ⟨by rfl, ?_⟩) ?_ ?_
       rotate_left
       ·intro w'
        go_simp
        with_reducible rfl
       rotate_left
       ·simp only [Act.put, List.setIfInBounds_toArray, List.set_cons_zero, List.set_cons_succ, i64_w, i32_w]
        rfl
       refine take_ (i := 11) (N := some 41) (v := ?_) (a' := ?_) #[true, true, true, true, true, true, true, true, true, true, true, true, true, false, false] rfl rfl (take_ofW HT_.out HW_.out q2_) (fun _ _ _ h => h) (Or.inl ⟨by rfl, ?_⟩) hHeld ?_ ?_
       rotate_left
       ·rintro w' ⟨s0, s1, s2, s3, s4, s5, s6, s7⟩
        go_simp
        with_reducible rfl
       rotate_left
       ·simp only [Act.put, List.setIfInBounds_toArray, List.set_cons_zero, List.set_cons_succ, i64_w, i32_w]
        rfl
       refine one_ (i := 13) (N := some 43) #[true, true, true, true, true, true, true, true, true, true, true, true, true, true, false] rfl rfl (one_of HT_.out q2_) (by decide) (fun K hK => ?_)
       refine goes_ Tryd.func12 q2_ rfl #[.agg #[.string t245, .string t246, .int .i64 t247, .bool t248], .bool true, .slice Ao44 t237.length co44] (by rfl) rfl rfl tS ?_
       with_reducible refine (cors_Check.calls kj7 t245 t246 t247 t248 true _ _ t237 t255 _ ?side1 ?side2 ?side3 A40.out).mono ?_
       (case side1 => repeat (first | exact (Kd.R_reads' HO_2.out).2.2 | (with_reducible refine Kd.C_alloc ?_ _) | (with_reducible refine Kd.C_drewN ?_ _) | (with_reducible refine Kd.C_drew ?_)))
       (case side2 => exact (Kd.R_reads' HO_2.out).2.1)
       (case side3 => first | exact HLdLPow.out | ((with_reducible repeat (first | exact HLdLPow.out | apply LPow.drewN | apply LPow.drew)); done) | exact LPow.below HLdLPow.out q0_)
       rintro e w46 ⟨rfl, hb⟩
       refine ⟨_, rfl, ?_⟩
       have n0_ := Aside0.mk (Kd.R_below q13_ hb)
       have n1_ := Aside0.mk (blk_below (g := gb244) (o := .cells #[.string t240, .string t241, .int .i64 t242, .bool t243] 25 (0, 0)) q3_ hb)
       have n2_ := Aside0.mk (blk_below (g := gb249) (o := .cells #[.string t245, .string t246, .int .i64 t247, .bool t248] 25 (0, 0)) q4_ hb)
       have n3_ := Aside0.mk (below_step q0_ hb)
       clear HO_2
       clear BK244
       clear BK249
       clear HB
       have HO_2 := n0_
       have BK244 := n1_
       have BK249 := n2_
       have HB := n3_
       clear n0_ n1_ n2_ n3_
       (try clear hb)
       (try clear hb2)
       (try clear hk)
       (try clear hi)
       refine hK.out _ _ ⟨(blk_cell BK244.out 0).trans rfl, (blk_cell BK244.out 1).trans rfl, (blk_cell BK244.out 2).trans rfl, (blk_cell BK244.out 3).trans rfl, (blk_cell BK249.out 0).trans rfl, (blk_cell BK249.out 1).trans rfl, (blk_cell BK249.out 2).trans rfl, (blk_cell BK249.out 3).trans rfl⟩ (fun hHeld => ?_)
       clear hK K
       refine norm_ (a' := ?_) ?_ ?_
       rotate_left
       ·show Act.put _ (some 43) _ = _
        simp only [Act.put, List.setIfInBounds_toArray, List.set_cons_zero, List.set_cons_succ, i64_w, i32_w]
        rfl
       refine pure_ (i := 14) (N := some 44) (v := ?_) (a' := ?_) #[true, true, true, true, true, true, true, true, true, true, true, true, true, true, true] rfl rfl (any_of HT_.out q2_) (fun _ _ _ h => h) (Or.inl ⟨by rfl, ?_⟩) ?_ ?_
       rotate_left
       ·intro w'
        go_simp
        with_reducible rfl
       rotate_left
       ·simp only [Act.put, List.setIfInBounds_toArray, List.set_cons_zero, List.set_cons_succ, i64_w, i32_w]
        rfl
       refine done_ (done_of HT_.out q2_) ?_
       try go_wp2
       go_meet
       case rel => exact ⟨_, (t255), rS, H', ⟨by have := HJ7.out; first | omega | exact Nat.le_refl _⟩, ⟨by (with_reducible repeat (first | refine blk_drewN ?_ _ | refine blk_drew ?_ | refine blk_alloc ?_ _)); exact BK244.out⟩, ⟨by (with_reducible repeat (first | refine blk_drewN ?_ _ | refine blk_drew ?_ | refine blk_alloc ?_ _)); exact BK249.out⟩, ⟨by repeat (first | (with_reducible first | exact HB.out | apply below_alloc | apply pw_below_drewN | apply below_drew1 | refine below_set ?_ GE244.out | refine below_set ?_ GE249.out) | exact HB.out)⟩⟩
      ·replace c39 := Bool.eq_false_iff.mpr c39
       subst c39
       have H1 : (ostiarylaw18_CorsLess.j1 kj7 a3 false) = some r := by rw [if_neg (show ¬ (false = true) by decide)] at H; exact H
       clear H
       have H := H1
       clear H1
       have H' := Aside0.mk H
       clear H
       try go_wp2
       have n0_ := Aside0.mk (Kd.R_drew HO_2.out)
       have n1_ := Aside0.mk (blk_drew BK244.out)
       have n2_ := Aside0.mk (blk_drew BK249.out)
       have n3_ := Aside0.mk (below_drew1 HB.out)
       clear HO_2
       clear BK244
       clear BK249
       clear HB
       have HO_2 := n0_
       have BK244 := n1_
       have BK249 := n2_
       have HB := n3_
       clear n0_ n1_ n2_ n3_
       refine start_ (n := 15) (S := fun w' => w'.cell? ⟨gb244, 0, none⟩ = some (.string t240) ∧ w'.cell? ⟨gb244, 1, none⟩ = some (.string t241) ∧ w'.cell? ⟨gb244, 2, none⟩ = some (.int .i64 t242) ∧ w'.cell? ⟨gb244, 3, none⟩ = some (.bool t243) ∧ w'.cell? ⟨gb249, 0, none⟩ = some (.string t245) ∧ w'.cell? ⟨gb249, 1, none⟩ = some (.string t246) ∧ w'.cell? ⟨gb249, 2, none⟩ = some (.int .i64 t247) ∧ w'.cell? ⟨gb249, 3, none⟩ = some (.bool t248)) (ds := []) #[false, false, false, false, false, false, false, false, false, false, false, false, false, false, false] q2_ rfl rfl ⟨(blk_cell BK244.out 0).trans rfl, (blk_cell BK244.out 1).trans rfl, (blk_cell BK244.out 2).trans rfl, (blk_cell BK244.out 3).trans rfl, (blk_cell BK249.out 0).trans rfl, (blk_cell BK249.out 1).trans rfl, (blk_cell BK249.out 2).trans rfl, (blk_cell BK249.out 3).trans rfl⟩ (fun hHeld => ?_); refine with_tabW ostiarylaw18_CorsLess.tab6 ostiarylaw18_CorsLess.bits6 (fun HT_ HW_ => ?_)
       generalize wc.drew = w47 at HO_2 BK244 BK249 HB hHeld ⊢
       refine take_ (i := 0) (N := some 30) (v := ?_) (a' := ?_) #[true, false, false, false, false, false, false, false, false, false, false, false, false, false, false] rfl rfl (take_ofW HT_.out HW_.out q2_) (fun _ _ _ h => h) (Or.inl ⟨by rfl, ?_⟩) hHeld ?_ ?_
       rotate_left
       ·rintro w' ⟨s0, s1, s2, s3, s4, s5, s6, s7⟩
        go_simp
        with_reducible rfl
       rotate_left
       ·simp only [Act.put, List.setIfInBounds_toArray, List.set_cons_zero, List.set_cons_succ, i64_w, i32_w]
        rfl
       refine take_ (i := 2) (N := some 32) (v := ?_) (a' := ?_) #[true, false, true, false, false, false, false, false, false, false, false, false, false, false, false] rfl rfl (take_ofW HT_.out HW_.out q2_) (fun _ _ _ h => h) (Or.inl ⟨by rfl, ?_⟩) hHeld ?_ ?_
       rotate_left
       ·rintro w' ⟨s0, s1, s2, s3, s4, s5, s6, s7⟩
        go_simp
        with_reducible rfl
       rotate_left
       ·simp only [Act.put, List.setIfInBounds_toArray, List.set_cons_zero, List.set_cons_succ, i64_w, i32_w]
        rfl
       refine one_ (i := 1) (N := some 31) #[true, true, true, false, false, false, false, false, false, false, false, false, false, false, false] rfl rfl (one_of HT_.out q2_) (by decide) (fun K hK => ?_)
       refine goes_ Tryd.func13 q2_ rfl #[.agg #[.string t240, .string t241, .int .i64 t242, .bool t243]] (by rfl) rfl rfl tS ?_
       with_reducible refine (ostiaryref4_Text.calls kj7 t240 t241 t242 t243 t252 _ A32.out).mono ?_
       rintro e w48 ⟨rfl, hb⟩
       refine ⟨_, rfl, ?_⟩
       have n0_ := Aside0.mk (Kd.R_below q13_ hb)
       have n1_ := Aside0.mk (blk_below (g := gb244) (o := .cells #[.string t240, .string t241, .int .i64 t242, .bool t243] 25 (0, 0)) q3_ hb)
       have n2_ := Aside0.mk (blk_below (g := gb249) (o := .cells #[.string t245, .string t246, .int .i64 t247, .bool t248] 25 (0, 0)) q4_ hb)
       have n3_ := Aside0.mk (below_step q0_ hb)
       clear HO_2
       clear BK244
       clear BK249
       clear HB
       have HO_2 := n0_
       have BK244 := n1_
       have BK249 := n2_
       have HB := n3_
       clear n0_ n1_ n2_ n3_
       (try clear hb)
       (try clear hb2)
       (try clear hk)
       (try clear hi)
       refine hK.out _ _ ⟨(blk_cell BK244.out 0).trans rfl, (blk_cell BK244.out 1).trans rfl, (blk_cell BK244.out 2).trans rfl, (blk_cell BK244.out 3).trans rfl, (blk_cell BK249.out 0).trans rfl, (blk_cell BK249.out 1).trans rfl, (blk_cell BK249.out 2).trans rfl, (blk_cell BK249.out 3).trans rfl⟩ (fun hHeld => ?_)
       clear hK K
       refine norm_ (a' := ?_) ?_ ?_
       rotate_left
       ·show Act.put _ (some 31) _ = _
        simp only [Act.put, List.setIfInBounds_toArray, List.set_cons_zero, List.set_cons_succ, i64_w, i32_w]
        rfl
       refine one_ (i := 3) (N := some 33) #[true, true, true, true, false, false, false, false, false, false, false, false, false, false, false] rfl rfl (one_of HT_.out q2_) (by decide) (fun K hK => ?_)
       refine goes_ Tryd.func13 q2_ rfl #[.agg #[.string t245, .string t246, .int .i64 t247, .bool t248]] (by rfl) rfl rfl tS ?_
       with_reducible refine (ostiaryref4_Text.calls kj7 t245 t246 t247 t248 t253 _ A33.out).mono ?_
       rintro e w49 ⟨rfl, hb⟩
       refine ⟨_, rfl, ?_⟩
       have n0_ := Aside0.mk (Kd.R_below q13_ hb)
       have n1_ := Aside0.mk (blk_below (g := gb244) (o := .cells #[.string t240, .string t241, .int .i64 t242, .bool t243] 25 (0, 0)) q3_ hb)
       have n2_ := Aside0.mk (blk_below (g := gb249) (o := .cells #[.string t245, .string t246, .int .i64 t247, .bool t248] 25 (0, 0)) q4_ hb)
       have n3_ := Aside0.mk (below_step q0_ hb)
       clear HO_2
       clear BK244
       clear BK249
       clear HB
       have HO_2 := n0_
       have BK244 := n1_
       have BK249 := n2_
       have HB := n3_
       clear n0_ n1_ n2_ n3_
       (try clear hb)
       (try clear hb2)
       (try clear hk)
       (try clear hi)
       obtain ⟨Ao50, co50, eo50⟩ := Kd.R_slice HO_2.out
       (first | subst eo50 | (injection eo50 with f1_ f2_ f3_; have f4_ := f1_.symm; have f5_ := f3_.symm; clear f1_ f2_ f3_; subst f4_; subst f5_))
       refine hK.out _ _ ⟨(blk_cell BK244.out 0).trans rfl, (blk_cell BK244.out 1).trans rfl, (blk_cell BK244.out 2).trans rfl, (blk_cell BK244.out 3).trans rfl, (blk_cell BK249.out 0).trans rfl, (blk_cell BK249.out 1).trans rfl, (blk_cell BK249.out 2).trans rfl, (blk_cell BK249.out 3).trans rfl⟩ (fun hHeld => ?_)
       clear hK K
       refine norm_ (a' := ?_) ?_ ?_
       rotate_left
       ·show Act.put _ (some 33) _ = _
        simp only [Act.put, List.setIfInBounds_toArray, List.set_cons_zero, List.set_cons_succ, i64_w, i32_w]
        rfl
       refine pure_ (i := 4) (N := some 34) (v := ?_) (a' := ?_) #[true, true, true, true, true, false, false, false, false, false, false, false, false, false, false] rfl rfl (any_of HT_.out q2_) (fun _ _ _ h => h) (Or.inl ⟨by rfl, ?_⟩) ?_ ?_
       rotate_left
       ·intro w'
        go_simp
        with_reducible rfl
       rotate_left
       ·simp only [Act.put, List.setIfInBounds_toArray, List.set_cons_zero, List.set_cons_succ, i64_w, i32_w]
        rfl
       refine pure_ (i := 5) (N := some 35) (v := ?_) (a' := ?_) #[true, true, true, true, true, true, false, false, false, false, false, false, false, false, false] rfl rfl (any_of HT_.out q2_) (fun _ _ _ h => h) (Or.inl ⟨by rfl, ?_⟩) ?_ ?_
       rotate_left
       ·intro w'
        go_simp
        with_reducible rfl
       rotate_left
       ·simp only [Act.put, List.setIfInBounds_toArray, List.set_cons_zero, List.set_cons_succ, i64_w, i32_w]
        rfl
       refine pure_ (i := 7) (N := some 37) (v := ?_) (a' := ?_) #[true, true, true, true, true, true, false, true, false, false, false, false, false, false, false] rfl rfl (any_of HT_.out q2_) (fun _ _ _ h => h) (Or.inl ⟨by rfl, ?_⟩) ?_ ?_
       rotate_left
       ·intro w'
        go_simp
        with_reducible rfl
       rotate_left
       ·simp only [Act.put, List.setIfInBounds_toArray, List.set_cons_zero, List.set_cons_succ, i64_w, i32_w]
        rfl
       refine take_ (i := 6) (N := some 36) (v := ?_) (a' := ?_) #[true, true, true, true, true, true, true, true, false, false, false, false, false, false, false] rfl rfl (take_ofW HT_.out HW_.out q2_) (fun _ _ _ h => h) (Or.inl ⟨by rfl, ?_⟩) hHeld ?_ ?_
       rotate_left
       ·rintro w' ⟨s0, s1, s2, s3, s4, s5, s6, s7⟩
        go_simp
        with_reducible rfl
       rotate_left
       ·simp only [Act.put, List.setIfInBounds_toArray, List.set_cons_zero, List.set_cons_succ, i64_w, i32_w]
        rfl
       refine one_ (i := 8) (N := some 38) #[true, true, true, true, true, true, true, true, true, false, false, false, false, false, false] rfl rfl (one_of HT_.out q2_) (by decide) (fun K hK => ?_)
       refine goes_ Tryd.func12 q2_ rfl #[.agg #[.string t240, .string t241, .int .i64 t242, .bool t243], .bool true, .slice Ao50 t237.length co50] (by rfl) rfl rfl tS ?_
       with_reducible refine (cors_Check.calls kj7 t240 t241 t242 t243 true _ _ t237 false _ ?side1 ?side2 ?side3 A38.out).mono ?_
       (case side1 => repeat (first | exact (Kd.R_reads' HO_2.out).2.2 | (with_reducible refine Kd.C_alloc ?_ _) | (with_reducible refine Kd.C_drewN ?_ _) | (with_reducible refine Kd.C_drew ?_)))
       (case side2 => exact (Kd.R_reads' HO_2.out).2.1)
       (case side3 => first | exact HLdLPow.out | ((with_reducible repeat (first | exact HLdLPow.out | apply LPow.drewN | apply LPow.drew)); done) | exact LPow.below HLdLPow.out q0_)
       rintro e w51 ⟨rfl, hb⟩
       refine ⟨_, rfl, ?_⟩
       have n0_ := Aside0.mk (Kd.R_below q13_ hb)
       have n1_ := Aside0.mk (blk_below (g := gb244) (o := .cells #[.string t240, .string t241, .int .i64 t242, .bool t243] 25 (0, 0)) q3_ hb)
       have n2_ := Aside0.mk (blk_below (g := gb249) (o := .cells #[.string t245, .string t246, .int .i64 t247, .bool t248] 25 (0, 0)) q4_ hb)
       have n3_ := Aside0.mk (below_step q0_ hb)
       clear HO_2
       clear BK244
       clear BK249
       clear HB
       have HO_2 := n0_
       have BK244 := n1_
       have BK249 := n2_
       have HB := n3_
       clear n0_ n1_ n2_ n3_
       (try clear hb)
       (try clear hb2)
       (try clear hk)
       (try clear hi)
       refine hK.out _ _ ⟨(blk_cell BK244.out 0).trans rfl, (blk_cell BK244.out 1).trans rfl, (blk_cell BK244.out 2).trans rfl, (blk_cell BK244.out 3).trans rfl, (blk_cell BK249.out 0).trans rfl, (blk_cell BK249.out 1).trans rfl, (blk_cell BK249.out 2).trans rfl, (blk_cell BK249.out 3).trans rfl⟩ (fun hHeld => ?_)
       clear hK K
       refine norm_ (a' := ?_) ?_ ?_
       rotate_left
       ·show Act.put _ (some 38) _ = _
        simp only [Act.put, List.setIfInBounds_toArray, List.set_cons_zero, List.set_cons_succ, i64_w, i32_w]
        rfl
       refine pure_ (i := 9) (N := some 39) (v := ?_) (a' := ?_) #[true, true, true, true, true, true, true, true, true, true, false, false, false, false, false] rfl rfl (any_of HT_.out q2_) (fun _ _ _ h => h) (Or.inl ⟨by rfl, ?_⟩) ?_ ?_
       rotate_left
       ·intro w'
        go_simp
        with_reducible rfl
       rotate_left
       ·simp only [Act.put, List.setIfInBounds_toArray, List.set_cons_zero, List.set_cons_succ, i64_w, i32_w]
        rfl
       refine pure_ (i := 10) (N := some 40) (v := ?_) (a' := ?_) #[true, true, true, true, true, true, true, true, true, true, true, false, false, false, false] rfl rfl (any_of HT_.out q2_) (fun _ _ _ h => h) (Or.inl ⟨by rfl, ?_⟩) ?_ ?_
       rotate_left
       ·intro w'
        go_simp
        with_reducible rfl
       rotate_left
       ·simp only [Act.put, List.setIfInBounds_toArray, List.set_cons_zero, List.set_cons_succ, i64_w, i32_w]
        rfl
       refine pure_ (i := 11) (N := some 41) (v := undef) (a' := ?_) #[true, true, true, true, true, true, true, true, true, true, true, true, false, false, false] rfl rfl (any_of HT_.out q2_) (fun _ _ _ h => h) (Or.inr ⟨by rfl, rfl⟩) ?_ ?_
       rotate_left
       ·simp only [Act.put, List.setIfInBounds_toArray, List.set_cons_zero, List.set_cons_succ, i64_w, i32_w]
        rfl
       refine pure_ (i := 12) (N := some 42) (v := undef) (a' := ?_) #[true, true, true, true, true, true, true, true, true, true, true, true, true, false, false] rfl rfl (any_of HT_.out q2_) (fun _ _ _ h => h) (Or.inr ⟨by rfl, rfl⟩) ?_ ?_
       rotate_left
       ·simp only [Act.put, List.setIfInBounds_toArray, List.set_cons_zero, List.set_cons_succ, i64_w, i32_w]
        rfl
       refine pure_ (i := 13) (N := some 43) (v := undef) (a' := ?_) #[true, true, true, true, true, true, true, true, true, true, true, true, true, true, false] rfl rfl (any_of HT_.out q2_) (fun _ _ _ h => h) (Or.inr ⟨by rfl, rfl⟩) ?_ ?_
       rotate_left
       ·simp only [Act.put, List.setIfInBounds_toArray, List.set_cons_zero, List.set_cons_succ, i64_w, i32_w]
        rfl
       refine pure_ (i := 14) (N := some 44) (v := ?_) (a' := ?_) #[true, true, true, true, true, true, true, true, true, true, true, true, true, true, true] rfl rfl (any_of HT_.out q2_) (fun _ _ _ h => h) (Or.inl ⟨by rfl, ?_⟩) ?_ ?_
       rotate_left
       ·intro w'
        go_simp
        with_reducible rfl
       rotate_left
       ·simp only [Act.put, List.setIfInBounds_toArray, List.set_cons_zero, List.set_cons_succ, i64_w, i32_w]
        rfl
       refine done_ (done_of HT_.out q2_) ?_
       try go_wp2
       go_meet
       case rel => exact ⟨_, (false), rS, H', ⟨by have := HJ7.out; first | omega | exact Nat.le_refl _⟩, ⟨by (with_reducible repeat (first | refine blk_drewN ?_ _ | refine blk_drew ?_ | refine blk_alloc ?_ _)); exact BK244.out⟩, ⟨by (with_reducible repeat (first | refine blk_drewN ?_ _ | refine blk_drew ?_ | refine blk_alloc ?_ _)); exact BK249.out⟩, ⟨by repeat (first | (with_reducible first | exact HB.out | apply below_alloc | apply pw_below_drewN | apply below_drew1 | refine below_set ?_ GE244.out | refine below_set ?_ GE249.out) | exact HB.out)⟩⟩
    case rest =>
     clear HC31
     try clear c1
     try clear p2
     try clear c3
     try clear c12
     try clear c13
     try clear c34
     try clear c34b0
     try clear c34b1
     try clear c39
     obtain ⟨kq, x44_30, rfl, HA, HJ30, BK244, BK249, HB⟩ := hcut
     cases kq with
     | zero => exact absurd HA.out (by simp [ostiarylaw18_CorsLess.j1])
     | succ kj30 =>
      have H := HA.out
      clear HA
      simp only [ostiarylaw18_CorsLess.j1] at H
      by_cases c52 : x44_30 = true
      ·subst c52
       have H1 : (some false) = some r := by rw [if_pos rfl] at H; exact H
       clear H
       have H := H1
       clear H1
       obtain rfl := Option.some.inj H
       go_wp2
       go_ret
       exact ⟨by first | rfl | (simp [errW_none, errW_some] <;> rfl) | (simp [*, errW_none, errW_some] <;> rfl), by repeat (first | (with_reducible first | exact HB.out | apply below_alloc | apply pw_below_drewN | apply below_drew1 | refine below_set ?_ GE244.out | refine below_set ?_ GE249.out) | exact HB.out)⟩
      ·replace c52 := Bool.eq_false_iff.mpr c52
       subst c52
       have H1 : ((ostiarykeep_Few.f a3 60).bind fun t256 => ((cors_Method.f kj30 t256).bind fun bt257 => ((cors_Method.f kj30 bt257.1).bind fun bt259 => (if (bt257.2 == bt259.2) = true then (if bt257.1.toList = bt259.1.toList then ((ostiarylaw18_known.f kj30).bind fun t261 => (some t261)) else (some false)) else (some false))))) = some r := by rw [if_neg (show ¬ (false = true) by decide)] at H; exact H
       clear H
       have H := H1
       clear H1
       replace H := Option.bind_eq_some_iff.mp H
       obtain ⟨t256, A530, H⟩ := H
       replace H : ((cors_Method.f kj30 t256).bind fun bt257 => ((cors_Method.f kj30 bt257.1).bind fun bt259 => (if (bt257.2 == bt259.2) = true then (if bt257.1.toList = bt259.1.toList then ((ostiarylaw18_known.f kj30).bind fun t261 => (some t261)) else (some false)) else (some false)))) = some r := H
       have A53 := Aside0.mk A530
       clear A530
       replace H := Option.bind_eq_some_iff.mp H
       obtain ⟨⟨t257, t258⟩, A540, H⟩ := H
       replace H : ((cors_Method.f kj30 t257).bind fun bt259 => (if (t258 == bt259.2) = true then (if t257.toList = bt259.1.toList then ((ostiarylaw18_known.f kj30).bind fun t261 => (some t261)) else (some false)) else (some false))) = some r := H
       have A54 := Aside0.mk A540
       clear A540
       replace H := Option.bind_eq_some_iff.mp H
       obtain ⟨⟨t259, t260⟩, A550, H⟩ := H
       replace H : (if (t258 == t260) = true then (if t257.toList = t259.toList then ((ostiarylaw18_known.f kj30).bind fun t261 => (some t261)) else (some false)) else (some false)) = some r := H
       have A55 := Aside0.mk A550
       clear A550
       by_cases c56 : (t258 == t260) = true
       ·rw [if_pos c56] at H
        have c56b0 : (t258 == t260) = true := c56
        (try (have c56b1 : decide (t258 = t260) = true := by simpa using c56))
        (try (have c56b2 : (t258 == t260) = true := by simpa using c56))
        clear c56
        by_cases c57 : t257.toList = t259.toList
        ·rw [if_pos c57] at H
         have c57b0 : (t257.toList == t259.toList) = true := beq_iff_eq.mpr c57
         have c57b1 : (t257.toList != t259.toList) = false := bne_eq_false_iff_eq.mpr c57
         clear c57
         replace H := Option.bind_eq_some_iff.mp H
         obtain ⟨t261, A580, H⟩ := H
         replace H : (some t261) = some r := H
         have A58 := Aside0.mk A580
         clear A580
         obtain rfl := Option.some.inj H
         have tok0 : True := trivial
         have tok1 : True := trivial
         have tok2 : True := trivial
         have tok3 : True := trivial
         go_wp2_with (first | (revert tok0; intro tok0; (with_reducible refine gate_callee (f := 15) rfl ?_); refine goesL_ (some 47) rfl rfl Tryd.func15 q2_ rfl #[.string a3, .int .i64 60] rfl tS ?_; (with_reducible refine (ostiarykeep_Few.calls a3 60 t256 _ A53.out).mono ?_); rintro e w' ⟨rfl, ⟨nd, rfl⟩⟩; refine ⟨_, rfl, ?_⟩; clear tok0) | (revert tok1; intro tok1; (with_reducible refine gate_callee (f := 14) rfl ?_); refine goesL_ (some 48) rfl rfl Tryd.func14 q2_ rfl #[.string t256] rfl tS ?_; (with_reducible refine (cors_Method.calls kj30 t256 t257 t258 _ A54.out).mono ?_); rintro e w59 ⟨rfl, hb⟩; refine ⟨_, rfl, ?_⟩; have n0_ := Aside0.mk (blk_below (g := gb244) (o := .cells #[.string t240, .string t241, .int .i64 t242, .bool t243] 25 (0, 0)) q3_ hb); have n1_ := Aside0.mk (blk_below (g := gb249) (o := .cells #[.string t245, .string t246, .int .i64 t247, .bool t248] 25 (0, 0)) q4_ hb); have n2_ := Aside0.mk (below_step q0_ hb); clear BK244; clear BK249; clear HB; have BK244 := n0_; have BK249 := n1_; have HB := n2_; clear n0_ n1_ n2_; (try clear hb); (try clear hb2); (try clear hk); (try clear hi); clear tok1) | (revert tok2; intro tok2; (with_reducible refine gate_callee (f := 14) rfl ?_); refine goesL_ (some 53) rfl rfl Tryd.func14 q2_ rfl #[.string t257] rfl tS ?_; (with_reducible refine (cors_Method.calls kj30 t257 t259 t260 _ A55.out).mono ?_); rintro e w60 ⟨rfl, hb⟩; refine ⟨_, rfl, ?_⟩; have n0_ := Aside0.mk (blk_below (g := gb244) (o := .cells #[.string t240, .string t241, .int .i64 t242, .bool t243] 25 (0, 0)) q3_ hb); have n1_ := Aside0.mk (blk_below (g := gb249) (o := .cells #[.string t245, .string t246, .int .i64 t247, .bool t248] 25 (0, 0)) q4_ hb); have n2_ := Aside0.mk (below_step q0_ hb); clear BK244; clear BK249; clear HB; have BK244 := n0_; have BK249 := n1_; have HB := n2_; clear n0_ n1_ n2_; (try clear hb); (try clear hb2); (try clear hk); (try clear hi); clear tok2) | (revert tok3; intro tok3; go_at_call 16; (with_reducible refine (ostiarylaw18_known.calls kj30  t261 _ ?side1 A58.out).mono ?_); (case side1 => first | exact HLdLPow.out | ((with_reducible repeat (first | exact HLdLPow.out | apply LPow.drewN | apply LPow.drew)); done) | exact LPow.below HLdLPow.out q0_); rintro e w61 ⟨rfl, hb⟩; have n0_ := Aside0.mk (blk_below (g := gb244) (o := .cells #[.string t240, .string t241, .int .i64 t242, .bool t243] 25 (0, 0)) q3_ hb); have n1_ := Aside0.mk (blk_below (g := gb249) (o := .cells #[.string t245, .string t246, .int .i64 t247, .bool t248] 25 (0, 0)) q4_ hb); have n2_ := Aside0.mk (below_step q0_ hb); clear BK244; clear BK249; clear HB; have BK244 := n0_; have BK249 := n1_; have HB := n2_; clear n0_ n1_ n2_; (try clear hb); (try clear hb2); (try clear hk); (try clear hi); clear tok3))
         go_ret
         exact ⟨by first | rfl | (simp [errW_none, errW_some] <;> rfl) | (simp [*, errW_none, errW_some] <;> rfl), by repeat (first | (with_reducible first | exact HB.out | apply below_alloc | apply pw_below_drewN | apply below_drew1 | refine below_set ?_ GE244.out | refine below_set ?_ GE249.out) | exact HB.out)⟩
        ·rw [if_neg c57] at H
         have c57b0 : (t257.toList == t259.toList) = false := beq_eq_false_iff_ne.mpr c57
         have c57b1 : (t257.toList != t259.toList) = true := bne_iff_ne.mpr c57
         obtain rfl := Option.some.inj H
         have tok0 : True := trivial
         have tok1 : True := trivial
         have tok2 : True := trivial
         go_wp2_with (first | (revert tok0; intro tok0; (with_reducible refine gate_callee (f := 15) rfl ?_); refine goesL_ (some 47) rfl rfl Tryd.func15 q2_ rfl #[.string a3, .int .i64 60] rfl tS ?_; (with_reducible refine (ostiarykeep_Few.calls a3 60 t256 _ A53.out).mono ?_); rintro e w' ⟨rfl, ⟨nd, rfl⟩⟩; refine ⟨_, rfl, ?_⟩; clear tok0) | (revert tok1; intro tok1; (with_reducible refine gate_callee (f := 14) rfl ?_); refine goesL_ (some 48) rfl rfl Tryd.func14 q2_ rfl #[.string t256] rfl tS ?_; (with_reducible refine (cors_Method.calls kj30 t256 t257 t258 _ A54.out).mono ?_); rintro e w62 ⟨rfl, hb⟩; refine ⟨_, rfl, ?_⟩; have n0_ := Aside0.mk (blk_below (g := gb244) (o := .cells #[.string t240, .string t241, .int .i64 t242, .bool t243] 25 (0, 0)) q3_ hb); have n1_ := Aside0.mk (blk_below (g := gb249) (o := .cells #[.string t245, .string t246, .int .i64 t247, .bool t248] 25 (0, 0)) q4_ hb); have n2_ := Aside0.mk (below_step q0_ hb); clear BK244; clear BK249; clear HB; have BK244 := n0_; have BK249 := n1_; have HB := n2_; clear n0_ n1_ n2_; (try clear hb); (try clear hb2); (try clear hk); (try clear hi); clear tok1) | (revert tok2; intro tok2; (with_reducible refine gate_callee (f := 14) rfl ?_); refine goesL_ (some 53) rfl rfl Tryd.func14 q2_ rfl #[.string t257] rfl tS ?_; (with_reducible refine (cors_Method.calls kj30 t257 t259 t260 _ A55.out).mono ?_); rintro e w63 ⟨rfl, hb⟩; refine ⟨_, rfl, ?_⟩; have n0_ := Aside0.mk (blk_below (g := gb244) (o := .cells #[.string t240, .string t241, .int .i64 t242, .bool t243] 25 (0, 0)) q3_ hb); have n1_ := Aside0.mk (blk_below (g := gb249) (o := .cells #[.string t245, .string t246, .int .i64 t247, .bool t248] 25 (0, 0)) q4_ hb); have n2_ := Aside0.mk (below_step q0_ hb); clear BK244; clear BK249; clear HB; have BK244 := n0_; have BK249 := n1_; have HB := n2_; clear n0_ n1_ n2_; (try clear hb); (try clear hb2); (try clear hk); (try clear hi); clear tok2))
         go_ret
         exact ⟨by first | rfl | (simp [errW_none, errW_some] <;> rfl) | (simp [*, errW_none, errW_some] <;> rfl), by repeat (first | (with_reducible first | exact HB.out | apply below_alloc | apply pw_below_drewN | apply below_drew1 | refine below_set ?_ GE244.out | refine below_set ?_ GE249.out) | exact HB.out)⟩
       ·rw [if_neg c56] at H
        have c56b0 : (t258 == t260) = false := by simpa using c56
        (try (have c56b1 : decide (t258 = t260) = false := by simpa using c56))
        (try (have c56b2 : (t258 == t260) = false := by simpa using c56))
        (try (have c56b3 : ¬ (t258 = t260) := by simpa using c56))
        clear c56
        obtain rfl := Option.some.inj H
        have tok0 : True := trivial
        have tok1 : True := trivial
        have tok2 : True := trivial
        go_wp2_with (first | (revert tok0; intro tok0; (with_reducible refine gate_callee (f := 15) rfl ?_); refine goesL_ (some 47) rfl rfl Tryd.func15 q2_ rfl #[.string a3, .int .i64 60] rfl tS ?_; (with_reducible refine (ostiarykeep_Few.calls a3 60 t256 _ A53.out).mono ?_); rintro e w' ⟨rfl, ⟨nd, rfl⟩⟩; refine ⟨_, rfl, ?_⟩; clear tok0) | (revert tok1; intro tok1; (with_reducible refine gate_callee (f := 14) rfl ?_); refine goesL_ (some 48) rfl rfl Tryd.func14 q2_ rfl #[.string t256] rfl tS ?_; (with_reducible refine (cors_Method.calls kj30 t256 t257 t258 _ A54.out).mono ?_); rintro e w64 ⟨rfl, hb⟩; refine ⟨_, rfl, ?_⟩; have n0_ := Aside0.mk (blk_below (g := gb244) (o := .cells #[.string t240, .string t241, .int .i64 t242, .bool t243] 25 (0, 0)) q3_ hb); have n1_ := Aside0.mk (blk_below (g := gb249) (o := .cells #[.string t245, .string t246, .int .i64 t247, .bool t248] 25 (0, 0)) q4_ hb); have n2_ := Aside0.mk (below_step q0_ hb); clear BK244; clear BK249; clear HB; have BK244 := n0_; have BK249 := n1_; have HB := n2_; clear n0_ n1_ n2_; (try clear hb); (try clear hb2); (try clear hk); (try clear hi); clear tok1) | (revert tok2; intro tok2; (with_reducible refine gate_callee (f := 14) rfl ?_); refine goesL_ (some 53) rfl rfl Tryd.func14 q2_ rfl #[.string t257] rfl tS ?_; (with_reducible refine (cors_Method.calls kj30 t257 t259 t260 _ A55.out).mono ?_); rintro e w65 ⟨rfl, hb⟩; refine ⟨_, rfl, ?_⟩; have n0_ := Aside0.mk (blk_below (g := gb244) (o := .cells #[.string t240, .string t241, .int .i64 t242, .bool t243] 25 (0, 0)) q3_ hb); have n1_ := Aside0.mk (blk_below (g := gb249) (o := .cells #[.string t245, .string t246, .int .i64 t247, .bool t248] 25 (0, 0)) q4_ hb); have n2_ := Aside0.mk (below_step q0_ hb); clear BK244; clear BK249; clear HB; have BK244 := n0_; have BK249 := n1_; have HB := n2_; clear n0_ n1_ n2_; (try clear hb); (try clear hb2); (try clear hk); (try clear hi); clear tok2))
        go_ret
        exact ⟨by first | rfl | (simp [errW_none, errW_some] <;> rfl) | (simp [*, errW_none, errW_some] <;> rfl), by repeat (first | (with_reducible first | exact HB.out | apply below_alloc | apply pw_below_drewN | apply below_drew1 | refine below_set ?_ GE244.out | refine below_set ?_ GE249.out) | exact HB.out)⟩
end Go.Proofs.YtifmkgkiipckbaaDoor.P
