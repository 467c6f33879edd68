/- A part of the proof of CorsLess: texts of walks and plain lemmas. -/
import Derived.Test.YtifmkgkiipckbaaDoorX1
import Derived.Test.YtifmkgkiipckbaaDoorX16
import Derived.Test.YtifmkgkiipckbaaDoorX17
import Derived.Test.YtifmkgkiipckbaaDoorX14
import Derived.Shelf.Strings.Builder1
import Derived.Shelf.Strings.Builder2
import Derived.Shelf.Strings.OnBuilder
import Derived.Shelf.Strings.Trim
import Derived.Shelf.Small.Utf8
import Derived.Shelf.Small.Bits
import Derived.Shelf.Small.Strs
import Derived.Shelf.Strconv.Itoa0
import Derived.Shelf.Strconv.Itoa1
import Derived.Shelf.LaysM
import Derived.Shelf.Strconv.Itoa2
import Derived.Shelf.Strconv.Itoa3
import Derived.Shelf.Strings.Search1
import Derived.Shelf.Strings.Search2
import Derived.Shelf.Strings.Cut
import Derived.Shelf.Strings.Shaped
import Derived.Shelf.Strings.Runes
import Derived.Shelf.Strings.AsciiSet
import Derived.Shelf.Unicode.DecodeSlow
import Derived.Shelf.Slices.Turned
import Derived.Shelf.Strings.SlTrimAscii
import Derived.Test.YtifmkgkiipckbaaDoorProg
import Derived.WalkKit
import Derived.Lib.LaidTab
import Derived.Test.YtifmkgkiipckbaaDoorX2
namespace Go.Proofs.YtifmkgkiipckbaaDoor.P
open Go.RowKit Go.Proofs.YtifmkgkiipckbaaDoorW.PrintWords Go.Proofs.YtifmkgkiipckbaaDoorW.PrintLast Go.Proofs.YtifmkgkiipckbaaDoorW.PrintMore
attribute [local go_sem] max2_int min2_int max_two min_two max_three min_three max_four min_four
set_option linter.unusedVariables false
set_option linter.unusedSimpArgs false
def ostiarylaw18_of.f (k : Nat) (a0 : ByteArray) : Option (ByteArray × ByteArray × Int × Bool) := (ostiarykeep_URL.f k a0).bind fun bt159 => ((ostiaryref4_Of.f k bt159.1 bt159.2.1 bt159.2.2.1 bt159.2.2.2.1 bt159.2.2.2.2.1 bt159.2.2.2.2.2.1 bt159.2.2.2.2.2.2.1 bt159.2.2.2.2.2.2.2.1 bt159.2.2.2.2.2.2.2.2.1 bt159.2.2.2.2.2.2.2.2.2.1 bt159.2.2.2.2.2.2.2.2.2.2.1 bt159.2.2.2.2.2.2.2.2.2.2.2.1).bind fun bt175 => (some (bt175.1, bt175.2.1, bt175.2.2.1, bt175.2.2.2)))
theorem ostiarylaw18_of.mono : ∀ a0 k, LeO (ostiarylaw18_of.f k a0) (ostiarylaw18_of.f (k + 1) a0) := by
 intro a0 k
 unfold ostiarylaw18_of.f
 repeat' first
   | (with_reducible exact ostiarykeep_URL.mono _ _)
   | (with_reducible exact ostiaryref4_Of.mono _ _ _ _ _ _ _ _ _ _ _ _ _)
   | (with_reducible exact LeO.refl _)
   | (with_reducible exact LeO.none _)
   | (with_reducible refine LeO.ite ?_ ?_)
   | (with_reducible refine LeO.bind ?_ (fun _ => ?_))
   | exact ostiarykeep_URL.mono _ _
   | exact ostiaryref4_Of.mono _ _ _ _ _ _ _ _ _ _ _ _ _
   | exact LeO.none _
   | refine LeO.ite ?_ ?_
   | refine LeO.bind ?_ (fun _ => ?_)
set_option maxHeartbeats 8000000 in
set_option maxRecDepth 100000 in
theorem ostiarylaw18_of.calls (k : Nat) (a0 : ByteArray) (r1 : ByteArray) (r2 : ByteArray) (r3 : Int) (r4 : Bool) (w : World) (h : ostiarylaw18_of.f k a0 = some (r1, r2, r3, r4)) :
  Calls Tryd.prog 11 #[.string a0] w fun e w' => e = .returned (.agg #[.string r1, .string r2, .int .i64 r3, .bool r4]) ∧ Below w.heap.size w w' := by
 have hu25 := Tryd.underlying25
 have hu86 := Tryd.underlying86
 have HB := Aside0.mk (Below.refl w.heap.size w)
 have H : ((ostiarykeep_URL.f k a0).bind fun bt159 => ((ostiaryref4_Of.f k bt159.1 bt159.2.1 bt159.2.2.1 bt159.2.2.2.1 bt159.2.2.2.2.1 bt159.2.2.2.2.2.1 bt159.2.2.2.2.2.2.1 bt159.2.2.2.2.2.2.2.1 bt159.2.2.2.2.2.2.2.2.1 bt159.2.2.2.2.2.2.2.2.2.1 bt159.2.2.2.2.2.2.2.2.2.2.1 bt159.2.2.2.2.2.2.2.2.2.2.2.1).bind fun bt175 => (some (bt175.1, bt175.2.1, bt175.2.2.1, bt175.2.2.2)))) = some (r1, r2, r3, r4) := h
 clear h
 replace H := Option.bind_eq_some_iff.mp H
 obtain ⟨⟨t159, t160, t161, t162, t163, t164, t165, t166, t169, t170, t171, t172, t173⟩, A20, H⟩ := H
 replace H : ((ostiaryref4_Of.f k t159 t160 t161 t162 t163 t164 t165 t166 t169 t170 t171 t172).bind fun bt175 => (some (bt175.1, bt175.2.1, bt175.2.2.1, bt175.2.2.2))) = some (r1, r2, r3, r4) := H
 have A2 := Aside0.mk A20
 clear A20
 replace H := Option.bind_eq_some_iff.mp H
 obtain ⟨⟨t175, t176, t177, t178⟩, A30, H⟩ := H
 replace H : (some (t175, t176, t177, t178)) = some (r1, r2, r3, r4) := H
 have A3 := Aside0.mk A30
 clear A30
 simp only [Option.some.injEq, Prod.mk.injEq] at H
 obtain ⟨rfl, rfl, rfl, rfl⟩ := H
 go_enter Tryd.func11, Tryd.ntmps11
 go_wp2_with (first | ((with_reducible refine gate_dst (N := 2) rfl ?_); refine box_event ?hg (N := 2) ?hd (cs := #[.string (⟨#[]⟩ : ByteArray), .string (⟨#[]⟩ : ByteArray), .int .i64 0, .bool false]) (t := 25) ?hr ?_; (case hd => rfl); (case hg => rfl); (case hr => first | (go_simp; done) | (go_simp; rfl)); intro gb158 hg w4 hbox hb; have n0_ := Aside0.mk (below_step hB hb); have n1_ := Aside0.mk (hbox); have n2_ := Aside0.mk ((by rw [hg]; exact (below_size hB) : w.heap.size ≤ gb158)); have n3_ := Aside0.mk ((by rw [hg]; exact (below_size hB) : w.heap.size ≤ gb158)); clear HB; have HB := n0_; have BK158 := n1_; have GW158 := n2_; have GE158 := n3_; clear n0_ n1_ n2_ n3_; clear hb hbox hg) | ((with_reducible refine gate_callee (f := 46) rfl ?_); refine goesL_ (some 7) rfl rfl Tryd.func46 q2_ rfl #[.string a0] rfl tS ?_; (with_reducible refine (ostiarykeep_URL.calls k a0 t159 t160 t161 t162 t163 t164 t165 t166 t169 t170 t171 t172 t173 _ A2.out).mono ?_); rintro e w5 ⟨v167, rfl, ho0, hb⟩; refine ⟨_, rfl, ?_⟩; have n0_ := Aside0.mk (Kd.R_lower ho0 (below_size q19_)); have n1_ := Aside0.mk (blk_below (g := gb158) (o := .cells #[.string (⟨#[]⟩ : ByteArray), .string (⟨#[]⟩ : ByteArray), .int .i64 0, .bool false] 25 (0, 0)) (by (with_reducible repeat (first | refine blk_drewN ?_ _ | refine blk_drew ?_ | refine blk_alloc ?_ _)); exact BK158.out) hb); have n2_ := Aside0.mk (below_step q19_ hb); clear BK158; clear HB; have HO168 := n0_; have BK158 := n1_; have HB := n2_; clear n0_ n1_ n2_; (try clear hb); (try clear hb2); (try clear hk); (try clear hi); (try clear ho0)) | ((with_reducible refine gate_dst (N := 3) rfl ?_); refine box_event ?hg (N := 3) ?hd (cs := #[.string (⟨#[]⟩ : ByteArray), .string (⟨#[]⟩ : ByteArray), .string (⟨#[]⟩ : ByteArray), .string (⟨#[]⟩ : ByteArray), .bool false, .int .i64 0, .bool false, .slice none 0 0, .string (⟨#[]⟩ : ByteArray), .string (⟨#[]⟩ : ByteArray), .bool false, .bool false]) (t := 86) ?hr ?_; (case hd => rfl); (case hg => rfl); (case hr => first | (go_simp; done) | (go_simp; rfl)); intro gb174 hg w6 hbox hb; have n0_ := Aside0.mk (Kd.R_below (by (with_reducible repeat (first | apply Kd.R_alloc | apply Kd.R_drewN | apply Kd.R_drew)); exact HO168.out) hb); have n1_ := Aside0.mk (blk_below (g := gb158) (o := .cells #[.string (⟨#[]⟩ : ByteArray), .string (⟨#[]⟩ : ByteArray), .int .i64 0, .bool false] 25 (0, 0)) (by (with_reducible repeat (first | refine blk_drewN ?_ _ | refine blk_drew ?_ | refine blk_alloc ?_ _)); exact BK158.out) hb); have n2_ := Aside0.mk (below_step q19_ hb); have n3_ := Aside0.mk (hbox); have n4_ := Aside0.mk ((by rw [hg]; exact (below_size q19_) : w.heap.size ≤ gb174)); have n5_ := Aside0.mk ((by rw [hg]; exact (below_size q19_) : w.heap.size ≤ gb174)); have n6_ := Aside0.mk ((by rw [hg]; exact Nat.ne_of_lt (blk_lt (g := gb158) (o := .cells #[.string (⟨#[]⟩ : ByteArray), .string (⟨#[]⟩ : ByteArray), .int .i64 0, .bool false] 25 (0, 0)) (by (with_reducible repeat (first | refine blk_drewN ?_ _ | refine blk_drew ?_ | refine blk_alloc ?_ _)); exact BK158.out)) : gb158 ≠ gb174)); have n7_ := Aside0.mk ((by rw [hg]; exact Nat.ne_of_gt (blk_lt (g := gb158) (o := .cells #[.string (⟨#[]⟩ : ByteArray), .string (⟨#[]⟩ : ByteArray), .int .i64 0, .bool false] 25 (0, 0)) (by (with_reducible repeat (first | refine blk_drewN ?_ _ | refine blk_drew ?_ | refine blk_alloc ?_ _)); exact BK158.out)) : gb174 ≠ gb158)); clear HO168; clear BK158; clear HB; have HO168 := n0_; have BK158 := n1_; have HB := n2_; have BK174 := n3_; have GW174 := n4_; have GE174 := n5_; have NB158_174 := n6_; have NB174_158 := n7_; clear n0_ n1_ n2_ n3_ n4_ n5_ n6_ n7_; clear hb hbox hg; have hnb7 := NB174_158.out; have hnc7 := NB158_174.out; have hcz8_0 : w6.cell? ⟨gb174, 0, none⟩ = some (.string (⟨#[]⟩ : ByteArray)) := (blk_cell BK174.out 0).trans rfl; have hcz8_1 : w6.cell? ⟨gb174, 1, none⟩ = some (.string (⟨#[]⟩ : ByteArray)) := (blk_cell BK174.out 1).trans rfl; have hcz8_2 : w6.cell? ⟨gb174, 2, none⟩ = some (.string (⟨#[]⟩ : ByteArray)) := (blk_cell BK174.out 2).trans rfl; have hcz8_3 : w6.cell? ⟨gb174, 3, none⟩ = some (.string (⟨#[]⟩ : ByteArray)) := (blk_cell BK174.out 3).trans rfl; have hcz8_4 : w6.cell? ⟨gb174, 4, none⟩ = some (.bool false) := (blk_cell BK174.out 4).trans rfl; have hcz8_5 : w6.cell? ⟨gb174, 5, none⟩ = some (.int .i64 0) := (blk_cell BK174.out 5).trans rfl; have hcz8_6 : w6.cell? ⟨gb174, 6, none⟩ = some (.bool false) := (blk_cell BK174.out 6).trans rfl; have hcz8_7 : w6.cell? ⟨gb174, 7, none⟩ = some (.slice none 0 0) := (blk_cell BK174.out 7).trans rfl; have hcz8_8 : w6.cell? ⟨gb174, 8, none⟩ = some (.string (⟨#[]⟩ : ByteArray)) := (blk_cell BK174.out 8).trans rfl; have hcz8_9 : w6.cell? ⟨gb174, 9, none⟩ = some (.string (⟨#[]⟩ : ByteArray)) := (blk_cell BK174.out 9).trans rfl; have hcz8_10 : w6.cell? ⟨gb174, 10, none⟩ = some (.bool false) := (blk_cell BK174.out 10).trans rfl; have hcz8_11 : w6.cell? ⟨gb174, 11, none⟩ = some (.bool false) := (blk_cell BK174.out 11).trans rfl; have hfz8_0 := blk_frozen BK174.out 0; have hfz8_1 := blk_frozen BK174.out 1; have hfz8_2 := blk_frozen BK174.out 2; have hfz8_3 := blk_frozen BK174.out 3; have hfz8_4 := blk_frozen BK174.out 4; have hfz8_5 := blk_frozen BK174.out 5; have hfz8_6 := blk_frozen BK174.out 6; have hfz8_7 := blk_frozen BK174.out 7; have hfz8_8 := blk_frozen BK174.out 8; have hfz8_9 := blk_frozen BK174.out 9; have hfz8_10 := blk_frozen BK174.out 10; have hfz8_11 := blk_frozen BK174.out 11; obtain ⟨Ao9, co9, eo9⟩ := Kd.R_slice HO168.out; subst eo9) | ((with_reducible refine gate_callee (f := 47) rfl ?_); refine goesL_ (some 11) rfl rfl Tryd.func47 q2_ rfl #[.agg #[.string t159, .string t160, .string t161, .string t162, .bool t163, .int .i64 t164, .bool t165, .slice Ao9 t166.length co9, .string t169, .string t170, .bool t171, .bool t172]] rfl tS ?_; (with_reducible refine (of_calls k t159 t160 t161 t162 t163 t164 t165 _ _ t166 t169 t170 t171 t172 t175 t176 t177 t178 _ ?side1 ?side2 A3.out).mono ?_); (case side1 => refine (Kd.R_reads' (e := 9) (base := w.heap.size) (ok := fun k_ => True) (n := t166.length) (c := co9) ?_).2.2; exact q12_); (case side2 => exact (Kd.R_reads' HO168.out).2.1); rintro e w10 ⟨rfl, hb⟩; refine ⟨_, rfl, ?_⟩; have n0_ := Aside0.mk (Kd.R_below q12_ hb); have n1_ := Aside0.mk (blk_below (g := gb158) (o := .cells #[.string (⟨#[]⟩ : ByteArray), .string (⟨#[]⟩ : ByteArray), .int .i64 0, .bool false] 25 (0, 0)) (by (with_reducible repeat (first | refine blk_drewN ?_ _ | refine blk_drew ?_ | refine blk_alloc ?_ _)); refine blk_far ?_ NB158_174.out _; (with_reducible repeat (first | refine blk_drewN ?_ _ | refine blk_drew ?_ | refine blk_alloc ?_ _)); refine blk_far ?_ NB158_174.out _; (with_reducible repeat (first | refine blk_drewN ?_ _ | refine blk_drew ?_ | refine blk_alloc ?_ _)); refine blk_far ?_ NB158_174.out _; (with_reducible repeat (first | refine blk_drewN ?_ _ | refine blk_drew ?_ | refine blk_alloc ?_ _)); refine blk_far ?_ NB158_174.out _; (with_reducible repeat (first | refine blk_drewN ?_ _ | refine blk_drew ?_ | refine blk_alloc ?_ _)); refine blk_far ?_ NB158_174.out _; (with_reducible repeat (first | refine blk_drewN ?_ _ | refine blk_drew ?_ | refine blk_alloc ?_ _)); refine blk_far ?_ NB158_174.out _; (with_reducible repeat (first | refine blk_drewN ?_ _ | refine blk_drew ?_ | refine blk_alloc ?_ _)); refine blk_far ?_ NB158_174.out _; (with_reducible repeat (first | refine blk_drewN ?_ _ | refine blk_drew ?_ | refine blk_alloc ?_ _)); refine blk_far ?_ NB158_174.out _; (with_reducible repeat (first | refine blk_drewN ?_ _ | refine blk_drew ?_ | refine blk_alloc ?_ _)); refine blk_far ?_ NB158_174.out _; (with_reducible repeat (first | refine blk_drewN ?_ _ | refine blk_drew ?_ | refine blk_alloc ?_ _)); refine blk_far ?_ NB158_174.out _; (with_reducible repeat (first | refine blk_drewN ?_ _ | refine blk_drew ?_ | refine blk_alloc ?_ _)); refine blk_far ?_ NB158_174.out _; (with_reducible repeat (first | refine blk_drewN ?_ _ | refine blk_drew ?_ | refine blk_alloc ?_ _)); refine blk_far ?_ NB158_174.out _; (with_reducible repeat (first | refine blk_drewN ?_ _ | refine blk_drew ?_ | refine blk_alloc ?_ _)); exact BK158.out) hb); have n2_ := Aside0.mk (blk_below (g := gb174) (o := .cells #[.string t159, .string t160, .string t161, .string t162, .bool t163, .int .i64 t164, .bool t165, .slice Ao9 t166.length co9, .string t169, .string t170, .bool t171, .bool t172] 86 (0, 0)) (by (with_reducible repeat (first | refine blk_drewN ?_ _ | refine blk_drew ?_ | refine blk_alloc ?_ _)); refine blk_put (cs := #[.string t159, .string t160, .string t161, .string t162, .bool t163, .int .i64 t164, .bool t165, .slice Ao9 t166.length co9, .string t169, .string t170, .bool t171, .bool false]) ?_ 11 _ rfl; (with_reducible repeat (first | refine blk_drewN ?_ _ | refine blk_drew ?_ | refine blk_alloc ?_ _)); refine blk_put (cs := #[.string t159, .string t160, .string t161, .string t162, .bool t163, .int .i64 t164, .bool t165, .slice Ao9 t166.length co9, .string t169, .string t170, .bool false, .bool false]) ?_ 10 _ rfl; (with_reducible repeat (first | refine blk_drewN ?_ _ | refine blk_drew ?_ | refine blk_alloc ?_ _)); refine blk_put (cs := #[.string t159, .string t160, .string t161, .string t162, .bool t163, .int .i64 t164, .bool t165, .slice Ao9 t166.length co9, .string t169, .string (⟨#[]⟩ : ByteArray), .bool false, .bool false]) ?_ 9 _ rfl; (with_reducible repeat (first | refine blk_drewN ?_ _ | refine blk_drew ?_ | refine blk_alloc ?_ _)); refine blk_put (cs := #[.string t159, .string t160, .string t161, .string t162, .bool t163, .int .i64 t164, .bool t165, .slice Ao9 t166.length co9, .string (⟨#[]⟩ : ByteArray), .string (⟨#[]⟩ : ByteArray), .bool false, .bool false]) ?_ 8 _ rfl; (with_reducible repeat (first | refine blk_drewN ?_ _ | refine blk_drew ?_ | refine blk_alloc ?_ _)); refine blk_put (cs := #[.string t159, .string t160, .string t161, .string t162, .bool t163, .int .i64 t164, .bool t165, .slice none 0 0, .string (⟨#[]⟩ : ByteArray), .string (⟨#[]⟩ : ByteArray), .bool false, .bool false]) ?_ 7 _ rfl; (with_reducible repeat (first | refine blk_drewN ?_ _ | refine blk_drew ?_ | refine blk_alloc ?_ _)); refine blk_put (cs := #[.string t159, .string t160, .string t161, .string t162, .bool t163, .int .i64 t164, .bool false, .slice none 0 0, .string (⟨#[]⟩ : ByteArray), .string (⟨#[]⟩ : ByteArray), .bool false, .bool false]) ?_ 6 _ rfl; (with_reducible repeat (first | refine blk_drewN ?_ _ | refine blk_drew ?_ | refine blk_alloc ?_ _)); refine blk_put (cs := #[.string t159, .string t160, .string t161, .string t162, .bool t163, .int .i64 0, .bool false, .slice none 0 0, .string (⟨#[]⟩ : ByteArray), .string (⟨#[]⟩ : ByteArray), .bool false, .bool false]) ?_ 5 _ rfl; (with_reducible repeat (first | refine blk_drewN ?_ _ | refine blk_drew ?_ | refine blk_alloc ?_ _)); refine blk_put (cs := #[.string t159, .string t160, .string t161, .string t162, .bool false, .int .i64 0, .bool false, .slice none 0 0, .string (⟨#[]⟩ : ByteArray), .string (⟨#[]⟩ : ByteArray), .bool false, .bool false]) ?_ 4 _ rfl; (with_reducible repeat (first | refine blk_drewN ?_ _ | refine blk_drew ?_ | refine blk_alloc ?_ _)); refine blk_put (cs := #[.string t159, .string t160, .string t161, .string (⟨#[]⟩ : ByteArray), .bool false, .int .i64 0, .bool false, .slice none 0 0, .string (⟨#[]⟩ : ByteArray), .string (⟨#[]⟩ : ByteArray), .bool false, .bool false]) ?_ 3 _ rfl; (with_reducible repeat (first | refine blk_drewN ?_ _ | refine blk_drew ?_ | refine blk_alloc ?_ _)); refine blk_put (cs := #[.string t159, .string t160, .string (⟨#[]⟩ : ByteArray), .string (⟨#[]⟩ : ByteArray), .bool false, .int .i64 0, .bool false, .slice none 0 0, .string (⟨#[]⟩ : ByteArray), .string (⟨#[]⟩ : ByteArray), .bool false, .bool false]) ?_ 2 _ rfl; (with_reducible repeat (first | refine blk_drewN ?_ _ | refine blk_drew ?_ | refine blk_alloc ?_ _)); refine blk_put (cs := #[.string t159, .string (⟨#[]⟩ : ByteArray), .string (⟨#[]⟩ : ByteArray), .string (⟨#[]⟩ : ByteArray), .bool false, .int .i64 0, .bool false, .slice none 0 0, .string (⟨#[]⟩ : ByteArray), .string (⟨#[]⟩ : ByteArray), .bool false, .bool false]) ?_ 1 _ rfl; (with_reducible repeat (first | refine blk_drewN ?_ _ | refine blk_drew ?_ | refine blk_alloc ?_ _)); refine blk_put (cs := #[.string (⟨#[]⟩ : ByteArray), .string (⟨#[]⟩ : ByteArray), .string (⟨#[]⟩ : ByteArray), .string (⟨#[]⟩ : ByteArray), .bool false, .int .i64 0, .bool false, .slice none 0 0, .string (⟨#[]⟩ : ByteArray), .string (⟨#[]⟩ : ByteArray), .bool false, .bool false]) ?_ 0 _ rfl; (with_reducible repeat (first | refine blk_drewN ?_ _ | refine blk_drew ?_ | refine blk_alloc ?_ _)); exact BK174.out) hb); have n3_ := Aside0.mk (below_step (by repeat (first | (with_reducible first | exact HB.out | apply below_alloc | apply pw_below_drewN | apply below_drew1 | refine below_set ?_ GE158.out | refine below_set ?_ GE174.out) | exact HB.out)) hb); clear HO168; clear BK158; clear BK174; clear HB; have HO168 := n0_; have BK158 := n1_; have BK174 := n2_; have HB := n3_; clear n0_ n1_ n2_ n3_; (try clear hb); (try clear hb2); (try clear hk); (try clear hi); have hcz11_0 : w10.cell? ⟨gb158, 0, none⟩ = some (.string (⟨#[]⟩ : ByteArray)) := (blk_cell BK158.out 0).trans rfl; have hcz11_1 : w10.cell? ⟨gb158, 1, none⟩ = some (.string (⟨#[]⟩ : ByteArray)) := (blk_cell BK158.out 1).trans rfl; have hcz11_2 : w10.cell? ⟨gb158, 2, none⟩ = some (.int .i64 0) := (blk_cell BK158.out 2).trans rfl; have hcz11_3 : w10.cell? ⟨gb158, 3, none⟩ = some (.bool false) := (blk_cell BK158.out 3).trans rfl; have hfz11_0 := blk_frozen BK158.out 0; have hfz11_1 := blk_frozen BK158.out 1; have hfz11_2 := blk_frozen BK158.out 2; have hfz11_3 := blk_frozen BK158.out 3))
 refine bodyPost_ret (results_cell_row rfl _ _ gb158 25 #[.string t175, .string t176, .int .i64 t177, .bool t178] (0, 0) _ rfl (by (with_reducible repeat (first | refine blk_drewN ?_ _ | refine blk_drew ?_ | refine blk_alloc ?_ _)); refine blk_put (cs := #[.string t175, .string t176, .int .i64 t177, .bool false]) ?_ 3 _ rfl; (with_reducible repeat (first | refine blk_drewN ?_ _ | refine blk_drew ?_ | refine blk_alloc ?_ _)); refine blk_put (cs := #[.string t175, .string t176, .int .i64 0, .bool false]) ?_ 2 _ rfl; (with_reducible repeat (first | refine blk_drewN ?_ _ | refine blk_drew ?_ | refine blk_alloc ?_ _)); refine blk_put (cs := #[.string t175, .string (⟨#[]⟩ : ByteArray), .int .i64 0, .bool false]) ?_ 1 _ rfl; (with_reducible repeat (first | refine blk_drewN ?_ _ | refine blk_drew ?_ | refine blk_alloc ?_ _)); refine blk_put (cs := #[.string (⟨#[]⟩ : ByteArray), .string (⟨#[]⟩ : ByteArray), .int .i64 0, .bool false]) ?_ 0 _ rfl; (with_reducible repeat (first | refine blk_drewN ?_ _ | refine blk_drew ?_ | refine blk_alloc ?_ _)); exact BK158.out) Tryd.underlying25 rfl q2_) rfl ?_
 exact ⟨by first | rfl | (simp [errW_none, errW_some] <;> rfl) | (simp [*, errW_none, errW_some] <;> rfl), by repeat (first | (with_reducible first | exact HB.out | apply below_alloc | apply pw_below_drewN | apply below_drew1 | refine below_set ?_ GE158.out | refine below_set ?_ GE174.out) | exact HB.out)⟩
end Go.Proofs.YtifmkgkiipckbaaDoor.P
namespace Go.Proofs.YtifmkgkiipckbaaDoor.P
open Go.RowKit Go.Proofs.YtifmkgkiipckbaaDoorW.PrintWords Go.Proofs.YtifmkgkiipckbaaDoorW.PrintLast Go.Proofs.YtifmkgkiipckbaaDoorW.PrintMore
set_option linter.unusedVariables false
set_option linter.unusedSimpArgs false
theorem Host_tot (k : Nat) (s : ByteArray) (sp : Bool) (hs : s.size ≤ 100000) (hk : 6 * s.size + 1000 ≤ k) : Tot (ostiaryref2_Parse.f k s sp) (fun r => r.1.size ≤ 3 * s.size + 2000) := by
 have e0 : (⟨#[]⟩ : ByteArray).size ≤ 3 * s.size + 2000 := Nat.zero_le _
 have L0 : ∀ (k : Nat) (x : Int), 0 ≤ x → (s.size - x.toNat) + s.size + 150 ≤ k → Tot (ostiaryref2_Parse.l0 k s x) (fun r => r.1.size ≤ 3 * s.size + 2000) := by
  intro k
  induction k with
  | zero => intro x _ h; omega
  | succ k ih =>
   intro x h0 hk
   unfold ostiaryref2_Parse.l0
   refine Tot.ite (fun _ => Tot.guard h0 (Tot.bind (bad_tot _ _ (by omega)) (fun _ _ => Tot.ite (fun _ => Tot.pure e0) (fun _ => ih _ oK oK)))) (fun _ => Tot.bind (Percent_tot _ _ _ (by omega) (by omega)) (fun r hr => Tot.pure (by simp only; omega)))
 have L2 : ∀ (k : Nat) (t : ByteArray) (ls : List ByteArray) (x : Int), t.size ≤ s.size → ls.length ≤ s.size + 1 → (∀ q ∈ ls, q.size ≤ s.size) → 0 ≤ x → x ≤ ls.length → (ls.length - x.toNat) + 2 * s.size + 250 ≤ k → Tot (ostiaryref2_Parse.l2 k t ls x) (fun r => r.1.size ≤ 3 * s.size + 2000) := by
  intro k
  induction k with
  | zero => intro t ls x _ _ _ _ _ h; omega
  | succ k ih =>
   intro t ls x ht hl hm h0 hx hk
   unfold ostiaryref2_Parse.l2
   refine Tot.ite (fun _ => Tot.guard h0 (Tot.bind (Begins_tot _ _) (fun _ _ => Tot.ite (fun _ => Tot.pure e0) (fun _ => ih _ _ _ ht hl hm oK oK oK)))) (fun _ => ?_)
   refine Tot.ite (fun _ => Tot.pure e0) (fun _ => Tot.bind (Numbered_tot _ _ (by omega) (by omega)) (fun _ _ => Tot.ite (fun _ => Tot.bind (Four_tot _ _ (by omega) (by omega)) (fun r hr => Tot.ite (fun _ => Tot.bind (Text4_tot _ _ hr.1 hr.2 (by omega)) (fun r hr => Tot.pure (by simp only; omega))) (fun _ => Tot.pure e0))) (fun _ => Tot.pure (by simp only; omega))))
 have L1 : ∀ (k : Nat) (t : ByteArray) (x : Int), t.size ≤ s.size → 0 ≤ x → (t.size - x.toNat) + 3 * s.size + 300 ≤ k → Tot (ostiaryref2_Parse.l1 k t x) (fun r => r.1.size ≤ 3 * s.size + 2000) := by
  intro k
  induction k with
  | zero => intro t x _ _ h; omega
  | succ k ih =>
   intro t x ht h0 hk
   unfold ostiaryref2_Parse.l1
   refine Tot.ite (fun _ => Tot.guard h0 ?_) (fun _ => Tot.bind (Cut_tot _ _ _ (by omega) (by omega)) (fun r hr => L2 _ _ _ _ ht (by omega) (fun q hq => Nat.le_trans (hr.2.2 q hq) ht) (by omega) (by omega) (by have := hr.2.1; simp only [Int.toNat_zero]; omega)))
   refine Tot.ite (fun _ => Tot.pure e0) (fun _ => Tot.ite (fun _ => Tot.pure e0) (fun _ => Tot.ite (fun _ => Tot.pure e0) (fun _ => ?_)))
   exact Tot.bind (bad_tot _ _ (by omega)) (fun _ _ => Tot.ite (fun _ => Tot.pure e0) (fun _ => ih _ _ ht oK oK))
 unfold ostiaryref2_Parse.f
 refine Tot.bind' (Begins_tot _ _) (fun b hbe hb => Tot.ite (fun hbt => ?_) (fun _ => ?_))
 ·have h1 : 1 ≤ s.size := hb hbt
  refine Tot.bind' (Ends_tot _ _ (by omega)) (fun e hee he => Tot.ite (fun het => ?_) (fun _ => Tot.pure e0))
  by_cases hone : s.size = 1
  ·exfalso
   subst hbt het
   unfold ostiaryref1_Begins.f at hbe
   unfold ostiaryref1_Ends.f at hee
   have z1 : (⟨#[91]⟩ : ByteArray).size = 1 := rfl
   have z2 : (⟨#[93]⟩ : ByteArray).size = 1 := rfl
   have z3 : wrap64 (((1 : Nat) : Int) - ((1 : Nat) : Int)) = 0 := wr _ (by omega) (by omega)
   rw [z1, hone] at hbe
   rw [z2, hone, z3] at hee
   simp only [Int.toNat_zero] at hbe hee
   simp at hbe hee
   rw [hbe] at hee
   exact absurd hee (by decide)
  ·refine Tot.guard oK (Tot.guard oK (Tot.bind (Six_tot _ oK) (fun r hr => Tot.ite (fun _ => ?_) (fun _ => Tot.pure e0))))
   obtain ⟨h1, h2, h3, h4, h5, h6, h7, h8⟩ := hr
   refine Tot.bind (Text6_tot _ _ _ _ _ _ _ _ h1 h2 h3 h4 h5 h6 h7 h8) (fun t ht => Tot.guard (by omega) (Tot.guard oK (Tot.pure ?_)))
   simp only [ByteArray.size_append, lit_size, List.size_toArray, List.length_cons, List.length_nil]
   omega
 ·refine Tot.ite (fun _ => Tot.bind (Unpercent_tot _ _ (by omega) (by omega)) (fun t ht => Tot.bind (rLower_tot _ (by omega)) (fun q hq => ?_))) (fun _ => L0 _ _ (by omega) (by omega))
  subst hq
  exact L1 _ _ _ (by rw [lowS_size]; omega) (by omega) (by rw [lowS_size]; omega)
def AOk (f0 : ByteArray) (n : Nat) (r : Int × ByteArray × ByteArray × ByteArray × ByteArray × Bool × Int × Bool × ByteArray × ByteArray × Bool × Bool) : Prop :=
 r.2.1 = f0 ∧ r.2.2.2.2.1.size ≤ n ∧ -1 ≤ r.2.2.2.2.2.2.1 ∧ r.2.2.2.2.2.2.1 ≤ 65535
theorem authority_tot (k : Nat) (f0 f1 f2 f3 : ByteArray) (f4 : Bool) (f5 : Int) (f6 : Bool) (f7 : List ByteArray) (f8 f9 : ByteArray) (f10 f11 : Bool) (s : ByteArray) (hs : s.size ≤ 30000) (hf3 : f3.size ≤ 100000) (hk : 10 * s.size + 3000 ≤ k) :
  Tot (ostiaryref3_authority.f k f0 f1 f2 f3 f4 f5 f6 f7 f8 f9 f10 f11 s) (AOk f0 100000) := by
 have J4 : ∀ (k : Nat) (t : ByteArray) (told : Bool) (f1 f2 : ByteArray) (p : Int), t.size ≤ s.size → -1 ≤ p → p ≤ 65535 → 6 * s.size + 1500 ≤ k → Tot (ostiaryref3_authority.j4 k t told f0 f1 f2 f3 f4 p f6 f7 f8 f9 f10 f11) (AOk f0 100000) := by
  intro k t told f1 f2 p ht hp0 hp1 hk
  obtain ⟨k, rfl⟩ : ∃ j, k = j + 1 := ⟨k - 1, by omega⟩
  unfold ostiaryref3_authority.j4
  have bad : ∀ f1 f2 : ByteArray, AOk f0 100000 (10, f0, f1, f2, f3, f4, p, f6, f8, f9, f10, f11) := fun _ _ => ⟨rfl, hf3, hp0, hp1⟩
  refine Tot.bind (Special_tot _ _ (by omega)) (fun sp _ => Tot.bind (Host_tot _ _ _ (by omega) (by omega)) (fun r hr => ?_))
  have good : ∀ f1 f2 : ByteArray, AOk f0 100000 (0, f0, f1, f2, r.1, true, p, f6, f8, f9, f10, f11) := fun _ _ => ⟨rfl, by simp only; omega, hp0, hp1⟩
  (repeat' (first | (with_reducible refine Tot.guard oK ?_) | (with_reducible refine Tot.pure ?_) | (with_reducible refine Tot.bind q5_ ?_; intro _ _) | (with_reducible refine Tot.ite ?_ ?_ <;> intro _))) <;> first | exact bad _ _ | exact good _ _
 have J3 : ∀ (k : Nat) (t : ByteArray) (n : Int) (f : Bool) (f1 f2 : ByteArray), t.size ≤ s.size → (f = false → 0 ≤ n ∧ n ≤ 65535) → 6 * s.size + 1510 ≤ k → Tot (ostiaryref3_authority.j3 k t n f f0 f1 f2 f3 f4 (-1) f6 f7 f8 f9 f10 f11) (AOk f0 100000) := by
  intro k t n f f1 f2 ht hn hk
  obtain ⟨k, rfl⟩ : ∃ j, k = j + 1 := ⟨k - 1, by omega⟩
  unfold ostiaryref3_authority.j3
  refine Tot.ite (fun _ => Tot.pure ⟨rfl, hf3, by simp only; omega, by simp only; omega⟩) (fun hf => ?_)
  have := hn (by simpa using hf)
  exact Tot.bind (Own_tot _ _ (by omega)) (fun _ _ => Tot.ite (fun _ => J4 _ _ _ _ _ _ ht (by omega) (by omega) (by omega)) (fun _ => J4 _ _ _ _ _ _ ht (by omega) (by omega) (by omega)))
 have L1 : ∀ (k : Nat) (t : ByteArray) (c : Int) (b : Bool) (x : Int) (f1 f2 : ByteArray) (f5 : Int), t.size ≤ s.size → -1 ≤ c → c < t.size → 0 ≤ x → x ≤ t.size → (t.size - x.toNat) + 6 * s.size + 1600 ≤ k → Tot (ostiaryref3_authority.l1 k t c b x f0 f1 f2 f3 f4 f5 f6 f7 f8 f9 f10 f11) (AOk f0 100000) := by
  intro k
  induction k with
  | zero => intro t c b x f1 f2 f5 _ _ _ _ _ h; omega
  | succ k ih =>
   intro t c b x f1 f2 f5 ht hc0 hc1 h0 hx hk
   unfold ostiaryref3_authority.l1
   refine Tot.ite (fun hlt => Tot.guard h0 ?_) (fun _ => Tot.ite (fun hc => ?_) (fun _ => J4 _ _ _ _ _ _ ht (by omega) (by omega) (by omega)))
   ·have next : ∀ c b, -1 ≤ c → c < (t.size : Int) → Tot (ostiaryref3_authority.l1 k t c b (wrap64 (x + 1)) f0 f1 f2 f3 f4 f5 f6 f7 f8 f9 f10 f11) (AOk f0 100000) := fun c b h1 h2 => ih _ _ _ _ _ _ _ ht h1 h2 oK oK oK
    (repeat' (first | (with_reducible refine Tot.guard oK ?_) | (with_reducible refine Tot.pure ?_) | (with_reducible refine Tot.bind q5_ ?_; intro _ _) | (with_reducible refine Tot.ite ?_ ?_ <;> intro _)))
    ·exact next _ _ hc0 hc1
    ·exact next _ _ hc0 hc1
    ·exact next _ _ hc0 hc1
    ·exact next _ _ (by omega) hlt
    ·exact next _ _ hc0 hc1
   ·refine Tot.guard oK (Tot.guard oK (Tot.guard (by omega) (Tot.guard (by omega) (Tot.ite (fun _ => J4 _ _ _ _ _ _ oK (by omega) (by omega) (by omega)) (fun _ => ?_)))))
    refine Tot.bind (Int_tot _ _ oK oK) (fun r hr => Tot.ite (fun _ => J3 _ _ _ _ _ _ oK (fun h => ?_) (by omega)) (fun _ => J3 _ _ _ _ _ _ oK (by simp) (by omega)))
    simp at h
    omega
 have J1 : ∀ (k : Nat) (t : ByteArray) (f1 f2 : ByteArray) (f5 : Int), t.size ≤ s.size → 7 * s.size + 1700 ≤ k → Tot (ostiaryref3_authority.j1 k t f0 f1 f2 f3 f4 f5 f6 f7 f8 f9 f10 f11) (AOk f0 100000) := by
  intro k t f1 f2 f5 ht hk
  obtain ⟨k, rfl⟩ : ∃ j, k = j + 1 := ⟨k - 1, by omega⟩
  unfold ostiaryref3_authority.j1
  exact L1 _ _ _ _ _ _ _ _ ht (by omega) (by omega) (by omega) (by omega) (by omega)
 have L0 : ∀ (k : Nat) (c x : Int) (f1 f2 : ByteArray) (f5 : Int), -1 ≤ c → c < s.size → 0 ≤ x → x ≤ s.size → (s.size - x.toNat) + 7 * s.size + 1800 ≤ k → Tot (ostiaryref3_authority.l0 k s c x f0 f1 f2 f3 f4 f5 f6 f7 f8 f9 f10 f11) (AOk f0 100000) := by
  intro k
  induction k with
  | zero => intro c x f1 f2 f5 _ _ _ _ h; omega
  | succ k ih =>
   intro c x f1 f2 f5 hc0 hc1 h0 hx hk
   unfold ostiaryref3_authority.l0
   refine Tot.ite (fun hlt => Tot.guard h0 (Tot.ite (fun _ => ih _ _ _ _ _ (by omega) hlt oK oK oK) (fun _ => ih _ _ _ _ _ hc0 hc1 oK oK oK))) (fun _ => Tot.ite (fun hc => ?_) (fun _ => J1 _ _ _ _ _ (Nat.le_refl _) (by omega)))
   have e1 : (s.extract 0 c.toNat).size ≤ s.size := by first | exact True.intro | assumption | omega | (simp only [wrap64, ByteArray.size_append, ByteArray.size_extract, lit_size, List.length_append, List.length_cons, List.length_nil, List.size_toArray]; omega)
   refine Tot.guard (by omega) (Tot.guard (by omega) (Tot.bind (Part_tot _ _ _ (by omega) (by omega)) (fun r hr => ?_)))
   refine Tot.bind (Percent_tot _ _ _ (by omega) (by omega)) (fun _ _ => Tot.bind (Percent_tot _ _ _ (by omega) (by omega)) (fun _ _ => ?_))
   exact Tot.guard oK (Tot.guard oK (J1 _ _ _ _ _ oK (by omega)))
 exact L0 _ _ _ _ _ _ (by omega) (by omega) (by omega) (by omega) (by omega)
def UOk (u : S86) : Prop := u.f0.size ≤ 10000 ∧ u.f3.size ≤ 100000 ∧ -1 ≤ u.f5 ∧ u.f5 ≤ 65535
theorem query_tot (k : Nat) (u : S86) (s : ByteArray) (hs : s.size ≤ 30000) (hk : s.size + 500 ≤ k) (hu : UOk u) : Tot (ostiaryref3_query.f k u s) UOk := by
 unfold ostiaryref3_query.f
 refine Tot.bind (Part_tot _ _ _ (by omega) (by omega)) (fun p hp => Tot.ite (fun _ => Tot.bind (Special_tot _ _ (by omega)) (fun _ _ => Tot.bind (Percent_tot _ _ _ (by omega) (by omega)) (fun _ _ => Tot.pure hu))) (fun _ => Tot.pure hu))
theorem rest_tot (k : Nat) (u : S86) (s : ByteArray) (hs : s.size ≤ 30000) (hk : 6 * s.size + 2000 ≤ k) (hu : UOk u) : Tot (ostiaryref3_rest.f k u s) UOk := by
 unfold ostiaryref3_rest.f
 refine Tot.bind (ahead_tot _ _ _ _ (by omega) (by omega)) (fun p hp => Tot.bind (query_tot _ _ _ hs (by omega) hu) (fun r hr => ?_))
 refine Tot.bind (Q := fun _ => True) ?_ (fun l _ => Tot.pure hr)
 refine Tot.ite (fun _ => Tot.bind (Special_tot _ _ (by omega)) (fun _ _ => Tot.ite (fun _ => Tot.pure trivial) (fun _ => Tot.pure trivial))) (fun _ => Tot.ite (fun _ => path_tot _ _ oK oK) (fun _ => path_tot _ _ (by omega) (by omega)))
theorem far_tot (k : Nat) (u : S86) (s : ByteArray) (hs : s.size ≤ 30000) (hk : 10 * s.size + 4000 ≤ k) (hu : UOk u) : Tot (ostiaryref3_far.f k u s) (fun r => UOk r.2) := by
 unfold ostiaryref3_far.f
 refine Tot.bind (ahead_tot _ _ _ _ (by omega) (by omega)) (fun p hp => Tot.bind (authority_tot _ _ _ _ _ _ _ _ _ _ _ _ _ _ (by omega) hu.2.1 (by omega)) (fun r hr => ?_))
 have hu1 : UOk ⟨r.2.1, r.2.2.1, r.2.2.2.1, r.2.2.2.2.1, r.2.2.2.2.2.1, r.2.2.2.2.2.2.1, r.2.2.2.2.2.2.2.1, u.f7, r.2.2.2.2.2.2.2.2.1, r.2.2.2.2.2.2.2.2.2.1, r.2.2.2.2.2.2.2.2.2.2.1, r.2.2.2.2.2.2.2.2.2.2.2⟩ := ⟨by rw [hr.1]; exact hu.1, hr.2.1, hr.2.2.1, hr.2.2.2⟩
 exact Tot.ite (fun _ => Tot.bind (rest_tot _ _ _ (by omega) (by omega) hu1) (fun _ h => Tot.pure h)) (fun _ => Tot.pure hu1)
theorem slashes_tot (s : ByteArray) (hs : s.size ≤ 100000) : Tot (ostiaryref3_slashes.f s) (fun r => r.size = s.size) := by
 have : ∀ l : List UInt8, (slashL l).length = l.length := by
  intro l
  induction l with
  | nil => rfl
  | cons c r ih => unfold slashL; split <;> simp [ih]
 unfold ostiaryref3_slashes.f
 rw [if_pos (by omega)]
 refine Tot.pure ?_
 rw [lit_size]
 simp [this]
theorem full_tot (k : Nat) (u : S86) (s : ByteArray) (hs : s.size ≤ 30000) (hk : 10 * s.size + 4000 ≤ k) (hu : UOk u) : Tot (ostiaryref3_full.f k u s) (fun r => UOk r.2) := by
 have hu1 : UOk { u with f5 := -1 } := ⟨hu.1, hu.2.1, by simp only; omega, by simp only; omega⟩
 unfold ostiaryref3_full.f
 refine Tot.bind (Special_tot _ _ (by omega)) (fun sp _ => Tot.ite (fun _ => ?_) (fun _ => Tot.bind (Begins_tot _ _) (fun c hc => Tot.ite (fun h => ?_) (fun _ => Tot.bind (Begins_tot _ _) (fun d _ => Tot.ite (fun _ => ?_) (fun _ => ?_))))))
 ·refine Tot.bind (slashes_tot _ (by omega)) (fun a ha => Tot.bind (over_tot _ _ (by omega)) (fun b hb => far_tot _ _ _ (by omega) (by omega) hu1))
 ·have : 2 ≤ s.size := hc h
  exact Tot.guard this (far_tot _ _ _ oK oK hu1)
 ·exact Tot.bind (rest_tot _ _ _ hs (by omega) hu1) (fun _ h => Tot.pure h)
 ·refine Tot.bind (ahead_tot _ _ _ _ (by omega) (by omega)) (fun p hp => Tot.bind (Percent_tot _ _ _ (by omega) (by omega)) (fun x _ => Tot.bind (query_tot _ _ _ hs (by omega) ?_) (fun _ h => Tot.pure h)))
  exact ⟨hu.1, hu.2.1, by simp only; omega, by simp only; omega⟩
theorem zeroU_ok : UOk zeroU := ⟨by decide, by decide, by decide, by decide⟩
theorem parseU_tot (k : Nat) (s : ByteArray) (hk : 60000 ≤ k) : Tot (parseU k s) (fun r => UOk r.1) := by
 unfold parseU
 refine Tot.ite (fun _ => Tot.pure zeroU_ok) (fun hs => Tot.bind (clean_tot _ _ (by omega) (by omega)) (fun c hc => ?_))
 have hsp : Tot (ostiaryref3_split.f k ⟨#[]⟩ ⟨#[]⟩ ⟨#[]⟩ ⟨#[]⟩ false 0 false [] ⟨#[]⟩ ⟨#[]⟩ false false c) (fun r => r.1.size ≤ c.size ∧ r.2.2.2.2.1 = ⟨#[]⟩ ∧ r.2.2.2.2.2.2.1 = 0) := by
  unfold ostiaryref3_split.f
  exact Tot.bind (Part_tot _ _ _ (by omega) (by omega)) (fun p hp => Tot.ite (fun _ => Tot.bind (Percent_tot _ _ _ (by omega) (by omega)) (fun _ _ => Tot.pure ⟨hp.1, rfl, rfl⟩)) (fun _ => Tot.pure ⟨hp.1, rfl, rfl⟩))
 refine Tot.bind hsp (fun r hr => Tot.bind (scheme_tot _ _ (by omega) (by omega)) (fun t ht => Tot.ite (fun _ => ?_) (fun _ => Tot.pure zeroU_ok)))
 refine Tot.bind (full_tot _ _ _ (by omega) (by omega) ⟨?_, ?_, ?_, ?_⟩) (fun z hz => Tot.ite (fun _ => Tot.pure hz) (fun _ => Tot.pure zeroU_ok))
 ·simp only; omega
 ·simp only; rw [hr.2.1]; decide
 ·simp only; rw [hr.2.2]; decide
 ·simp only; rw [hr.2.2]; decide
theorem Parse_tot (k : Nat) (s : ByteArray) (hk : 60000 ≤ k) : Tot (ostiaryref3_Parse.f k s) (fun r => r.1.size ≤ 10000 ∧ r.2.2.2.1.size ≤ 100000 ∧ -1 ≤ r.2.2.2.2.2.1 ∧ r.2.2.2.2.2.1 ≤ 65535) := by
 unfold ostiaryref3_Parse.f
 exact Tot.bind (parseU_tot _ _ hk) (fun r hr => Tot.pure hr)
def OOk (r : ByteArray × ByteArray × Int × Bool) : Prop := r.1.size ≤ 10000 ∧ r.2.1.size ≤ 100000 ∧ -1 ≤ r.2.2.1 ∧ r.2.2.1 ≤ 65535
theorem Of_tot (k : Nat) (f0 f1 f2 f3 : ByteArray) (f4 : Bool) (f5 : Int) (f6 : Bool) (f7 : List ByteArray) (f8 f9 : ByteArray) (f10 f11 : Bool) (hk : 60100 ≤ k) (h0 : f0.size ≤ 10000) (h3 : f3.size ≤ 100000) (h5 : -1 ≤ f5) (h6 : f5 ≤ 65535) :
  Tot (ostiaryref4_Of.f k f0 f1 f2 f3 f4 f5 f6 f7 f8 f9 f10 f11) OOk := by
 have J1 : ∀ (k : Nat) (f0 f1 f2 f3 : ByteArray) (f4 : Bool) (f5 : Int) (f6 : Bool) (f7 : List ByteArray) (f8 f9 : ByteArray) (f10 f11 : Bool), 20 ≤ k → f0.size ≤ 10000 → f3.size ≤ 100000 → -1 ≤ f5 → f5 ≤ 65535 → Tot (ostiaryref4_Of.j1 k f0 f1 f2 f3 f4 f5 f6 f7 f8 f9 f10 f11) OOk := by
  intro k f0 f1 f2 f3 f4 f5 f6 f7 f8 f9 f10 f11 hk h0 h3 h5 h6
  obtain ⟨k, rfl⟩ : ∃ j, k = j + 1 := ⟨k - 1, by omega⟩
  unfold ostiaryref4_Of.j1
  refine Tot.bind (Special_tot _ _ (by omega)) (fun _ _ => Tot.ite (fun _ => ?_) (fun _ => Tot.pure ⟨by decide, by decide, by simp only; omega, by simp only; omega⟩))
  unfold ostiaryref4_Port.f
  refine Tot.bind (Q := fun r => -1 ≤ r ∧ r ≤ 65535) (Tot.ite (fun _ => Tot.bind (Own_tot _ _ (by omega)) (fun _ h => Tot.pure ⟨h.1, by omega⟩)) (fun _ => Tot.pure ⟨h5, h6⟩)) (fun r hr => Tot.pure ⟨h0, h3, hr.1, hr.2⟩)
 have J0 : ∀ (k : Nat) (f0 f1 f2 f3 : ByteArray) (f4 : Bool) (f5 : Int) (f6 : Bool) (f7 : List ByteArray) (f8 f9 : ByteArray) (f10 f11 : Bool), 30 ≤ k → f0.size ≤ 10000 → f3.size ≤ 100000 → -1 ≤ f5 → f5 ≤ 65535 → Tot (ostiaryref4_Of.j0 k false f0 f1 f2 f3 f4 f5 f6 f7 f8 f9 f10 f11) OOk := by
  intro k f0 f1 f2 f3 f4 f5 f6 f7 f8 f9 f10 f11 hk h0 h3 h5 h6
  obtain ⟨k, rfl⟩ : ∃ j, k = j + 1 := ⟨k - 1, by omega⟩
  unfold ostiaryref4_Of.j0
  rw [if_neg (by simp)]
  exact J1 _ _ _ _ _ _ _ _ _ _ _ _ _ (by omega) h0 h3 h5 h6
 have F1 : ∀ (k : Nat) (f0 f1 f2 f3 : ByteArray) (f4 : Bool) (f5 : Int) (f6 : Bool) (f7 : List ByteArray) (f8 f9 : ByteArray) (f10 f11 : Bool), 40 ≤ k → f0.toList ≠ [98, 108, 111, 98] → f0.size ≤ 10000 → f3.size ≤ 100000 → -1 ≤ f5 → f5 ≤ 65535 → Tot (ostiaryref4_Of.f k f0 f1 f2 f3 f4 f5 f6 f7 f8 f9 f10 f11) OOk := by
  intro k f0 f1 f2 f3 f4 f5 f6 f7 f8 f9 f10 f11 hk hb h0 h3 h5 h6
  obtain ⟨k, rfl⟩ : ∃ j, k = j + 1 := ⟨k - 1, by omega⟩
  unfold ostiaryref4_Of.f
  rw [if_neg hb]
  exact J0 _ _ _ _ _ _ _ _ _ _ _ _ _ (by omega) h0 h3 h5 h6
 obtain ⟨k, rfl⟩ : ∃ j, k = j + 2 := ⟨k - 2, by omega⟩
 unfold ostiaryref4_Of.f
 have hj : ∀ f, (f = true → 1 ≤ f7.length) → Tot (ostiaryref4_Of.j0 (k + 1) f f0 f1 f2 f3 f4 f5 f6 f7 f8 f9 f10 f11) OOk := by
  intro f hf
  cases f with
  | false => exact J0 _ _ _ _ _ _ _ _ _ _ _ _ _ (by omega) h0 h3 h5 h6
  | true =>
   have := hf rfl
   unfold ostiaryref4_Of.j0
   rw [if_pos rfl]
   have last := J1 k f0 f1 f2 f3 f4 f5 f6 f7 f8 f9 f10 f11 (by omega) h0 h3 h5 h6
   refine Tot.guard (by omega) (Tot.bind (Parse_tot _ _ (by omega)) (fun r hr => Tot.ite (fun _ => Tot.ite (fun h => ?_) (fun _ => Tot.ite (fun h => ?_) (fun _ => last))) (fun _ => last)))
   ·exact Tot.bind (F1 _ _ _ _ _ _ _ _ _ _ _ _ _ (by omega) (by rw [h]; decide) hr.1 hr.2.1 hr.2.2.1 hr.2.2.2) (fun _ h => Tot.pure h)
   ·exact Tot.bind (F1 _ _ _ _ _ _ _ _ _ _ _ _ _ (by omega) (by rw [h]; decide) hr.1 hr.2.1 hr.2.2.1 hr.2.2.2) (fun _ h => Tot.pure h)
 refine Tot.ite (fun _ => Tot.ite (fun _ => hj _ (fun h => ?_)) (fun _ => hj _ (by simp))) (fun _ => hj _ (by simp))
 have := beq_iff_eq.1 h
 omega
theorem Few_tot (s : ByteArray) (n : Int) (h : 0 ≤ n) : Tot (ostiarykeep_Few.f s n) (fun r => r.size ≤ n.toNat) := by
 unfold ostiarykeep_Few.f
 (repeat' (first | (with_reducible refine Tot.guard oK ?_) | (with_reducible refine Tot.pure ?_) | (with_reducible refine Tot.bind q5_ ?_; intro _ _) | (with_reducible refine Tot.ite ?_ ?_ <;> intro _)))
 ·simp only [ByteArray.size_extract]; omega
 ·omega
theorem of_tot (k : Nat) (s : ByteArray) (hk : 70000 ≤ k) : Tot (ostiarylaw18_of.f k s) OOk := by
 unfold ostiarylaw18_of.f ostiarykeep_URL.f
 refine Tot.bind (Q := fun r => r.1.size ≤ 10000 ∧ r.2.2.2.1.size ≤ 100000 ∧ -1 ≤ r.2.2.2.2.2.1 ∧ r.2.2.2.2.2.1 ≤ 65535) (Tot.bind (Few_tot _ _ (by omega)) (fun _ _ => Tot.bind (Parse_tot _ _ (by omega)) (fun r hr => Tot.pure hr))) (fun r hr => Tot.bind (Of_tot _ _ _ _ _ _ _ _ _ _ _ _ _ (by omega) hr.1 hr.2.1 hr.2.2.1 hr.2.2.2) (fun _ h => Tot.pure h))
end Go.Proofs.YtifmkgkiipckbaaDoor.P
namespace Go.Proofs
open Go.Shelf
def Tryd.lays156_ren : Go.Shelf.Ren := ⟨fun | 156 => 87 | 165 => 111 | 166 => 112 | 169 => 113 | 240 => 138 | 241 => 139 | 276 => 165 | 277 => 166 | n => n, fun | 31 => 84 | 9 => 9 | 3 => 3 | 4 => 4 | 0 => 0 | 20 => 20 | 72 => 167 | 76 => 171 | 70 => 165 | 37 => 34 | 75 => 170 | 127 => 195 | 164 => 216 | 5 => 5 | 80 => 173 | n => n, fun | n => n⟩
theorem Tryd.lays156 : Go.Proofs.Lays.n156 Tryd.prog Tryd.lays156_ren := {
 mixed := by kernel_rfl
 f156 := Tryd.func87.trans (congrArg some (by kernel_rfl))
 f165 := Tryd.func111.trans (congrArg some (by kernel_rfl))
 f166 := Tryd.func112.trans (congrArg some (by kernel_rfl))
 f169 := Tryd.func113.trans (congrArg some (by kernel_rfl))
 f240 := Tryd.func138.trans (congrArg some (by kernel_rfl))
 f241 := Tryd.func139.trans (congrArg some (by kernel_rfl))
 f276 := Tryd.func165.trans (congrArg some (by kernel_rfl))
 f277 := Tryd.func166.trans (congrArg some (by kernel_rfl))
 t0 := Tryd.underlying0
 a0 := Tryd.isAgg0
 z0 := Tryd.sizeOf0
 v0 := Tryd.zeroValue0
 t3 := Tryd.underlying3
 a3 := Tryd.isAgg3
 z3 := Tryd.sizeOf3
 v3 := Tryd.zeroValue3
 t4 := Tryd.underlying4
 a4 := Tryd.isAgg4
 z4 := Tryd.sizeOf4
 v4 := Tryd.zeroValue4
 t9 := Tryd.underlying9
 a9 := Tryd.isAgg9
 z9 := Tryd.sizeOf9
 v9 := Tryd.zeroValue9
 t20 := Tryd.underlying20
 a20 := Tryd.isAgg20
 z20 := Tryd.sizeOf20
 v20 := Tryd.zeroValue20
 t31 := Tryd.underlying84
 a31 := Tryd.isAgg84
 z31 := Tryd.sizeOf84
 v31 := Tryd.zeroValue84
 t37 := Tryd.underlying34
 a37 := Tryd.isAgg34
 z37 := Tryd.sizeOf34
 v37 := Tryd.zeroValue34
 t70 := Tryd.underlying165
 a70 := Tryd.isAgg165
 z70 := Tryd.sizeOf165
 v70 := Tryd.zeroValue165
 t72 := Tryd.underlying167
 a72 := Tryd.isAgg167
 z72 := Tryd.sizeOf167
 v72 := Tryd.zeroValue167
 t75 := Tryd.underlying170
 a75 := Tryd.isAgg170
 z75 := Tryd.sizeOf170
 v75 := Tryd.zeroValue170
 t76 := Tryd.underlying171
 a76 := Tryd.isAgg171
 z76 := Tryd.sizeOf171
 v76 := Tryd.zeroValue171
 t127 := Tryd.underlying195
 a127 := Tryd.isAgg195
 z127 := Tryd.sizeOf195
 v127 := Tryd.zeroValue195
 t164 := Tryd.underlying216
 a164 := Tryd.isAgg216
 z164 := Tryd.sizeOf216
 v164 := Tryd.zeroValue216 }
theorem Tryd.Builder_Extra_156 : Builder.Extra Tryd.prog Tryd.lays156_ren := {
 sizeBuilder := by kernel_rfl
 liesBuilder := by kernel_rfl
 t5 := Tryd.underlying5
 a5 := Tryd.isAgg5
 z5 := Tryd.sizeOf5
 v5 := Tryd.zeroValue5
 infoByte := by kernel_rfl
 cellsByte := by kernel_rfl
 sizeByte := by kernel_rfl
 neB5 := by decide }
open Go.RowKit in
theorem Tryd.strings_Join_none (a : Option Addr) (c : Nat) (sep : ByteArray) (w : World) :
  Calls Tryd.prog 87 #[.slice a 0 c, .string sep] w fun e w' => e = .returned (.string ⟨#[]⟩) ∧ w' = w := Any.strings_Join_none Tryd.lays156 Tryd.Builder_Extra_156 a c sep w
open Go.RowKit in
theorem Tryd.strings_Join (bk o c : Nat) (xs : List ByteArray) (sep : ByteArray) (w : World) (hcells : ∀ (j : Nat) x, xs[j]? = some x → w.cell? ⟨bk, o + j, none⟩ = some (.string x)) (hbk : bk < w.heap.size) (hN : xs.length ≤ 140737488355328) (hcap : xs.length ≤ c) (hlen : (Lib.join (xs.map (·.data.toList)) sep.data.toList).length ≤ 140737488355328) :
  Calls Tryd.prog 87 #[.slice (some ⟨bk, o, none⟩) xs.length c, .string sep] w fun e w' => e = .returned (.string ⟨(Lib.join (xs.map (·.data.toList)) sep.data.toList).toArray⟩) ∧ Below w.heap.size w w' := Any.strings_Join Tryd.lays156 Tryd.Builder_Extra_156 bk o c xs sep w hcells hbk hN hcap hlen
def Tryd.lays137_ren : Go.Shelf.Ren := ⟨fun | 137 => 89 | 217 => 114 | 266 => 140 | n => n, fun | 9 => 9 | 5 => 5 | 3 => 3 | n => n, fun | n => n⟩
theorem Tryd.lays137 : Go.Proofs.Lays.n137 Tryd.prog Tryd.lays137_ren := {
 mixed := by kernel_rfl
 f137 := Tryd.func89.trans (congrArg some (by kernel_rfl))
 f217 := Tryd.func114.trans (congrArg some (by kernel_rfl))
 f266 := Tryd.func140.trans (congrArg some (by kernel_rfl))
 t3 := Tryd.underlying3
 a3 := Tryd.isAgg3
 z3 := Tryd.sizeOf3
 v3 := Tryd.zeroValue3
 t5 := Tryd.underlying5
 a5 := Tryd.isAgg5
 z5 := Tryd.sizeOf5
 v5 := Tryd.zeroValue5
 t9 := Tryd.underlying9
 a9 := Tryd.isAgg9
 z9 := Tryd.sizeOf9
 v9 := Tryd.zeroValue9 }
open Go.RowKit in
theorem Tryd.strings_IndexByte (s : ByteArray) (c : Int) (w : World) :
  Calls Tryd.prog 89 #[.string s, .int .u8 c] w fun e w' => e = .returned (.int .i64 (Lib.indexByte s.data.toList c.toNat.toUInt8)) ∧ w' = w := Any.strings_IndexByte Tryd.lays137 s c w
def Tryd.laysM171_ren : Go.Shelf.Ren := ⟨fun | 171 => 74 | 243 => 102 | 246 => 124 | 283 => 147 | 284 => 148 | 285 => 149 | 286 => 150 | 129 => 171 | 317 => 170 | 318 => 172 | 319 => 173 | 320 => 174 | 337 => 185 | 338 => 186 | n => n, fun | 3 => 3 | 9 => 9 | 2 => 2 | 4 => 4 | 171 => 200 | 0 => 0 | 53 => 111 | 37 => 34 | 5 => 5 | 173 => 203 | 212 => 224 | 51 => 142 | 20 => 20 | 213 => 225 | 46 => 127 | 232 => 253 | 233 => 254 | n => n, fun | 17 => 7 | 18 => 8 | 19 => 9 | n => n⟩
theorem Tryd.laysM171 : Go.Proofs.LaysM.n171 Tryd.prog Tryd.laysM171_ren := {
 mixed := by kernel_rfl
 f129 := Tryd.func171.trans (congrArg some (by kernel_rfl))
 f171 := Tryd.func74.trans (congrArg some (by kernel_rfl))
 f243 := Tryd.func102.trans (congrArg some (by kernel_rfl))
 f246 := Tryd.func124.trans (congrArg some (by kernel_rfl))
 f283 := Tryd.func147.trans (congrArg some (by kernel_rfl))
 f284 := Tryd.func148.trans (congrArg some (by kernel_rfl))
 f285 := Tryd.func149.trans (congrArg some (by kernel_rfl))
 f286 := Tryd.func150.trans (congrArg some (by kernel_rfl))
 f317 := Tryd.func170.trans (congrArg some (by kernel_rfl))
 f318 := Tryd.func172.trans (congrArg some (by kernel_rfl))
 f319 := Tryd.func173.trans (congrArg some (by kernel_rfl))
 f320 := Tryd.func174.trans (congrArg some (by kernel_rfl))
 f337 := Tryd.func185.trans (congrArg some (by kernel_rfl))
 f338 := Tryd.func186.trans (congrArg some (by kernel_rfl))
 t0 := Tryd.underlying0
 a0 := Tryd.isAgg0
 z0 := Tryd.sizeOf0
 v0 := Tryd.zeroValue0
 t2 := Tryd.underlying2
 a2 := Tryd.isAgg2
 z2 := Tryd.sizeOf2
 v2 := Tryd.zeroValue2
 t3 := Tryd.underlying3
 a3 := Tryd.isAgg3
 z3 := Tryd.sizeOf3
 v3 := Tryd.zeroValue3
 t4 := Tryd.underlying4
 a4 := Tryd.isAgg4
 z4 := Tryd.sizeOf4
 v4 := Tryd.zeroValue4
 t5 := Tryd.underlying5
 a5 := Tryd.isAgg5
 z5 := Tryd.sizeOf5
 v5 := Tryd.zeroValue5
 t9 := Tryd.underlying9
 a9 := Tryd.isAgg9
 z9 := Tryd.sizeOf9
 v9 := Tryd.zeroValue9
 t20 := Tryd.underlying20
 a20 := Tryd.isAgg20
 z20 := Tryd.sizeOf20
 v20 := Tryd.zeroValue20
 t37 := Tryd.underlying34
 a37 := Tryd.isAgg34
 z37 := Tryd.sizeOf34
 v37 := Tryd.zeroValue34
 t46 := Tryd.underlying127
 a46 := Tryd.isAgg127
 z46 := Tryd.sizeOf127
 v46 := Tryd.zeroValue127
 t51 := Tryd.underlying142
 a51 := Tryd.isAgg142
 z51 := Tryd.sizeOf142
 v51 := Tryd.zeroValue142
 t53 := Tryd.underlying111
 a53 := Tryd.isAgg111
 z53 := Tryd.sizeOf111
 v53 := Tryd.zeroValue111
 t171 := Tryd.underlying200
 a171 := Tryd.isAgg200
 z171 := Tryd.sizeOf200
 v171 := Tryd.zeroValue200
 t173 := Tryd.underlying203
 a173 := Tryd.isAgg203
 z173 := Tryd.sizeOf203
 v173 := Tryd.zeroValue203
 t212 := Tryd.underlying224
 a212 := Tryd.isAgg224
 z212 := Tryd.sizeOf224
 v212 := Tryd.zeroValue224
 t213 := Tryd.underlying225
 a213 := Tryd.isAgg225
 z213 := Tryd.sizeOf225
 t232 := Tryd.underlying253
 a232 := Tryd.isAgg253
 z232 := Tryd.sizeOf253
 v232 := Tryd.zeroValue253
 t233 := Tryd.underlying254
 a233 := Tryd.isAgg254
 z233 := Tryd.sizeOf254
 v233 := Tryd.zeroValue254
 g17 := by kernel_rfl
 g18 := by kernel_rfl
 g19 := by kernel_rfl
 i0 := by kernel_rfl
 i2 := by kernel_rfl
 i3 := by kernel_rfl
 i4 := by kernel_rfl
 i5 := by kernel_rfl
 i9 := by kernel_rfl
 i20 := by kernel_rfl
 i37 := by kernel_rfl
 i46 := by kernel_rfl
 i51 := by kernel_rfl
 i53 := by kernel_rfl
 i171 := by kernel_rfl
 i173 := by kernel_rfl
 i212 := by kernel_rfl
 i232 := by kernel_rfl
 i233 := by kernel_rfl
 m17 := by kernel_rfl
 m18 := by kernel_rfl
 m19 := by kernel_rfl }
open Go.RowKit Go.Sort Go.Lib in
theorem Tryd.strconv_Itoa (n : Int) (h0 : -9223372036854775808 ≤ n) (h1 : n ≤ 9223372036854775807) (w : World) (htab : Lib.TabIs Tryd.prog w "internal/strconv.uint64pow10" .u64 Lib.pow10Tab) :
  Calls Tryd.prog 74 #[.int .i64 n] w fun e w' => e = .returned (.string ⟨(Lib.itoa n).toArray⟩) ∧ ∃ k os, w' = grow (w.drewN k) os := Any.strconv_Itoa Tryd.laysM171 n h0 h1 w htab
end Go.Proofs
namespace Go.Proofs.YtifmkgkiipckbaaDoor.P
open Go.RowKit
theorem var_kept {P : Program} {w w' : World} (h : Below w.heap.size w w') {n : String} {cs : Array Value} (hv : w.var? P n = some cs) : w'.var? P n = some cs := by
 unfold World.var? at hv ⊢
 cases hg : P.globalNamed n with
 | none => simp [hg] at hv
 | some g =>
  simp only [hg, Option.bind_some] at hv ⊢
  have hlt : g < w.heap.size := by
   rcases Nat.lt_or_ge g w.heap.size with h' | h'
   ·exact h'
   ·simp [Array.getElem?_eq_none h'] at hv
  rw [h.block g hlt]
  exact hv
def LPow (w : World) : Prop := Lib.TabIs Tryd.prog w "internal/strconv.uint64pow10" .u64 Lib.pow10Tab
theorem LPow.below {w w' : World} (h : LPow w) (hb : Below w.heap.size w w') : LPow w' := var_kept hb h
theorem LPow.drew {w : World} (h : LPow w) : LPow w.drew := h
theorem LPow.drewN {w : World} (h : LPow w) (n : Nat) : LPow (w.drewN n) := LPow.below h (by
 induction n with
 | zero => exact Below.refl _ _
 | succ n ih => rw [← World.drew_drewN]; exact ih.drew)
end Go.Proofs.YtifmkgkiipckbaaDoor.P
namespace Go.Proofs.YtifmkgkiipckbaaDoor.P
open Go.RowKit Go.Proofs.YtifmkgkiipckbaaDoorW.PrintWords Go.Proofs.YtifmkgkiipckbaaDoorW.PrintLast
set_option linter.unusedVariables false
set_option linter.unusedSimpArgs false
theorem addr_at (b o j : Nat) : (⟨b, o, none⟩ : Addr).add j = ⟨b, o + j, none⟩ := by unfold Addr.add; split <;> simp_all
theorem strs_cells {w : World} {A : Option Addr} {n : Nat} {l : List ByteArray} (h : Kd.C Kd.string w A n l) (h0 : 0 < n) :
  ∃ b o, A = some ⟨b, o, none⟩ ∧ b < w.heap.size ∧ ∀ (j : Nat) x, l[j]? = some x → w.cell? ⟨b, o + j, none⟩ = some (.string x) := by
 obtain ⟨hl, _, hr⟩ := h
 obtain ⟨ad, rfl, hc⟩ := hr h0
 have key : ∀ (j : Nat) x, l[j]? = some x → w.cell? (ad.add j) = some (.string x) := by
  intro j x hj
  obtain ⟨c, hs, hk, hcell⟩ := hc j x hj
  have hk' : c = [.string x] := hk
  subst hk'
  have := hcell 0 (.string x) rfl
  simpa [show (Kd.string).sz = 1 from rfl] using this
 obtain ⟨b, o, sp⟩ := ad
 have e0 := key 0 l[0] (List.getElem?_eq_getElem (by omega))
 have ha : (⟨b, o, sp⟩ : Addr).add 0 = ⟨b, o, sp⟩ := by simp [Addr.add]
 rw [ha] at e0
 have hsp : sp = none := by
  unfold World.cell? at e0
  split at e0
  ·cases sp with
   | none => rfl
   | some _ => simp at e0
  ·cases e0
 subst hsp
 refine ⟨b, o, rfl, World.block_lt_of_cell? w _ e0, fun j x hj => ?_⟩
 rw [← addr_at]
 exact key j x hj
def strings_IndexByte.f (a0 : ByteArray) (a1 : Int) : Option Int := some (Lib.indexByte a0.data.toList a1.toNat.toUInt8)
theorem strings_IndexByte.calls (a0 : ByteArray) (a1 : Int) (r : Int) (w : World) (h : strings_IndexByte.f a0 a1 = some r) :
  Calls Tryd.prog 89 #[.string a0, .int .u8 a1] w fun e w' => e = .returned (.int .i64 r) ∧ Drawn0 w w' := by
 injection h with h
 subst h
 exact (Tryd.strings_IndexByte a0 a1 w).mono fun e w' ⟨he, hw⟩ => ⟨he, hw ▸ Drawn0.refl _⟩
def strings_Join.f (l0 : List ByteArray) (a1 : ByteArray) : Option ByteArray :=
 if l0.length ≤ 140737488355328 then if (Lib.join (l0.map (·.data.toList)) a1.data.toList).length ≤ 140737488355328 then some ⟨(Lib.join (l0.map (·.data.toList)) a1.data.toList).toArray⟩ else none else none
theorem strings_Join.calls (A0 : Option Addr) (c0 : Nat) (l0 : List ByteArray) (a1 : ByteArray) (r : ByteArray) (w : World) (hr0 : Kd.C Kd.string w A0 l0.length l0) (hc0 : l0.length ≤ c0) (h : strings_Join.f l0 a1 = some r) :
  Calls Tryd.prog 87 #[.slice A0 l0.length c0, .string a1] w fun e w' => e = .returned (.string r) ∧ Below w.heap.size w w' := by
 unfold strings_Join.f at h
 split at h
 ·rename_i h1
  split at h
  ·rename_i h2
   injection h with h
   subst h
   rcases Nat.eq_zero_or_pos l0.length with h0 | h0
   ·have : l0 = [] := List.eq_nil_of_length_eq_zero h0
    subst this
    refine (Tryd.strings_Join_none A0 c0 a1 w).mono fun e w' ⟨he, hw⟩ => ⟨?_, hw ▸ Below.refl _ _⟩
    rw [he]
    rfl
   ·obtain ⟨b, o, rfl, hb, hcells⟩ := strs_cells hr0 h0
    exact Tryd.strings_Join b o c0 l0 a1 w hcells hb h1 hc0 h2
  ·simp at h
 ·simp at h
def strconv_Itoa.f (a0 : Int) : Option ByteArray := if -9223372036854775808 ≤ a0 then if a0 ≤ 9223372036854775807 then some ⟨(Lib.itoa a0).toArray⟩ else none else none
theorem below_grow_drewN (w : World) (k : Nat) (os : Array Obj) : Below w.heap.size w (Go.Sort.grow (w.drewN k) os) := by
 have h1 : Below w.heap.size w (w.drewN k) := pw_below_drewN (Below.refl _ _) k
 refine h1.trans ⟨rfl, rfl, rfl, ?_, ?_⟩
 ·show _ ≤ ((w.drewN k).heap ++ os).size
  rw [Array.size_append]; omega
 ·intro i hi
  show ((w.drewN k).heap ++ os)[i]? = _
  have := h1.size
  rw [Array.getElem?_append_left (by omega)]
theorem strconv_Itoa.calls (a0 : Int) (r : ByteArray) (w : World) (hL : LPow w) (h : strconv_Itoa.f a0 = some r) :
  Calls Tryd.prog 74 #[.int .i64 a0] w fun e w' => e = .returned (.string r) ∧ Below w.heap.size w w' := by
 unfold strconv_Itoa.f at h
 split at h
 ·split at h
  ·injection h with h
   subst h
   refine (Tryd.strconv_Itoa a0 (by assumption) (by assumption) w hL).mono fun e w' ⟨he, k, os, hw⟩ => ⟨he, ?_⟩
   rw [hw]
   exact below_grow_drewN w k os
  ·simp at h
 ·simp at h
end Go.Proofs.YtifmkgkiipckbaaDoor.P
namespace Go.Proofs.YtifmkgkiipckbaaDoor.P
open Go.RowKit Go.Proofs.YtifmkgkiipckbaaDoorW.PrintWords Go.Proofs.YtifmkgkiipckbaaDoorW.PrintLast Go.Proofs.YtifmkgkiipckbaaDoorW.PrintMore
attribute [local go_sem] max2_int min2_int max_two min_two max_three min_three max_four min_four
set_option linter.unusedVariables false
set_option linter.unusedSimpArgs false
def headers_is.f (a0_0 : ByteArray) (a0_1 : ByteArray) (a1 : ByteArray) : Option (Bool) := (infra_Lower.f a0_0).bind fun t180 => ((infra_Lower.f a1).bind fun t181 => (some (t180.toList == t181.toList)))
set_option maxHeartbeats 8000000 in
set_option maxRecDepth 100000 in
theorem headers_is.calls (a0_0 : ByteArray) (a0_1 : ByteArray) (a1 : ByteArray) (r : Bool) (w : World) (h : headers_is.f a0_0 a0_1 a1 = some r) :
  Calls Tryd.prog 86 #[.agg #[.string a0_0, .string a0_1], .string a1] w fun e w' => e = .returned (.bool r) ∧ Below w.heap.size w w' := by
 have hu72 := Tryd.underlying72
 have HB := Aside0.mk (Below.refl w.heap.size w)
 have H : ((infra_Lower.f a0_0).bind fun t180 => ((infra_Lower.f a1).bind fun t181 => (some (t180.toList == t181.toList)))) = some r := h
 clear h
 replace H := Option.bind_eq_some_iff.mp H
 obtain ⟨t180, A30, H⟩ := H
 replace H : ((infra_Lower.f a1).bind fun t181 => (some (t180.toList == t181.toList))) = some r := H
 have A3 := Aside0.mk A30
 clear A30
 replace H := Option.bind_eq_some_iff.mp H
 obtain ⟨t181, A40, H⟩ := H
 replace H : (some (t180.toList == t181.toList)) = some r := H
 have A4 := Aside0.mk A40
 clear A40
 obtain rfl := Option.some.inj H
 go_enter Tryd.func86, Tryd.ntmps86
 have tok0 : True := trivial
 have tok1 : True := trivial
 have tok2 : True := trivial
 go_wp2_with (first | (revert tok0; intro tok0; (with_reducible refine gate_dst (N := 2) rfl ?_); refine box_event ?hg (N := 2) ?hd (cs := #[.string a0_0, .string a0_1]) (t := 72) ?hr ?_; (case hd => rfl); (case hg => rfl); (case hr => first | (go_simp; done) | (go_simp; rfl)); intro gb179 hg w5 hbox hb; have n0_ := Aside0.mk (below_step hB hb); have n1_ := Aside0.mk (hbox); have n2_ := Aside0.mk ((by rw [hg]; exact (below_size hB) : w.heap.size ≤ gb179)); have n3_ := Aside0.mk ((by rw [hg]; exact (below_size hB) : w.heap.size ≤ gb179)); clear HB; have HB := n0_; have BK179 := n1_; have GW179 := n2_; have GE179 := n3_; clear n0_ n1_ n2_ n3_; clear hb hbox hg; have hcz6_0 : w5.cell? ⟨gb179, 0, none⟩ = some (.string a0_0) := (blk_cell BK179.out 0).trans rfl; have hcz6_1 : w5.cell? ⟨gb179, 1, none⟩ = some (.string a0_1) := (blk_cell BK179.out 1).trans rfl; have hfz6_0 := blk_frozen BK179.out 0; have hfz6_1 := blk_frozen BK179.out 1; clear tok0) | (revert tok1; intro tok1; (with_reducible refine gate_callee (f := 53) rfl ?_); refine goesL_ (some 7) rfl rfl Tryd.func53 q2_ rfl #[.string a0_0] rfl tS ?_; (with_reducible refine (infra_Lower.calls a0_0 t180 _ A3.out).mono ?_); rintro e w7 ⟨rfl, hb⟩; refine ⟨_, rfl, ?_⟩; have n0_ := Aside0.mk (blk_below (g := gb179) (o := .cells #[.string a0_0, .string a0_1] 72 (0, 0)) (by (with_reducible repeat (first | refine blk_drewN ?_ _ | refine blk_drew ?_ | refine blk_alloc ?_ _)); exact BK179.out) hb); have n1_ := Aside0.mk (below_step (by repeat (first | (with_reducible first | exact HB.out | apply below_alloc | apply pw_below_drewN | apply below_drew1 | refine below_set ?_ GE179.out) | exact HB.out)) hb); clear BK179; clear HB; have BK179 := n0_; have HB := n1_; clear n0_ n1_; (try clear hb); (try clear hb2); (try clear hk); (try clear hi); clear tok1) | (revert tok2; intro tok2; (with_reducible refine gate_callee (f := 53) rfl ?_); refine goesL_ (some 9) rfl rfl Tryd.func53 q2_ rfl #[.string a1] rfl tS ?_; (with_reducible refine (infra_Lower.calls a1 t181 _ A4.out).mono ?_); rintro e w8 ⟨rfl, hb⟩; refine ⟨_, rfl, ?_⟩; have n0_ := Aside0.mk (blk_below (g := gb179) (o := .cells #[.string a0_0, .string a0_1] 72 (0, 0)) (by (with_reducible repeat (first | refine blk_drewN ?_ _ | refine blk_drew ?_ | refine blk_alloc ?_ _)); exact BK179.out) hb); have n1_ := Aside0.mk (below_step (by repeat (first | (with_reducible first | exact HB.out | apply below_alloc | apply pw_below_drewN | apply below_drew1 | refine below_set ?_ GE179.out) | exact HB.out)) hb); clear BK179; clear HB; have BK179 := n0_; have HB := n1_; clear n0_ n1_; (try clear hb); (try clear hb2); (try clear hk); (try clear hi); clear tok2))
 go_ret
 exact ⟨by first | rfl | (simp [errW_none, errW_some] <;> rfl) | (simp [*, errW_none, errW_some] <;> rfl), by repeat (first | (with_reducible first | exact HB.out | apply below_alloc | apply pw_below_drewN | apply below_drew1 | refine below_set ?_ GE179.out) | exact HB.out)⟩
end Go.Proofs.YtifmkgkiipckbaaDoor.P
