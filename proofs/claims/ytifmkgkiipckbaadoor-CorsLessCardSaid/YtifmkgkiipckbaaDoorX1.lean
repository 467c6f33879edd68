/- A part of the proof of CorsLess: texts of walks and plain lemmas. -/
import Derived.Test.YtifmkgkiipckbaaDoorProg
import Derived.Below
import Derived.Deep.Draws
import Derived.Deep.AppendLies
import Derived.Maps.AppendAt
import Derived.OwnWalk
import Derived.Laws.BytesArg
import Derived.Laws.MakeOwn
import Derived.Laws.OwnMore
import Derived.Deep.OwnRows
import Derived.Tactics
import Derived.Lib.ConvBytes
import Derived.Laws.Slices
import Derived.WalkKit
import Derived.KernelRfl
import Derived.RowKit3
import Derived.Deep.LoopGhost
import Derived.Deep.QuietTactic
import Derived.BigQuiet
import Derived.WideLaws
import Derived.Deep.DeepCutAuto
import Derived.Deep.CutBlock
import Derived.Deep.RegionHeld3
import Derived.Laws.Rows
import Derived.Lib.AppendStr
import Derived.ArgAppend
import Derived.Laws.IdiomCopy
import Derived.OrdersHeld
import Derived.Laws.BitsLemmas
import Derived.RowKit
import Derived.Test.YtifmkgkiipckbaaDoorX0
namespace Go.Proofs.YtifmkgkiipckbaaDoor.P
theorem oK {p : Prop} (h : p := by first | exact True.intro | assumption | omega | (simp only [wrap64, ByteArray.size_append, ByteArray.size_extract, lit_size, List.length_append, List.length_cons, List.length_nil, List.size_toArray]; omega)) : p := h
theorem hB {p : Prop} (h : p := by repeat (first | (with_reducible first | exact HB.out | apply below_alloc | apply pw_below_drewN | apply below_drew1) | exact HB.out)) : p := h
theorem tS {p : Prop} (h : p := by (try simp only [List.map_toArray, List.map_cons, List.map_nil]); first | done | rfl | (simp only [List.length_drop, List.length_take]; rfl)) : p := h
theorem aS {p : Prop} (h : p := by first | (with_reducible assumption) | assumption) : p := h
theorem rS {p : Prop} (h : p := by first | rfl | (simp; done) | (simp [*]; done)) : p := h
theorem lO {p : Prop} (h : p := by repeat' first | (with_reducible first | apply ih0 | apply ih1 | apply ih2 | apply ih3 | apply ih4 | apply ih5 | apply ih6 | apply ih7 | apply ih8 | apply ih9 | apply ih10 | apply ih11 | apply ih12 | apply ih13 | apply ih14 | apply ih15 | exact LeO.refl _ | exact LeO.none _ | refine LeO.ite ?_ ?_ | refine LeO.bind ?_ (fun _ => ?_)) | apply ih0 | apply ih1 | apply ih2 | apply ih3 | apply ih4 | apply ih5 | apply ih6 | apply ih7 | apply ih8 | apply ih9 | apply ih10 | apply ih11 | apply ih12 | apply ih13 | apply ih14 | apply ih15 | exact LeO.none _ | refine LeO.ite ?_ ?_ | refine LeO.bind ?_ (fun _ => ?_)) : p := h
theorem q0_ {p : Prop} (h : p := by repeat (first | (with_reducible first | exact HB.out | apply below_alloc | apply pw_below_drewN | apply below_drew1 | refine below_set ?_ GE244.out | refine below_set ?_ GE249.out) | exact HB.out)) : p := h
theorem q1_ {p : Prop} (h : p := by first | exact Letter_tot _ | exact Digit_tot _ | exact Begins_tot _ _ | exact Ends_tot _ _ oK | exact Hex_tot _ _ oK | exact bad_tot _ _ oK | exact Own_tot _ _ oK | exact Special_tot _ _ oK | exact In_tot _ _ _ oK | exact Escape_tot _ (bt_range _ _).1 (bt_range _ _).2 | exact Percent_tot _ _ _ oK oK | exact Int_tot _ _ oK oK | exact Cut_tot _ _ _ oK oK | exact labels_tot _ _ oK oK | exact number_tot _ _ oK oK | exact Four_tot _ _ oK oK | exact Numeral_tot _ _ oK oK oK | exact digits_tot _ _ oK oK oK | exact Text4_tot _ _ oK oK oK | exact Numbered_tot _ _ oK oK | exact Six_tot _ oK) : p := h
theorem q2_ {p : Prop} (h : p := by kernel_rfl) : p := h
theorem q3_ {p : Prop} (h : p := by (with_reducible repeat (first | refine blk_drewN ?_ _ | refine blk_drew ?_ | refine blk_alloc ?_ _)); exact BK244.out) : p := h
theorem q4_ {p : Prop} (h : p := by (with_reducible repeat (first | refine blk_drewN ?_ _ | refine blk_drew ?_ | refine blk_alloc ?_ _)); exact BK249.out) : p := h
theorem q5_ {p : Prop} (h : p := by first | exact Letter_tot _ | exact Digit_tot _ | exact Begins_tot _ _ | exact Ends_tot _ _ oK | exact Hex_tot _ _ oK | exact bad_tot _ _ oK | exact Own_tot _ _ oK | exact Special_tot _ _ oK | exact In_tot _ _ _ oK | exact Escape_tot _ (bt_range _ _).1 (bt_range _ _).2 | exact Percent_tot _ _ _ oK oK | exact Int_tot _ _ oK oK | exact Cut_tot _ _ _ oK oK | exact labels_tot _ _ oK oK | exact number_tot _ _ oK oK | exact Four_tot _ _ oK oK | exact Numeral_tot _ _ oK oK oK | exact digits_tot _ _ oK oK oK | exact Text4_tot _ _ oK oK oK | exact Numbered_tot _ _ oK oK | exact Six_tot _ oK | exact Text6_tot _ _ _ _ _ _ _ _ (by assumption) (by assumption) (by assumption) (by assumption) (by assumption) (by assumption) (by assumption) (by assumption)) : p := h
theorem q6_ {p : Prop} (h : p := by repeat (first | (with_reducible first | exact HB.out | apply below_alloc | apply pw_below_drewN | apply below_drew1 | refine below_set ?_ GE192.out) | exact HB.out)) : p := h
theorem q7_ {p : Prop} (h : p := by (with_reducible repeat (first | apply Kd.R_alloc | apply Kd.R_drewN | apply Kd.R_drew)); exact HO_6.out) : p := h
theorem q8_ {p : Prop} (h : p := by (with_reducible repeat (first | apply Kd.R_alloc | apply Kd.R_drewN | apply Kd.R_drew)); exact (Kd.R_mono (Kd.R_far (p := ⟨gb249, 3, none⟩) (Kd.R_far (p := ⟨gb249, 2, none⟩) (Kd.R_far (p := ⟨gb249, 1, none⟩) (Kd.R_far (p := ⟨gb249, 0, none⟩) (Kd.R_types HO239.out BK249.out (by decide)) (fun _ hk => hk.2) (.string t245)) (fun _ hk => hk.2) (.string t246)) (fun _ hk => hk.2) (.int .i64 t247)) (fun _ hk => hk.2) (.bool t248)) (fun _ h_ => h_.1))) : p := h
theorem q9_ {p : Prop} (h : p := by first | exact Letter_tot _ | exact Digit_tot _ | exact Begins_tot _ _ | exact Ends_tot _ _ oK | exact Hex_tot _ _ oK | exact bad_tot _ _ oK | exact Own_tot _ _ oK | exact Special_tot _ _ oK | exact In_tot _ _ _ oK | exact Escape_tot _ (bt_range _ _).1 (bt_range _ _).2 | exact Percent_tot _ _ _ oK oK | exact Int_tot _ _ oK oK | exact Cut_tot _ _ _ oK oK | exact labels_tot _ _ oK oK) : p := h
theorem q10_ {p : Prop} (h : p := by (with_reducible repeat (first | apply Kd.R_alloc | apply Kd.R_drewN | apply Kd.R_drew)); exact HO_5.out) : p := h
theorem q11_ {p : Prop} (h : p := by first | exact Letter_tot _ | exact Digit_tot _ | exact Begins_tot _ _ | exact Ends_tot _ _ oK | exact Hex_tot _ _ oK | exact bad_tot _ _ oK | exact Own_tot _ _ oK | exact Special_tot _ _ oK | exact In_tot _ _ _ oK | exact Escape_tot _ (bt_range _ _).1 (bt_range _ _).2 | exact Percent_tot _ _ _ oK oK | exact Int_tot _ _ oK oK | exact Cut_tot _ _ _ oK oK | exact labels_tot _ _ oK oK | exact number_tot _ _ oK oK | exact Four_tot _ _ oK oK | exact Numeral_tot _ _ oK oK oK | exact digits_tot _ _ oK oK oK | exact Text4_tot _ _ oK oK oK) : p := h
theorem q12_ {p : Prop} (h : p := by (with_reducible repeat (first | apply Kd.R_alloc | apply Kd.R_drewN | apply Kd.R_drew)); exact (Kd.R_mono (Kd.R_far (p := ⟨gb174, 11, none⟩) (Kd.R_far (p := ⟨gb174, 10, none⟩) (Kd.R_far (p := ⟨gb174, 9, none⟩) (Kd.R_far (p := ⟨gb174, 8, none⟩) (Kd.R_far (p := ⟨gb174, 7, none⟩) (Kd.R_far (p := ⟨gb174, 6, none⟩) (Kd.R_far (p := ⟨gb174, 5, none⟩) (Kd.R_far (p := ⟨gb174, 4, none⟩) (Kd.R_far (p := ⟨gb174, 3, none⟩) (Kd.R_far (p := ⟨gb174, 2, none⟩) (Kd.R_far (p := ⟨gb174, 1, none⟩) (Kd.R_far (p := ⟨gb174, 0, none⟩) (Kd.R_types HO168.out BK174.out (by decide)) (fun _ hk => hk.2) (.string t159)) (fun _ hk => hk.2) (.string t160)) (fun _ hk => hk.2) (.string t161)) (fun _ hk => hk.2) (.string t162)) (fun _ hk => hk.2) (.bool t163)) (fun _ hk => hk.2) (.int .i64 t164)) (fun _ hk => hk.2) (.bool t165)) (fun _ hk => hk.2) (.slice Ao9 t166.length co9)) (fun _ hk => hk.2) (.string t169)) (fun _ hk => hk.2) (.string t170)) (fun _ hk => hk.2) (.bool t171)) (fun _ hk => hk.2) (.bool t172)) (fun _ h_ => h_.1))) : p := h
theorem q13_ {p : Prop} (h : p := by (with_reducible repeat (first | apply Kd.R_alloc | apply Kd.R_drewN | apply Kd.R_drew)); exact HO_2.out) : p := h
theorem q14_ {p : Prop} (h : p := by repeat (first | (with_reducible first | exact HB.out | apply below_alloc | apply pw_below_drewN | apply below_drew1 | refine below_set ?_ GE108.out) | exact HB.out)) : p := h
theorem q15_ {p : Prop} (h : p := by repeat (first | (with_reducible first | exact HB.out | apply below_alloc | apply pw_below_drewN | apply below_drew1 | refine below_set ?_ GE189.out) | exact HB.out)) : p := h
theorem q16_ {p : Prop} (h : p := by simp only [List.length_append, List.length_cons, List.length_nil, wrap64]; omega) : p := h
theorem q17_ {p : Prop} (h : p := by (with_reducible repeat (first | refine blk_drewN ?_ _ | refine blk_drew ?_ | refine blk_alloc ?_ _)); exact BK192.out) : p := h
theorem q18_ {p : Prop} (h : p := by (with_reducible repeat (first | refine blk_drewN ?_ _ | refine blk_drew ?_ | refine blk_alloc ?_ _)); refine blk_far ?_ NB244_249.out _; (with_reducible repeat (first | refine blk_drewN ?_ _ | refine blk_drew ?_ | refine blk_alloc ?_ _)); refine blk_far ?_ NB244_249.out _; (with_reducible repeat (first | refine blk_drewN ?_ _ | refine blk_drew ?_ | refine blk_alloc ?_ _)); refine blk_far ?_ NB244_249.out _; (with_reducible repeat (first | refine blk_drewN ?_ _ | refine blk_drew ?_ | refine blk_alloc ?_ _)); refine blk_far ?_ NB244_249.out _; (with_reducible repeat (first | refine blk_drewN ?_ _ | refine blk_drew ?_ | refine blk_alloc ?_ _)); exact BK244.out) : p := h
theorem q19_ {p : Prop} (h : p := by repeat (first | (with_reducible first | exact HB.out | apply below_alloc | apply pw_below_drewN | apply below_drew1 | refine below_set ?_ GE158.out) | exact HB.out)) : p := h
open Go.RowKit Go.Proofs.YtifmkgkiipckbaaDoorW.PrintWords Go.Proofs.YtifmkgkiipckbaaDoorW.PrintLast Go.Proofs.YtifmkgkiipckbaaDoorW.PrintMore
attribute [local go_sem] max2_int min2_int max_two min_two max_three min_three max_four min_four
set_option linter.unusedVariables false
set_option linter.unusedSimpArgs false
def errW : Option Int → Value
 | none => .nilIface
 | some c => .iface 0 (.int .i64 c)
theorem errW_none : errW none = .nilIface := rfl
theorem errW_some (c : Int) : errW (some c) = .iface 0 (.int .i64 c) := rfl
theorem info2 : (Tryd.prog.info? 2).map (fun i => (i.zero, i.size, i.bytes)) = some (some (.int .i64 0), 1, 8) := by kernel_rfl
theorem info5 : (Tryd.prog.info? 5).map (fun i => (i.zero, i.size, i.bytes)) = some (some (.int .u8 0), 1, 1) := by kernel_rfl
theorem info9 : (Tryd.prog.info? 9).map (fun i => (i.zero, i.size, i.bytes)) = some (some (.string ⟨#[]⟩), 1, 16) := by kernel_rfl
theorem info72 : (Tryd.prog.info? 72).map (fun i => (i.zero, i.size, i.bytes)) = some (some (.agg #[(.string ⟨#[]⟩), (.string ⟨#[]⟩)]), 2, 32) := by kernel_rfl
theorem info111 : (Tryd.prog.info? 111).map (fun i => (i.zero, i.size, i.bytes)) = some (some (.int .u64 0), 1, 8) := by kernel_rfl
theorem info245 : (Tryd.prog.info? 245).map (fun i => (i.zero, i.size, i.bytes)) = some (some (.int .u16 0), 1, 2) := by kernel_rfl
structure S72 where
 f0 : ByteArray
 f1 : ByteArray
def z72 : S72 := ⟨(⟨#[]⟩ : ByteArray), (⟨#[]⟩ : ByteArray)⟩
def k72 : Kd S72 := Kd.iso (Kd.pair Kd.string Kd.string) (fun x : S72 => (x.f0, x.f1))
theorem k72_open {w : World} {x : S72} {cs : List Value} (h : k72.K w x cs) : cs = [.string x.f0, .string x.f1] := by
 obtain ⟨_, _, rfl, rfl, rfl⟩ := h
 exact rfl
theorem k72_mk (w : World) (x : S72)  : k72.K w x [.string x.f0, .string x.f1] := ⟨[.string x.f0], [.string x.f1], rfl, rfl, rfl⟩
theorem k72_mkM (w : World) (base : Nat) (ok : Nat → Prop) (x : S72)  : k72.M w base ok x [.string x.f0, .string x.f1] := ⟨[.string x.f0], [.string x.f1], rfl, rfl, rfl⟩
def rd_T72 (xs : List S72) (i : Int) : S72 := xs.getD i.toNat z72
theorem at_T72 {w : World} {A : Option Addr} {n : Nat} {xs : List S72} (h : Kd.C k72 w A n xs) (i : Int) (h0 : 0 ≤ i) (h1 : i < n) : ∃ ad , A = some ad ∧ w.cell? (ad.add (i.toNat * 2)) = some (.string (rd_T72 xs i).f0) ∧ w.cell? ⟨(ad.add (i.toNat * 2)).block, (ad.add (i.toNat * 2)).off + 1, none⟩ = some (.string (rd_T72 xs i).f1) := by
 obtain ⟨ad, c, e, _, hK, hc0⟩ := Kd.C_get h z72 i h0 h1
 have hc : ∀ j u, c[j]? = some u → w.cell? (ad.add (i.toNat * 2 + j)) = some u := hc0
 obtain rfl := k72_open hK
 exact ⟨ad, e, hc 0 _ rfl, by rw [← add_field _ _ 1 (by omega)]; exact hc 1 _ rfl⟩
structure S51 where
 f0 : Int
 f1 : ByteArray
 f2 : ByteArray
def z51 : S51 := ⟨(0 : Int), (⟨#[]⟩ : ByteArray), (⟨#[]⟩ : ByteArray)⟩
structure S75 where
 f0 : (List (List Int))
 f1 : (List (List Int))
 f2 : Int
 f3 : Bool
def z75 : S75 := ⟨([] : List (List Int)), ([] : List (List Int)), (0 : Int), false⟩
structure S76 where
 f0 : (List (List Int))
 f1 : (List (List Int))
 f2 : Int
 f3 : Bool
def z76 : S76 := ⟨([] : List (List Int)), ([] : List (List Int)), (0 : Int), false⟩
structure S86 where
 f0 : ByteArray
 f1 : ByteArray
 f2 : ByteArray
 f3 : ByteArray
 f4 : Bool
 f5 : Int
 f6 : Bool
 f7 : (List ByteArray)
 f8 : ByteArray
 f9 : ByteArray
 f10 : Bool
 f11 : Bool
end Go.Proofs.YtifmkgkiipckbaaDoor.P
namespace Go.Proofs.YtifmkgkiipckbaaDoor.P
open Go.RowKit Go.Proofs.YtifmkgkiipckbaaDoorW.PrintWords Go.Proofs.YtifmkgkiipckbaaDoorW.PrintLast Go.Proofs.YtifmkgkiipckbaaDoorW.PrintMore
attribute [local go_sem] max2_int min2_int max_two min_two max_three min_three max_four min_four
set_option linter.unusedVariables false
set_option linter.unusedSimpArgs false
mutual
def ostiaryref1_In.j0 : Nat → Int → Int → Bool → Option (Bool)
 | 0, _, _, _ => none
 | k + 1, x0, x1, x5 => if x1 = 1 then (ostiaryref1_In.j1 k x0 x5 (⟨#[]⟩ : ByteArray)) else (if x1 = 2 then (ostiaryref1_In.j1 k x0 x5 (⟨#[32, 34, 60, 62, 96]⟩ : ByteArray)) else (if x1 = 3 then (ostiaryref1_In.j1 k x0 x5 (⟨#[32, 34, 35, 60, 62]⟩ : ByteArray)) else (if x1 = 4 then (ostiaryref1_In.j1 k x0 x5 (⟨#[32, 34, 35, 60, 62, 39]⟩ : ByteArray)) else (if x1 = 5 then (ostiaryref1_In.j1 k x0 x5 (⟨#[32, 34, 35, 60, 62, 63, 94, 96, 123, 125]⟩ : ByteArray)) else (if x1 = 6 then (ostiaryref1_In.j1 k x0 x5 (⟨#[32, 34, 35, 60, 62, 63, 94, 96, 123, 125, 47, 58, 59, 61, 64, 91, 92, 93, 124]⟩ : ByteArray)) else (some false))))))
def ostiaryref1_In.j1 : Nat → Int → Bool → ByteArray → Option (Bool)
 | 0, _, _, _ => none
 | k + 1, x0, x5, x6 => ostiaryref1_In.l0 k x0 x5 x6 0
def ostiaryref1_In.l0 : Nat → Int → Bool → ByteArray → Int → Option (Bool)
 | 0, _, _, _, _ => none
 | k + 1, x0, x5, x6, x7 => if x7 < (x6.size : Int) then (if x5 = true then (ostiaryref1_In.l0 k x0 true x6 (wrap64 (x7 + 1))) else (if 0 ≤ x7 then (ostiaryref1_In.l0 k x0 (x0 == (bt x6 x7)) x6 (wrap64 (x7 + 1))) else (none))) else (some x5)
end
def ostiaryref1_In.f (k : Nat) (a0 : Int) (a1 : Int) : Option (Bool) := if a0 < 32 then (ostiaryref1_In.j0 k a0 a1 true) else (ostiaryref1_In.j0 k a0 a1 (decide (a0 > 126)))
theorem ostiaryref1_In.mono_l : ∀ k, (∀ y0 y1 y2, LeO (ostiaryref1_In.j0 k y0 y1 y2) (ostiaryref1_In.j0 (k + 1) y0 y1 y2)) ∧ (∀ y0 y1 y2, LeO (ostiaryref1_In.j1 k y0 y1 y2) (ostiaryref1_In.j1 (k + 1) y0 y1 y2)) ∧ (∀ y0 y1 y2 y3, LeO (ostiaryref1_In.l0 k y0 y1 y2 y3) (ostiaryref1_In.l0 (k + 1) y0 y1 y2 y3))
 | 0 => ⟨fun _ _ _ r h => by simp [ostiaryref1_In.j0] at h, fun _ _ _ r h => by simp [ostiaryref1_In.j1] at h, fun _ _ _ _ r h => by simp [ostiaryref1_In.l0] at h⟩
 | k + 1 => by
  obtain ⟨ih0, ih1, ih2⟩ := ostiaryref1_In.mono_l k
  refine ⟨?_, ?_, ?_⟩
  ·intro y0 y1 y2
   unfold ostiaryref1_In.j0
   exact lO
  ·intro y0 y1 y2
   unfold ostiaryref1_In.j1
   exact lO
  ·intro y0 y1 y2 y3
   unfold ostiaryref1_In.l0
   exact lO
theorem ostiaryref1_In.mono : ∀ a0 a1 k, LeO (ostiaryref1_In.f k a0 a1) (ostiaryref1_In.f (k + 1) a0 a1) := by
 intro a0 a1 k
 obtain ⟨ih0, ih1, ih2⟩ := ostiaryref1_In.mono_l k
 unfold ostiaryref1_In.f
 exact lO
set_option maxHeartbeats 8000000 in
set_option maxRecDepth 100000 in
theorem ostiaryref1_In.calls (k : Nat) (a0 : Int) (a1 : Int) (r : Bool) (w : World) (h : ostiaryref1_In.f k a0 a1 = some r) :
  Calls Tryd.prog 161 #[.int .u8 a0, .int .i64 a1] w fun e w' => e = .returned (.bool r) ∧ Drawn0 w w' := by
 have H : (if a0 < 32 then (ostiaryref1_In.j0 k a0 a1 true) else (ostiaryref1_In.j0 k a0 a1 (decide (a0 > 126)))) = some r := h
 clear h
 have HC3 := Aside0.mk H
 clear H
 go_enter Tryd.func161, Tryd.ntmps161
 go_upto_region 1 with (fail)
 go_cut [5] (fun v5 wc => ∃ (kq : Nat) (x5_2 : Bool), v5 = .bool x5_2 ∧ Aside0 (ostiaryref1_In.j0 kq a0 a1 x5_2 = some r) ∧ Aside0 (kq ≤ k) ∧ Drawn0 w wc)
 case first =>
  have H := HC3.out
  clear HC3
  by_cases c4 : a0 < 32
  ·rw [if_pos c4] at H
   have c4b0 : decide (a0 < 32) = true := decide_eq_true c4
   clear c4
   (first | rw [c4b0] | (simp only [i64_w, i32_w]; rw [c4b0]) | skip)
   have H' := Aside0.mk H
   clear H
   go_wp2
   go_meet
   case rel => exact ⟨_, (true), rS, H', ⟨by first | omega | exact Nat.le_refl _⟩, by repeat (first | exact Drawn0.refl _ | apply Drawn0.step)⟩
  ·rw [if_neg c4] at H
   have c4b0 : decide (a0 < 32) = false := decide_eq_false c4
   clear c4
   (first | rw [c4b0] | (simp only [i64_w, i32_w]; rw [c4b0]) | skip)
   have H' := Aside0.mk H
   clear H
   go_wp2
   go_meet
   case rel => exact ⟨_, (decide (a0 > 126)), rS, H', ⟨by first | omega | exact Nat.le_refl _⟩, by repeat (first | exact Drawn0.refl _ | apply Drawn0.step)⟩
 case rest =>
  clear HC3
  try clear c1
  try clear p2
  try clear c4
  try clear c4b0
  obtain ⟨kq, x5_2, rfl, HA, HJ2, ⟨mc2, rfl⟩⟩ := hcut
  cases kq with
  | zero => exact absurd HA.out (by simp [ostiaryref1_In.j0])
  | succ kj2 =>
   have H := HA.out
   clear HA
   simp only [ostiaryref1_In.j0] at H
   have HC5 := Aside0.mk H
   clear H
   go_upto_block 0 with (fail)
   go_cut [6] (fun v6 wc => ∃ (kq : Nat) (x6_4 : ByteArray), v6 = .string x6_4 ∧ Aside0 (ostiaryref1_In.j1 kq a0 x5_2 x6_4 = some r) ∧ Aside0 (kq ≤ kj2) ∧ Drawn0 w wc)
   case first =>
    have H := HC5.out
    clear HC5
    by_cases c6 : a1 = 1
    ·rw [if_pos c6] at H
     have c6b0 : (a1 == 1) = true := beq_iff_eq.mpr c6
     have c6b1 : (a1 != 1) = false := bne_eq_false_iff_eq.mpr c6
     clear c6
     (first | rw [c6b0] | (simp only [i64_w, i32_w]; rw [c6b0]) | skip)
     have H' := Aside0.mk H
     clear H
     go_wp2
     go_meet
     case rel => exact ⟨_, ((⟨#[]⟩ : ByteArray)), rS, H', ⟨by have := HJ2.out; first | omega | exact Nat.le_refl _⟩, by repeat (first | exact Drawn0.refl _ | apply Drawn0.step)⟩
    ·rw [if_neg c6] at H
     have c6b0 : (a1 == 1) = false := beq_eq_false_iff_ne.mpr c6
     have c6b1 : (a1 != 1) = true := bne_iff_ne.mpr c6
     (first | rw [c6b0] | (simp only [i64_w, i32_w]; rw [c6b0]) | skip)
     by_cases c7 : a1 = 2
     ·rw [if_pos c7] at H
      have c7b0 : (a1 == 2) = true := beq_iff_eq.mpr c7
      have c7b1 : (a1 != 2) = false := bne_eq_false_iff_eq.mpr c7
      clear c7
      have H' := Aside0.mk H
      clear H
      go_wp2
      go_meet
      case rel => exact ⟨_, ((⟨#[32, 34, 60, 62, 96]⟩ : ByteArray)), rS, H', ⟨by have := HJ2.out; first | omega | exact Nat.le_refl _⟩, by repeat (first | exact Drawn0.refl _ | apply Drawn0.step)⟩
     ·rw [if_neg c7] at H
      have c7b0 : (a1 == 2) = false := beq_eq_false_iff_ne.mpr c7
      have c7b1 : (a1 != 2) = true := bne_iff_ne.mpr c7
      by_cases c8 : a1 = 3
      ·rw [if_pos c8] at H
       have c8b0 : (a1 == 3) = true := beq_iff_eq.mpr c8
       have c8b1 : (a1 != 3) = false := bne_eq_false_iff_eq.mpr c8
       clear c8
       have H' := Aside0.mk H
       clear H
       go_wp2
       go_meet
       case rel => exact ⟨_, ((⟨#[32, 34, 35, 60, 62]⟩ : ByteArray)), rS, H', ⟨by have := HJ2.out; first | omega | exact Nat.le_refl _⟩, by repeat (first | exact Drawn0.refl _ | apply Drawn0.step)⟩
      ·rw [if_neg c8] at H
       have c8b0 : (a1 == 3) = false := beq_eq_false_iff_ne.mpr c8
       have c8b1 : (a1 != 3) = true := bne_iff_ne.mpr c8
       by_cases c9 : a1 = 4
       ·rw [if_pos c9] at H
        have c9b0 : (a1 == 4) = true := beq_iff_eq.mpr c9
        have c9b1 : (a1 != 4) = false := bne_eq_false_iff_eq.mpr c9
        clear c9
        have H' := Aside0.mk H
        clear H
        go_wp2
        go_meet
        case rel => exact ⟨_, ((⟨#[32, 34, 35, 60, 62, 39]⟩ : ByteArray)), rS, H', ⟨by have := HJ2.out; first | omega | exact Nat.le_refl _⟩, by repeat (first | exact Drawn0.refl _ | apply Drawn0.step)⟩
       ·rw [if_neg c9] at H
        have c9b0 : (a1 == 4) = false := beq_eq_false_iff_ne.mpr c9
        have c9b1 : (a1 != 4) = true := bne_iff_ne.mpr c9
        by_cases c10 : a1 = 5
        ·rw [if_pos c10] at H
         have c10b0 : (a1 == 5) = true := beq_iff_eq.mpr c10
         have c10b1 : (a1 != 5) = false := bne_eq_false_iff_eq.mpr c10
         clear c10
         have H' := Aside0.mk H
         clear H
         go_wp2
         go_meet
         case rel => exact ⟨_, ((⟨#[32, 34, 35, 60, 62, 63, 94, 96, 123, 125]⟩ : ByteArray)), rS, H', ⟨by have := HJ2.out; first | omega | exact Nat.le_refl _⟩, by repeat (first | exact Drawn0.refl _ | apply Drawn0.step)⟩
        ·rw [if_neg c10] at H
         have c10b0 : (a1 == 5) = false := beq_eq_false_iff_ne.mpr c10
         have c10b1 : (a1 != 5) = true := bne_iff_ne.mpr c10
         by_cases c11 : a1 = 6
         ·rw [if_pos c11] at H
          have c11b0 : (a1 == 6) = true := beq_iff_eq.mpr c11
          have c11b1 : (a1 != 6) = false := bne_eq_false_iff_eq.mpr c11
          clear c11
          have H' := Aside0.mk H
          clear H
          go_wp2
          go_meet
          case rel => exact ⟨_, ((⟨#[32, 34, 35, 60, 62, 63, 94, 96, 123, 125, 47, 58, 59, 61, 64, 91, 92, 93, 124]⟩ : ByteArray)), rS, H', ⟨by have := HJ2.out; first | omega | exact Nat.le_refl _⟩, by repeat (first | exact Drawn0.refl _ | apply Drawn0.step)⟩
         ·rw [if_neg c11] at H
          have c11b0 : (a1 == 6) = false := beq_eq_false_iff_ne.mpr c11
          have c11b1 : (a1 != 6) = true := bne_iff_ne.mpr c11
          obtain rfl := Option.some.inj H
          go_wp2
          go_ret
          exact ⟨rS, by repeat (first | exact Drawn0.refl _ | apply Drawn0.step)⟩
   case rest =>
    clear HC5
    try clear c1
    try clear c2
    try clear p2
    try clear c4
    try clear c4b0
    try clear c6
    try clear c6b0
    try clear c6b1
    try clear c7
    try clear c7b0
    try clear c7b1
    try clear c8
    try clear c8b0
    try clear c8b1
    try clear c9
    try clear c9b0
    try clear c9b1
    try clear c10
    try clear c10b0
    try clear c10b1
    try clear c11
    try clear c11b0
    try clear c11b1
    try clear p2
    obtain ⟨kq, x6_4, rfl, HA, HJ4, ⟨mc4, rfl⟩⟩ := hcut
    cases kq with
    | zero => exact absurd HA.out (by simp [ostiaryref1_In.j1])
    | succ kj4 =>
     have H := HA.out
     clear HA
     simp only [ostiaryref1_In.j1] at H
     have H' := Aside0.mk H
     clear H
     go_wp2
     go_loopg [5, 7] kj4 (fun kq v5 v7 w' => ∃ (x5_3 : Bool) (x7_3 : Int), v5 = .bool x5_3 ∧ v7 = .int .i64 x7_3 ∧ Aside0 (ostiaryref1_In.l0 kq a0 x5_3 x6_4 x7_3 = some r) ∧ Aside0 (kq ≤ kj4) ∧ Drawn0 w w')
     case atStart => exact ⟨(x5_2), (0), rS, rS, H', ⟨Nat.le_refl _⟩, by repeat (first | exact Drawn0.refl _ | apply Drawn0.step)⟩
     case round =>
      clear H'
      try clear c1
      try clear c2
      try clear p2
      try clear c4
      try clear c4b0
      try clear c6
      try clear c6b0
      try clear c6b1
      try clear c7
      try clear c7b0
      try clear c7b1
      try clear c8
      try clear c8b0
      try clear c8b1
      try clear c9
      try clear c9b0
      try clear c9b1
      try clear c10
      try clear c10b0
      try clear c10b1
      try clear c11
      try clear c11b0
      try clear c11b1
      try clear p2
      obtain ⟨x5_3, x7_3, rfl, rfl, HA, HK3, ⟨m3, rfl⟩⟩ := hrel
      cases gk with
      | zero => exact absurd HA.out (by simp [ostiaryref1_In.l0])
      | succ k3 =>
       have H := HA.out
       clear HA
       simp only [ostiaryref1_In.l0] at H
       by_cases c12 : x7_3 < (x6_4.size : Int)
       ·rw [if_pos c12] at H
        have c12b0 : decide (x7_3 < (x6_4.size : Int)) = true := decide_eq_true c12
        clear c12
        by_cases c13 : x5_3 = true
        ·subst c13
         have H1 : (ostiaryref1_In.l0 k3 a0 true x6_4 (wrap64 (x7_3 + 1))) = some r := by rw [if_pos rfl] at H; exact H
         clear H
         have H := H1
         clear H1
         have H' := Aside0.mk H
         clear H
         go_wp2
         go_roundg k3
         case measure => have := HJ2.out; have := HJ4.out; have := HK3.out; omega
         case rel => exact ⟨(true), (wrap64 (x7_3 + 1)), rS, rS, H', ⟨by have := HJ2.out; have := HJ4.out; have := HK3.out; omega⟩, by repeat (first | exact Drawn0.refl _ | apply Drawn0.step)⟩
        ·replace c13 := Bool.eq_false_iff.mpr c13
         subst c13
         have H1 : (if 0 ≤ x7_3 then (ostiaryref1_In.l0 k3 a0 (a0 == (bt x6_4 x7_3)) x6_4 (wrap64 (x7_3 + 1))) else (none)) = some r := by rw [if_neg (show ¬ (false = true) by decide)] at H; exact H
         clear H
         have H := H1
         clear H1
         by_cases c14 : 0 ≤ x7_3
         ·rw [if_pos c14] at H
          have c14b0 : decide (0 ≤ x7_3) = true := decide_eq_true c14
          clear c14
          have H' := Aside0.mk H
          clear H
          have p15 : 0 ≤ (x7_3 : Int) := of_decide_eq_true aS
          have q15 : x7_3 < (x6_4.size : Int) := of_decide_eq_true aS
          have hx15 := bt_at x6_4 x7_3
          replace p15 := eq_true p15
          replace q15 := eq_true q15
          go_wp2
          go_roundg k3
          case measure => have := HJ2.out; have := HJ4.out; have := HK3.out; omega
          case rel => exact ⟨((a0 == (bt x6_4 x7_3))), (wrap64 (x7_3 + 1)), rS, rS, H', ⟨by have := HJ2.out; have := HJ4.out; have := HK3.out; omega⟩, by repeat (first | exact Drawn0.refl _ | apply Drawn0.step)⟩
         ·rw [if_neg c14] at H
          exact absurd H (by simp)
       ·rw [if_neg c12] at H
        have c12b0 : decide (x7_3 < (x6_4.size : Int)) = false := decide_eq_false c12
        clear c12
        obtain rfl := Option.some.inj H
        go_wp2
        go_ret
        exact ⟨rS, by repeat (first | exact Drawn0.refl _ | apply Drawn0.step)⟩
end Go.Proofs.YtifmkgkiipckbaaDoor.P
namespace Go.Proofs.YtifmkgkiipckbaaDoor.P
open Go.RowKit Go.Proofs.YtifmkgkiipckbaaDoorW.PrintWords Go.Proofs.YtifmkgkiipckbaaDoorW.PrintLast Go.Proofs.YtifmkgkiipckbaaDoorW.PrintMore
attribute [local go_sem] max2_int min2_int max_two min_two max_three min_three max_four min_four
set_option linter.unusedVariables false
set_option linter.unusedSimpArgs false
def ostiaryref1_Escape.f (a0 : Int) : Option (ByteArray) := if 0 ≤ (a0 / 16) then (if (a0 / 16) ≤ (((a0 / 16) + 1) % 256) then (if (((a0 / 16) + 1) % 256) ≤ 16 then (if 1 + ((⟨#[48, 49, 50, 51, 52, 53, 54, 55, 56, 57, 65, 66, 67, 68, 69, 70]⟩ : ByteArray).extract ((a0 / 16) : Int).toNat ((((a0 / 16) + 1) % 256) : Int).toNat).size ≤ 9223372036854775807 then (if 0 ≤ (Go.bits .and .u8 a0 15) then (if (Go.bits .and .u8 a0 15) ≤ (((Go.bits .and .u8 a0 15) + 1) % 256) then (if (((Go.bits .and .u8 a0 15) + 1) % 256) ≤ 16 then (if ((⟨#[37]⟩ : ByteArray) ++ ((⟨#[48, 49, 50, 51, 52, 53, 54, 55, 56, 57, 65, 66, 67, 68, 69, 70]⟩ : ByteArray).extract ((a0 / 16) : Int).toNat ((((a0 / 16) + 1) % 256) : Int).toNat)).size + ((⟨#[48, 49, 50, 51, 52, 53, 54, 55, 56, 57, 65, 66, 67, 68, 69, 70]⟩ : ByteArray).extract ((Go.bits .and .u8 a0 15) : Int).toNat ((((Go.bits .and .u8 a0 15) + 1) % 256) : Int).toNat).size ≤ 9223372036854775807 then (some (((⟨#[37]⟩ : ByteArray) ++ ((⟨#[48, 49, 50, 51, 52, 53, 54, 55, 56, 57, 65, 66, 67, 68, 69, 70]⟩ : ByteArray).extract ((a0 / 16) : Int).toNat ((((a0 / 16) + 1) % 256) : Int).toNat)) ++ ((⟨#[48, 49, 50, 51, 52, 53, 54, 55, 56, 57, 65, 66, 67, 68, 69, 70]⟩ : ByteArray).extract ((Go.bits .and .u8 a0 15) : Int).toNat ((((Go.bits .and .u8 a0 15) + 1) % 256) : Int).toNat))) else (none)) else (none)) else (none)) else (none)) else (none)) else (none)) else (none)) else (none)
set_option maxHeartbeats 8000000 in
set_option maxRecDepth 100000 in
theorem ostiaryref1_Escape.calls (a0 : Int) (r : ByteArray) (w : World) (h : ostiaryref1_Escape.f a0 = some r) :
  Calls Tryd.prog 162 #[.int .u8 a0] w fun e w' => e = .returned (.string r) ∧ Drawn0 w w' := by
 have H : (if 0 ≤ (a0 / 16) then (if (a0 / 16) ≤ (((a0 / 16) + 1) % 256) then (if (((a0 / 16) + 1) % 256) ≤ 16 then (if 1 + ((⟨#[48, 49, 50, 51, 52, 53, 54, 55, 56, 57, 65, 66, 67, 68, 69, 70]⟩ : ByteArray).extract ((a0 / 16) : Int).toNat ((((a0 / 16) + 1) % 256) : Int).toNat).size ≤ 9223372036854775807 then (if 0 ≤ (Go.bits .and .u8 a0 15) then (if (Go.bits .and .u8 a0 15) ≤ (((Go.bits .and .u8 a0 15) + 1) % 256) then (if (((Go.bits .and .u8 a0 15) + 1) % 256) ≤ 16 then (if ((⟨#[37]⟩ : ByteArray) ++ ((⟨#[48, 49, 50, 51, 52, 53, 54, 55, 56, 57, 65, 66, 67, 68, 69, 70]⟩ : ByteArray).extract ((a0 / 16) : Int).toNat ((((a0 / 16) + 1) % 256) : Int).toNat)).size + ((⟨#[48, 49, 50, 51, 52, 53, 54, 55, 56, 57, 65, 66, 67, 68, 69, 70]⟩ : ByteArray).extract ((Go.bits .and .u8 a0 15) : Int).toNat ((((Go.bits .and .u8 a0 15) + 1) % 256) : Int).toNat).size ≤ 9223372036854775807 then (some (((⟨#[37]⟩ : ByteArray) ++ ((⟨#[48, 49, 50, 51, 52, 53, 54, 55, 56, 57, 65, 66, 67, 68, 69, 70]⟩ : ByteArray).extract ((a0 / 16) : Int).toNat ((((a0 / 16) + 1) % 256) : Int).toNat)) ++ ((⟨#[48, 49, 50, 51, 52, 53, 54, 55, 56, 57, 65, 66, 67, 68, 69, 70]⟩ : ByteArray).extract ((Go.bits .and .u8 a0 15) : Int).toNat ((((Go.bits .and .u8 a0 15) + 1) % 256) : Int).toNat))) else (none)) else (none)) else (none)) else (none)) else (none)) else (none)) else (none)) else (none)) = some r := h
 clear h
 obtain ⟨ji2, hji2⟩ : ∃ j_ : Int, (a0 / 16) = j_ := ⟨_, rfl⟩
 replace H : (if 0 ≤ (ji2) then (if (ji2) ≤ (((ji2) + 1) % 256) then (if (((ji2) + 1) % 256) ≤ 16 then (if 1 + ((⟨#[48, 49, 50, 51, 52, 53, 54, 55, 56, 57, 65, 66, 67, 68, 69, 70]⟩ : ByteArray).extract ((ji2) : Int).toNat ((((ji2) + 1) % 256) : Int).toNat).size ≤ 9223372036854775807 then (if 0 ≤ (Go.bits .and .u8 a0 15) then (if (Go.bits .and .u8 a0 15) ≤ (((Go.bits .and .u8 a0 15) + 1) % 256) then (if (((Go.bits .and .u8 a0 15) + 1) % 256) ≤ 16 then (if ((⟨#[37]⟩ : ByteArray) ++ ((⟨#[48, 49, 50, 51, 52, 53, 54, 55, 56, 57, 65, 66, 67, 68, 69, 70]⟩ : ByteArray).extract ((ji2) : Int).toNat ((((ji2) + 1) % 256) : Int).toNat)).size + ((⟨#[48, 49, 50, 51, 52, 53, 54, 55, 56, 57, 65, 66, 67, 68, 69, 70]⟩ : ByteArray).extract ((Go.bits .and .u8 a0 15) : Int).toNat ((((Go.bits .and .u8 a0 15) + 1) % 256) : Int).toNat).size ≤ 9223372036854775807 then (some (((⟨#[37]⟩ : ByteArray) ++ ((⟨#[48, 49, 50, 51, 52, 53, 54, 55, 56, 57, 65, 66, 67, 68, 69, 70]⟩ : ByteArray).extract ((ji2) : Int).toNat ((((ji2) + 1) % 256) : Int).toNat)) ++ ((⟨#[48, 49, 50, 51, 52, 53, 54, 55, 56, 57, 65, 66, 67, 68, 69, 70]⟩ : ByteArray).extract ((Go.bits .and .u8 a0 15) : Int).toNat ((((Go.bits .and .u8 a0 15) + 1) % 256) : Int).toNat))) else (none)) else (none)) else (none)) else (none)) else (none)) else (none)) else (none)) else (none)) = some r := by first | (rw [hji2] at H; exact H) | (simp only [hji2] at H ⊢; exact H)
 by_cases c3 : 0 ≤ (ji2)
 ·rw [if_pos c3] at H
  have c3b0 := eq_true c3
  have c3b1 : decide (0 ≤ (ji2)) = true := decide_eq_true c3
  clear c3
  by_cases c4 : (ji2) ≤ (((ji2) + 1) % 256)
  ·rw [if_pos c4] at H
   have c4b0 := eq_true c4
   have c4b1 : decide ((ji2) ≤ (((ji2) + 1) % 256)) = true := decide_eq_true c4
   by_cases c5 : (((ji2) + 1) % 256) ≤ 16
   ·rw [if_pos c5] at H
    have c5b0 := eq_true c5
    have c5b1 : decide ((((ji2) + 1) % 256) ≤ 16) = true := decide_eq_true c5
    by_cases c6 : 1 + ((⟨#[48, 49, 50, 51, 52, 53, 54, 55, 56, 57, 65, 66, 67, 68, 69, 70]⟩ : ByteArray).extract ((ji2) : Int).toNat ((((ji2) + 1) % 256) : Int).toNat).size ≤ 9223372036854775807
    ·rw [if_pos c6] at H
     have c6b0 := eq_true c6
     have c6b1 : decide (1 + ((⟨#[48, 49, 50, 51, 52, 53, 54, 55, 56, 57, 65, 66, 67, 68, 69, 70]⟩ : ByteArray).extract ((ji2) : Int).toNat ((((ji2) + 1) % 256) : Int).toNat).size ≤ 9223372036854775807) = true := decide_eq_true c6
     try have c6b2 : (9223372036854775807 < 1 + ((⟨#[48, 49, 50, 51, 52, 53, 54, 55, 56, 57, 65, 66, 67, 68, 69, 70]⟩ : ByteArray).extract ((ji2) : Int).toNat ((((ji2) + 1) % 256) : Int).toNat).size) = False := eq_false (Nat.not_lt.2 c6)
     by_cases c7 : 0 ≤ (Go.bits .and .u8 a0 15)
     ·rw [if_pos c7] at H
      have c7b0 := eq_true c7
      have c7b1 : decide (0 ≤ (Go.bits .and .u8 a0 15)) = true := decide_eq_true c7
      clear c7
      by_cases c8 : (Go.bits .and .u8 a0 15) ≤ (((Go.bits .and .u8 a0 15) + 1) % 256)
      ·rw [if_pos c8] at H
       have c8b0 := eq_true c8
       have c8b1 : decide ((Go.bits .and .u8 a0 15) ≤ (((Go.bits .and .u8 a0 15) + 1) % 256)) = true := decide_eq_true c8
       by_cases c9 : (((Go.bits .and .u8 a0 15) + 1) % 256) ≤ 16
       ·rw [if_pos c9] at H
        have c9b0 := eq_true c9
        have c9b1 : decide ((((Go.bits .and .u8 a0 15) + 1) % 256) ≤ 16) = true := decide_eq_true c9
        by_cases c10 : ((⟨#[37]⟩ : ByteArray) ++ ((⟨#[48, 49, 50, 51, 52, 53, 54, 55, 56, 57, 65, 66, 67, 68, 69, 70]⟩ : ByteArray).extract ((ji2) : Int).toNat ((((ji2) + 1) % 256) : Int).toNat)).size + ((⟨#[48, 49, 50, 51, 52, 53, 54, 55, 56, 57, 65, 66, 67, 68, 69, 70]⟩ : ByteArray).extract ((Go.bits .and .u8 a0 15) : Int).toNat ((((Go.bits .and .u8 a0 15) + 1) % 256) : Int).toNat).size ≤ 9223372036854775807
        ·rw [if_pos c10] at H
         have c10b0 := eq_true c10
         have c10b1 : decide (((⟨#[37]⟩ : ByteArray) ++ ((⟨#[48, 49, 50, 51, 52, 53, 54, 55, 56, 57, 65, 66, 67, 68, 69, 70]⟩ : ByteArray).extract ((ji2) : Int).toNat ((((ji2) + 1) % 256) : Int).toNat)).size + ((⟨#[48, 49, 50, 51, 52, 53, 54, 55, 56, 57, 65, 66, 67, 68, 69, 70]⟩ : ByteArray).extract ((Go.bits .and .u8 a0 15) : Int).toNat ((((Go.bits .and .u8 a0 15) + 1) % 256) : Int).toNat).size ≤ 9223372036854775807) = true := decide_eq_true c10
         have c10q := c10
         try simp only [ByteArray.size_append', ByteArray.size_mk', List.size_toArray, List.length_cons, List.length_nil, Nat.zero_add] at c10q
         have c10q0 := eq_true c10q
         have c10q1 := decide_eq_true c10q
         try have c10q2 := eq_false (Nat.not_lt.2 c10q)
         clear c10q
         try have c10b2 : (9223372036854775807 < ((⟨#[37]⟩ : ByteArray) ++ ((⟨#[48, 49, 50, 51, 52, 53, 54, 55, 56, 57, 65, 66, 67, 68, 69, 70]⟩ : ByteArray).extract ((ji2) : Int).toNat ((((ji2) + 1) % 256) : Int).toNat)).size + ((⟨#[48, 49, 50, 51, 52, 53, 54, 55, 56, 57, 65, 66, 67, 68, 69, 70]⟩ : ByteArray).extract ((Go.bits .and .u8 a0 15) : Int).toNat ((((Go.bits .and .u8 a0 15) + 1) % 256) : Int).toNat).size) = False := eq_false (Nat.not_lt.2 c10)
         obtain rfl := Option.some.inj H
         go_enter Tryd.func162, Tryd.ntmps162
         go_wp2
         repeat (go_quiet (fail); try go_wp2)
         go_ret
         exact ⟨by first | rfl | (simp; done) | (simp only [← hji2] <;> (first | rfl | simp)) | (simp [*]; done), by repeat (first | exact Drawn0.refl _ | apply Drawn0.step)⟩
        ·rw [if_neg c10] at H
         exact absurd H (by simp)
       ·rw [if_neg c9] at H
        exact absurd H (by simp)
      ·rw [if_neg c8] at H
       exact absurd H (by simp)
     ·rw [if_neg c7] at H
      exact absurd H (by simp)
    ·rw [if_neg c6] at H
     exact absurd H (by simp)
   ·rw [if_neg c5] at H
    exact absurd H (by simp)
  ·rw [if_neg c4] at H
   exact absurd H (by simp)
 ·rw [if_neg c3] at H
  exact absurd H (by simp)
end Go.Proofs.YtifmkgkiipckbaaDoor.P
namespace Go.Proofs.YtifmkgkiipckbaaDoor.P
open Go.RowKit Go.Proofs.YtifmkgkiipckbaaDoorW.PrintWords Go.Proofs.YtifmkgkiipckbaaDoorW.PrintLast Go.Proofs.YtifmkgkiipckbaaDoorW.PrintMore
attribute [local go_sem] max2_int min2_int max_two min_two max_three min_three max_four min_four
set_option linter.unusedVariables false
set_option linter.unusedSimpArgs false
def ostiaryref1_Percent.l0 : Nat → ByteArray → Int → ByteArray → Int → Option (ByteArray)
 | 0, _, _, _, _ => none
 | k + 1, x0, x1, x5, x6 => if x6 < (x0.size : Int) then (if 0 ≤ x6 then ((ostiaryref1_In.f k (bt x0 x6) x1).bind fun t265 => (if t265 = true then ((ostiaryref1_Escape.f (bt x0 x6)).bind fun t266 => (if x5.size + t266.size ≤ 9223372036854775807 then (ostiaryref1_Percent.l0 k x0 x1 (x5 ++ t266) (wrap64 (x6 + 1))) else (none))) else (if x6 ≤ (wrap64 (x6 + 1)) then (if (wrap64 (x6 + 1)) ≤ (x0.size : Int) then (if x5.size + (x0.extract (x6 : Int).toNat ((wrap64 (x6 + 1)) : Int).toNat).size ≤ 9223372036854775807 then (ostiaryref1_Percent.l0 k x0 x1 (x5 ++ (x0.extract (x6 : Int).toNat ((wrap64 (x6 + 1)) : Int).toNat)) (wrap64 (x6 + 1))) else (none)) else (none)) else (none)))) else (none)) else (some x5)
def ostiaryref1_Percent.f (k : Nat) (a0 : ByteArray) (a1 : Int) : Option (ByteArray) := ostiaryref1_Percent.l0 k a0 a1 (⟨#[]⟩ : ByteArray) 0
theorem ostiaryref1_Percent.mono_l : ∀ k, (∀ y0 y1 y2 y3, LeO (ostiaryref1_Percent.l0 k y0 y1 y2 y3) (ostiaryref1_Percent.l0 (k + 1) y0 y1 y2 y3))
 | 0 => fun _ _ _ _ r h => by simp [ostiaryref1_Percent.l0] at h
 | k + 1 => by
  have ih0 := ostiaryref1_Percent.mono_l k
  ·intro y0 y1 y2 y3
   unfold ostiaryref1_Percent.l0
   repeat' first
   | (with_reducible exact ih0 _ _ _ _)
   | (with_reducible exact ostiaryref1_In.mono _ _ _)
   | (with_reducible exact LeO.refl _)
   | (with_reducible exact LeO.none _)
   | (with_reducible refine LeO.ite ?_ ?_)
   | (with_reducible refine LeO.bind ?_ (fun _ => ?_))
   | exact ih0 _ _ _ _
   | exact ostiaryref1_In.mono _ _ _
   | exact LeO.none _
   | refine LeO.ite ?_ ?_
   | refine LeO.bind ?_ (fun _ => ?_)
theorem ostiaryref1_Percent.mono : ∀ a0 a1 k, LeO (ostiaryref1_Percent.f k a0 a1) (ostiaryref1_Percent.f (k + 1) a0 a1) := by
 intro a0 a1 k
 have ih0 := ostiaryref1_Percent.mono_l k
 unfold ostiaryref1_Percent.f
 repeat' first
   | (with_reducible exact ih0 _ _ _ _)
   | (with_reducible exact ostiaryref1_In.mono _ _ _)
   | (with_reducible exact LeO.refl _)
   | (with_reducible exact LeO.none _)
   | (with_reducible refine LeO.ite ?_ ?_)
   | (with_reducible refine LeO.bind ?_ (fun _ => ?_))
   | exact ih0 _ _ _ _
   | exact ostiaryref1_In.mono _ _ _
   | exact LeO.none _
   | refine LeO.ite ?_ ?_
   | refine LeO.bind ?_ (fun _ => ?_)
set_option maxHeartbeats 8000000 in
set_option maxRecDepth 100000 in
theorem ostiaryref1_Percent.calls (k : Nat) (a0 : ByteArray) (a1 : Int) (r : ByteArray) (w : World) (h : ostiaryref1_Percent.f k a0 a1 = some r) :
  Calls Tryd.prog 128 #[.string a0, .int .i64 a1] w fun e w' => e = .returned (.string r) ∧ Drawn0 w w' := by
 have H : (ostiaryref1_Percent.l0 k a0 a1 (⟨#[]⟩ : ByteArray) 0) = some r := h
 clear h
 have H' := Aside0.mk H
 clear H
 go_enter Tryd.func128, Tryd.ntmps128
 go_wp2
 go_loopg [5, 6] k (fun kq v5 v6 w' => ∃ (x5_1 : ByteArray) (x6_1 : Int), v5 = .string x5_1 ∧ v6 = .int .i64 x6_1 ∧ Aside0 (ostiaryref1_Percent.l0 kq a0 a1 x5_1 x6_1 = some r) ∧ Aside0 (kq ≤ k) ∧ Drawn0 w w')
 case atStart => exact ⟨((⟨#[]⟩ : ByteArray)), (0), rS, rS, H', ⟨Nat.le_refl _⟩, by repeat (first | exact Drawn0.refl _ | apply Drawn0.step)⟩
 case round =>
  clear H'
  try clear c1
  try clear p2
  obtain ⟨x5_1, x6_1, rfl, rfl, HA, HK1, ⟨m1, rfl⟩⟩ := hrel
  cases gk with
  | zero => exact absurd HA.out (by simp [ostiaryref1_Percent.l0])
  | succ k1 =>
   have H := HA.out
   clear HA
   simp only [ostiaryref1_Percent.l0] at H
   by_cases c3 : x6_1 < (a0.size : Int)
   ·rw [if_pos c3] at H
    have c3b0 : decide (x6_1 < (a0.size : Int)) = true := decide_eq_true c3
    clear c3
    by_cases c4 : 0 ≤ x6_1
    ·rw [if_pos c4] at H
     have c4b0 : decide (0 ≤ x6_1) = true := decide_eq_true c4
     clear c4
     replace H := Option.bind_eq_some_iff.mp H
     obtain ⟨t265, A60, H⟩ := H
     replace H : (if t265 = true then ((ostiaryref1_Escape.f (bt a0 x6_1)).bind fun t266 => (if x5_1.size + t266.size ≤ 9223372036854775807 then (ostiaryref1_Percent.l0 k1 a0 a1 (x5_1 ++ t266) (wrap64 (x6_1 + 1))) else (none))) else (if x6_1 ≤ (wrap64 (x6_1 + 1)) then (if (wrap64 (x6_1 + 1)) ≤ (a0.size : Int) then (if x5_1.size + (a0.extract (x6_1 : Int).toNat ((wrap64 (x6_1 + 1)) : Int).toNat).size ≤ 9223372036854775807 then (ostiaryref1_Percent.l0 k1 a0 a1 (x5_1 ++ (a0.extract (x6_1 : Int).toNat ((wrap64 (x6_1 + 1)) : Int).toNat)) (wrap64 (x6_1 + 1))) else (none)) else (none)) else (none))) = some r := H
     have A6 := Aside0.mk A60
     clear A60
     by_cases c7 : t265 = true
     ·subst c7
      have H1 : ((ostiaryref1_Escape.f (bt a0 x6_1)).bind fun t266 => (if x5_1.size + t266.size ≤ 9223372036854775807 then (ostiaryref1_Percent.l0 k1 a0 a1 (x5_1 ++ t266) (wrap64 (x6_1 + 1))) else (none))) = some r := by rw [if_pos rfl] at H; exact H
      clear H
      have H := H1
      clear H1
      replace H := Option.bind_eq_some_iff.mp H
      obtain ⟨t266, A90, H⟩ := H
      replace H : (if x5_1.size + t266.size ≤ 9223372036854775807 then (ostiaryref1_Percent.l0 k1 a0 a1 (x5_1 ++ t266) (wrap64 (x6_1 + 1))) else (none)) = some r := H
      have A9 := Aside0.mk A90
      clear A90
      by_cases c10 : x5_1.size + t266.size ≤ 9223372036854775807
      ·rw [if_pos c10] at H
       have c10b0 := eq_true c10
       have c10b1 : decide (x5_1.size + t266.size ≤ 9223372036854775807) = true := decide_eq_true c10
       try have c10b2 : (9223372036854775807 < x5_1.size + t266.size) = False := eq_false (Nat.not_lt.2 c10)
       have H' := Aside0.mk H
       clear H
       have p5 : 0 ≤ (x6_1 : Int) := of_decide_eq_true aS
       have q5 : x6_1 < (a0.size : Int) := of_decide_eq_true aS
       have hx5 := bt_at a0 x6_1
       replace p5 := eq_true p5
       replace q5 := eq_true q5
       go_wp2_with (first | ((with_reducible refine gate_callee (f := 161) rfl ?_); refine goesL_ (some 17) rfl rfl Tryd.func161 q2_ rfl #[.int .u8 (bt a0 x6_1), .int .i64 a1] rfl tS ?_; (with_reducible refine (ostiaryref1_In.calls k1 (bt a0 x6_1) a1 true _ A6.out).mono ?_); rintro e w' ⟨rfl, ⟨nd, rfl⟩⟩; refine ⟨_, rfl, ?_⟩; have p8 : 0 ≤ (x6_1 : Int) := of_decide_eq_true aS; have q8 : x6_1 < (a0.size : Int) := of_decide_eq_true aS; have hx8 := bt_at a0 x6_1; replace p8 := eq_true p8; replace q8 := eq_true q8) | ((with_reducible refine gate_callee (f := 162) rfl ?_); refine goesL_ (some 22) rfl rfl Tryd.func162 q2_ rfl #[.int .u8 (bt a0 x6_1)] rfl tS ?_; (with_reducible refine (ostiaryref1_Escape.calls (bt a0 x6_1) t266 _ A9.out).mono ?_); rintro e w' ⟨rfl, ⟨nd, rfl⟩⟩; refine ⟨_, rfl, ?_⟩))
       go_roundg k1
       case measure => have := HK1.out; omega
       case rel => exact ⟨(x5_1 ++ t266), (wrap64 (x6_1 + 1)), rS, rS, H', ⟨by have := HK1.out; omega⟩, by repeat (first | exact Drawn0.refl _ | apply Drawn0.step)⟩
      ·rw [if_neg c10] at H
       exact absurd H (by simp)
     ·replace c7 := Bool.eq_false_iff.mpr c7
      subst c7
      have H1 : (if x6_1 ≤ (wrap64 (x6_1 + 1)) then (if (wrap64 (x6_1 + 1)) ≤ (a0.size : Int) then (if x5_1.size + (a0.extract (x6_1 : Int).toNat ((wrap64 (x6_1 + 1)) : Int).toNat).size ≤ 9223372036854775807 then (ostiaryref1_Percent.l0 k1 a0 a1 (x5_1 ++ (a0.extract (x6_1 : Int).toNat ((wrap64 (x6_1 + 1)) : Int).toNat)) (wrap64 (x6_1 + 1))) else (none)) else (none)) else (none)) = some r := by rw [if_neg (show ¬ (false = true) by decide)] at H; exact H
      clear H
      have H := H1
      clear H1
      have c11b0 := eq_true (of_decide_eq_true aS : 0 ≤ x6_1)
      by_cases c12 : x6_1 ≤ (wrap64 (x6_1 + 1))
      ·rw [if_pos c12] at H
       have c12b0 := eq_true c12
       have c12b1 : decide (x6_1 ≤ (wrap64 (x6_1 + 1))) = true := decide_eq_true c12
       by_cases c13 : (wrap64 (x6_1 + 1)) ≤ (a0.size : Int)
       ·rw [if_pos c13] at H
        have c13b0 := eq_true c13
        have c13b1 : decide ((wrap64 (x6_1 + 1)) ≤ (a0.size : Int)) = true := decide_eq_true c13
        by_cases c14 : x5_1.size + (a0.extract (x6_1 : Int).toNat ((wrap64 (x6_1 + 1)) : Int).toNat).size ≤ 9223372036854775807
        ·rw [if_pos c14] at H
         have c14b0 := eq_true c14
         have c14b1 : decide (x5_1.size + (a0.extract (x6_1 : Int).toNat ((wrap64 (x6_1 + 1)) : Int).toNat).size ≤ 9223372036854775807) = true := decide_eq_true c14
         try have c14b2 : (9223372036854775807 < x5_1.size + (a0.extract (x6_1 : Int).toNat ((wrap64 (x6_1 + 1)) : Int).toNat).size) = False := eq_false (Nat.not_lt.2 c14)
         have H' := Aside0.mk H
         clear H
         have p5 : 0 ≤ (x6_1 : Int) := of_decide_eq_true aS
         have q5 : x6_1 < (a0.size : Int) := of_decide_eq_true aS
         have hx5 := bt_at a0 x6_1
         replace p5 := eq_true p5
         replace q5 := eq_true q5
         go_wp2_with (first | ((with_reducible refine gate_callee (f := 161) rfl ?_); refine goesL_ (some 17) rfl rfl Tryd.func161 q2_ rfl #[.int .u8 (bt a0 x6_1), .int .i64 a1] rfl tS ?_; (with_reducible refine (ostiaryref1_In.calls k1 (bt a0 x6_1) a1 false _ A6.out).mono ?_); rintro e w' ⟨rfl, ⟨nd, rfl⟩⟩; refine ⟨_, rfl, ?_⟩))
         go_roundg k1
         case measure => have := HK1.out; omega
         case rel => exact ⟨(x5_1 ++ (a0.extract (x6_1 : Int).toNat ((wrap64 (x6_1 + 1)) : Int).toNat)), (wrap64 (x6_1 + 1)), rS, rS, H', ⟨by have := HK1.out; omega⟩, by repeat (first | exact Drawn0.refl _ | apply Drawn0.step)⟩
        ·rw [if_neg c14] at H
         exact absurd H (by simp)
       ·rw [if_neg c13] at H
        exact absurd H (by simp)
      ·rw [if_neg c12] at H
       exact absurd H (by simp)
    ·rw [if_neg c4] at H
     exact absurd H (by simp)
   ·rw [if_neg c3] at H
    have c3b0 : decide (x6_1 < (a0.size : Int)) = false := decide_eq_false c3
    clear c3
    obtain rfl := Option.some.inj H
    go_wp2
    go_ret
    exact ⟨rS, by repeat (first | exact Drawn0.refl _ | apply Drawn0.step)⟩
end Go.Proofs.YtifmkgkiipckbaaDoor.P
namespace Go.Proofs.YtifmkgkiipckbaaDoor.P
open Go.RowKit Go.Proofs.YtifmkgkiipckbaaDoorW.PrintWords Go.Proofs.YtifmkgkiipckbaaDoorW.PrintLast Go.Proofs.YtifmkgkiipckbaaDoorW.PrintMore
attribute [local go_sem] max2_int min2_int max_two min_two max_three min_three max_four min_four
set_option linter.unusedVariables false
set_option linter.unusedSimpArgs false
def ostiaryref1_Part.l0 : Nat → ByteArray → Int → Int → Option (ByteArray × ByteArray × Bool)
 | 0, _, _, _ => none
 | k + 1, x0, x1, x7 => if x7 < (x0.size : Int) then (if 0 ≤ x7 then (if (bt x0 x7) = x1 then (if x7 ≤ (x0.size : Int) then (if 0 ≤ (wrap64 (x7 + 1)) then (if (wrap64 (x7 + 1)) ≤ (x0.size : Int) then (some (x0.extract 0 (x7 : Int).toNat, x0.extract ((wrap64 (x7 + 1)) : Int).toNat x0.size, true)) else (none)) else (none)) else (none)) else (ostiaryref1_Part.l0 k x0 x1 (wrap64 (x7 + 1)))) else (none)) else (some (x0, (⟨#[]⟩ : ByteArray), false))
def ostiaryref1_Part.f (k : Nat) (a0 : ByteArray) (a1 : Int) : Option (ByteArray × ByteArray × Bool) := ostiaryref1_Part.l0 k a0 a1 0
theorem ostiaryref1_Part.mono_l : ∀ k, (∀ y0 y1 y2, LeO (ostiaryref1_Part.l0 k y0 y1 y2) (ostiaryref1_Part.l0 (k + 1) y0 y1 y2))
 | 0 => fun _ _ _ r h => by simp [ostiaryref1_Part.l0] at h
 | k + 1 => by
  have ih0 := ostiaryref1_Part.mono_l k
  ·intro y0 y1 y2
   unfold ostiaryref1_Part.l0
   exact lO
theorem ostiaryref1_Part.mono : ∀ a0 a1 k, LeO (ostiaryref1_Part.f k a0 a1) (ostiaryref1_Part.f (k + 1) a0 a1) := by
 intro a0 a1 k
 have ih0 := ostiaryref1_Part.mono_l k
 unfold ostiaryref1_Part.f
 exact lO
set_option maxHeartbeats 8000000 in
set_option maxRecDepth 100000 in
theorem ostiaryref1_Part.calls (k : Nat) (a0 : ByteArray) (a1 : Int) (r1 : ByteArray) (r2 : ByteArray) (r3 : Bool) (w : World) (h : ostiaryref1_Part.f k a0 a1 = some (r1, r2, r3)) :
  Calls Tryd.prog 61 #[.string a0, .int .u8 a1] w fun e w' => e = .returned (.tuple #[.string r1, .string r2, .bool r3]) ∧ Drawn0 w w' := by
 have H : (ostiaryref1_Part.l0 k a0 a1 0) = some (r1, r2, r3) := h
 clear h
 have H' := Aside0.mk H
 clear H
 go_enter Tryd.func61, Tryd.ntmps61
 go_wp2
 repeat (go_quiet (fail); try go_wp2)
 go_loopg [7] k (fun kq v7 w' => ∃ (x7_1 : Int), v7 = .int .i64 x7_1 ∧ Aside0 (ostiaryref1_Part.l0 kq a0 a1 x7_1 = some (r1, r2, r3)) ∧ Aside0 (kq ≤ k) ∧ Drawn0 w w')
 case atStart => exact ⟨(0), rS, H', ⟨Nat.le_refl _⟩, by repeat (first | exact Drawn0.refl _ | apply Drawn0.step)⟩
 case round =>
  clear H'
  try clear p2
  obtain ⟨x7_1, rfl, HA, HK1, ⟨m1, rfl⟩⟩ := hrel
  cases gk with
  | zero => exact absurd HA.out (by simp [ostiaryref1_Part.l0])
  | succ k1 =>
   have H := HA.out
   clear HA
   simp only [ostiaryref1_Part.l0] at H
   by_cases c3 : x7_1 < (a0.size : Int)
   ·rw [if_pos c3] at H
    have c3b0 : decide (x7_1 < (a0.size : Int)) = true := decide_eq_true c3
    clear c3
    by_cases c4 : 0 ≤ x7_1
    ·rw [if_pos c4] at H
     have c4b0 : decide (0 ≤ x7_1) = true := decide_eq_true c4
     clear c4
     by_cases c6 : (bt a0 x7_1) = a1
     ·rw [if_pos c6] at H
      have c6b0 : ((bt a0 x7_1) == a1) = true := beq_iff_eq.mpr c6
      have c6b1 : ((bt a0 x7_1) != a1) = false := bne_eq_false_iff_eq.mpr c6
      clear c6
      have c7b0 := eq_true (of_decide_eq_true aS : 0 ≤ x7_1)
      by_cases c8 : x7_1 ≤ (a0.size : Int)
      ·rw [if_pos c8] at H
       have c8b0 := eq_true c8
       have c8b1 : decide (x7_1 ≤ (a0.size : Int)) = true := decide_eq_true c8
       clear c8
       obtain ⟨ji9, hji9⟩ : ∃ j_ : Int, (wrap64 (x7_1 + 1)) = j_ := ⟨_, rfl⟩
       replace H : (if 0 ≤ (ji9) then (if (ji9) ≤ (a0.size : Int) then (some (a0.extract 0 (x7_1 : Int).toNat, a0.extract ((ji9) : Int).toNat a0.size, true)) else (none)) else (none)) = some (r1, r2, r3) := by first | (rw [hji9] at H; exact H) | (simp only [hji9] at H ⊢; exact H)
       have hji9w : (IntKind.i64.wrap (x7_1 + 1)) = ji9 := (i64_w _).trans hji9
       by_cases c10 : 0 ≤ (ji9)
       ·rw [if_pos c10] at H
        have c10b0 := eq_true c10
        have c10b1 : decide (0 ≤ (ji9)) = true := decide_eq_true c10
        clear c10
        by_cases c11 : (ji9) ≤ (a0.size : Int)
        ·rw [if_pos c11] at H
         have c11b0 := eq_true c11
         have c11b1 : decide ((ji9) ≤ (a0.size : Int)) = true := decide_eq_true c11
         clear c11
         simp only [Option.some.injEq, Prod.mk.injEq] at H
         obtain ⟨rfl, rfl, rfl⟩ := H
         have p5 : 0 ≤ (x7_1 : Int) := of_decide_eq_true aS
         have q5 : x7_1 < (a0.size : Int) := of_decide_eq_true aS
         have hx5 := bt_at a0 x7_1
         replace p5 := eq_true p5
         replace q5 := eq_true q5
         go_wp2
         repeat (go_quiet (fail); try go_wp2)
         go_ret3
         exact ⟨by first | rfl | (simp; done) | (simp only [← hji9] <;> (first | rfl | simp)) | (simp [*]; done), by repeat (first | exact Drawn0.refl _ | apply Drawn0.step)⟩
        ·rw [if_neg c11] at H
         exact absurd H (by simp)
       ·rw [if_neg c10] at H
        exact absurd H (by simp)
      ·rw [if_neg c8] at H
       exact absurd H (by simp)
     ·rw [if_neg c6] at H
      have c6b0 : ((bt a0 x7_1) == a1) = false := beq_eq_false_iff_ne.mpr c6
      have c6b1 : ((bt a0 x7_1) != a1) = true := bne_iff_ne.mpr c6
      have H' := Aside0.mk H
      clear H
      have p5 : 0 ≤ (x7_1 : Int) := of_decide_eq_true aS
      have q5 : x7_1 < (a0.size : Int) := of_decide_eq_true aS
      have hx5 := bt_at a0 x7_1
      replace p5 := eq_true p5
      replace q5 := eq_true q5
      go_wp2
      repeat (go_quiet (fail); try go_wp2)
      go_roundg k1
      case measure => have := HK1.out; omega
      case rel => exact ⟨(wrap64 (x7_1 + 1)), rS, H', ⟨by have := HK1.out; omega⟩, by repeat (first | exact Drawn0.refl _ | apply Drawn0.step)⟩
    ·rw [if_neg c4] at H
     exact absurd H (by simp)
   ·rw [if_neg c3] at H
    have c3b0 : decide (x7_1 < (a0.size : Int)) = false := decide_eq_false c3
    clear c3
    simp only [Option.some.injEq, Prod.mk.injEq] at H
    obtain ⟨rfl, rfl, rfl⟩ := H
    go_wp2
    repeat (go_quiet (fail); try go_wp2)
    go_ret3
    exact ⟨rS, by repeat (first | exact Drawn0.refl _ | apply Drawn0.step)⟩
end Go.Proofs.YtifmkgkiipckbaaDoor.P
