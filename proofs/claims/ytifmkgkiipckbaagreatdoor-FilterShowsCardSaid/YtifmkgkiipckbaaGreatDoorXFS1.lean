/- A part of the proof of FS: texts of walks and plain lemmas. -/
import Derived.Test.YtifmkgkiipckbaaGreatDoorProg
import Derived.Below
import Derived.Deep.Draws
import Derived.Deep.AppendLies
import Derived.Maps.AppendAt
import Derived.OwnWalk
import Derived.Laws.BytesArg
import Derived.Laws.MakeOwn
import Derived.Laws.OwnMore
import Derived.Deep.OwnRows
import Derived.Tactics
import Derived.Lib.ConvBytes
import Derived.Laws.Slices
import Derived.WalkKit
import Derived.KernelRfl
import Derived.RowKit3
import Derived.Deep.LoopGhost
import Derived.Deep.QuietTactic
import Derived.BigQuiet
import Derived.WideLaws
import Derived.Deep.DeepCutAuto
import Derived.Deep.CutBlock
import Derived.Deep.RegionHeld3
import Derived.Laws.Rows
import Derived.Lib.AppendStr
import Derived.ArgAppend
import Derived.Laws.IdiomCopy
import Derived.OrdersHeld
import Derived.Laws.BitsLemmas
import Derived.RowKit
import Derived.Test.YtifmkgkiipckbaaGreatDoorXFS0
import Derived.Shelf.Strings.Builder1
import Derived.Shelf.Strings.Builder2
import Derived.Shelf.Strings.OnBuilder
import Derived.Shelf.Strings.Trim
import Derived.Shelf.Small.Utf8
import Derived.Shelf.Small.Bits
import Derived.Shelf.Small.Strs
import Derived.Shelf.Small.Wraps
import Derived.Shelf.Strconv.Itoa0
import Derived.Shelf.Strconv.Itoa1
import Derived.Shelf.LaysM
import Derived.Shelf.Strconv.Itoa2
import Derived.Shelf.Strconv.Itoa3
import Derived.Shelf.Strconv.Itoa4
import Derived.Shelf.Strings.Search1
import Derived.Shelf.Strings.Search2
import Derived.Shelf.Strings.Cut
import Derived.Shelf.Strings.Shaped
import Derived.Shelf.Sort.Plain
import Derived.Shelf.Strings.Prefix
import Derived.Shelf.Unicode.Decode
import Derived.Shelf.Strings.Runes
import Derived.Shelf.Strings.IndexAny
import Derived.Shelf.Strings.AsciiSet
import Derived.Shelf.Strings.IndexAnyAll
import Derived.Shelf.Unicode.DecodeSlow
import Derived.Shelf.Unicode.DecodeAny
import Derived.Shelf.Unicode.DecodeLast
import Derived.Shelf.Slices.Turned
import Derived.Shelf.Slices.CompactS
import Derived.Shelf.Slices.Cells
import Derived.Shelf.Slices.In.SortNone
import Derived.Shelf.Strings.SlTrimAscii
import Derived.Lib.LaidTab
import Derived.WalkSpells
import Derived.Lib.Hide
import Derived.Shelf.Abstract
namespace Go.Proofs.YtifmkgkiipckbaaGreatDoor.P
theorem oK {p : Prop} (h : p := by first | exact True.intro | assumption | omega | (simp only [wrap64, ByteArray.size_append, ByteArray.size_extract, lit_size, List.length_append, List.length_cons, List.length_nil, List.size_toArray]; omega)) : p := h
theorem hB {p : Prop} (h : p := by repeat (first | (with_reducible first | exact HB.out | apply below_alloc | apply pw_below_drewN | apply below_drew1) | exact HB.out)) : p := h
theorem tS {p : Prop} (h : p := by (try simp only [List.map_toArray, List.map_cons, List.map_nil]); first | done | rfl | (simp only [List.length_drop, List.length_take]; rfl)) : p := h
theorem aS {p : Prop} (h : p := by first | (with_reducible assumption) | assumption) : p := h
theorem rS {p : Prop} (h : p := by first | rfl | (simp; done) | (simp [*]; done)) : p := h
theorem lO {p : Prop} (h : p := by repeat' first | (with_reducible first | apply ih0 | apply ih1 | apply ih2 | apply ih3 | apply ih4 | apply ih5 | apply ih6 | apply ih7 | apply ih8 | apply ih9 | apply ih10 | apply ih11 | apply ih12 | apply ih13 | apply ih14 | apply ih15 | exact LeO.refl _ | exact LeO.none _ | refine LeO.ite ?_ ?_ | refine LeO.bind ?_ (fun _ => ?_)) | apply ih0 | apply ih1 | apply ih2 | apply ih3 | apply ih4 | apply ih5 | apply ih6 | apply ih7 | apply ih8 | apply ih9 | apply ih10 | apply ih11 | apply ih12 | apply ih13 | apply ih14 | apply ih15 | exact LeO.none _ | refine LeO.ite ?_ ?_ | refine LeO.bind ?_ (fun _ => ?_)) : p := h
theorem q0_ {p : Prop} (h : p := by (with_reducible repeat (first | refine blk_drewN ?_ _ | refine blk_drew ?_ | refine blk_alloc ?_ _)); exact BK101.out) : p := h
theorem q1_ {p : Prop} (h : p := by repeat (first | (with_reducible first | exact HB.out | apply below_alloc | apply pw_below_drewN | apply below_drew1 | refine below_set ?_ GE101.out | refine below_set ?_ GE102.out | refine below_set ?_ GE106.out) | exact HB.out)) : p := h
theorem q2_ {p : Prop} (h : p := by (with_reducible repeat (first | refine blk_drewN ?_ _ | refine blk_drew ?_ | refine blk_alloc ?_ _)); exact BK102.out) : p := h
theorem q3_ {p : Prop} (h : p := by repeat (first | (with_reducible first | exact HB.out | apply below_alloc | apply pw_below_drewN | apply below_drew1 | refine below_set ?_ GE101.out | refine below_set ?_ GE102.out | refine below_set ?_ GE106.out | refine below_set ?_ GE108.out) | exact HB.out)) : p := h
theorem q4_ {p : Prop} (h : p := by repeat (first | (with_reducible first | exact HB.out | apply below_alloc | apply pw_below_drewN | apply below_drew1 | refine below_set ?_ GE101.out | refine below_set ?_ GE102.out) | exact HB.out)) : p := h
theorem q5_ {p : Prop} (h : p := by (with_reducible repeat (first | refine blk_drewN ?_ _ | refine blk_drew ?_ | refine blk_alloc ?_ _)); exact BK106.out) : p := h
theorem q6_ {p : Prop} (h : p := by repeat (first | (with_reducible first | exact HB.out | apply below_alloc | apply pw_below_drewN | apply below_drew1 | refine below_set ?_ GE258.out | refine below_set ?_ GE274.out) | exact HB.out)) : p := h
theorem q7_ {p : Prop} (h : p := by repeat (first | (with_reducible first | exact HB.out | apply below_alloc | apply pw_below_drewN | apply below_drew1 | refine below_set ?_ GE108.out | refine below_set ?_ GE109.out) | exact HB.out)) : p := h
theorem q8_ {p : Prop} (h : p := by repeat (first | (with_reducible first | exact HB.out | apply below_alloc | apply pw_below_drewN | apply below_drew1 | refine below_set ?_ GE177.out | refine below_set ?_ GE178.out | refine below_set ?_ GE188.out) | exact HB.out)) : p := h
theorem q9_ {p : Prop} (h : p := by kernel_rfl) : p := h
theorem q10_ {p : Prop} (h : p := by repeat (first | (with_reducible first | exact HB.out | apply below_alloc | apply pw_below_drewN | apply below_drew1 | refine below_set ?_ GE129.out | refine below_set ?_ GE130.out | refine below_set ?_ GE137.out) | exact HB.out)) : p := h
theorem q11_ {p : Prop} (h : p := by (with_reducible repeat (first | refine blk_drewN ?_ _ | refine blk_drew ?_ | refine blk_alloc ?_ _)); refine blk_far ?_ NB101_108.out _; (with_reducible repeat (first | refine blk_drewN ?_ _ | refine blk_drew ?_ | refine blk_alloc ?_ _)); refine blk_far ?_ NB101_108.out _; (with_reducible repeat (first | refine blk_drewN ?_ _ | refine blk_drew ?_ | refine blk_alloc ?_ _)); exact BK101.out) : p := h
theorem q12_ {p : Prop} (h : p := by (with_reducible repeat (first | refine blk_drewN ?_ _ | refine blk_drew ?_ | refine blk_alloc ?_ _)); refine blk_far ?_ NB102_108.out _; (with_reducible repeat (first | refine blk_drewN ?_ _ | refine blk_drew ?_ | refine blk_alloc ?_ _)); refine blk_far ?_ NB102_108.out _; (with_reducible repeat (first | refine blk_drewN ?_ _ | refine blk_drew ?_ | refine blk_alloc ?_ _)); exact BK102.out) : p := h
theorem q13_ {p : Prop} (h : p := by (with_reducible repeat (first | refine blk_drewN ?_ _ | refine blk_drew ?_ | refine blk_alloc ?_ _)); refine blk_far ?_ NB106_108.out _; (with_reducible repeat (first | refine blk_drewN ?_ _ | refine blk_drew ?_ | refine blk_alloc ?_ _)); refine blk_far ?_ NB106_108.out _; (with_reducible repeat (first | refine blk_drewN ?_ _ | refine blk_drew ?_ | refine blk_alloc ?_ _)); exact BK106.out) : p := h
theorem q14_ {p : Prop} (h : p := by (with_reducible repeat (first | refine blk_drewN ?_ _ | refine blk_drew ?_ | refine blk_alloc ?_ _)); exact BK108.out) : p := h
theorem q15_ {p : Prop} (h : p := by (with_reducible repeat (first | refine blk_drewN ?_ _ | refine blk_drew ?_ | refine blk_alloc ?_ _)); exact BK129.out) : p := h
theorem q16_ {p : Prop} (h : p := by (with_reducible repeat (first | apply Kd.R_alloc | apply Kd.R_drewN | apply Kd.R_drew)); exact (Kd.R_mono (Kd.R_far (p := ⟨gb108, 1, none⟩) (Kd.R_far (p := ⟨gb108, 0, none⟩) (Kd.R_types HO_107003.out BK108.out (by decide)) (fun _ hk => hk.2) (.string ((rd_T30 l1_1 x24_1).f0))) (fun _ hk => hk.2) (.string ((rd_T30 l1_1 x24_1).f1))) (fun _ h_ => h_.1))) : p := h
theorem q17_ {p : Prop} (h : p := by repeat (first | (with_reducible first | exact HB.out | apply below_alloc | apply pw_below_drewN | apply below_drew1 | refine below_set ?_ GE129.out | refine below_set ?_ GE130.out) | exact HB.out)) : p := h
theorem q18_ {p : Prop} (h : p := by repeat (first | (with_reducible first | exact HB.out | apply below_alloc | apply pw_below_drewN | apply below_drew1 | refine below_set ?_ GE123.out) | exact HB.out)) : p := h
theorem q19_ {p : Prop} (h : p := by (with_reducible repeat (first | refine blk_drewN ?_ _ | refine blk_drew ?_ | refine blk_alloc ?_ _)); exact BK130.out) : p := h
theorem q20_ {p : Prop} (h : p := by (with_reducible repeat (first | apply Kd.R_alloc | apply Kd.R_drewN | apply Kd.R_drew)); exact HO218.out) : p := h
theorem q21_ {p : Prop} (h : p := by (with_reducible repeat (first | refine blk_drewN ?_ _ | refine blk_drew ?_ | refine blk_alloc ?_ _)); exact BK123.out) : p := h
theorem q22_ {p : Prop} (h : p := by (with_reducible repeat (first | apply Kd.R_alloc | apply Kd.R_drewN | apply Kd.R_drew)); exact HO262.out) : p := h
theorem q23_ {p : Prop} (h : p := by (with_reducible repeat (first | apply Kd.R_alloc | apply Kd.R_drewN | apply Kd.R_drew)); exact HO265.out) : p := h
theorem q24_ {p : Prop} (h : p := by (with_reducible repeat (first | apply Kd.R_alloc | apply Kd.R_drewN | apply Kd.R_drew)); exact HO270.out) : p := h
theorem q25_ {p : Prop} (h : p := by (with_reducible repeat (first | apply Kd.R_alloc | apply Kd.R_drewN | apply Kd.R_drew)); exact HO273.out) : p := h
theorem q26_ {p : Prop} (h : p := by (with_reducible repeat (first | refine blk_drewN ?_ _ | refine blk_drew ?_ | refine blk_alloc ?_ _)); exact BK177.out) : p := h
theorem q27_ {p : Prop} (h : p := by (with_reducible repeat (first | refine blk_drewN ?_ _ | refine blk_drew ?_ | refine blk_alloc ?_ _)); exact BK258.out) : p := h
theorem q28_ {p : Prop} (h : p := by repeat (first | (with_reducible first | exact HB.out | apply below_alloc | apply pw_below_drewN | apply below_drew1 | refine below_set ?_ GE228.out) | exact HB.out)) : p := h
theorem q29_ {p : Prop} (h : p := by (with_reducible repeat (first | apply Kd.R_alloc | apply Kd.R_drewN | apply Kd.R_drew)); exact HO223.out) : p := h
theorem q30_ {p : Prop} (h : p := by (with_reducible repeat (first | apply Kd.R_alloc | apply Kd.R_drewN | apply Kd.R_drew)); exact HO_107002.out) : p := h
theorem q31_ {p : Prop} (h : p := by (with_reducible repeat (first | apply Kd.R_alloc | apply Kd.R_drewN | apply Kd.R_drew)); exact HO_107003.out) : p := h
theorem q32_ {p : Prop} (h : p := by repeat (first | (with_reducible first | exact HB.out | apply below_alloc | apply pw_below_drewN | apply below_drew1 | refine below_set ?_ GE228.out | refine below_set ?_ GE245.out) | exact HB.out)) : p := h
theorem q33_ {p : Prop} (h : p := by (with_reducible repeat (first | apply Kd.R_alloc | apply Kd.R_drewN | apply Kd.R_drew)); exact HO_8.out) : p := h
theorem q34_ {p : Prop} (h : p := by repeat (first | (with_reducible first | exact HB.out | apply below_alloc | apply pw_below_drewN | apply below_drew1 | refine below_set ?_ GE101.out) | exact HB.out)) : p := h
theorem q35_ {p : Prop} (h : p := by repeat (first | (with_reducible first | exact HB.out | apply below_alloc | apply pw_below_drewN | apply below_drew1 | refine below_set ?_ GE386.out) | exact HB.out)) : p := h
theorem q36_ {p : Prop} (h : p := by repeat (first | (with_reducible first | exact HB.out | apply below_alloc | apply pw_below_drewN | apply below_drew1 | refine below_set ?_ GE258.out) | exact HB.out)) : p := h
theorem q37_ {p : Prop} (h : p := by (with_reducible repeat (first | refine blk_drewN ?_ _ | refine blk_drew ?_ | refine blk_alloc ?_ _)); exact BK228.out) : p := h
theorem q38_ {p : Prop} (h : p := by (with_reducible repeat (first | refine blk_drewN ?_ _ | refine blk_drew ?_ | refine blk_alloc ?_ _)); exact BK109.out) : p := h
theorem q39_ {p : Prop} (h : p := by (with_reducible repeat (first | apply Kd.R_alloc | apply Kd.R_drewN | apply Kd.R_drew)); exact HO279.out) : p := h
open Go.RowKit Go.Proofs.YtifmkgkiipckbaaGreatDoorW.PrintWords Go.Proofs.YtifmkgkiipckbaaGreatDoorW.PrintLast Go.Proofs.YtifmkgkiipckbaaGreatDoorW.PrintMore
attribute [local go_sem] max2_int min2_int max_two min_two max_three min_three max_four min_four
set_option linter.unusedVariables false
set_option linter.unusedSimpArgs false
def errW : Option Int → Value
 | none => .nilIface
 | some c => .iface 0 (.int .i64 c)
theorem errW_none : errW none = .nilIface := rfl
theorem errW_some (c : Int) : errW (some c) = .iface 0 (.int .i64 c) := rfl
theorem info5 : (Tryz.prog.info? 5).map (fun i => (i.zero, i.size, i.bytes)) = some (some (.int .u8 0), 1, 1) := by kernel_rfl
theorem info9 : (Tryz.prog.info? 9).map (fun i => (i.zero, i.size, i.bytes)) = some (some (.string ⟨#[]⟩), 1, 16) := by kernel_rfl
theorem info30 : (Tryz.prog.info? 30).map (fun i => (i.zero, i.size, i.bytes)) = some (some (.agg #[(.string ⟨#[]⟩), (.string ⟨#[]⟩)]), 2, 32) := by kernel_rfl
structure S30 where
 f0 : ByteArray
 f1 : ByteArray
def z30 : S30 := ⟨(⟨#[]⟩ : ByteArray), (⟨#[]⟩ : ByteArray)⟩
def k30 : Kd S30 := Kd.iso (Kd.pair Kd.string Kd.string) (fun x : S30 => (x.f0, x.f1))
theorem k30_open {w : World} {x : S30} {cs : List Value} (h : k30.K w x cs) : cs = [.string x.f0, .string x.f1] := by
 obtain ⟨_, _, rfl, rfl, rfl⟩ := h
 exact rfl
theorem k30_mk (w : World) (x : S30)  : k30.K w x [.string x.f0, .string x.f1] := ⟨[.string x.f0], [.string x.f1], rfl, rfl, rfl⟩
theorem k30_mkM (w : World) (base : Nat) (ok : Nat → Prop) (x : S30)  : k30.M w base ok x [.string x.f0, .string x.f1] := ⟨[.string x.f0], [.string x.f1], rfl, rfl, rfl⟩
def rd_T30 (xs : List S30) (i : Int) : S30 := xs.getD i.toNat z30
theorem at_T30 {w : World} {A : Option Addr} {n : Nat} {xs : List S30} (h : Kd.C k30 w A n xs) (i : Int) (h0 : 0 ≤ i) (h1 : i < n) : ∃ ad , A = some ad ∧ w.cell? (ad.add (i.toNat * 2)) = some (.string (rd_T30 xs i).f0) ∧ w.cell? ⟨(ad.add (i.toNat * 2)).block, (ad.add (i.toNat * 2)).off + 1, none⟩ = some (.string (rd_T30 xs i).f1) := by
 obtain ⟨ad, c, e, _, hK, hc0⟩ := Kd.C_get h z30 i h0 h1
 have hc : ∀ j u, c[j]? = some u → w.cell? (ad.add (i.toNat * 2 + j)) = some u := hc0
 obtain rfl := k30_open hK
 exact ⟨ad, e, hc 0 _ rfl, by rw [← add_field _ _ 1 (by omega)]; exact hc 1 _ rfl⟩
structure S27 where
 f0 : Int
 f1 : (List S30)
 f2 : (List Int)
def z27 : S27 := ⟨(0 : Int), ([] : List S30), ([] : List Int)⟩
structure S28 where
 f0 : Int
 f1 : (List S30)
 f2 : (List Int)
def z28 : S28 := ⟨(0 : Int), ([] : List S30), ([] : List Int)⟩
structure S29 where
 f0 : ByteArray
 f1 : ByteArray
def z29 : S29 := ⟨(⟨#[]⟩ : ByteArray), (⟨#[]⟩ : ByteArray)⟩
structure S32 where
 f0 : Int
 f1 : S28
 f2 : (List S30)
def z32 : S32 := ⟨(0 : Int), z28, ([] : List S30)⟩
structure S33 where
 f0 : Int
 f1 : S28
 f2 : (List S30)
def z33 : S33 := ⟨(0 : Int), z28, ([] : List S30)⟩
structure S57 where
 f0 : (List (List Int))
 f1 : (List (List Int))
 f2 : Int
 f3 : Bool
def z57 : S57 := ⟨([] : List (List Int)), ([] : List (List Int)), (0 : Int), false⟩
structure S72 where
 f0 : Int
 f1 : S28
 f2 : (List S30)
def z72 : S72 := ⟨(0 : Int), z28, ([] : List S30)⟩
structure S117 where
 f0 : ByteArray
 f1 : ByteArray
 f2 : Bool
def z117 : S117 := ⟨(⟨#[]⟩ : ByteArray), (⟨#[]⟩ : ByteArray), false⟩
structure S116 where
 f0 : ByteArray
 f1 : ByteArray
 f2 : Bool
def z116 : S116 := ⟨(⟨#[]⟩ : ByteArray), (⟨#[]⟩ : ByteArray), false⟩
end Go.Proofs.YtifmkgkiipckbaaGreatDoor.P
namespace Go.Proofs
open Go.Shelf
def Tryz.lays156_ren : Go.Shelf.Ren := ⟨fun | 156 => 126 | 165 => 167 | 166 => 168 | 169 => 169 | 240 => 206 | 241 => 207 | 276 => 238 | 277 => 239 | n => n, fun | 31 => 39 | 9 => 9 | 3 => 3 | 4 => 4 | 0 => 0 | 20 => 20 | 72 => 204 | 76 => 208 | 70 => 202 | 37 => 26 | 75 => 207 | 127 => 246 | 164 => 264 | 5 => 5 | 80 => 210 | n => n, fun | n => n⟩
theorem Tryz.lays156 : Go.Proofs.Lays.n156 Tryz.prog Tryz.lays156_ren := {
 mixed := by kernel_rfl
 f156 := Tryz.func126.trans (congrArg some (by kernel_rfl))
 f165 := Tryz.func167.trans (congrArg some (by kernel_rfl))
 f166 := Tryz.func168.trans (congrArg some (by kernel_rfl))
 f169 := Tryz.func169.trans (congrArg some (by kernel_rfl))
 f240 := Tryz.func206.trans (congrArg some (by kernel_rfl))
 f241 := Tryz.func207.trans (congrArg some (by kernel_rfl))
 f276 := Tryz.func238.trans (congrArg some (by kernel_rfl))
 f277 := Tryz.func239.trans (congrArg some (by kernel_rfl))
 t0 := Tryz.underlying0
 a0 := Tryz.isAgg0
 z0 := Tryz.sizeOf0
 v0 := Tryz.zeroValue0
 t3 := Tryz.underlying3
 a3 := Tryz.isAgg3
 z3 := Tryz.sizeOf3
 v3 := Tryz.zeroValue3
 t4 := Tryz.underlying4
 a4 := Tryz.isAgg4
 z4 := Tryz.sizeOf4
 v4 := Tryz.zeroValue4
 t9 := Tryz.underlying9
 a9 := Tryz.isAgg9
 z9 := Tryz.sizeOf9
 v9 := Tryz.zeroValue9
 t20 := Tryz.underlying20
 a20 := Tryz.isAgg20
 z20 := Tryz.sizeOf20
 v20 := Tryz.zeroValue20
 t31 := Tryz.underlying39
 a31 := Tryz.isAgg39
 z31 := Tryz.sizeOf39
 v31 := Tryz.zeroValue39
 t37 := Tryz.underlying26
 a37 := Tryz.isAgg26
 z37 := Tryz.sizeOf26
 v37 := Tryz.zeroValue26
 t70 := Tryz.underlying202
 a70 := Tryz.isAgg202
 z70 := Tryz.sizeOf202
 v70 := Tryz.zeroValue202
 t72 := Tryz.underlying204
 a72 := Tryz.isAgg204
 z72 := Tryz.sizeOf204
 v72 := Tryz.zeroValue204
 t75 := Tryz.underlying207
 a75 := Tryz.isAgg207
 z75 := Tryz.sizeOf207
 v75 := Tryz.zeroValue207
 t76 := Tryz.underlying208
 a76 := Tryz.isAgg208
 z76 := Tryz.sizeOf208
 v76 := Tryz.zeroValue208
 t127 := Tryz.underlying246
 a127 := Tryz.isAgg246
 z127 := Tryz.sizeOf246
 v127 := Tryz.zeroValue246
 t164 := Tryz.underlying264
 a164 := Tryz.isAgg264
 z164 := Tryz.sizeOf264
 v164 := Tryz.zeroValue264 }
theorem Tryz.Builder_Extra_156 : Builder.Extra Tryz.prog Tryz.lays156_ren := {
 sizeBuilder := by kernel_rfl
 liesBuilder := by kernel_rfl
 t5 := Tryz.underlying5
 a5 := Tryz.isAgg5
 z5 := Tryz.sizeOf5
 v5 := Tryz.zeroValue5
 infoByte := by kernel_rfl
 cellsByte := by kernel_rfl
 sizeByte := by kernel_rfl
 neB5 := by decide }
open Go.RowKit in
theorem Tryz.strings_Join_none (a : Option Addr) (c : Nat) (sep : ByteArray) (w : World) :
  Calls Tryz.prog 126 #[.slice a 0 c, .string sep] w fun e w' => e = .returned (.string ⟨#[]⟩) ∧ w' = w := Any.strings_Join_none Tryz.lays156 Tryz.Builder_Extra_156 a c sep w
open Go.RowKit in
theorem Tryz.strings_Join (bk o c : Nat) (xs : List ByteArray) (sep : ByteArray) (w : World) (hcells : ∀ (j : Nat) x, xs[j]? = some x → w.cell? ⟨bk, o + j, none⟩ = some (.string x)) (hbk : bk < w.heap.size) (hN : xs.length ≤ 140737488355328) (hcap : xs.length ≤ c) (hlen : (Lib.join (xs.map (·.data.toList)) sep.data.toList).length ≤ 140737488355328) :
  Calls Tryz.prog 126 #[.slice (some ⟨bk, o, none⟩) xs.length c, .string sep] w fun e w' => e = .returned (.string ⟨(Lib.join (xs.map (·.data.toList)) sep.data.toList).toArray⟩) ∧ Below w.heap.size w w' := Any.strings_Join Tryz.lays156 Tryz.Builder_Extra_156 bk o c xs sep w hcells hbk hN hcap hlen
def Tryz.lays160_ren : Go.Shelf.Ren := ⟨fun | 160 => 138 | 232 => 175 | 231 => 174 | 227 => 176 | 234 => 178 | 233 => 177 | 236 => 180 | 235 => 179 | 228 => 212 | 271 => 215 | 151 => 214 | 197 => 213 | 120 => 243 | 152 => 216 | 260 => 242 | 137 => 191 | 119 => 244 | 224 => 227 | 225 => 226 | 217 => 225 | 266 => 249 | n => n, fun | 9 => 9 | 4 => 4 | 3 => 3 | 5 => 5 | 117 => 220 | 116 => 219 | 0 => 0 | 124 => 223 | 21 => 21 | 105 => 252 | 46 => 150 | 119 => 279 | 139 => 282 | 138 => 281 | n => n, fun | 3 => 4 | 4 => 5 | n => n⟩
theorem Tryz.lays160 : Go.Proofs.Lays.n160 Tryz.prog Tryz.lays160_ren := {
 mixed := by kernel_rfl
 f119 := Tryz.func244.trans (congrArg some (by kernel_rfl))
 f120 := Tryz.func243.trans (congrArg some (by kernel_rfl))
 f137 := Tryz.func191.trans (congrArg some (by kernel_rfl))
 f151 := Tryz.func214.trans (congrArg some (by kernel_rfl))
 f152 := Tryz.func216.trans (congrArg some (by kernel_rfl))
 f160 := Tryz.func138.trans (congrArg some (by kernel_rfl))
 f197 := Tryz.func213.trans (congrArg some (by kernel_rfl))
 f217 := Tryz.func225.trans (congrArg some (by kernel_rfl))
 f224 := Tryz.func227.trans (congrArg some (by kernel_rfl))
 f225 := Tryz.func226.trans (congrArg some (by kernel_rfl))
 f227 := Tryz.func176.trans (congrArg some (by kernel_rfl))
 f228 := Tryz.func212.trans (congrArg some (by kernel_rfl))
 f231 := Tryz.func174.trans (congrArg some (by kernel_rfl))
 f232 := Tryz.func175.trans (congrArg some (by kernel_rfl))
 f233 := Tryz.func177.trans (congrArg some (by kernel_rfl))
 f234 := Tryz.func178.trans (congrArg some (by kernel_rfl))
 f235 := Tryz.func179.trans (congrArg some (by kernel_rfl))
 f236 := Tryz.func180.trans (congrArg some (by kernel_rfl))
 f260 := Tryz.func242.trans (congrArg some (by kernel_rfl))
 f266 := Tryz.func249.trans (congrArg some (by kernel_rfl))
 f271 := Tryz.func215.trans (congrArg some (by kernel_rfl))
 t0 := Tryz.underlying0
 a0 := Tryz.isAgg0
 z0 := Tryz.sizeOf0
 v0 := Tryz.zeroValue0
 t3 := Tryz.underlying3
 a3 := Tryz.isAgg3
 z3 := Tryz.sizeOf3
 v3 := Tryz.zeroValue3
 t4 := Tryz.underlying4
 a4 := Tryz.isAgg4
 z4 := Tryz.sizeOf4
 v4 := Tryz.zeroValue4
 t5 := Tryz.underlying5
 a5 := Tryz.isAgg5
 z5 := Tryz.sizeOf5
 v5 := Tryz.zeroValue5
 t9 := Tryz.underlying9
 a9 := Tryz.isAgg9
 z9 := Tryz.sizeOf9
 v9 := Tryz.zeroValue9
 t21 := Tryz.underlying21
 a21 := Tryz.isAgg21
 z21 := Tryz.sizeOf21
 v21 := Tryz.zeroValue21
 t46 := Tryz.underlying150
 a46 := Tryz.isAgg150
 z46 := Tryz.sizeOf150
 v46 := Tryz.zeroValue150
 t105 := Tryz.underlying252
 a105 := Tryz.isAgg252
 z105 := Tryz.sizeOf252
 v105 := Tryz.zeroValue252
 t116 := Tryz.underlying219
 a116 := Tryz.isAgg219
 z116 := Tryz.sizeOf219
 t117 := Tryz.underlying220
 a117 := Tryz.isAgg220
 z117 := Tryz.sizeOf220
 v117 := Tryz.zeroValue220
 t119 := Tryz.underlying279
 a119 := Tryz.isAgg279
 z119 := Tryz.sizeOf279
 t124 := Tryz.underlying223
 a124 := Tryz.isAgg223
 z124 := Tryz.sizeOf223
 v124 := Tryz.zeroValue223
 t138 := Tryz.underlying281
 a138 := Tryz.isAgg281
 z138 := Tryz.sizeOf281
 v138 := Tryz.zeroValue281
 t139 := Tryz.underlying282
 a139 := Tryz.isAgg282
 z139 := Tryz.sizeOf282
 v139 := Tryz.zeroValue282
 g3 := by kernel_rfl
 g4 := by kernel_rfl }
def Tryz.lays137_ren : Go.Shelf.Ren := ⟨fun | 137 => 191 | 217 => 225 | 266 => 249 | n => n, fun | 9 => 9 | 5 => 5 | 3 => 3 | n => n, fun | n => n⟩
theorem Tryz.lays137 : Go.Proofs.Lays.n137 Tryz.prog Tryz.lays137_ren := {
 mixed := by kernel_rfl
 f137 := Tryz.func191.trans (congrArg some (by kernel_rfl))
 f217 := Tryz.func225.trans (congrArg some (by kernel_rfl))
 f266 := Tryz.func249.trans (congrArg some (by kernel_rfl))
 t3 := Tryz.underlying3
 a3 := Tryz.isAgg3
 z3 := Tryz.sizeOf3
 v3 := Tryz.zeroValue3
 t5 := Tryz.underlying5
 a5 := Tryz.isAgg5
 z5 := Tryz.sizeOf5
 v5 := Tryz.zeroValue5
 t9 := Tryz.underlying9
 a9 := Tryz.isAgg9
 z9 := Tryz.sizeOf9
 v9 := Tryz.zeroValue9 }
open Go.RowKit in
theorem Tryz.strings_IndexByte (s : ByteArray) (c : Int) (w : World) :
  Calls Tryz.prog 191 #[.string s, .int .u8 c] w fun e w' => e = .returned (.int .i64 (Lib.indexByte s.data.toList c.toNat.toUInt8)) ∧ w' = w := Any.strings_IndexByte Tryz.lays137 s c w
def Tryz.laysM171_ren : Go.Shelf.Ren := ⟨fun | 171 => 79 | 243 => 141 | 246 => 132 | 283 => 170 | 284 => 171 | 285 => 172 | 286 => 173 | 129 => 205 | 317 => 208 | 318 => 209 | 319 => 210 | 320 => 211 | 337 => 240 | 338 => 241 | n => n, fun | 3 => 3 | 9 => 9 | 2 => 2 | 4 => 4 | 171 => 211 | 0 => 0 | 53 => 212 | 37 => 26 | 5 => 5 | 173 => 215 | 212 => 249 | 51 => 245 | 20 => 20 | 213 => 250 | 46 => 150 | 232 => 277 | 233 => 278 | n => n, fun | 17 => 0 | 18 => 2 | 19 => 3 | n => n⟩
theorem Tryz.laysM171 : Go.Proofs.LaysM.n171 Tryz.prog Tryz.laysM171_ren := {
 mixed := by kernel_rfl
 f129 := Tryz.func205.trans (congrArg some (by kernel_rfl))
 f171 := Tryz.func79.trans (congrArg some (by kernel_rfl))
 f243 := Tryz.func141.trans (congrArg some (by kernel_rfl))
 f246 := Tryz.func132.trans (congrArg some (by kernel_rfl))
 f283 := Tryz.func170.trans (congrArg some (by kernel_rfl))
 f284 := Tryz.func171.trans (congrArg some (by kernel_rfl))
 f285 := Tryz.func172.trans (congrArg some (by kernel_rfl))
 f286 := Tryz.func173.trans (congrArg some (by kernel_rfl))
 f317 := Tryz.func208.trans (congrArg some (by kernel_rfl))
 f318 := Tryz.func209.trans (congrArg some (by kernel_rfl))
 f319 := Tryz.func210.trans (congrArg some (by kernel_rfl))
 f320 := Tryz.func211.trans (congrArg some (by kernel_rfl))
 f337 := Tryz.func240.trans (congrArg some (by kernel_rfl))
 f338 := Tryz.func241.trans (congrArg some (by kernel_rfl))
 t0 := Tryz.underlying0
 a0 := Tryz.isAgg0
 z0 := Tryz.sizeOf0
 v0 := Tryz.zeroValue0
 t2 := Tryz.underlying2
 a2 := Tryz.isAgg2
 z2 := Tryz.sizeOf2
 v2 := Tryz.zeroValue2
 t3 := Tryz.underlying3
 a3 := Tryz.isAgg3
 z3 := Tryz.sizeOf3
 v3 := Tryz.zeroValue3
 t4 := Tryz.underlying4
 a4 := Tryz.isAgg4
 z4 := Tryz.sizeOf4
 v4 := Tryz.zeroValue4
 t5 := Tryz.underlying5
 a5 := Tryz.isAgg5
 z5 := Tryz.sizeOf5
 v5 := Tryz.zeroValue5
 t9 := Tryz.underlying9
 a9 := Tryz.isAgg9
 z9 := Tryz.sizeOf9
 v9 := Tryz.zeroValue9
 t20 := Tryz.underlying20
 a20 := Tryz.isAgg20
 z20 := Tryz.sizeOf20
 v20 := Tryz.zeroValue20
 t37 := Tryz.underlying26
 a37 := Tryz.isAgg26
 z37 := Tryz.sizeOf26
 v37 := Tryz.zeroValue26
 t46 := Tryz.underlying150
 a46 := Tryz.isAgg150
 z46 := Tryz.sizeOf150
 v46 := Tryz.zeroValue150
 t51 := Tryz.underlying245
 a51 := Tryz.isAgg245
 z51 := Tryz.sizeOf245
 v51 := Tryz.zeroValue245
 t53 := Tryz.underlying212
 a53 := Tryz.isAgg212
 z53 := Tryz.sizeOf212
 v53 := Tryz.zeroValue212
 t171 := Tryz.underlying211
 a171 := Tryz.isAgg211
 z171 := Tryz.sizeOf211
 v171 := Tryz.zeroValue211
 t173 := Tryz.underlying215
 a173 := Tryz.isAgg215
 z173 := Tryz.sizeOf215
 v173 := Tryz.zeroValue215
 t212 := Tryz.underlying249
 a212 := Tryz.isAgg249
 z212 := Tryz.sizeOf249
 v212 := Tryz.zeroValue249
 t213 := Tryz.underlying250
 a213 := Tryz.isAgg250
 z213 := Tryz.sizeOf250
 t232 := Tryz.underlying277
 a232 := Tryz.isAgg277
 z232 := Tryz.sizeOf277
 v232 := Tryz.zeroValue277
 t233 := Tryz.underlying278
 a233 := Tryz.isAgg278
 z233 := Tryz.sizeOf278
 v233 := Tryz.zeroValue278
 g17 := by kernel_rfl
 g18 := by kernel_rfl
 g19 := by kernel_rfl
 i0 := by kernel_rfl
 i2 := by kernel_rfl
 i3 := by kernel_rfl
 i4 := by kernel_rfl
 i5 := by kernel_rfl
 i9 := by kernel_rfl
 i20 := by kernel_rfl
 i37 := by kernel_rfl
 i46 := by kernel_rfl
 i51 := by kernel_rfl
 i53 := by kernel_rfl
 i171 := by kernel_rfl
 i173 := by kernel_rfl
 i212 := by kernel_rfl
 i232 := by kernel_rfl
 i233 := by kernel_rfl
 m17 := by kernel_rfl
 m18 := by kernel_rfl
 m19 := by kernel_rfl }
open Go.RowKit Go.Sort Go.Lib in
theorem Tryz.strconv_Itoa (n : Int) (h0 : -9223372036854775808 ≤ n) (h1 : n ≤ 9223372036854775807) (w : World) (htab : Lib.TabIs Tryz.prog w "internal/strconv.uint64pow10" .u64 Lib.pow10Tab) :
  Calls Tryz.prog 79 #[.int .i64 n] w fun e w' => e = .returned (.string ⟨(Lib.itoa n).toArray⟩) ∧ ∃ k os, w' = grow (w.drewN k) os := Any.strconv_Itoa Tryz.laysM171 n h0 h1 w htab
def Tryz.lays190_ren : Go.Shelf.Ren := ⟨fun | 190 => 119 | 125 => 166 | 258 => 165 | 128 => 204 | 129 => 205 | 302 => 195 | 303 => 196 | 304 => 197 | 305 => 198 | 306 => 199 | 307 => 200 | 308 => 201 | 309 => 202 | 310 => 203 | 333 => 232 | 329 => 233 | 330 => 234 | 334 => 235 | 335 => 236 | 336 => 237 | 344 => 252 | n => n, fun | 31 => 39 | 9 => 9 | 3 => 3 | 46 => 150 | 0 => 0 | 51 => 245 | 53 => 212 | 4 => 4 | 183 => 238 | 182 => 237 | 131 => 242 | 5 => 5 | 218 => 258 | 222 => 262 | 228 => 274 | 229 => 275 | n => n, fun | n => n⟩
theorem Tryz.lays190 : Go.Proofs.Lays.n190 Tryz.prog Tryz.lays190_ren := {
 mixed := by kernel_rfl
 f125 := Tryz.func166.trans (congrArg some (by kernel_rfl))
 f128 := Tryz.func204.trans (congrArg some (by kernel_rfl))
 f129 := Tryz.func205.trans (congrArg some (by kernel_rfl))
 f190 := Tryz.func119.trans (congrArg some (by kernel_rfl))
 f258 := Tryz.func165.trans (congrArg some (by kernel_rfl))
 f302 := Tryz.func195.trans (congrArg some (by kernel_rfl))
 f303 := Tryz.func196.trans (congrArg some (by kernel_rfl))
 f304 := Tryz.func197.trans (congrArg some (by kernel_rfl))
 f305 := Tryz.func198.trans (congrArg some (by kernel_rfl))
 f306 := Tryz.func199.trans (congrArg some (by kernel_rfl))
 f307 := Tryz.func200.trans (congrArg some (by kernel_rfl))
 f308 := Tryz.func201.trans (congrArg some (by kernel_rfl))
 f309 := Tryz.func202.trans (congrArg some (by kernel_rfl))
 f310 := Tryz.func203.trans (congrArg some (by kernel_rfl))
 f329 := Tryz.func233.trans (congrArg some (by kernel_rfl))
 f330 := Tryz.func234.trans (congrArg some (by kernel_rfl))
 f333 := Tryz.func232.trans (congrArg some (by kernel_rfl))
 f334 := Tryz.func235.trans (congrArg some (by kernel_rfl))
 f335 := Tryz.func236.trans (congrArg some (by kernel_rfl))
 f336 := Tryz.func237.trans (congrArg some (by kernel_rfl))
 f344 := Tryz.func252.trans (congrArg some (by kernel_rfl))
 t0 := Tryz.underlying0
 a0 := Tryz.isAgg0
 z0 := Tryz.sizeOf0
 v0 := Tryz.zeroValue0
 t3 := Tryz.underlying3
 a3 := Tryz.isAgg3
 z3 := Tryz.sizeOf3
 v3 := Tryz.zeroValue3
 t4 := Tryz.underlying4
 a4 := Tryz.isAgg4
 z4 := Tryz.sizeOf4
 v4 := Tryz.zeroValue4
 t5 := Tryz.underlying5
 a5 := Tryz.isAgg5
 z5 := Tryz.sizeOf5
 v5 := Tryz.zeroValue5
 t9 := Tryz.underlying9
 a9 := Tryz.isAgg9
 z9 := Tryz.sizeOf9
 v9 := Tryz.zeroValue9
 t31 := Tryz.underlying39
 a31 := Tryz.isAgg39
 z31 := Tryz.sizeOf39
 v31 := Tryz.zeroValue39
 t46 := Tryz.underlying150
 a46 := Tryz.isAgg150
 z46 := Tryz.sizeOf150
 v46 := Tryz.zeroValue150
 t51 := Tryz.underlying245
 a51 := Tryz.isAgg245
 z51 := Tryz.sizeOf245
 v51 := Tryz.zeroValue245
 t53 := Tryz.underlying212
 a53 := Tryz.isAgg212
 z53 := Tryz.sizeOf212
 v53 := Tryz.zeroValue212
 t131 := Tryz.underlying242
 a131 := Tryz.isAgg242
 z131 := Tryz.sizeOf242
 v131 := Tryz.zeroValue242
 t182 := Tryz.underlying237
 a182 := Tryz.isAgg237
 z182 := Tryz.sizeOf237
 v182 := Tryz.zeroValue237
 t183 := Tryz.underlying238
 a183 := Tryz.isAgg238
 z183 := Tryz.sizeOf238
 v183 := Tryz.zeroValue238
 t218 := Tryz.underlying258
 a218 := Tryz.isAgg258
 z218 := Tryz.sizeOf258
 v218 := Tryz.zeroValue258
 t222 := Tryz.underlying262
 a222 := Tryz.isAgg262
 z222 := Tryz.sizeOf262
 v222 := Tryz.zeroValue262
 t228 := Tryz.underlying274
 a228 := Tryz.isAgg274
 z228 := Tryz.sizeOf274
 v228 := Tryz.zeroValue274
 t229 := Tryz.underlying275
 a229 := Tryz.isAgg275
 z229 := Tryz.sizeOf275
 v229 := Tryz.zeroValue275 }
open Go.Sort Go.RowKit in
theorem Tryz.slices_Sort_string (blk off cap : Nat) (ss : List (List UInt8)) (w : World) (hH : Holds encStr w blk off ss.toArray) (hblk : blk < w.heap.size) (hsz : ss.length < 4611686018427387904) :
  Calls Tryz.prog 119 #[.slice (some ⟨blk, off, none⟩) ss.length cap] w fun e w' =>
   e = .returned (.tuple #[]) ∧ ∃ n os, w' = grow (putRow encStr (Sort.ahead w n) blk off (ss.mergeSort fun x y => decide (x ≤ y)).toArray) os := Any.slices_Sort_string Tryz.lays190 blk off cap ss w hH hblk hsz
def Tryz.lays110_ren : Go.Shelf.Ren := ⟨fun | 110 => 114 | 109 => 161 | n => n, fun | 31 => 39 | 9 => 9 | 4 => 4 | 3 => 3 | 0 => 0 | n => n, fun | n => n⟩
theorem Tryz.lays110 : Go.Proofs.Lays.n110 Tryz.prog Tryz.lays110_ren := {
 mixed := by kernel_rfl
 f109 := Tryz.func161.trans (congrArg some (by kernel_rfl))
 f110 := Tryz.func114.trans (congrArg some (by kernel_rfl))
 t0 := Tryz.underlying0
 a0 := Tryz.isAgg0
 z0 := Tryz.sizeOf0
 v0 := Tryz.zeroValue0
 t3 := Tryz.underlying3
 a3 := Tryz.isAgg3
 z3 := Tryz.sizeOf3
 v3 := Tryz.zeroValue3
 t4 := Tryz.underlying4
 a4 := Tryz.isAgg4
 z4 := Tryz.sizeOf4
 v4 := Tryz.zeroValue4
 t9 := Tryz.underlying9
 a9 := Tryz.isAgg9
 z9 := Tryz.sizeOf9
 v9 := Tryz.zeroValue9
 t31 := Tryz.underlying39
 a31 := Tryz.isAgg39
 z31 := Tryz.sizeOf39
 v31 := Tryz.zeroValue39 }
open Go.Lib in
theorem Tryz.slices_Contains_string (b off n c : Nat) (zs : List ByteArray) (x : ByteArray) (w : World) (hz : n ≤ zs.length) (hbig : n ≤ 9223372036854775807) (hc : ∀ j, j < zs.length → w.cell? ⟨b, off + j, none⟩ = some (.string (zs.getD j ByteArray.empty))) :
  Calls Tryz.prog 114 #[.slice (some ⟨b, off, none⟩) n c, .string x] w fun e w' => e = .returned (.bool (Lib.containsS (zs.take n) x)) ∧ w' = w := Any.slices_Contains_string Tryz.lays110 b off n c zs x w hz hbig hc
open Go.Lib in
theorem Tryz.slices_Contains_string_empty (a : Option Addr) (c : Nat) (x : ByteArray) (w : World) :
  Calls Tryz.prog 114 #[.slice a 0 c, .string x] w fun e w' => e = .returned (.bool false) ∧ w' = w := Any.slices_Contains_string_empty Tryz.lays110 a c x w
open Go.RowKit Go.Sort in
theorem Tryz.slices_Sort_string_none (p : Option Addr) (cap : Nat) (w : World) :
  Calls Tryz.prog 119 #[.slice p 0 cap] w fun e w' => e = .returned (.tuple #[]) ∧ w' = w := Any.slices_Sort_string_none Tryz.lays190 p cap w
open Go.RowKit in
theorem Tryz.strings_Trim_laid (s cutset : ByteArray) (w : World) (hs : s.size ≤ 9223372036854775807) (hcs : cutset.size < 4294967281) (hascii : ∀ (j : Nat) b, cutset.data.toList[j]? = some b → b.toNat < 128) :
  Calls Tryz.prog 138 #[.string s, .string cutset] w fun e w' => e = .returned (.string ⟨(Lib.trimS s.data.toList cutset.data.toList).toArray⟩) ∧ Below w.heap.size w w' := Any.strings_Trim_laid Tryz.lays160 (by kernel_rfl) s cutset w hs hcs hascii
end Go.Proofs
namespace Go.Proofs.YtifmkgkiipckbaaGreatDoor.P
open Go.RowKit
theorem var_kept {P : Program} {w w' : World} (h : Below w.heap.size w w') {n : String} {cs : Array Value} (hv : w.var? P n = some cs) : w'.var? P n = some cs := by
 unfold World.var? at hv ⊢
 cases hg : P.globalNamed n with
 | none => simp [hg] at hv
 | some g =>
  simp only [hg, Option.bind_some] at hv ⊢
  have hlt : g < w.heap.size := by
   rcases Nat.lt_or_ge g w.heap.size with h' | h'
   ·exact h'
   ·simp [Array.getElem?_eq_none h'] at hv
  rw [h.block g hlt]
  exact hv
def LPow (w : World) : Prop := Lib.TabIs Tryz.prog w "internal/strconv.uint64pow10" .u64 Lib.pow10Tab
theorem LPow.below {w w' : World} (h : LPow w) (hb : Below w.heap.size w w') : LPow w' := var_kept hb h
theorem LPow.drew {w : World} (h : LPow w) : LPow w.drew := h
theorem LPow.drewN {w : World} (h : LPow w) (n : Nat) : LPow (w.drewN n) := LPow.below h (by
 induction n with
 | zero => exact Below.refl _ _
 | succ n ih => rw [← World.drew_drewN]; exact ih.drew)
end Go.Proofs.YtifmkgkiipckbaaGreatDoor.P
namespace Go.Proofs.YtifmkgkiipckbaaGreatDoor.P
open Go.RowKit Go.Proofs.YtifmkgkiipckbaaGreatDoorW.PrintWords Go.Proofs.YtifmkgkiipckbaaGreatDoorW.PrintLast
set_option linter.unusedVariables false
set_option linter.unusedSimpArgs false
theorem addr_at (b o j : Nat) : (⟨b, o, none⟩ : Addr).add j = ⟨b, o + j, none⟩ := by unfold Addr.add; split <;> simp_all
theorem strs_cells {w : World} {A : Option Addr} {n : Nat} {l : List ByteArray} (h : Kd.C Kd.string w A n l) (h0 : 0 < n) :
  ∃ b o, A = some ⟨b, o, none⟩ ∧ b < w.heap.size ∧ ∀ (j : Nat) x, l[j]? = some x → w.cell? ⟨b, o + j, none⟩ = some (.string x) := by
 obtain ⟨hl, _, hr⟩ := h
 obtain ⟨ad, rfl, hc⟩ := hr h0
 have key : ∀ (j : Nat) x, l[j]? = some x → w.cell? (ad.add j) = some (.string x) := by
  intro j x hj
  obtain ⟨c, hs, hk, hcell⟩ := hc j x hj
  have hk' : c = [.string x] := hk
  subst hk'
  have := hcell 0 (.string x) rfl
  simpa [show (Kd.string).sz = 1 from rfl] using this
 obtain ⟨b, o, sp⟩ := ad
 have e0 := key 0 l[0] (List.getElem?_eq_getElem (by omega))
 have ha : (⟨b, o, sp⟩ : Addr).add 0 = ⟨b, o, sp⟩ := by simp [Addr.add]
 rw [ha] at e0
 have hsp : sp = none := by
  unfold World.cell? at e0
  split at e0
  ·cases sp with
   | none => rfl
   | some _ => simp at e0
  ·cases e0
 subst hsp
 refine ⟨b, o, rfl, World.block_lt_of_cell? w _ e0, fun j x hj => ?_⟩
 rw [← addr_at]
 exact key j x hj
def strings_IndexByte.f (a0 : ByteArray) (a1 : Int) : Option Int := some (Lib.indexByte a0.data.toList a1.toNat.toUInt8)
theorem strings_IndexByte.calls (a0 : ByteArray) (a1 : Int) (r : Int) (w : World) (h : strings_IndexByte.f a0 a1 = some r) :
  Calls Tryz.prog 191 #[.string a0, .int .u8 a1] w fun e w' => e = .returned (.int .i64 r) ∧ Drawn0 w w' := by
 injection h with h
 subst h
 exact (Tryz.strings_IndexByte a0 a1 w).mono fun e w' ⟨he, hw⟩ => ⟨he, hw ▸ Drawn0.refl _⟩
def strings_Join.f (l0 : List ByteArray) (a1 : ByteArray) : Option ByteArray :=
 if l0.length ≤ 140737488355328 then if (Lib.join (l0.map (·.data.toList)) a1.data.toList).length ≤ 140737488355328 then some ⟨(Lib.join (l0.map (·.data.toList)) a1.data.toList).toArray⟩ else none else none
theorem strings_Join.calls (A0 : Option Addr) (c0 : Nat) (l0 : List ByteArray) (a1 : ByteArray) (r : ByteArray) (w : World) (hr0 : Kd.C Kd.string w A0 l0.length l0) (hc0 : l0.length ≤ c0) (h : strings_Join.f l0 a1 = some r) :
  Calls Tryz.prog 126 #[.slice A0 l0.length c0, .string a1] w fun e w' => e = .returned (.string r) ∧ Below w.heap.size w w' := by
 unfold strings_Join.f at h
 split at h
 ·rename_i h1
  split at h
  ·rename_i h2
   injection h with h
   subst h
   rcases Nat.eq_zero_or_pos l0.length with h0 | h0
   ·have : l0 = [] := List.eq_nil_of_length_eq_zero h0
    subst this
    refine (Tryz.strings_Join_none A0 c0 a1 w).mono fun e w' ⟨he, hw⟩ => ⟨?_, hw ▸ Below.refl _ _⟩
    rw [he]
    rfl
   ·obtain ⟨b, o, rfl, hb, hcells⟩ := strs_cells hr0 h0
    exact Tryz.strings_Join b o c0 l0 a1 w hcells hb h1 hc0 h2
  ·simp at h
 ·simp at h
def strconv_Itoa.f (a0 : Int) : Option ByteArray := if -9223372036854775808 ≤ a0 then if a0 ≤ 9223372036854775807 then some ⟨(Lib.itoa a0).toArray⟩ else none else none
theorem below_grow_drewN (w : World) (k : Nat) (os : Array Obj) : Below w.heap.size w (Go.Sort.grow (w.drewN k) os) := by
 have h1 : Below w.heap.size w (w.drewN k) := pw_below_drewN (Below.refl _ _) k
 refine h1.trans ⟨rfl, rfl, rfl, ?_, ?_⟩
 ·show _ ≤ ((w.drewN k).heap ++ os).size
  rw [Array.size_append]; omega
 ·intro i hi
  show ((w.drewN k).heap ++ os)[i]? = _
  have := h1.size
  rw [Array.getElem?_append_left (by omega)]
theorem strconv_Itoa.calls (a0 : Int) (r : ByteArray) (w : World) (hL : LPow w) (h : strconv_Itoa.f a0 = some r) :
  Calls Tryz.prog 79 #[.int .i64 a0] w fun e w' => e = .returned (.string r) ∧ Below w.heap.size w w' := by
 unfold strconv_Itoa.f at h
 split at h
 ·split at h
  ·injection h with h
   subst h
   refine (Tryz.strconv_Itoa a0 (by assumption) (by assumption) w hL).mono fun e w' ⟨he, k, os, hw⟩ => ⟨he, ?_⟩
   rw [hw]
   exact below_grow_drewN w k os
  ·simp at h
 ·simp at h
end Go.Proofs.YtifmkgkiipckbaaGreatDoor.P
namespace Go.Proofs.YtifmkgkiipckbaaGreatDoor.P
open Go.RowKit Go.Proofs.YtifmkgkiipckbaaGreatDoorW.PrintWords Go.Proofs.YtifmkgkiipckbaaGreatDoorW.PrintLast
set_option linter.unusedVariables false
set_option linter.unusedSimpArgs false
def asciiB (s : ByteArray) : Bool := s.data.toList.all fun b => decide (b.toNat < 128)
def strings_Trim.f (a0 a1 : ByteArray) : Option ByteArray :=
 if a0.size ≤ 140737488355327 then if a1.size ≤ 1000 then if asciiB a1 = true then some ⟨(Lib.trimS a0.data.toList a1.data.toList).toArray⟩ else none else none else none
theorem strings_Trim.calls (a0 a1 r : ByteArray) (w : World) (h : strings_Trim.f a0 a1 = some r) :
  Calls Tryz.prog 138 #[.string a0, .string a1] w fun e w' => e = .returned (.string r) ∧ Below w.heap.size w w' := by
 unfold strings_Trim.f at h
 split at h
 ·rename_i h1
  split at h
  ·rename_i h2
   split at h
   ·rename_i h3
    injection h with h
    subst h
    refine Tryz.strings_Trim_laid a0 a1 w (by omega) (by omega) (fun j b hj => ?_)
    exact of_decide_eq_true (List.all_eq_true.1 h3 b (List.mem_of_getElem? hj))
   ·simp at h
  ·simp at h
 ·simp at h
def slices_Clone.f (l0 : List Int) : Option (List Int) := if l0.length < 140737488355328 then some l0 else none
set_option maxHeartbeats 400000 in
theorem slices_Clone.calls (A0 : Option Addr) (c0 : Nat) (l0 : List Int) (r1 : List Int) (w : World) (hr0 : Kd.C (Kd.int .u8) w A0 l0.length l0) (hc0 : l0.length ≤ c0) (h : slices_Clone.f l0 = some r1) :
  Calls Tryz.prog 80 #[.slice A0 l0.length c0] w fun e w' => ∃ v0_ : Value, e = .returned v0_ ∧ Kd.R (Kd.int .u8) 5 w' w.heap.size (fun _ => True) v0_ r1 ∧ Below w.heap.size w w' := by
 unfold slices_Clone.f at h
 split at h
 ·rename_i hlt
  injection h with h
  subst h
  have HLT := Lib.hid hlt
  have HR := Lib.hid hr0
  clear hlt hr0
  cases A0 with
  | none =>
   have h0 : l0 = [] := by
    rcases Nat.eq_zero_or_pos l0.length with h0 | h0
    ·exact List.eq_nil_of_length_eq_zero h0
    ·obtain ⟨_, _, hx⟩ := HR.out
     obtain ⟨ad, he, _⟩ := hx h0
     cases he
   subst h0
   have hq := fun (W : World) => Lib.run_eql_slice_nil (P := Tryz.prog) W 26 5 none 0 c0 0 0 Tryz.underlying26
   clear HR HLT
   simp only [List.length_nil]
   go_enter Tryz.func80, Tryz.ntmps80
   go_wp2
   go_ret
   exact ⟨_, rfl, Kd.R_nil _ _ _ _ _, Below.refl _ _⟩
  | some ad =>
   have hq := fun (W : World) => Lib.run_eql_slice_nil (P := Tryz.prog) W 26 5 (some ad) l0.length c0 0 0 Tryz.underlying26
   go_enter Tryz.func80, Tryz.ntmps80
   go_wp2_with (first
    | ((with_reducible refine gate_dst (N := 5) rfl ?_); refine Kd.R_lit (Kd.int .u8) (w0 := w) w.heap.size 5 rfl (N := 5) rfl (xs := ([] : List Int)) (inner := []) (ok := fun _ => True) (okp := fun _ => True) ?hr (Reps.none _ _) (fun _ h => h) trivial ?hB ?hs (by simp) ?_; (case hr => first | (go_simp; done) | (go_simp; rfl)); (case hB => first | exact Below.refl _ _ | exact pw_below_drewN (Below.refl _ _) _); (case hs => simp); intro v1 w1 ho hb hg hnew; have HO := Lib.hid ho; have HB := Lib.hid hb; clear ho hb hg hnew)
    | ((with_reducible refine gate_dst (N := 7) rfl ?_); refine Kd.R_append_row (Value.int .u8) 0 (w0 := w) w.heap.size rfl (.tmp 5) (.tmp 6) 26 5 (.int .u8 0) 1 rfl Tryz.underlying26 info5 rfl (by decide) _ [] l0 _ _ _ (fun _ => True) rfl rfl (fun _ _ => trivial) HO.out (Kd.C_below HR.out HB.out) HB.out (below_size HB.out) ?hl ?_; (case hl => have := HLT.out; simp only [List.length_nil]; omega); intro v2 w2 ho hb hg hat; have HO2 := Lib.hid ho; have HB2 := Lib.hid hb; clear ho hb hg hat))
   go_ret
   exact ⟨_, rfl, HO2.out, HB2.out⟩
 ·simp at h
end Go.Proofs.YtifmkgkiipckbaaGreatDoor.P
namespace Go.Proofs.YtifmkgkiipckbaaGreatDoor.P
open Go.RowKit
set_option linter.unusedVariables false
set_option linter.unusedSimpArgs false
def BRow (w : World) (B : Nat) (xs : List UInt8) : Prop :=
 ∃ (cs : Array Value) (e : Nat) (lo hi : Nat), w.heap[B]? = some (.cells cs e (lo, hi)) ∧ xs.length ≤ cs.size ∧ (∀ j (h : j < xs.length), cs[j]? = some (.int .u8 (xs[j]'h).toNat)) ∧ (xs.length ≤ lo ∨ hi ≤ lo)
theorem BRow.cell {w : World} {B : Nat} {xs : List UInt8} (h : BRow w B xs) (j : Nat) (hj : j < xs.length) : w.cell? ⟨B, j, none⟩ = some (.int .u8 (xs[j]'hj).toNat) := by
 obtain ⟨cs, e, lo, hi, hb, h1, h2, h3⟩ := h
 simp [World.cell?, hb, h2 j hj]
theorem BRow.free {w : World} {B : Nat} {xs : List UInt8} (h : BRow w B xs) (j : Nat) (hj : j < xs.length) : w.frozen? ⟨B, j, none⟩ = false := by
 obtain ⟨cs, e, lo, hi, hb, h1, h2, h3⟩ := h
 simp [World.frozen?, hb]
 omega
theorem BRow.set {w : World} {B : Nat} {xs : List UInt8} (h : BRow w B xs) (j : Nat) (hj : j < xs.length) (c : UInt8) : BRow (w.setCell ⟨B, j, none⟩ (.int .u8 c.toNat)) B (xs.set j c) := by
 obtain ⟨cs, e, lo, hi, hb, h1, h2, h3⟩ := h
 refine ⟨cs.setIfInBounds j (.int .u8 c.toNat), e, lo, hi, ?_, by simpa using h1, ?_, by simpa using h3⟩
 ·simp [World.setCell, Array.getElem?_modify, hb]
 ·intro i hi'
  have hi2 : i < xs.length := by simpa using hi'
  by_cases hij : j = i
  ·subst hij
   simp [show j < cs.size by omega]
  ·have := h2 i hi2
   simpa [hij] using this
theorem BRow.lt {w : World} {B : Nat} {xs : List UInt8} (h : BRow w B xs) : B < w.heap.size := by
 obtain ⟨cs, e, lo, hi, hb, _⟩ := h
 exact (Array.getElem?_eq_some_iff.1 hb).1
theorem BRow.below {w w' : World} {B : Nat} {xs : List UInt8} (h : BRow w B xs) (hb : Below w.heap.size w w') : BRow w' B xs := by
 have hl := h.lt
 obtain ⟨cs, e, lo, hi, h0, h1⟩ := h
 exact ⟨cs, e, lo, hi, (hb.block B hl).trans h0, h1⟩
theorem BRow.bytesWorld (w : World) (e : TypeId) (s : ByteArray) : BRow (Lib.bytesWorld w e s) w.heap.size s.data.toList := by
 refine ⟨_, _, _, _, Lib.bytesWorld_at_new w e s, ?_, ?_, ?_⟩
 ·simp [Lib.bytesCells]
 ·intro j hj
  have hj' : j < s.data.size := by simpa using hj
  have hj2 : j < s.size := hj'
  simp [Lib.bytesCells, Array.getElem?_append, hj2, hj']
 ·simp [Lib.bytesCells]
theorem below_bytesWorld (w : World) (e : TypeId) (s : ByteArray) : Below w.heap.size w (Lib.bytesWorld w e s) := by
 refine ⟨?_, ?_, ?_, ?_, fun j hj => Lib.bytesWorld_at_old w e s j hj⟩
 ·simp [Lib.bytesWorld, World.freeze, World.alloc, World.drew, -World.alloc_eq, -World.drew_eq]
 ·simp [Lib.bytesWorld, World.freeze, World.alloc, World.drew, -World.alloc_eq, -World.drew_eq]
 ·simp [Lib.bytesWorld, World.freeze, World.alloc, World.drew, -World.alloc_eq, -World.drew_eq]
 ·rw [Lib.bytesWorld_size]; omega
theorem BRow.back {P : Program} {w : World} {B : Nat} {xs : List UInt8} (h : BRow w B xs) (n : Nat) (hn : xs.length = n) (src dst e : TypeId) (hs : P.underlying src = some (.slice e)) (he : P.underlying e = some (.int .u8)) (hd : P.underlying dst = some .string) (cap : Nat) :
  (convert src dst (.slice (some ⟨B, 0, none⟩) n cap)).run P w = .ok (.string ⟨xs.toArray⟩) w := by
 subst hn
 refine run_convert_bytes_back w src dst e ⟨B, 0, none⟩ cap xs hs he hd fun j hj => ?_
 rw [show (⟨B, 0, none⟩ : Addr).add j = ⟨B, j, none⟩ by unfold Addr.add; split <;> simp_all]
 exact h.cell j hj
def mapTo (f : UInt8 → UInt8) (k : Nat) (l : List UInt8) : List UInt8 := (l.take k).map f ++ l.drop k
theorem mapTo_len (f : UInt8 → UInt8) (k : Nat) (l : List UInt8) : (mapTo f k l).length = l.length := by
 simp [mapTo]; omega
theorem mapTo_at (f : UInt8 → UInt8) (k : Nat) (l : List UInt8) (hk : k < l.length) : (mapTo f k l)[k]'(by rw [mapTo_len]; exact hk) = l[k] := by
 simp [mapTo, Nat.min_eq_left (Nat.le_of_lt hk)]
theorem mapTo_set (f : UInt8 → UInt8) (k : Nat) (l : List UInt8) (hk : k < l.length) : (mapTo f k l).set k (f l[k]) = mapTo f (k + 1) l := by
 apply List.ext_getElem
 ·simp [mapTo_len]
 ·intro i h1 h2
  simp only [mapTo, List.getElem_set, List.getElem_append, List.length_map, List.length_take, List.getElem_map, List.getElem_take, List.getElem_drop]
  simp only [List.length_set, mapTo_len] at h1
  split
  ·subst_vars; simp; intro h; omega
  ·split <;> split <;> first | rfl | omega | (congr 1; omega)
theorem mapTo_same (f : UInt8 → UInt8) (k : Nat) (l : List UInt8) (hk : k < l.length) (h : f l[k] = l[k]) : mapTo f k l = mapTo f (k + 1) l := by
 rw [← mapTo_set f k l hk, h, ← mapTo_at f k l hk, List.set_getElem_self]
theorem mapTo_zero (f : UInt8 → UInt8) (l : List UInt8) : mapTo f 0 l = l := by simp [mapTo]
theorem mapTo_all (f : UInt8 → UInt8) (k : Nat) (l : List UInt8) (h : l.length ≤ k) : mapTo f k l = l.map f := by
 simp [mapTo, List.take_of_length_le h, List.drop_eq_nil_of_le h]
def lowB (c : UInt8) : UInt8 := if 65 ≤ c ∧ c ≤ 90 then c + 32 else c
def lowS (s : ByteArray) : ByteArray := ⟨s.data.map lowB⟩
theorem lowB_up {c : UInt8} (h1 : 65 ≤ c.toNat) (h2 : c.toNat ≤ 90) : (lowB c).toNat = c.toNat + 32 := by
 have a : 65 ≤ c := UInt8.le_iff_toNat_le.2 h1
 have b : c ≤ 90 := UInt8.le_iff_toNat_le.2 h2
 simp [lowB, a, b, UInt8.toNat_add]
 omega
theorem lowB_no {c : UInt8} (h : ¬ (65 ≤ c.toNat ∧ c.toNat ≤ 90)) : lowB c = c := by
 unfold lowB
 rw [if_neg]
 intro ⟨a, b⟩
 exact h ⟨UInt8.le_iff_toNat_le.1 a, UInt8.le_iff_toNat_le.1 b⟩
theorem lowS_eq (s : ByteArray) : (⟨(s.data.toList.map lowB).toArray⟩ : ByteArray) = lowS s := by
 unfold lowS
 congr 1
 apply Array.toList_inj.1
 simp
theorem lowS_size (s : ByteArray) : (lowS s).size = s.size := by
 show (s.data.map lowB).size = _
 simp
end Go.Proofs.YtifmkgkiipckbaaGreatDoor.P
namespace Go.Proofs.YtifmkgkiipckbaaGreatDoor.P
open Go.RowKit
set_option linter.unusedVariables false
set_option linter.unusedSimpArgs false
set_option maxHeartbeats 400000 in
theorem ref_lower (s : ByteArray) (w : World) (hs : s.size ≤ 140737488355327) :
    Calls Tryz.prog 102 #[.string s] w fun e w' => e = .returned (.string (lowS s)) ∧ Below w.heap.size w w' := by
  have hcv := fun (W : World) => Lib.run_convert_string_bytes (P := Tryz.prog) W 9 26 5 s Tryz.underlying9 Tryz.underlying26 Tryz.underlying5
  have hb0 := below_bytesWorld w 5 s
  have hr0 := BRow.bytesWorld w 5 s
  go_enter Tryz.func102, Tryz.ntmps102
  go_wp2
  generalize Lib.bytesWorld w 5 s = w1 at hb0 hr0
  clear hcv
  go_loopw [4] (fun i wr => ∃ k : Nat, k ≤ s.size ∧ i = .int .i64 k ∧ BRow wr w.heap.size (mapTo lowB k s.data.toList) ∧ Below w.heap.size w wr) (fun i _ => s.size - (intOf i).toNat)
  case atStart => exact ⟨0, Nat.zero_le _, rfl, by rw [mapTo_zero]; exact hr0, hb0⟩
  case round =>
    clear hb0 hr0
    obtain ⟨k, hk, rfl, hr, hb⟩ := hrel
    by_cases hlt : k < s.size
    · have hkl : k < s.data.toList.length := by simpa using hlt
      have hc := hr.cell k (by rw [mapTo_len]; exact hkl)
      have hf := hr.free k (by rw [mapTo_len]; exact hkl)
      rw [mapTo_at lowB k _ hkl] at hc
      have HS := hr.set k (by rw [mapTo_len]; exact hkl) (lowB s.data.toList[k])
      rw [mapTo_set lowB k _ hkl] at HS
      have HN : lowB s.data.toList[k] = s.data.toList[k] → BRow wr w.heap.size (mapTo lowB (k + 1) s.data.toList) := fun h => mapTo_same lowB k _ hkl h ▸ hr
      have HB := hb.setCell (p := ⟨w.heap.size, k, none⟩) (Nat.le_refl _) (.int .u8 ((lowB s.data.toList[k]).toNat : Int))
      generalize s.data.toList[k] = c at hc HS HN HB
      have H1 := Lib.hid HS
      have H2 := Lib.hid HB
      have H3 := Lib.hid HN
      have H4 := Lib.hid hb
      clear HS HB HN hb hr
      by_cases c1 : 65 ≤ c.toNat ∧ c.toNat ≤ 90
      · have h1 : (65 : Int) ≤ c.toNat := by omega
        have h2 : (c.toNat : Int) ≤ 90 := by omega
        have HL := Lib.hid (show ((lowB c).toNat : Int) = (c.toNat : Int) + 32 by rw [lowB_up c1.1 c1.2]; omega)
        clear c1
        go_wp2
        go_roundw
        case rel => exact ⟨k + 1, by omega, by go_num, HL.out ▸ H1.out, HL.out ▸ H2.out⟩
        case measure => simp [intOf]; omega
      · have HL := Lib.hid (lowB_no c1)
        have c2 : (65 : Int) ≤ c.toNat → (90 : Int) < c.toNat := by omega
        clear c1
        go_wp2
        all_goals first
          | (exfalso; omega)
          | (go_roundw
             case rel => exact ⟨k + 1, by omega, by go_num, H3.out HL.out, H4.out⟩
             case measure => simp [intOf]; omega)
    · have hk2 : s.size = k := by omega
      have HK := Lib.hid hk2
      clear hk2
      rw [mapTo_all lowB k _ (by simp; omega)] at hr
      have hcb := fun (cap : Nat) => hr.back (P := Tryz.prog) s.size (by simp) 26 9 5 Tryz.underlying26 Tryz.underlying5 Tryz.underlying9 cap
      clear hr
      go_wp2
      go_ret
      exact ⟨congrArg (fun x => Ending.returned (.string x)) (lowS_eq s), hb⟩
def ostiaryref1_Lower.f (a0 : ByteArray) : Option ByteArray := if a0.size ≤ 140737488355327 then some (lowS a0) else none
theorem ostiaryref1_Lower.calls (a0 : ByteArray) (r : ByteArray) (w : World) (h : ostiaryref1_Lower.f a0 = some r) :
    Calls Tryz.prog 102 #[.string a0] w fun e w' => e = .returned (.string r) ∧ Below w.heap.size w w' := by
  unfold ostiaryref1_Lower.f at h
  split at h
  · injection h with h
    subst h
    exact ref_lower a0 w ‹_›
  · simp at h
set_option maxHeartbeats 400000 in
theorem lower_lit (c : UInt8) (W : World) : Calls Tryz.prog 164 #[.int .u8 c.toNat] W fun e w' => e = .returned (.int .u8 (lowB c).toNat) ∧ w' = W := by
  by_cases c1 : 65 ≤ c.toNat ∧ c.toNat ≤ 90
  · have h1 : (65 : Int) ≤ c.toNat := by omega
    have h2 : (c.toNat : Int) ≤ 90 := by omega
    have HL := Lib.hid (show ((lowB c).toNat : Int) = (c.toNat : Int) + 32 by rw [lowB_up c1.1 c1.2]; omega)
    clear c1
    go_enter Tryz.func164, Tryz.ntmps164
    go_wp2
    go_ret
    exact ⟨by rw [HL.out]; rfl, rfl⟩
  · have HL := Lib.hid (lowB_no c1)
    have c2 : (65 : Int) ≤ c.toNat → (90 : Int) < c.toNat := by omega
    clear c1
    go_enter Tryz.func164, Tryz.ntmps164
    go_wp2
    all_goals first
      | (exfalso; omega)
      | (go_ret; exact ⟨by rw [HL.out]; rfl, rfl⟩)
set_option maxHeartbeats 400000 in
theorem mapped_lower (s : ByteArray) (w : World) (hs : s.size ≤ 140737488355327) :
    Calls Tryz.prog 163 #[.string s, .func (.func 164) #[] #[]] w fun e w' => e = .returned (.string (lowS s)) ∧ Below w.heap.size w w' := by
  have hcv := fun (W : World) => Lib.run_convert_string_bytes (P := Tryz.prog) W 9 26 5 s Tryz.underlying9 Tryz.underlying26 Tryz.underlying5
  have hb0 := below_bytesWorld w 5 s
  have hr0 := BRow.bytesWorld w 5 s
  have eg : ∀ args w, (callFunc 164 args).run Tryz.prog w = .ok (.enter 164 args) w := enters_of Tryz.func164 q9_ rfl
  go_enter Tryz.func163, Tryz.ntmps163
  go_wp2
  generalize Lib.bytesWorld w 5 s = w1 at hb0 hr0
  clear hcv
  go_loopw [12, 6, 7] (fun i _ _ wr => ∃ k : Nat, k ≤ s.size ∧ i = .int .i64 k ∧ BRow wr w.heap.size (mapTo lowB k s.data.toList) ∧ Below w.heap.size w wr) (fun i _ _ _ => s.size - (intOf i).toNat)
  case atStart => exact ⟨0, Nat.zero_le _, rfl, by rw [mapTo_zero]; exact hr0, hb0⟩
  case round =>
    clear hb0 hr0
    obtain ⟨k, hk, rfl, hr, hb⟩ := hrel
    by_cases hlt : k < s.size
    · have hkl : k < s.data.toList.length := by simpa using hlt
      have hc := hr.cell k (by rw [mapTo_len]; exact hkl)
      have hf := hr.free k (by rw [mapTo_len]; exact hkl)
      rw [mapTo_at lowB k _ hkl] at hc
      have HS := hr.set k (by rw [mapTo_len]; exact hkl) (lowB s.data.toList[k])
      rw [mapTo_set lowB k _ hkl] at HS
      have HB := hb.setCell (p := ⟨w.heap.size, k, none⟩) (Nat.le_refl _) (.int .u8 ((lowB s.data.toList[k]).toNat : Int))
      generalize s.data.toList[k] = c at hc HS HB
      have H1 := Lib.hid HS
      have H2 := Lib.hid HB
      clear HS HB hb hr
      go_wp2_with (go_at_call 164; refine (lower_lit c _).mono ?_; rintro e w' ⟨rfl, rfl⟩)
      go_roundw
      case rel => exact ⟨k + 1, by omega, by go_num, H1.out, H2.out⟩
      case measure => simp [intOf]; omega
    · have hk2 : s.size = k := by omega
      have HK := Lib.hid hk2
      clear hk2
      rw [mapTo_all lowB k _ (by simp; omega)] at hr
      have hcb := fun (cap : Nat) => hr.back (P := Tryz.prog) s.size (by simp) 26 9 5 Tryz.underlying26 Tryz.underlying5 Tryz.underlying9 cap
      clear hr
      go_wp2
      go_ret
      exact ⟨congrArg (fun x => Ending.returned (.string x)) (lowS_eq s), hb⟩
def infra_Lower.f (a0 : ByteArray) : Option ByteArray := if a0.size ≤ 140737488355327 then some (lowS a0) else none
set_option maxHeartbeats 400000 in
theorem infra_Lower.calls (a0 : ByteArray) (r : ByteArray) (w : World) (h : infra_Lower.f a0 = some r) :
    Calls Tryz.prog 118 #[.string a0] w fun e w' => e = .returned (.string r) ∧ Below w.heap.size w w' := by
  unfold infra_Lower.f at h
  split at h
  · rename_i hs
    injection h with h
    subst h
    go_enter Tryz.func118, Tryz.ntmps118
    go_wp2_with (go_at_call 163; refine (mapped_lower a0 _ hs).mono ?_; rintro e w' ⟨rfl, hb⟩)
    go_ret
    exact ⟨rfl, hb⟩
  · simp at h
end Go.Proofs.YtifmkgkiipckbaaGreatDoor.P
