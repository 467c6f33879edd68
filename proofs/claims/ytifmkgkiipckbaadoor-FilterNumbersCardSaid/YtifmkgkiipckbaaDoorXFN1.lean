/- A part of the proof of FN: texts of walks and plain lemmas. -/
import Derived.Test.YtifmkgkiipckbaaDoorProg
import Derived.Below
import Derived.Deep.Draws
import Derived.Deep.AppendLies
import Derived.Maps.AppendAt
import Derived.OwnWalk
import Derived.Laws.BytesArg
import Derived.Laws.MakeOwn
import Derived.Laws.OwnMore
import Derived.Deep.OwnRows
import Derived.Tactics
import Derived.Lib.ConvBytes
import Derived.Laws.Slices
import Derived.WalkKit
import Derived.KernelRfl
import Derived.RowKit3
import Derived.Deep.LoopGhost
import Derived.Deep.QuietTactic
import Derived.BigQuiet
import Derived.WideLaws
import Derived.Deep.DeepCutAuto
import Derived.Deep.CutBlock
import Derived.Deep.RegionHeld3
import Derived.Laws.Rows
import Derived.Lib.AppendStr
import Derived.ArgAppend
import Derived.Laws.IdiomCopy
import Derived.OrdersHeld
import Derived.Laws.BitsLemmas
import Derived.RowKit
import Derived.Test.YtifmkgkiipckbaaDoorXFN0
import Derived.Shelf.Strings.Builder1
import Derived.Shelf.Strings.Builder2
import Derived.Shelf.Strings.OnBuilder
import Derived.Shelf.Strings.Trim
import Derived.Shelf.Small.Utf8
import Derived.Shelf.Small.Bits
import Derived.Shelf.Small.Strs
import Derived.Shelf.Strconv.Itoa0
import Derived.Shelf.Strconv.Itoa1
import Derived.Shelf.LaysM
import Derived.Shelf.Strconv.Itoa2
import Derived.Shelf.Strconv.Itoa3
import Derived.Shelf.Strings.Search1
import Derived.Shelf.Strings.Search2
import Derived.Shelf.Strings.Cut
import Derived.Shelf.Strings.Shaped
import Derived.Shelf.Sort.Plain
import Derived.Shelf.Strings.Runes
import Derived.Shelf.Strings.AsciiSet
import Derived.Shelf.Unicode.DecodeSlow
import Derived.Shelf.Unicode.DecodeAny
import Derived.Shelf.Unicode.DecodeLast
import Derived.Shelf.Strings.FieldsFuncAny
import Derived.Shelf.Strings.FieldsFuncGrows
import Derived.Shelf.Slices.Turned
import Derived.Ground.SlgmProg
import Derived.Shelf.SortM.SortNone
import Derived.Shelf.Strings.SlTrimAscii
import Derived.Lib.LaidTab
import Derived.WalkSpells
import Derived.Lib.Hide
import Derived.Shelf.Abstract
namespace Go.Proofs.YtifmkgkiipckbaaDoor.P
theorem oK {p : Prop} (h : p := by first | exact True.intro | assumption | omega | (simp only [wrap64, ByteArray.size_append, ByteArray.size_extract, lit_size, List.length_append, List.length_cons, List.length_nil, List.size_toArray]; omega)) : p := h
theorem hB {p : Prop} (h : p := by repeat (first | (with_reducible first | exact HB.out | apply below_alloc | apply pw_below_drewN | apply below_drew1) | exact HB.out)) : p := h
theorem tS {p : Prop} (h : p := by (try simp only [List.map_toArray, List.map_cons, List.map_nil]); first | done | rfl | (simp only [List.length_drop, List.length_take]; rfl)) : p := h
theorem aS {p : Prop} (h : p := by first | (with_reducible assumption) | assumption) : p := h
theorem rS {p : Prop} (h : p := by first | rfl | (simp; done) | (simp [*]; done)) : p := h
theorem lO {p : Prop} (h : p := by repeat' first | (with_reducible first | apply ih0 | apply ih1 | apply ih2 | apply ih3 | apply ih4 | apply ih5 | apply ih6 | apply ih7 | apply ih8 | apply ih9 | apply ih10 | apply ih11 | apply ih12 | apply ih13 | apply ih14 | apply ih15 | exact LeO.refl _ | exact LeO.none _ | refine LeO.ite ?_ ?_ | refine LeO.bind ?_ (fun _ => ?_)) | apply ih0 | apply ih1 | apply ih2 | apply ih3 | apply ih4 | apply ih5 | apply ih6 | apply ih7 | apply ih8 | apply ih9 | apply ih10 | apply ih11 | apply ih12 | apply ih13 | apply ih14 | apply ih15 | exact LeO.none _ | refine LeO.ite ?_ ?_ | refine LeO.bind ?_ (fun _ => ?_)) : p := h
theorem q0_ {p : Prop} (h : p := by repeat (first | (with_reducible first | exact HB.out | apply below_alloc | apply pw_below_drewN | apply below_drew1 | refine below_set ?_ GE101.out | refine below_set ?_ GE102.out | refine below_set ?_ GE106.out) | exact HB.out)) : p := h
theorem q1_ {p : Prop} (h : p := by (with_reducible repeat (first | refine blk_drewN ?_ _ | refine blk_drew ?_ | refine blk_alloc ?_ _)); exact BK101.out) : p := h
theorem q2_ {p : Prop} (h : p := by (with_reducible repeat (first | refine blk_drewN ?_ _ | refine blk_drew ?_ | refine blk_alloc ?_ _)); exact BK106.out) : p := h
theorem q3_ {p : Prop} (h : p := by (with_reducible repeat (first | refine blk_drewN ?_ _ | refine blk_drew ?_ | refine blk_alloc ?_ _)); exact BK102.out) : p := h
theorem q4_ {p : Prop} (h : p := by repeat (first | (with_reducible first | exact HB.out | apply below_alloc | apply pw_below_drewN | apply below_drew1 | refine below_set ?_ GE101.out | refine below_set ?_ GE102.out | refine below_set ?_ GE106.out | refine below_set ?_ GE108.out) | exact HB.out)) : p := h
theorem q5_ {p : Prop} (h : p := by repeat (first | (with_reducible first | exact HB.out | apply below_alloc | apply pw_below_drewN | apply below_drew1 | refine below_set ?_ GE101.out | refine below_set ?_ GE102.out) | exact HB.out)) : p := h
theorem q6_ {p : Prop} (h : p := by repeat (first | (with_reducible first | exact HB.out | apply below_alloc | apply pw_below_drewN | apply below_drew1 | refine below_set ?_ GE177.out | refine below_set ?_ GE196.out) | exact HB.out)) : p := h
theorem q7_ {p : Prop} (h : p := by (with_reducible repeat (first | refine blk_drewN ?_ _ | refine blk_drew ?_ | refine blk_alloc ?_ _)); refine blk_far ?_ NB101_108.out _; (with_reducible repeat (first | refine blk_drewN ?_ _ | refine blk_drew ?_ | refine blk_alloc ?_ _)); refine blk_far ?_ NB101_108.out _; (with_reducible repeat (first | refine blk_drewN ?_ _ | refine blk_drew ?_ | refine blk_alloc ?_ _)); exact BK101.out) : p := h
theorem q8_ {p : Prop} (h : p := by (with_reducible repeat (first | refine blk_drewN ?_ _ | refine blk_drew ?_ | refine blk_alloc ?_ _)); refine blk_far ?_ NB102_108.out _; (with_reducible repeat (first | refine blk_drewN ?_ _ | refine blk_drew ?_ | refine blk_alloc ?_ _)); refine blk_far ?_ NB102_108.out _; (with_reducible repeat (first | refine blk_drewN ?_ _ | refine blk_drew ?_ | refine blk_alloc ?_ _)); exact BK102.out) : p := h
theorem q9_ {p : Prop} (h : p := by (with_reducible repeat (first | refine blk_drewN ?_ _ | refine blk_drew ?_ | refine blk_alloc ?_ _)); refine blk_far ?_ NB106_108.out _; (with_reducible repeat (first | refine blk_drewN ?_ _ | refine blk_drew ?_ | refine blk_alloc ?_ _)); refine blk_far ?_ NB106_108.out _; (with_reducible repeat (first | refine blk_drewN ?_ _ | refine blk_drew ?_ | refine blk_alloc ?_ _)); exact BK106.out) : p := h
theorem q10_ {p : Prop} (h : p := by (with_reducible repeat (first | apply Kd.R_alloc | apply Kd.R_drewN | apply Kd.R_drew)); exact (Kd.R_mono (Kd.R_far (p := ⟨gb108, 1, none⟩) (Kd.R_far (p := ⟨gb108, 0, none⟩) (Kd.R_types HO_107003.out BK108.out (by decide)) (fun _ hk => hk.2) (.string ((rd_T72 l1_1 x24_1).f0))) (fun _ hk => hk.2) (.string ((rd_T72 l1_1 x24_1).f1))) (fun _ h_ => h_.1))) : p := h
theorem q11_ {p : Prop} (h : p := by repeat (first | (with_reducible first | exact HB.out | apply below_alloc | apply pw_below_drewN | apply below_drew1 | refine below_set ?_ GE106.out) | exact HB.out)) : p := h
theorem q12_ {p : Prop} (h : p := by (with_reducible repeat (first | apply Kd.R_alloc | apply Kd.R_drewN | apply Kd.R_drew)); exact HO167.out) : p := h
theorem q13_ {p : Prop} (h : p := by (with_reducible repeat (first | apply Kd.R_alloc | apply Kd.R_drewN | apply Kd.R_drew)); exact HO172.out) : p := h
theorem q14_ {p : Prop} (h : p := by (with_reducible repeat (first | apply Kd.R_alloc | apply Kd.R_drewN | apply Kd.R_drew)); exact HO175.out) : p := h
theorem q15_ {p : Prop} (h : p := by (with_reducible repeat (first | refine blk_drewN ?_ _ | refine blk_drew ?_ | refine blk_alloc ?_ _)); exact BK177.out) : p := h
theorem q16_ {p : Prop} (h : p := by (with_reducible repeat (first | apply Kd.R_alloc | apply Kd.R_drewN | apply Kd.R_drew)); exact HO124.out) : p := h
theorem q17_ {p : Prop} (h : p := by repeat (first | (with_reducible first | exact HB.out | apply below_alloc | apply pw_below_drewN | apply below_drew1 | refine below_set ?_ GE177.out) | exact HB.out)) : p := h
theorem q18_ {p : Prop} (h : p := by (with_reducible repeat (first | apply Kd.R_alloc | apply Kd.R_drewN | apply Kd.R_drew)); exact HO186.out) : p := h
theorem q19_ {p : Prop} (h : p := by repeat (first | (with_reducible first | exact HB.out | apply below_alloc | apply pw_below_drewN | apply below_drew1 | refine below_set ?_ GE134.out) | exact HB.out)) : p := h
theorem q20_ {p : Prop} (h : p := by kernel_rfl) : p := h
theorem q21_ {p : Prop} (h : p := by (with_reducible repeat (first | apply Kd.R_alloc | apply Kd.R_drewN | apply Kd.R_drew)); exact HO129.out) : p := h
theorem q22_ {p : Prop} (h : p := by (with_reducible repeat (first | apply Kd.R_alloc | apply Kd.R_drewN | apply Kd.R_drew)); exact HO_107002.out) : p := h
theorem q23_ {p : Prop} (h : p := by (with_reducible repeat (first | apply Kd.R_alloc | apply Kd.R_drewN | apply Kd.R_drew)); exact HO_107003.out) : p := h
theorem q24_ {p : Prop} (h : p := by repeat (first | (with_reducible first | exact HB.out | apply below_alloc | apply pw_below_drewN | apply below_drew1 | refine below_set ?_ GE134.out | refine below_set ?_ GE151.out) | exact HB.out)) : p := h
theorem q25_ {p : Prop} (h : p := by (with_reducible repeat (first | apply Kd.R_alloc | apply Kd.R_drewN | apply Kd.R_drew)); exact HO191.out) : p := h
theorem q26_ {p : Prop} (h : p := by (with_reducible repeat (first | refine blk_drewN ?_ _ | refine blk_drew ?_ | refine blk_alloc ?_ _)); exact BK134.out) : p := h
theorem q27_ {p : Prop} (h : p := by (with_reducible repeat (first | apply Kd.R_alloc | apply Kd.R_drewN | apply Kd.R_drew)); exact HO194.out) : p := h
theorem q28_ {p : Prop} (h : p := by (with_reducible repeat (first | apply Kd.R_alloc | apply Kd.R_drewN | apply Kd.R_drew)); exact HO132.out) : p := h
theorem q29_ {p : Prop} (h : p := by (with_reducible repeat (first | apply Kd.R_alloc | apply Kd.R_drewN | apply Kd.R_drew)); exact HO141.out) : p := h
theorem q30_ {p : Prop} (h : p := by (with_reducible repeat (first | apply Kd.R_alloc | apply Kd.R_drewN | apply Kd.R_drew)); exact HO201.out) : p := h
theorem q31_ {p : Prop} (h : p := by (with_reducible repeat (first | apply Kd.R_alloc | apply Kd.R_drewN | apply Kd.R_drew)); exact HO204.out) : p := h
theorem q32_ {p : Prop} (h : p := by (with_reducible repeat (first | refine blk_drewN ?_ _ | refine blk_drew ?_ | refine blk_alloc ?_ _)); exact BK196.out) : p := h
theorem q33_ {p : Prop} (h : p := by (with_reducible repeat (first | apply Kd.R_alloc | apply Kd.R_drewN | apply Kd.R_drew)); exact HO146.out) : p := h
theorem q34_ {p : Prop} (h : p := by (with_reducible repeat (first | refine blk_drewN ?_ _ | refine blk_drew ?_ | refine blk_alloc ?_ _)); exact BK108.out) : p := h
theorem q35_ {p : Prop} (h : p := by repeat (first | (with_reducible first | exact HB.out | apply below_alloc | apply pw_below_drewN | apply below_drew1 | refine below_set ?_ GE101.out) | exact HB.out)) : p := h
theorem q36_ {p : Prop} (h : p := by (with_reducible repeat (first | apply Kd.R_alloc | apply Kd.R_drewN | apply Kd.R_drew)); exact HO211.out) : p := h
open Go.RowKit Go.Proofs.YtifmkgkiipckbaaDoorW.PrintWords Go.Proofs.YtifmkgkiipckbaaDoorW.PrintLast Go.Proofs.YtifmkgkiipckbaaDoorW.PrintMore
attribute [local go_sem] max2_int min2_int max_two min_two max_three min_three max_four min_four
set_option linter.unusedVariables false
set_option linter.unusedSimpArgs false
def errW : Option Int → Value
 | none => .nilIface
 | some c => .iface 0 (.int .i64 c)
theorem errW_none : errW none = .nilIface := rfl
theorem errW_some (c : Int) : errW (some c) = .iface 0 (.int .i64 c) := rfl
theorem info5 : (Tryd.prog.info? 5).map (fun i => (i.zero, i.size, i.bytes)) = some (some (.int .u8 0), 1, 1) := by kernel_rfl
theorem info9 : (Tryd.prog.info? 9).map (fun i => (i.zero, i.size, i.bytes)) = some (some (.string ⟨#[]⟩), 1, 16) := by kernel_rfl
theorem info72 : (Tryd.prog.info? 72).map (fun i => (i.zero, i.size, i.bytes)) = some (some (.agg #[(.string ⟨#[]⟩), (.string ⟨#[]⟩)]), 2, 32) := by kernel_rfl
structure S72 where
 f0 : ByteArray
 f1 : ByteArray
def z72 : S72 := ⟨(⟨#[]⟩ : ByteArray), (⟨#[]⟩ : ByteArray)⟩
def k72 : Kd S72 := Kd.iso (Kd.pair Kd.string Kd.string) (fun x : S72 => (x.f0, x.f1))
theorem k72_open {w : World} {x : S72} {cs : List Value} (h : k72.K w x cs) : cs = [.string x.f0, .string x.f1] := by
 obtain ⟨_, _, rfl, rfl, rfl⟩ := h
 exact rfl
theorem k72_mkM (w : World) (base : Nat) (ok : Nat → Prop) (x : S72)  : k72.M w base ok x [.string x.f0, .string x.f1] := ⟨[.string x.f0], [.string x.f1], rfl, rfl, rfl⟩
def rd_T72 (xs : List S72) (i : Int) : S72 := xs.getD i.toNat z72
theorem at_T72 {w : World} {A : Option Addr} {n : Nat} {xs : List S72} (h : Kd.C k72 w A n xs) (i : Int) (h0 : 0 ≤ i) (h1 : i < n) : ∃ ad , A = some ad ∧ w.cell? (ad.add (i.toNat * 2)) = some (.string (rd_T72 xs i).f0) ∧ w.cell? ⟨(ad.add (i.toNat * 2)).block, (ad.add (i.toNat * 2)).off + 1, none⟩ = some (.string (rd_T72 xs i).f1) := by
 obtain ⟨ad, c, e, _, hK, hc0⟩ := Kd.C_get h z72 i h0 h1
 have hc : ∀ j u, c[j]? = some u → w.cell? (ad.add (i.toNat * 2 + j)) = some u := hc0
 obtain rfl := k72_open hK
 exact ⟨ad, e, hc 0 _ rfl, by rw [← add_field _ _ 1 (by omega)]; exact hc 1 _ rfl⟩
structure S24 where
 f0 : ByteArray
 f1 : ByteArray
 f2 : Int
 f3 : Bool
def z24 : S24 := ⟨(⟨#[]⟩ : ByteArray), (⟨#[]⟩ : ByteArray), (0 : Int), false⟩
structure S51 where
 f0 : Int
 f1 : ByteArray
 f2 : ByteArray
def z51 : S51 := ⟨(0 : Int), (⟨#[]⟩ : ByteArray), (⟨#[]⟩ : ByteArray)⟩
structure S63 where
 f0 : Int
 f1 : (List S72)
 f2 : (List Int)
def z63 : S63 := ⟨(0 : Int), ([] : List S72), ([] : List Int)⟩
structure S75 where
 f0 : (List (List Int))
 f1 : (List (List Int))
 f2 : Int
 f3 : Bool
def z75 : S75 := ⟨([] : List (List Int)), ([] : List (List Int)), (0 : Int), false⟩
structure S76 where
 f0 : (List (List Int))
 f1 : (List (List Int))
 f2 : Int
 f3 : Bool
def z76 : S76 := ⟨([] : List (List Int)), ([] : List (List Int)), (0 : Int), false⟩
structure S138 where
 f0 : Int
 f1 : Int
def z138 : S138 := ⟨(0 : Int), (0 : Int)⟩
end Go.Proofs.YtifmkgkiipckbaaDoor.P
namespace Go.Proofs
open Go.Shelf
def Tryd.lays156_ren : Go.Shelf.Ren := ⟨fun | 156 => 87 | 165 => 111 | 166 => 112 | 169 => 113 | 240 => 138 | 241 => 139 | 276 => 165 | 277 => 166 | n => n, fun | 31 => 84 | 9 => 9 | 3 => 3 | 4 => 4 | 0 => 0 | 20 => 20 | 72 => 167 | 76 => 171 | 70 => 165 | 37 => 34 | 75 => 170 | 127 => 195 | 164 => 216 | 5 => 5 | 80 => 173 | n => n, fun | n => n⟩
theorem Tryd.lays156 : Go.Proofs.Lays.n156 Tryd.prog Tryd.lays156_ren := {
 mixed := by kernel_rfl
 f156 := Tryd.func87.trans (congrArg some (by kernel_rfl))
 f165 := Tryd.func111.trans (congrArg some (by kernel_rfl))
 f166 := Tryd.func112.trans (congrArg some (by kernel_rfl))
 f169 := Tryd.func113.trans (congrArg some (by kernel_rfl))
 f240 := Tryd.func138.trans (congrArg some (by kernel_rfl))
 f241 := Tryd.func139.trans (congrArg some (by kernel_rfl))
 f276 := Tryd.func165.trans (congrArg some (by kernel_rfl))
 f277 := Tryd.func166.trans (congrArg some (by kernel_rfl))
 t0 := Tryd.underlying0
 a0 := Tryd.isAgg0
 z0 := Tryd.sizeOf0
 v0 := Tryd.zeroValue0
 t3 := Tryd.underlying3
 a3 := Tryd.isAgg3
 z3 := Tryd.sizeOf3
 v3 := Tryd.zeroValue3
 t4 := Tryd.underlying4
 a4 := Tryd.isAgg4
 z4 := Tryd.sizeOf4
 v4 := Tryd.zeroValue4
 t9 := Tryd.underlying9
 a9 := Tryd.isAgg9
 z9 := Tryd.sizeOf9
 v9 := Tryd.zeroValue9
 t20 := Tryd.underlying20
 a20 := Tryd.isAgg20
 z20 := Tryd.sizeOf20
 v20 := Tryd.zeroValue20
 t31 := Tryd.underlying84
 a31 := Tryd.isAgg84
 z31 := Tryd.sizeOf84
 v31 := Tryd.zeroValue84
 t37 := Tryd.underlying34
 a37 := Tryd.isAgg34
 z37 := Tryd.sizeOf34
 v37 := Tryd.zeroValue34
 t70 := Tryd.underlying165
 a70 := Tryd.isAgg165
 z70 := Tryd.sizeOf165
 v70 := Tryd.zeroValue165
 t72 := Tryd.underlying167
 a72 := Tryd.isAgg167
 z72 := Tryd.sizeOf167
 v72 := Tryd.zeroValue167
 t75 := Tryd.underlying170
 a75 := Tryd.isAgg170
 z75 := Tryd.sizeOf170
 v75 := Tryd.zeroValue170
 t76 := Tryd.underlying171
 a76 := Tryd.isAgg171
 z76 := Tryd.sizeOf171
 v76 := Tryd.zeroValue171
 t127 := Tryd.underlying195
 a127 := Tryd.isAgg195
 z127 := Tryd.sizeOf195
 v127 := Tryd.zeroValue195
 t164 := Tryd.underlying216
 a164 := Tryd.isAgg216
 z164 := Tryd.sizeOf216
 v164 := Tryd.zeroValue216 }
theorem Tryd.Builder_Extra_156 : Builder.Extra Tryd.prog Tryd.lays156_ren := {
 sizeBuilder := by kernel_rfl
 liesBuilder := by kernel_rfl
 t5 := Tryd.underlying5
 a5 := Tryd.isAgg5
 z5 := Tryd.sizeOf5
 v5 := Tryd.zeroValue5
 infoByte := by kernel_rfl
 cellsByte := by kernel_rfl
 sizeByte := by kernel_rfl
 neB5 := by decide }
open Go.RowKit in
theorem Tryd.strings_Join_none (a : Option Addr) (c : Nat) (sep : ByteArray) (w : World) :
  Calls Tryd.prog 87 #[.slice a 0 c, .string sep] w fun e w' => e = .returned (.string ⟨#[]⟩) ∧ w' = w := Any.strings_Join_none Tryd.lays156 Tryd.Builder_Extra_156 a c sep w
open Go.RowKit in
theorem Tryd.strings_Join (bk o c : Nat) (xs : List ByteArray) (sep : ByteArray) (w : World) (hcells : ∀ (j : Nat) x, xs[j]? = some x → w.cell? ⟨bk, o + j, none⟩ = some (.string x)) (hbk : bk < w.heap.size) (hN : xs.length ≤ 140737488355328) (hcap : xs.length ≤ c) (hlen : (Lib.join (xs.map (·.data.toList)) sep.data.toList).length ≤ 140737488355328) :
  Calls Tryd.prog 87 #[.slice (some ⟨bk, o, none⟩) xs.length c, .string sep] w fun e w' => e = .returned (.string ⟨(Lib.join (xs.map (·.data.toList)) sep.data.toList).toArray⟩) ∧ Below w.heap.size w w' := Any.strings_Join Tryd.lays156 Tryd.Builder_Extra_156 bk o c xs sep w hcells hbk hN hcap hlen
def Tryd.lays160_ren : Go.Shelf.Ren := ⟨fun | 160 => 125 | 232 => 152 | 231 => 151 | 227 => 153 | 234 => 155 | 233 => 154 | 236 => 157 | 235 => 156 | 228 => 175 | 271 => 177 | 151 => 57 | 197 => 176 | 120 => 188 | 152 => 92 | 260 => 187 | 137 => 89 | 119 => 115 | 224 => 116 | 225 => 117 | 217 => 114 | 266 => 140 | n => n, fun | 9 => 9 | 4 => 4 | 3 => 3 | 5 => 5 | 117 => 208 | 116 => 207 | 0 => 0 | 124 => 211 | 21 => 21 | 105 => 228 | 46 => 127 | 119 => 255 | 139 => 258 | 138 => 257 | n => n, fun | 3 => 10 | 4 => 11 | n => n⟩
theorem Tryd.lays160 : Go.Proofs.Lays.n160 Tryd.prog Tryd.lays160_ren := {
 mixed := by kernel_rfl
 f119 := Tryd.func115.trans (congrArg some (by kernel_rfl))
 f120 := Tryd.func188.trans (congrArg some (by kernel_rfl))
 f137 := Tryd.func89.trans (congrArg some (by kernel_rfl))
 f151 := Tryd.func57.trans (congrArg some (by kernel_rfl))
 f152 := Tryd.func92.trans (congrArg some (by kernel_rfl))
 f160 := Tryd.func125.trans (congrArg some (by kernel_rfl))
 f197 := Tryd.func176.trans (congrArg some (by kernel_rfl))
 f217 := Tryd.func114.trans (congrArg some (by kernel_rfl))
 f224 := Tryd.func116.trans (congrArg some (by kernel_rfl))
 f225 := Tryd.func117.trans (congrArg some (by kernel_rfl))
 f227 := Tryd.func153.trans (congrArg some (by kernel_rfl))
 f228 := Tryd.func175.trans (congrArg some (by kernel_rfl))
 f231 := Tryd.func151.trans (congrArg some (by kernel_rfl))
 f232 := Tryd.func152.trans (congrArg some (by kernel_rfl))
 f233 := Tryd.func154.trans (congrArg some (by kernel_rfl))
 f234 := Tryd.func155.trans (congrArg some (by kernel_rfl))
 f235 := Tryd.func156.trans (congrArg some (by kernel_rfl))
 f236 := Tryd.func157.trans (congrArg some (by kernel_rfl))
 f260 := Tryd.func187.trans (congrArg some (by kernel_rfl))
 f266 := Tryd.func140.trans (congrArg some (by kernel_rfl))
 f271 := Tryd.func177.trans (congrArg some (by kernel_rfl))
 t0 := Tryd.underlying0
 a0 := Tryd.isAgg0
 z0 := Tryd.sizeOf0
 v0 := Tryd.zeroValue0
 t3 := Tryd.underlying3
 a3 := Tryd.isAgg3
 z3 := Tryd.sizeOf3
 v3 := Tryd.zeroValue3
 t4 := Tryd.underlying4
 a4 := Tryd.isAgg4
 z4 := Tryd.sizeOf4
 v4 := Tryd.zeroValue4
 t5 := Tryd.underlying5
 a5 := Tryd.isAgg5
 z5 := Tryd.sizeOf5
 v5 := Tryd.zeroValue5
 t9 := Tryd.underlying9
 a9 := Tryd.isAgg9
 z9 := Tryd.sizeOf9
 v9 := Tryd.zeroValue9
 t21 := Tryd.underlying21
 a21 := Tryd.isAgg21
 z21 := Tryd.sizeOf21
 v21 := Tryd.zeroValue21
 t46 := Tryd.underlying127
 a46 := Tryd.isAgg127
 z46 := Tryd.sizeOf127
 v46 := Tryd.zeroValue127
 t105 := Tryd.underlying228
 a105 := Tryd.isAgg228
 z105 := Tryd.sizeOf228
 v105 := Tryd.zeroValue228
 t116 := Tryd.underlying207
 a116 := Tryd.isAgg207
 z116 := Tryd.sizeOf207
 t117 := Tryd.underlying208
 a117 := Tryd.isAgg208
 z117 := Tryd.sizeOf208
 v117 := Tryd.zeroValue208
 t119 := Tryd.underlying255
 a119 := Tryd.isAgg255
 z119 := Tryd.sizeOf255
 t124 := Tryd.underlying211
 a124 := Tryd.isAgg211
 z124 := Tryd.sizeOf211
 v124 := Tryd.zeroValue211
 t138 := Tryd.underlying257
 a138 := Tryd.isAgg257
 z138 := Tryd.sizeOf257
 v138 := Tryd.zeroValue257
 t139 := Tryd.underlying258
 a139 := Tryd.isAgg258
 z139 := Tryd.sizeOf258
 v139 := Tryd.zeroValue258
 g3 := by kernel_rfl
 g4 := by kernel_rfl }
def Tryd.lays137_ren : Go.Shelf.Ren := ⟨fun | 137 => 89 | 217 => 114 | 266 => 140 | n => n, fun | 9 => 9 | 5 => 5 | 3 => 3 | n => n, fun | n => n⟩
theorem Tryd.lays137 : Go.Proofs.Lays.n137 Tryd.prog Tryd.lays137_ren := {
 mixed := by kernel_rfl
 f137 := Tryd.func89.trans (congrArg some (by kernel_rfl))
 f217 := Tryd.func114.trans (congrArg some (by kernel_rfl))
 f266 := Tryd.func140.trans (congrArg some (by kernel_rfl))
 t3 := Tryd.underlying3
 a3 := Tryd.isAgg3
 z3 := Tryd.sizeOf3
 v3 := Tryd.zeroValue3
 t5 := Tryd.underlying5
 a5 := Tryd.isAgg5
 z5 := Tryd.sizeOf5
 v5 := Tryd.zeroValue5
 t9 := Tryd.underlying9
 a9 := Tryd.isAgg9
 z9 := Tryd.sizeOf9
 v9 := Tryd.zeroValue9 }
open Go.RowKit in
theorem Tryd.strings_IndexByte (s : ByteArray) (c : Int) (w : World) :
  Calls Tryd.prog 89 #[.string s, .int .u8 c] w fun e w' => e = .returned (.int .i64 (Lib.indexByte s.data.toList c.toNat.toUInt8)) ∧ w' = w := Any.strings_IndexByte Tryd.lays137 s c w
def Tryd.laysM171_ren : Go.Shelf.Ren := ⟨fun | 171 => 74 | 243 => 102 | 246 => 124 | 283 => 147 | 284 => 148 | 285 => 149 | 286 => 150 | 129 => 171 | 317 => 170 | 318 => 172 | 319 => 173 | 320 => 174 | 337 => 185 | 338 => 186 | n => n, fun | 3 => 3 | 9 => 9 | 2 => 2 | 4 => 4 | 171 => 200 | 0 => 0 | 53 => 111 | 37 => 34 | 5 => 5 | 173 => 203 | 212 => 224 | 51 => 142 | 20 => 20 | 213 => 225 | 46 => 127 | 232 => 253 | 233 => 254 | n => n, fun | 17 => 7 | 18 => 8 | 19 => 9 | n => n⟩
theorem Tryd.laysM171 : Go.Proofs.LaysM.n171 Tryd.prog Tryd.laysM171_ren := {
 mixed := by kernel_rfl
 f129 := Tryd.func171.trans (congrArg some (by kernel_rfl))
 f171 := Tryd.func74.trans (congrArg some (by kernel_rfl))
 f243 := Tryd.func102.trans (congrArg some (by kernel_rfl))
 f246 := Tryd.func124.trans (congrArg some (by kernel_rfl))
 f283 := Tryd.func147.trans (congrArg some (by kernel_rfl))
 f284 := Tryd.func148.trans (congrArg some (by kernel_rfl))
 f285 := Tryd.func149.trans (congrArg some (by kernel_rfl))
 f286 := Tryd.func150.trans (congrArg some (by kernel_rfl))
 f317 := Tryd.func170.trans (congrArg some (by kernel_rfl))
 f318 := Tryd.func172.trans (congrArg some (by kernel_rfl))
 f319 := Tryd.func173.trans (congrArg some (by kernel_rfl))
 f320 := Tryd.func174.trans (congrArg some (by kernel_rfl))
 f337 := Tryd.func185.trans (congrArg some (by kernel_rfl))
 f338 := Tryd.func186.trans (congrArg some (by kernel_rfl))
 t0 := Tryd.underlying0
 a0 := Tryd.isAgg0
 z0 := Tryd.sizeOf0
 v0 := Tryd.zeroValue0
 t2 := Tryd.underlying2
 a2 := Tryd.isAgg2
 z2 := Tryd.sizeOf2
 v2 := Tryd.zeroValue2
 t3 := Tryd.underlying3
 a3 := Tryd.isAgg3
 z3 := Tryd.sizeOf3
 v3 := Tryd.zeroValue3
 t4 := Tryd.underlying4
 a4 := Tryd.isAgg4
 z4 := Tryd.sizeOf4
 v4 := Tryd.zeroValue4
 t5 := Tryd.underlying5
 a5 := Tryd.isAgg5
 z5 := Tryd.sizeOf5
 v5 := Tryd.zeroValue5
 t9 := Tryd.underlying9
 a9 := Tryd.isAgg9
 z9 := Tryd.sizeOf9
 v9 := Tryd.zeroValue9
 t20 := Tryd.underlying20
 a20 := Tryd.isAgg20
 z20 := Tryd.sizeOf20
 v20 := Tryd.zeroValue20
 t37 := Tryd.underlying34
 a37 := Tryd.isAgg34
 z37 := Tryd.sizeOf34
 v37 := Tryd.zeroValue34
 t46 := Tryd.underlying127
 a46 := Tryd.isAgg127
 z46 := Tryd.sizeOf127
 v46 := Tryd.zeroValue127
 t51 := Tryd.underlying142
 a51 := Tryd.isAgg142
 z51 := Tryd.sizeOf142
 v51 := Tryd.zeroValue142
 t53 := Tryd.underlying111
 a53 := Tryd.isAgg111
 z53 := Tryd.sizeOf111
 v53 := Tryd.zeroValue111
 t171 := Tryd.underlying200
 a171 := Tryd.isAgg200
 z171 := Tryd.sizeOf200
 v171 := Tryd.zeroValue200
 t173 := Tryd.underlying203
 a173 := Tryd.isAgg203
 z173 := Tryd.sizeOf203
 v173 := Tryd.zeroValue203
 t212 := Tryd.underlying224
 a212 := Tryd.isAgg224
 z212 := Tryd.sizeOf224
 v212 := Tryd.zeroValue224
 t213 := Tryd.underlying225
 a213 := Tryd.isAgg225
 z213 := Tryd.sizeOf225
 t232 := Tryd.underlying253
 a232 := Tryd.isAgg253
 z232 := Tryd.sizeOf253
 v232 := Tryd.zeroValue253
 t233 := Tryd.underlying254
 a233 := Tryd.isAgg254
 z233 := Tryd.sizeOf254
 v233 := Tryd.zeroValue254
 g17 := by kernel_rfl
 g18 := by kernel_rfl
 g19 := by kernel_rfl
 i0 := by kernel_rfl
 i2 := by kernel_rfl
 i3 := by kernel_rfl
 i4 := by kernel_rfl
 i5 := by kernel_rfl
 i9 := by kernel_rfl
 i20 := by kernel_rfl
 i37 := by kernel_rfl
 i46 := by kernel_rfl
 i51 := by kernel_rfl
 i53 := by kernel_rfl
 i171 := by kernel_rfl
 i173 := by kernel_rfl
 i212 := by kernel_rfl
 i232 := by kernel_rfl
 i233 := by kernel_rfl
 m17 := by kernel_rfl
 m18 := by kernel_rfl
 m19 := by kernel_rfl }
open Go.RowKit Go.Sort Go.Lib in
theorem Tryd.strconv_Itoa (n : Int) (h0 : -9223372036854775808 ≤ n) (h1 : n ≤ 9223372036854775807) (w : World) (htab : Lib.TabIs Tryd.prog w "internal/strconv.uint64pow10" .u64 Lib.pow10Tab) :
  Calls Tryd.prog 74 #[.int .i64 n] w fun e w' => e = .returned (.string ⟨(Lib.itoa n).toArray⟩) ∧ ∃ k os, w' = grow (w.drewN k) os := Any.strconv_Itoa Tryd.laysM171 n h0 h1 w htab
def Tryd.lays190_ren : Go.Shelf.Ren := ⟨fun | 190 => 159 | 125 => 180 | 258 => 179 | 128 => 198 | 129 => 171 | 302 => 189 | 303 => 190 | 304 => 191 | 305 => 192 | 306 => 193 | 307 => 194 | 308 => 195 | 309 => 196 | 310 => 197 | 333 => 207 | 329 => 208 | 330 => 209 | 334 => 210 | 335 => 211 | 336 => 212 | 344 => 218 | n => n, fun | 31 => 84 | 9 => 9 | 3 => 3 | 46 => 127 | 0 => 0 | 51 => 142 | 53 => 111 | 4 => 4 | 183 => 239 | 182 => 238 | 131 => 243 | 5 => 5 | 218 => 259 | 222 => 263 | 228 => 271 | 229 => 272 | n => n, fun | n => n⟩
theorem Tryd.lays190 : Go.Proofs.Lays.n190 Tryd.prog Tryd.lays190_ren := {
 mixed := by kernel_rfl
 f125 := Tryd.func180.trans (congrArg some (by kernel_rfl))
 f128 := Tryd.func198.trans (congrArg some (by kernel_rfl))
 f129 := Tryd.func171.trans (congrArg some (by kernel_rfl))
 f190 := Tryd.func159.trans (congrArg some (by kernel_rfl))
 f258 := Tryd.func179.trans (congrArg some (by kernel_rfl))
 f302 := Tryd.func189.trans (congrArg some (by kernel_rfl))
 f303 := Tryd.func190.trans (congrArg some (by kernel_rfl))
 f304 := Tryd.func191.trans (congrArg some (by kernel_rfl))
 f305 := Tryd.func192.trans (congrArg some (by kernel_rfl))
 f306 := Tryd.func193.trans (congrArg some (by kernel_rfl))
 f307 := Tryd.func194.trans (congrArg some (by kernel_rfl))
 f308 := Tryd.func195.trans (congrArg some (by kernel_rfl))
 f309 := Tryd.func196.trans (congrArg some (by kernel_rfl))
 f310 := Tryd.func197.trans (congrArg some (by kernel_rfl))
 f329 := Tryd.func208.trans (congrArg some (by kernel_rfl))
 f330 := Tryd.func209.trans (congrArg some (by kernel_rfl))
 f333 := Tryd.func207.trans (congrArg some (by kernel_rfl))
 f334 := Tryd.func210.trans (congrArg some (by kernel_rfl))
 f335 := Tryd.func211.trans (congrArg some (by kernel_rfl))
 f336 := Tryd.func212.trans (congrArg some (by kernel_rfl))
 f344 := Tryd.func218.trans (congrArg some (by kernel_rfl))
 t0 := Tryd.underlying0
 a0 := Tryd.isAgg0
 z0 := Tryd.sizeOf0
 v0 := Tryd.zeroValue0
 t3 := Tryd.underlying3
 a3 := Tryd.isAgg3
 z3 := Tryd.sizeOf3
 v3 := Tryd.zeroValue3
 t4 := Tryd.underlying4
 a4 := Tryd.isAgg4
 z4 := Tryd.sizeOf4
 v4 := Tryd.zeroValue4
 t5 := Tryd.underlying5
 a5 := Tryd.isAgg5
 z5 := Tryd.sizeOf5
 v5 := Tryd.zeroValue5
 t9 := Tryd.underlying9
 a9 := Tryd.isAgg9
 z9 := Tryd.sizeOf9
 v9 := Tryd.zeroValue9
 t31 := Tryd.underlying84
 a31 := Tryd.isAgg84
 z31 := Tryd.sizeOf84
 v31 := Tryd.zeroValue84
 t46 := Tryd.underlying127
 a46 := Tryd.isAgg127
 z46 := Tryd.sizeOf127
 v46 := Tryd.zeroValue127
 t51 := Tryd.underlying142
 a51 := Tryd.isAgg142
 z51 := Tryd.sizeOf142
 v51 := Tryd.zeroValue142
 t53 := Tryd.underlying111
 a53 := Tryd.isAgg111
 z53 := Tryd.sizeOf111
 v53 := Tryd.zeroValue111
 t131 := Tryd.underlying243
 a131 := Tryd.isAgg243
 z131 := Tryd.sizeOf243
 v131 := Tryd.zeroValue243
 t182 := Tryd.underlying238
 a182 := Tryd.isAgg238
 z182 := Tryd.sizeOf238
 v182 := Tryd.zeroValue238
 t183 := Tryd.underlying239
 a183 := Tryd.isAgg239
 z183 := Tryd.sizeOf239
 v183 := Tryd.zeroValue239
 t218 := Tryd.underlying259
 a218 := Tryd.isAgg259
 z218 := Tryd.sizeOf259
 v218 := Tryd.zeroValue259
 t222 := Tryd.underlying263
 a222 := Tryd.isAgg263
 z222 := Tryd.sizeOf263
 v222 := Tryd.zeroValue263
 t228 := Tryd.underlying271
 a228 := Tryd.isAgg271
 z228 := Tryd.sizeOf271
 v228 := Tryd.zeroValue271
 t229 := Tryd.underlying272
 a229 := Tryd.isAgg272
 z229 := Tryd.sizeOf272
 v229 := Tryd.zeroValue272 }
open Go.Sort Go.RowKit in
theorem Tryd.slices_Sort_string (blk off cap : Nat) (ss : List (List UInt8)) (w : World) (hH : Holds encStr w blk off ss.toArray) (hblk : blk < w.heap.size) (hsz : ss.length < 4611686018427387904) :
  Calls Tryd.prog 159 #[.slice (some ⟨blk, off, none⟩) ss.length cap] w fun e w' =>
   e = .returned (.tuple #[]) ∧ ∃ n os, w' = grow (putRow encStr (Sort.ahead w n) blk off (ss.mergeSort fun x y => decide (x ≤ y)).toArray) os := Any.slices_Sort_string Tryd.lays190 blk off cap ss w hH hblk hsz
def Tryd.lays110_ren : Go.Shelf.Ren := ⟨fun | 110 => 80 | 109 => 106 | n => n, fun | 31 => 84 | 9 => 9 | 4 => 4 | 3 => 3 | 0 => 0 | n => n, fun | n => n⟩
theorem Tryd.lays110 : Go.Proofs.Lays.n110 Tryd.prog Tryd.lays110_ren := {
 mixed := by kernel_rfl
 f109 := Tryd.func106.trans (congrArg some (by kernel_rfl))
 f110 := Tryd.func80.trans (congrArg some (by kernel_rfl))
 t0 := Tryd.underlying0
 a0 := Tryd.isAgg0
 z0 := Tryd.sizeOf0
 v0 := Tryd.zeroValue0
 t3 := Tryd.underlying3
 a3 := Tryd.isAgg3
 z3 := Tryd.sizeOf3
 v3 := Tryd.zeroValue3
 t4 := Tryd.underlying4
 a4 := Tryd.isAgg4
 z4 := Tryd.sizeOf4
 v4 := Tryd.zeroValue4
 t9 := Tryd.underlying9
 a9 := Tryd.isAgg9
 z9 := Tryd.sizeOf9
 v9 := Tryd.zeroValue9
 t31 := Tryd.underlying84
 a31 := Tryd.isAgg84
 z31 := Tryd.sizeOf84
 v31 := Tryd.zeroValue84 }
open Go.Lib in
theorem Tryd.slices_Contains_string (b off n c : Nat) (zs : List ByteArray) (x : ByteArray) (w : World) (hz : n ≤ zs.length) (hbig : n ≤ 9223372036854775807) (hc : ∀ j, j < zs.length → w.cell? ⟨b, off + j, none⟩ = some (.string (zs.getD j ByteArray.empty))) :
  Calls Tryd.prog 80 #[.slice (some ⟨b, off, none⟩) n c, .string x] w fun e w' => e = .returned (.bool (Lib.containsS (zs.take n) x)) ∧ w' = w := Any.slices_Contains_string Tryd.lays110 b off n c zs x w hz hbig hc
open Go.Lib in
theorem Tryd.slices_Contains_string_empty (a : Option Addr) (c : Nat) (x : ByteArray) (w : World) :
  Calls Tryd.prog 80 #[.slice a 0 c, .string x] w fun e w' => e = .returned (.bool false) ∧ w' = w := Any.slices_Contains_string_empty Tryd.lays110 a c x w
def Tryd.laysSlM6_f159_ren : Go.Shelf.Ren := ⟨fun | 6 => 159 | 8 => 180 | 9 => 179 | 19 => 198 | 20 => 171 | 21 => 189 | 22 => 190 | 23 => 191 | 24 => 192 | 25 => 193 | 26 => 194 | 27 => 195 | 28 => 196 | 29 => 197 | 36 => 207 | 31 => 208 | 32 => 209 | 37 => 210 | 38 => 211 | 39 => 212 | 41 => 218 | n => n, fun | 27 => 84 | 29 => 9 | 3 => 3 | 32 => 127 | 26 => 84 | 0 => 0 | 44 => 142 | 46 => 111 | 4 => 4 | 36 => 239 | 35 => 238 | 41 => 243 | 5 => 5 | 9 => 9 | 53 => 259 | 57 => 263 | 63 => 271 | 64 => 272 | n => n, fun | n => n⟩
theorem Tryd.laysSlM6_f159 : Go.Proofs.SlLaysM.n6 Tryd.prog Tryd.laysSlM6_f159_ren := {
 mixed := by kernel_rfl
 f6 := ⟨Tryd.f159.name, by decide, Tryd.func159.trans (congrArg some (by kernel_rfl))⟩
 f8 := Tryd.func180.trans (congrArg some (by kernel_rfl))
 f9 := ⟨Tryd.f179.name, by decide, Tryd.func179.trans (congrArg some (by kernel_rfl))⟩
 f19 := Tryd.func198.trans (congrArg some (by kernel_rfl))
 f20 := Tryd.func171.trans (congrArg some (by kernel_rfl))
 f21 := ⟨Tryd.f189.name, by decide, Tryd.func189.trans (congrArg some (by kernel_rfl))⟩
 f22 := ⟨Tryd.f190.name, by decide, Tryd.func190.trans (congrArg some (by kernel_rfl))⟩
 f23 := ⟨Tryd.f191.name, by decide, Tryd.func191.trans (congrArg some (by kernel_rfl))⟩
 f24 := ⟨Tryd.f192.name, by decide, Tryd.func192.trans (congrArg some (by kernel_rfl))⟩
 f25 := ⟨Tryd.f193.name, by decide, Tryd.func193.trans (congrArg some (by kernel_rfl))⟩
 f26 := ⟨Tryd.f194.name, by decide, Tryd.func194.trans (congrArg some (by kernel_rfl))⟩
 f27 := ⟨Tryd.f195.name, by decide, Tryd.func195.trans (congrArg some (by kernel_rfl))⟩
 f28 := ⟨Tryd.f196.name, by decide, Tryd.func196.trans (congrArg some (by kernel_rfl))⟩
 f29 := ⟨Tryd.f197.name, by decide, Tryd.func197.trans (congrArg some (by kernel_rfl))⟩
 f31 := Tryd.func208.trans (congrArg some (by kernel_rfl))
 f32 := Tryd.func209.trans (congrArg some (by kernel_rfl))
 f36 := ⟨Tryd.f207.name, by decide, Tryd.func207.trans (congrArg some (by kernel_rfl))⟩
 f37 := ⟨Tryd.f210.name, by decide, Tryd.func210.trans (congrArg some (by kernel_rfl))⟩
 f38 := ⟨Tryd.f211.name, by decide, Tryd.func211.trans (congrArg some (by kernel_rfl))⟩
 f39 := ⟨Tryd.f212.name, by decide, Tryd.func212.trans (congrArg some (by kernel_rfl))⟩
 f41 := ⟨Tryd.f218.name, by decide, Tryd.func218.trans (congrArg some (by kernel_rfl))⟩
 t0 := Tryd.underlying0
 a0 := Tryd.isAgg0
 z0 := Tryd.sizeOf0
 v0 := Tryd.zeroValue0
 t3 := Tryd.underlying3
 a3 := Tryd.isAgg3
 z3 := Tryd.sizeOf3
 v3 := Tryd.zeroValue3
 t4 := Tryd.underlying4
 a4 := Tryd.isAgg4
 z4 := Tryd.sizeOf4
 v4 := Tryd.zeroValue4
 t5 := Tryd.underlying5
 a5 := Tryd.isAgg5
 z5 := Tryd.sizeOf5
 v5 := Tryd.zeroValue5
 t9 := Tryd.underlying9
 a9 := Tryd.isAgg9
 z9 := Tryd.sizeOf9
 v9 := Tryd.zeroValue9
 t26 := Tryd.underlying84
 a26 := Tryd.isAgg84
 z26 := Tryd.sizeOf84
 v26 := Tryd.zeroValue84
 t27 := Tryd.underlying84
 a27 := Tryd.isAgg84
 z27 := Tryd.sizeOf84
 v27 := Tryd.zeroValue84
 t29 := Tryd.underlying9
 a29 := Tryd.isAgg9
 z29 := Tryd.sizeOf9
 v29 := Tryd.zeroValue9
 t32 := Tryd.underlying127
 a32 := Tryd.isAgg127
 z32 := Tryd.sizeOf127
 v32 := Tryd.zeroValue127
 t35 := Tryd.underlying238
 a35 := Tryd.isAgg238
 z35 := Tryd.sizeOf238
 v35 := Tryd.zeroValue238
 t36 := Tryd.underlying239
 a36 := Tryd.isAgg239
 z36 := Tryd.sizeOf239
 v36 := Tryd.zeroValue239
 t41 := Tryd.underlying243
 a41 := Tryd.isAgg243
 z41 := Tryd.sizeOf243
 v41 := Tryd.zeroValue243
 t44 := Tryd.underlying142
 a44 := Tryd.isAgg142
 z44 := Tryd.sizeOf142
 v44 := Tryd.zeroValue142
 t46 := Tryd.underlying111
 a46 := Tryd.isAgg111
 z46 := Tryd.sizeOf111
 v46 := Tryd.zeroValue111
 t53 := Tryd.underlying259
 a53 := Tryd.isAgg259
 z53 := Tryd.sizeOf259
 v53 := Tryd.zeroValue259
 t57 := Tryd.underlying263
 a57 := Tryd.isAgg263
 z57 := Tryd.sizeOf263
 v57 := Tryd.zeroValue263
 t63 := Tryd.underlying271
 a63 := Tryd.isAgg271
 z63 := Tryd.sizeOf271
 v63 := Tryd.zeroValue271
 t64 := Tryd.underlying272
 a64 := Tryd.isAgg272
 z64 := Tryd.sizeOf272
 v64 := Tryd.zeroValue272 }
open Go.RowKit Go.Sort in
theorem Tryd.slices_Sort_string_none (p : Option Addr) (cap : Nat) (w : World) :
  Calls Tryd.prog 159 #[.slice p 0 cap] w fun e w' => e = .returned (.tuple #[]) ∧ w' = w := AnyM.slices_Sort_string_none Tryd.laysSlM6_f159 p cap w
open Go.RowKit in
theorem Tryd.strings_Trim_laid (s cutset : ByteArray) (w : World) (hs : s.size ≤ 9223372036854775807) (hcs : cutset.size < 4294967281) (hascii : ∀ (j : Nat) b, cutset.data.toList[j]? = some b → b.toNat < 128) :
  Calls Tryd.prog 125 #[.string s, .string cutset] w fun e w' => e = .returned (.string ⟨(Lib.trimS s.data.toList cutset.data.toList).toArray⟩) ∧ Below w.heap.size w w' := Any.strings_Trim_laid Tryd.lays160 (by kernel_rfl) s cutset w hs hcs hascii
end Go.Proofs
namespace Go.Proofs.YtifmkgkiipckbaaDoor.P
open Go.RowKit
theorem var_kept {P : Program} {w w' : World} (h : Below w.heap.size w w') {n : String} {cs : Array Value} (hv : w.var? P n = some cs) : w'.var? P n = some cs := by
 unfold World.var? at hv ⊢
 cases hg : P.globalNamed n with
 | none => simp [hg] at hv
 | some g =>
  simp only [hg, Option.bind_some] at hv ⊢
  have hlt : g < w.heap.size := by
   rcases Nat.lt_or_ge g w.heap.size with h' | h'
   ·exact h'
   ·simp [Array.getElem?_eq_none h'] at hv
  rw [h.block g hlt]
  exact hv
def LPow (w : World) : Prop := Lib.TabIs Tryd.prog w "internal/strconv.uint64pow10" .u64 Lib.pow10Tab
theorem LPow.below {w w' : World} (h : LPow w) (hb : Below w.heap.size w w') : LPow w' := var_kept hb h
theorem LPow.drew {w : World} (h : LPow w) : LPow w.drew := h
theorem LPow.drewN {w : World} (h : LPow w) (n : Nat) : LPow (w.drewN n) := LPow.below h (by
 induction n with
 | zero => exact Below.refl _ _
 | succ n ih => rw [← World.drew_drewN]; exact ih.drew)
end Go.Proofs.YtifmkgkiipckbaaDoor.P
namespace Go.Proofs.YtifmkgkiipckbaaDoor.P
open Go.RowKit Go.Proofs.YtifmkgkiipckbaaDoorW.PrintWords Go.Proofs.YtifmkgkiipckbaaDoorW.PrintLast
set_option linter.unusedVariables false
set_option linter.unusedSimpArgs false
theorem addr_at (b o j : Nat) : (⟨b, o, none⟩ : Addr).add j = ⟨b, o + j, none⟩ := by unfold Addr.add; split <;> simp_all
theorem strs_cells {w : World} {A : Option Addr} {n : Nat} {l : List ByteArray} (h : Kd.C Kd.string w A n l) (h0 : 0 < n) :
  ∃ b o, A = some ⟨b, o, none⟩ ∧ b < w.heap.size ∧ ∀ (j : Nat) x, l[j]? = some x → w.cell? ⟨b, o + j, none⟩ = some (.string x) := by
 obtain ⟨hl, _, hr⟩ := h
 obtain ⟨ad, rfl, hc⟩ := hr h0
 have key : ∀ (j : Nat) x, l[j]? = some x → w.cell? (ad.add j) = some (.string x) := by
  intro j x hj
  obtain ⟨c, hs, hk, hcell⟩ := hc j x hj
  have hk' : c = [.string x] := hk
  subst hk'
  have := hcell 0 (.string x) rfl
  simpa [show (Kd.string).sz = 1 from rfl] using this
 obtain ⟨b, o, sp⟩ := ad
 have e0 := key 0 l[0] (List.getElem?_eq_getElem (by omega))
 have ha : (⟨b, o, sp⟩ : Addr).add 0 = ⟨b, o, sp⟩ := by simp [Addr.add]
 rw [ha] at e0
 have hsp : sp = none := by
  unfold World.cell? at e0
  split at e0
  ·cases sp with
   | none => rfl
   | some _ => simp at e0
  ·cases e0
 subst hsp
 refine ⟨b, o, rfl, World.block_lt_of_cell? w _ e0, fun j x hj => ?_⟩
 rw [← addr_at]
 exact key j x hj
def strings_IndexByte.f (a0 : ByteArray) (a1 : Int) : Option Int := some (Lib.indexByte a0.data.toList a1.toNat.toUInt8)
theorem strings_IndexByte.calls (a0 : ByteArray) (a1 : Int) (r : Int) (w : World) (h : strings_IndexByte.f a0 a1 = some r) :
  Calls Tryd.prog 89 #[.string a0, .int .u8 a1] w fun e w' => e = .returned (.int .i64 r) ∧ Drawn0 w w' := by
 injection h with h
 subst h
 exact (Tryd.strings_IndexByte a0 a1 w).mono fun e w' ⟨he, hw⟩ => ⟨he, hw ▸ Drawn0.refl _⟩
def strings_Join.f (l0 : List ByteArray) (a1 : ByteArray) : Option ByteArray :=
 if l0.length ≤ 140737488355328 then if (Lib.join (l0.map (·.data.toList)) a1.data.toList).length ≤ 140737488355328 then some ⟨(Lib.join (l0.map (·.data.toList)) a1.data.toList).toArray⟩ else none else none
theorem strings_Join.calls (A0 : Option Addr) (c0 : Nat) (l0 : List ByteArray) (a1 : ByteArray) (r : ByteArray) (w : World) (hr0 : Kd.C Kd.string w A0 l0.length l0) (hc0 : l0.length ≤ c0) (h : strings_Join.f l0 a1 = some r) :
  Calls Tryd.prog 87 #[.slice A0 l0.length c0, .string a1] w fun e w' => e = .returned (.string r) ∧ Below w.heap.size w w' := by
 unfold strings_Join.f at h
 split at h
 ·rename_i h1
  split at h
  ·rename_i h2
   injection h with h
   subst h
   rcases Nat.eq_zero_or_pos l0.length with h0 | h0
   ·have : l0 = [] := List.eq_nil_of_length_eq_zero h0
    subst this
    refine (Tryd.strings_Join_none A0 c0 a1 w).mono fun e w' ⟨he, hw⟩ => ⟨?_, hw ▸ Below.refl _ _⟩
    rw [he]
    rfl
   ·obtain ⟨b, o, rfl, hb, hcells⟩ := strs_cells hr0 h0
    exact Tryd.strings_Join b o c0 l0 a1 w hcells hb h1 hc0 h2
  ·simp at h
 ·simp at h
def strconv_Itoa.f (a0 : Int) : Option ByteArray := if -9223372036854775808 ≤ a0 then if a0 ≤ 9223372036854775807 then some ⟨(Lib.itoa a0).toArray⟩ else none else none
theorem below_grow_drewN (w : World) (k : Nat) (os : Array Obj) : Below w.heap.size w (Go.Sort.grow (w.drewN k) os) := by
 have h1 : Below w.heap.size w (w.drewN k) := pw_below_drewN (Below.refl _ _) k
 refine h1.trans ⟨rfl, rfl, rfl, ?_, ?_⟩
 ·show _ ≤ ((w.drewN k).heap ++ os).size
  rw [Array.size_append]; omega
 ·intro i hi
  show ((w.drewN k).heap ++ os)[i]? = _
  have := h1.size
  rw [Array.getElem?_append_left (by omega)]
theorem strconv_Itoa.calls (a0 : Int) (r : ByteArray) (w : World) (hL : LPow w) (h : strconv_Itoa.f a0 = some r) :
  Calls Tryd.prog 74 #[.int .i64 a0] w fun e w' => e = .returned (.string r) ∧ Below w.heap.size w w' := by
 unfold strconv_Itoa.f at h
 split at h
 ·split at h
  ·injection h with h
   subst h
   refine (Tryd.strconv_Itoa a0 (by assumption) (by assumption) w hL).mono fun e w' ⟨he, k, os, hw⟩ => ⟨he, ?_⟩
   rw [hw]
   exact below_grow_drewN w k os
  ·simp at h
 ·simp at h
end Go.Proofs.YtifmkgkiipckbaaDoor.P
namespace Go.Proofs.YtifmkgkiipckbaaDoor.P
open Go.RowKit Go.Proofs.YtifmkgkiipckbaaDoorW.PrintWords Go.Proofs.YtifmkgkiipckbaaDoorW.PrintLast
set_option linter.unusedVariables false
set_option linter.unusedSimpArgs false
def asciiB (s : ByteArray) : Bool := s.data.toList.all fun b => decide (b.toNat < 128)
def strings_Trim.f (a0 a1 : ByteArray) : Option ByteArray :=
 if a0.size ≤ 140737488355327 then if a1.size ≤ 1000 then if asciiB a1 = true then some ⟨(Lib.trimS a0.data.toList a1.data.toList).toArray⟩ else none else none else none
theorem strings_Trim.calls (a0 a1 r : ByteArray) (w : World) (h : strings_Trim.f a0 a1 = some r) :
  Calls Tryd.prog 125 #[.string a0, .string a1] w fun e w' => e = .returned (.string r) ∧ Below w.heap.size w w' := by
 unfold strings_Trim.f at h
 split at h
 ·rename_i h1
  split at h
  ·rename_i h2
   split at h
   ·rename_i h3
    injection h with h
    subst h
    refine Tryd.strings_Trim_laid a0 a1 w (by omega) (by omega) (fun j b hj => ?_)
    exact of_decide_eq_true (List.all_eq_true.1 h3 b (List.mem_of_getElem? hj))
   ·simp at h
  ·simp at h
 ·simp at h
def slices_Clone.f (l0 : List Int) : Option (List Int) := if l0.length < 140737488355328 then some l0 else none
set_option maxHeartbeats 400000 in
theorem slices_Clone.calls (A0 : Option Addr) (c0 : Nat) (l0 : List Int) (r1 : List Int) (w : World) (hr0 : Kd.C (Kd.int .u8) w A0 l0.length l0) (hc0 : l0.length ≤ c0) (h : slices_Clone.f l0 = some r1) :
  Calls Tryd.prog 103 #[.slice A0 l0.length c0] w fun e w' => ∃ v0_ : Value, e = .returned v0_ ∧ Kd.R (Kd.int .u8) 5 w' w.heap.size (fun _ => True) v0_ r1 ∧ Below w.heap.size w w' := by
 unfold slices_Clone.f at h
 split at h
 ·rename_i hlt
  injection h with h
  subst h
  have HLT := Lib.hid hlt
  have HR := Lib.hid hr0
  clear hlt hr0
  cases A0 with
  | none =>
   have h0 : l0 = [] := by
    rcases Nat.eq_zero_or_pos l0.length with h0 | h0
    ·exact List.eq_nil_of_length_eq_zero h0
    ·obtain ⟨_, _, hx⟩ := HR.out
     obtain ⟨ad, he, _⟩ := hx h0
     cases he
   subst h0
   have hq := fun (W : World) => Lib.run_eql_slice_nil (P := Tryd.prog) W 34 5 none 0 c0 0 0 Tryd.underlying34
   clear HR HLT
   simp only [List.length_nil]
   go_enter Tryd.func103, Tryd.ntmps103
   go_wp2
   go_ret
   exact ⟨_, rfl, Kd.R_nil _ _ _ _ _, Below.refl _ _⟩
  | some ad =>
   have hq := fun (W : World) => Lib.run_eql_slice_nil (P := Tryd.prog) W 34 5 (some ad) l0.length c0 0 0 Tryd.underlying34
   go_enter Tryd.func103, Tryd.ntmps103
   go_wp2_with (first
    | ((with_reducible refine gate_dst (N := 5) rfl ?_); refine Kd.R_lit (Kd.int .u8) (w0 := w) w.heap.size 5 rfl (N := 5) rfl (xs := ([] : List Int)) (inner := []) (ok := fun _ => True) (okp := fun _ => True) ?hr (Reps.none _ _) (fun _ h => h) trivial ?hB ?hs (by simp) ?_; (case hr => first | (go_simp; done) | (go_simp; rfl)); (case hB => first | exact Below.refl _ _ | exact pw_below_drewN (Below.refl _ _) _); (case hs => simp); intro v1 w1 ho hb hg hnew; have HO := Lib.hid ho; have HB := Lib.hid hb; clear ho hb hg hnew)
    | ((with_reducible refine gate_dst (N := 7) rfl ?_); refine Kd.R_append_row (Value.int .u8) 0 (w0 := w) w.heap.size rfl (.tmp 5) (.tmp 6) 34 5 (.int .u8 0) 1 rfl Tryd.underlying34 info5 rfl (by decide) _ [] l0 _ _ _ (fun _ => True) rfl rfl (fun _ _ => trivial) HO.out (Kd.C_below HR.out HB.out) HB.out (below_size HB.out) ?hl ?_; (case hl => have := HLT.out; simp only [List.length_nil]; omega); intro v2 w2 ho hb hg hat; have HO2 := Lib.hid ho; have HB2 := Lib.hid hb; clear ho hb hg hat))
   go_ret
   exact ⟨_, rfl, HO2.out, HB2.out⟩
 ·simp at h
end Go.Proofs.YtifmkgkiipckbaaDoor.P
namespace Go.Proofs.YtifmkgkiipckbaaDoor.P
open Go.RowKit
set_option linter.unusedVariables false
set_option linter.unusedSimpArgs false
def BRow (w : World) (B : Nat) (xs : List UInt8) : Prop :=
 ∃ (cs : Array Value) (e : Nat) (lo hi : Nat), w.heap[B]? = some (.cells cs e (lo, hi)) ∧ xs.length ≤ cs.size ∧ (∀ j (h : j < xs.length), cs[j]? = some (.int .u8 (xs[j]'h).toNat)) ∧ (xs.length ≤ lo ∨ hi ≤ lo)
theorem BRow.cell {w : World} {B : Nat} {xs : List UInt8} (h : BRow w B xs) (j : Nat) (hj : j < xs.length) : w.cell? ⟨B, j, none⟩ = some (.int .u8 (xs[j]'hj).toNat) := by
 obtain ⟨cs, e, lo, hi, hb, h1, h2, h3⟩ := h
 simp [World.cell?, hb, h2 j hj]
theorem BRow.free {w : World} {B : Nat} {xs : List UInt8} (h : BRow w B xs) (j : Nat) (hj : j < xs.length) : w.frozen? ⟨B, j, none⟩ = false := by
 obtain ⟨cs, e, lo, hi, hb, h1, h2, h3⟩ := h
 simp [World.frozen?, hb]
 omega
theorem BRow.set {w : World} {B : Nat} {xs : List UInt8} (h : BRow w B xs) (j : Nat) (hj : j < xs.length) (c : UInt8) : BRow (w.setCell ⟨B, j, none⟩ (.int .u8 c.toNat)) B (xs.set j c) := by
 obtain ⟨cs, e, lo, hi, hb, h1, h2, h3⟩ := h
 refine ⟨cs.setIfInBounds j (.int .u8 c.toNat), e, lo, hi, ?_, by simpa using h1, ?_, by simpa using h3⟩
 ·simp [World.setCell, Array.getElem?_modify, hb]
 ·intro i hi'
  have hi2 : i < xs.length := by simpa using hi'
  by_cases hij : j = i
  ·subst hij
   simp [show j < cs.size by omega]
  ·have := h2 i hi2
   simpa [hij] using this
theorem BRow.lt {w : World} {B : Nat} {xs : List UInt8} (h : BRow w B xs) : B < w.heap.size := by
 obtain ⟨cs, e, lo, hi, hb, _⟩ := h
 exact (Array.getElem?_eq_some_iff.1 hb).1
theorem BRow.below {w w' : World} {B : Nat} {xs : List UInt8} (h : BRow w B xs) (hb : Below w.heap.size w w') : BRow w' B xs := by
 have hl := h.lt
 obtain ⟨cs, e, lo, hi, h0, h1⟩ := h
 exact ⟨cs, e, lo, hi, (hb.block B hl).trans h0, h1⟩
theorem BRow.bytesWorld (w : World) (e : TypeId) (s : ByteArray) : BRow (Lib.bytesWorld w e s) w.heap.size s.data.toList := by
 refine ⟨_, _, _, _, Lib.bytesWorld_at_new w e s, ?_, ?_, ?_⟩
 ·simp [Lib.bytesCells]
 ·intro j hj
  have hj' : j < s.data.size := by simpa using hj
  have hj2 : j < s.size := hj'
  simp [Lib.bytesCells, Array.getElem?_append, hj2, hj']
 ·simp [Lib.bytesCells]
theorem below_bytesWorld (w : World) (e : TypeId) (s : ByteArray) : Below w.heap.size w (Lib.bytesWorld w e s) := by
 refine ⟨?_, ?_, ?_, ?_, fun j hj => Lib.bytesWorld_at_old w e s j hj⟩
 ·simp [Lib.bytesWorld, World.freeze, World.alloc, World.drew, -World.alloc_eq, -World.drew_eq]
 ·simp [Lib.bytesWorld, World.freeze, World.alloc, World.drew, -World.alloc_eq, -World.drew_eq]
 ·simp [Lib.bytesWorld, World.freeze, World.alloc, World.drew, -World.alloc_eq, -World.drew_eq]
 ·rw [Lib.bytesWorld_size]; omega
theorem BRow.back {P : Program} {w : World} {B : Nat} {xs : List UInt8} (h : BRow w B xs) (n : Nat) (hn : xs.length = n) (src dst e : TypeId) (hs : P.underlying src = some (.slice e)) (he : P.underlying e = some (.int .u8)) (hd : P.underlying dst = some .string) (cap : Nat) :
  (convert src dst (.slice (some ⟨B, 0, none⟩) n cap)).run P w = .ok (.string ⟨xs.toArray⟩) w := by
 subst hn
 refine run_convert_bytes_back w src dst e ⟨B, 0, none⟩ cap xs hs he hd fun j hj => ?_
 rw [show (⟨B, 0, none⟩ : Addr).add j = ⟨B, j, none⟩ by unfold Addr.add; split <;> simp_all]
 exact h.cell j hj
def mapTo (f : UInt8 → UInt8) (k : Nat) (l : List UInt8) : List UInt8 := (l.take k).map f ++ l.drop k
theorem mapTo_len (f : UInt8 → UInt8) (k : Nat) (l : List UInt8) : (mapTo f k l).length = l.length := by
 simp [mapTo]; omega
theorem mapTo_at (f : UInt8 → UInt8) (k : Nat) (l : List UInt8) (hk : k < l.length) : (mapTo f k l)[k]'(by rw [mapTo_len]; exact hk) = l[k] := by
 simp [mapTo, Nat.min_eq_left (Nat.le_of_lt hk)]
theorem mapTo_set (f : UInt8 → UInt8) (k : Nat) (l : List UInt8) (hk : k < l.length) : (mapTo f k l).set k (f l[k]) = mapTo f (k + 1) l := by
 apply List.ext_getElem
 ·simp [mapTo_len]
 ·intro i h1 h2
  simp only [mapTo, List.getElem_set, List.getElem_append, List.length_map, List.length_take, List.getElem_map, List.getElem_take, List.getElem_drop]
  simp only [List.length_set, mapTo_len] at h1
  split
  ·subst_vars; simp; intro h; omega
  ·split <;> split <;> first | rfl | omega | (congr 1; omega)
theorem mapTo_same (f : UInt8 → UInt8) (k : Nat) (l : List UInt8) (hk : k < l.length) (h : f l[k] = l[k]) : mapTo f k l = mapTo f (k + 1) l := by
 rw [← mapTo_set f k l hk, h, ← mapTo_at f k l hk, List.set_getElem_self]
theorem mapTo_zero (f : UInt8 → UInt8) (l : List UInt8) : mapTo f 0 l = l := by simp [mapTo]
theorem mapTo_all (f : UInt8 → UInt8) (k : Nat) (l : List UInt8) (h : l.length ≤ k) : mapTo f k l = l.map f := by
 simp [mapTo, List.take_of_length_le h, List.drop_eq_nil_of_le h]
def lowB (c : UInt8) : UInt8 := if 65 ≤ c ∧ c ≤ 90 then c + 32 else c
def lowS (s : ByteArray) : ByteArray := ⟨s.data.map lowB⟩
theorem lowB_up {c : UInt8} (h1 : 65 ≤ c.toNat) (h2 : c.toNat ≤ 90) : (lowB c).toNat = c.toNat + 32 := by
 have a : 65 ≤ c := UInt8.le_iff_toNat_le.2 h1
 have b : c ≤ 90 := UInt8.le_iff_toNat_le.2 h2
 simp [lowB, a, b, UInt8.toNat_add]
 omega
theorem lowB_no {c : UInt8} (h : ¬ (65 ≤ c.toNat ∧ c.toNat ≤ 90)) : lowB c = c := by
 unfold lowB
 rw [if_neg]
 intro ⟨a, b⟩
 exact h ⟨UInt8.le_iff_toNat_le.1 a, UInt8.le_iff_toNat_le.1 b⟩
theorem lowS_eq (s : ByteArray) : (⟨(s.data.toList.map lowB).toArray⟩ : ByteArray) = lowS s := by
 unfold lowS
 congr 1
 apply Array.toList_inj.1
 simp
theorem lowS_size (s : ByteArray) : (lowS s).size = s.size := by
 show (s.data.map lowB).size = _
 simp
end Go.Proofs.YtifmkgkiipckbaaDoor.P
namespace Go.Proofs.YtifmkgkiipckbaaDoor.P
open Go.RowKit
set_option linter.unusedVariables false
set_option linter.unusedSimpArgs false
set_option maxHeartbeats 400000 in
theorem ref_lower (s : ByteArray) (w : World) (hs : s.size ≤ 140737488355327) :
    Calls Tryd.prog 95 #[.string s] w fun e w' => e = .returned (.string (lowS s)) ∧ Below w.heap.size w w' := by
  have hcv := fun (W : World) => Lib.run_convert_string_bytes (P := Tryd.prog) W 9 34 5 s Tryd.underlying9 Tryd.underlying34 Tryd.underlying5
  have hb0 := below_bytesWorld w 5 s
  have hr0 := BRow.bytesWorld w 5 s
  go_enter Tryd.func95, Tryd.ntmps95
  go_wp2
  generalize Lib.bytesWorld w 5 s = w1 at hb0 hr0
  clear hcv
  go_loopw [4] (fun i wr => ∃ k : Nat, k ≤ s.size ∧ i = .int .i64 k ∧ BRow wr w.heap.size (mapTo lowB k s.data.toList) ∧ Below w.heap.size w wr) (fun i _ => s.size - (intOf i).toNat)
  case atStart => exact ⟨0, Nat.zero_le _, rfl, by rw [mapTo_zero]; exact hr0, hb0⟩
  case round =>
    clear hb0 hr0
    obtain ⟨k, hk, rfl, hr, hb⟩ := hrel
    by_cases hlt : k < s.size
    · have hkl : k < s.data.toList.length := by simpa using hlt
      have hc := hr.cell k (by rw [mapTo_len]; exact hkl)
      have hf := hr.free k (by rw [mapTo_len]; exact hkl)
      rw [mapTo_at lowB k _ hkl] at hc
      have HS := hr.set k (by rw [mapTo_len]; exact hkl) (lowB s.data.toList[k])
      rw [mapTo_set lowB k _ hkl] at HS
      have HN : lowB s.data.toList[k] = s.data.toList[k] → BRow wr w.heap.size (mapTo lowB (k + 1) s.data.toList) := fun h => mapTo_same lowB k _ hkl h ▸ hr
      have HB := hb.setCell (p := ⟨w.heap.size, k, none⟩) (Nat.le_refl _) (.int .u8 ((lowB s.data.toList[k]).toNat : Int))
      generalize s.data.toList[k] = c at hc HS HN HB
      have H1 := Lib.hid HS
      have H2 := Lib.hid HB
      have H3 := Lib.hid HN
      have H4 := Lib.hid hb
      clear HS HB HN hb hr
      by_cases c1 : 65 ≤ c.toNat ∧ c.toNat ≤ 90
      · have h1 : (65 : Int) ≤ c.toNat := by omega
        have h2 : (c.toNat : Int) ≤ 90 := by omega
        have HL := Lib.hid (show ((lowB c).toNat : Int) = (c.toNat : Int) + 32 by rw [lowB_up c1.1 c1.2]; omega)
        clear c1
        go_wp2
        go_roundw
        case rel => exact ⟨k + 1, by omega, by go_num, HL.out ▸ H1.out, HL.out ▸ H2.out⟩
        case measure => simp [intOf]; omega
      · have HL := Lib.hid (lowB_no c1)
        have c2 : (65 : Int) ≤ c.toNat → (90 : Int) < c.toNat := by omega
        clear c1
        go_wp2
        all_goals first
          | (exfalso; omega)
          | (go_roundw
             case rel => exact ⟨k + 1, by omega, by go_num, H3.out HL.out, H4.out⟩
             case measure => simp [intOf]; omega)
    · have hk2 : s.size = k := by omega
      have HK := Lib.hid hk2
      clear hk2
      rw [mapTo_all lowB k _ (by simp; omega)] at hr
      have hcb := fun (cap : Nat) => hr.back (P := Tryd.prog) s.size (by simp) 34 9 5 Tryd.underlying34 Tryd.underlying5 Tryd.underlying9 cap
      clear hr
      go_wp2
      go_ret
      exact ⟨congrArg (fun x => Ending.returned (.string x)) (lowS_eq s), hb⟩
def ostiaryref1_Lower.f (a0 : ByteArray) : Option ByteArray := if a0.size ≤ 140737488355327 then some (lowS a0) else none
theorem ostiaryref1_Lower.calls (a0 : ByteArray) (r : ByteArray) (w : World) (h : ostiaryref1_Lower.f a0 = some r) :
    Calls Tryd.prog 95 #[.string a0] w fun e w' => e = .returned (.string r) ∧ Below w.heap.size w w' := by
  unfold ostiaryref1_Lower.f at h
  split at h
  · injection h with h
    subst h
    exact ref_lower a0 w ‹_›
  · simp at h
set_option maxHeartbeats 400000 in
theorem lower_lit (c : UInt8) (W : World) : Calls Tryd.prog 91 #[.int .u8 c.toNat] W fun e w' => e = .returned (.int .u8 (lowB c).toNat) ∧ w' = W := by
  by_cases c1 : 65 ≤ c.toNat ∧ c.toNat ≤ 90
  · have h1 : (65 : Int) ≤ c.toNat := by omega
    have h2 : (c.toNat : Int) ≤ 90 := by omega
    have HL := Lib.hid (show ((lowB c).toNat : Int) = (c.toNat : Int) + 32 by rw [lowB_up c1.1 c1.2]; omega)
    clear c1
    go_enter Tryd.func91, Tryd.ntmps91
    go_wp2
    go_ret
    exact ⟨by rw [HL.out]; rfl, rfl⟩
  · have HL := Lib.hid (lowB_no c1)
    have c2 : (65 : Int) ≤ c.toNat → (90 : Int) < c.toNat := by omega
    clear c1
    go_enter Tryd.func91, Tryd.ntmps91
    go_wp2
    all_goals first
      | (exfalso; omega)
      | (go_ret; exact ⟨by rw [HL.out]; rfl, rfl⟩)
set_option maxHeartbeats 400000 in
theorem mapped_lower (s : ByteArray) (w : World) (hs : s.size ≤ 140737488355327) :
    Calls Tryd.prog 90 #[.string s, .func (.func 91) #[] #[]] w fun e w' => e = .returned (.string (lowS s)) ∧ Below w.heap.size w w' := by
  have hcv := fun (W : World) => Lib.run_convert_string_bytes (P := Tryd.prog) W 9 34 5 s Tryd.underlying9 Tryd.underlying34 Tryd.underlying5
  have hb0 := below_bytesWorld w 5 s
  have hr0 := BRow.bytesWorld w 5 s
  have eg : ∀ args w, (callFunc 91 args).run Tryd.prog w = .ok (.enter 91 args) w := enters_of Tryd.func91 q20_ rfl
  go_enter Tryd.func90, Tryd.ntmps90
  go_wp2
  generalize Lib.bytesWorld w 5 s = w1 at hb0 hr0
  clear hcv
  go_loopw [12, 6, 7] (fun i _ _ wr => ∃ k : Nat, k ≤ s.size ∧ i = .int .i64 k ∧ BRow wr w.heap.size (mapTo lowB k s.data.toList) ∧ Below w.heap.size w wr) (fun i _ _ _ => s.size - (intOf i).toNat)
  case atStart => exact ⟨0, Nat.zero_le _, rfl, by rw [mapTo_zero]; exact hr0, hb0⟩
  case round =>
    clear hb0 hr0
    obtain ⟨k, hk, rfl, hr, hb⟩ := hrel
    by_cases hlt : k < s.size
    · have hkl : k < s.data.toList.length := by simpa using hlt
      have hc := hr.cell k (by rw [mapTo_len]; exact hkl)
      have hf := hr.free k (by rw [mapTo_len]; exact hkl)
      rw [mapTo_at lowB k _ hkl] at hc
      have HS := hr.set k (by rw [mapTo_len]; exact hkl) (lowB s.data.toList[k])
      rw [mapTo_set lowB k _ hkl] at HS
      have HB := hb.setCell (p := ⟨w.heap.size, k, none⟩) (Nat.le_refl _) (.int .u8 ((lowB s.data.toList[k]).toNat : Int))
      generalize s.data.toList[k] = c at hc HS HB
      have H1 := Lib.hid HS
      have H2 := Lib.hid HB
      clear HS HB hb hr
      go_wp2_with (go_at_call 91; refine (lower_lit c _).mono ?_; rintro e w' ⟨rfl, rfl⟩)
      go_roundw
      case rel => exact ⟨k + 1, by omega, by go_num, H1.out, H2.out⟩
      case measure => simp [intOf]; omega
    · have hk2 : s.size = k := by omega
      have HK := Lib.hid hk2
      clear hk2
      rw [mapTo_all lowB k _ (by simp; omega)] at hr
      have hcb := fun (cap : Nat) => hr.back (P := Tryd.prog) s.size (by simp) 34 9 5 Tryd.underlying34 Tryd.underlying5 Tryd.underlying9 cap
      clear hr
      go_wp2
      go_ret
      exact ⟨congrArg (fun x => Ending.returned (.string x)) (lowS_eq s), hb⟩
def infra_Lower.f (a0 : ByteArray) : Option ByteArray := if a0.size ≤ 140737488355327 then some (lowS a0) else none
set_option maxHeartbeats 400000 in
theorem infra_Lower.calls (a0 : ByteArray) (r : ByteArray) (w : World) (h : infra_Lower.f a0 = some r) :
    Calls Tryd.prog 53 #[.string a0] w fun e w' => e = .returned (.string r) ∧ Below w.heap.size w w' := by
  unfold infra_Lower.f at h
  split at h
  · rename_i hs
    injection h with h
    subst h
    go_enter Tryd.func53, Tryd.ntmps53
    go_wp2_with (go_at_call 90; refine (mapped_lower a0 _ hs).mono ?_; rintro e w' ⟨rfl, hb⟩)
    go_ret
    exact ⟨rfl, hb⟩
  · simp at h
end Go.Proofs.YtifmkgkiipckbaaDoor.P
