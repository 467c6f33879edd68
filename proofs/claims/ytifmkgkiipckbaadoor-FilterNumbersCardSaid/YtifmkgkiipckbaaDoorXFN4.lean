/- A part of the proof of FN: texts of walks and plain lemmas. -/
import Derived.Shelf.SlIter.Nil
import Derived.Shelf.SortM.Plain
import Derived.Shelf.SortM.SortNone
import Derived.Ground.GgzProg
import Derived.Ground.SlgmProg
import Derived.Test.YtifmkgkiipckbaaDoorProg
import Derived.Test.YtifmkgkiipckbaaDoorXFN1
namespace Go.Proofs
open Go.Shelf
def Tryd.keys127_ren : Go.Shelf.Ren := ⟨fun | 7 => 127 | 10 => 160 | n => n, fun | 23 => 158 | 26 => 9 | 3 => 3 | 28 => 189 | 0 => 0 | 27 => 188 | 33 => 55 | 4 => 4 | n => n, fun | n => n⟩
theorem Tryd.keys127 : Go.Proofs.SlLaysZ.n7 Tryd.prog Tryd.keys127_ren := {
  mixed := by kernel_rfl
  f7 := ⟨Tryd.f127.name, by decide, Tryd.func127.trans (congrArg some (by kernel_rfl))⟩
  f10 := ⟨Tryd.f160.name, by decide, Tryd.func160.trans (congrArg some (by kernel_rfl))⟩
  t0 := Tryd.underlying0
  a0 := Tryd.isAgg0
  z0 := Tryd.sizeOf0
  v0 := Tryd.zeroValue0
  t4 := Tryd.underlying4
  a4 := Tryd.isAgg4
  z4 := Tryd.sizeOf4
  v4 := Tryd.zeroValue4
  t23 := Tryd.underlying158
  a23 := Tryd.isAgg158
  z23 := Tryd.sizeOf158
  v23 := Tryd.zeroValue158
  t26 := Tryd.underlying9
  a26 := Tryd.isAgg9
  z26 := Tryd.sizeOf9
  v26 := Tryd.zeroValue9
  t27 := Tryd.underlying188
  a27 := Tryd.isAgg188
  z27 := Tryd.sizeOf188
  v27 := Tryd.zeroValue188
  t28 := Tryd.underlying189
  a28 := Tryd.isAgg189
  z28 := Tryd.sizeOf189
  v28 := Tryd.zeroValue189
  t33 := Tryd.underlying55
  a33 := Tryd.isAgg55
  z33 := Tryd.sizeOf55
  v33 := Tryd.zeroValue55 }
def Tryd.sorted126_ren : Go.Shelf.Ren := ⟨fun | 6 => 126 | 8 => 158 | 9 => 159 | 11 => 178 | 13 => 180 | 12 => 179 | 23 => 198 | 24 => 171 | 14 => 189 | 15 => 190 | 16 => 191 | 17 => 192 | 18 => 193 | 19 => 194 | 20 => 195 | 21 => 196 | 22 => 197 | 25 => 207 | 26 => 208 | 27 => 209 | 28 => 210 | 29 => 211 | 30 => 212 | 31 => 218 | n => n, fun | 26 => 9 | 28 => 189 | 24 => 84 | 0 => 0 | 3 => 3 | 37 => 127 | 48 => 142 | 50 => 111 | 4 => 4 | 40 => 239 | 39 => 238 | 45 => 243 | 5 => 5 | 9 => 9 | 51 => 259 | 55 => 263 | 57 => 271 | 58 => 272 | 33 => 55 | n => n, fun | n => n⟩
theorem Tryd.sorted126 : Go.Proofs.SlLaysZ.n6 Tryd.prog Tryd.sorted126_ren := {
  mixed := by kernel_rfl
  f6 := ⟨Tryd.f126.name, by decide, Tryd.func126.trans (congrArg some (by kernel_rfl))⟩
  f8 := ⟨Tryd.f158.name, by decide, Tryd.func158.trans (congrArg some (by kernel_rfl))⟩
  f11 := ⟨Tryd.f178.name, by decide, Tryd.func178.trans (congrArg some (by kernel_rfl))⟩
  t0 := Tryd.underlying0
  a0 := Tryd.isAgg0
  z0 := Tryd.sizeOf0
  v0 := Tryd.zeroValue0
  t24 := Tryd.underlying84
  a24 := Tryd.isAgg84
  z24 := Tryd.sizeOf84
  v24 := Tryd.zeroValue84
  t26 := Tryd.underlying9
  a26 := Tryd.isAgg9
  z26 := Tryd.sizeOf9
  v26 := Tryd.zeroValue9
  t28 := Tryd.underlying189
  a28 := Tryd.isAgg189
  z28 := Tryd.sizeOf189
  v28 := Tryd.zeroValue189
  i26 := by kernel_rfl }
def Tryd.sort159_ren : Go.Shelf.Ren := ⟨fun | 6 => 159 | 8 => 180 | 9 => 179 | 19 => 198 | 20 => 171 | 21 => 189 | 22 => 190 | 23 => 191 | 24 => 192 | 25 => 193 | 26 => 194 | 27 => 195 | 28 => 196 | 29 => 197 | 36 => 207 | 31 => 208 | 32 => 209 | 37 => 210 | 38 => 211 | 39 => 212 | 41 => 218 | n => n, fun | 27 => 84 | 29 => 9 | 3 => 3 | 32 => 127 | 26 => 84 | 0 => 0 | 44 => 142 | 46 => 111 | 4 => 4 | 36 => 239 | 35 => 238 | 41 => 243 | 5 => 5 | 9 => 9 | 53 => 259 | 57 => 263 | 63 => 271 | 64 => 272 | n => n, fun | n => n⟩
theorem Tryd.sort159 : Go.Proofs.SlLaysM.n6 Tryd.prog Tryd.sort159_ren := {
  mixed := by kernel_rfl
  f6 := ⟨Tryd.f159.name, by decide, Tryd.func159.trans (congrArg some (by kernel_rfl))⟩
  f8 := Tryd.func180.trans (congrArg some (by kernel_rfl))
  f9 := ⟨Tryd.f179.name, by decide, Tryd.func179.trans (congrArg some (by kernel_rfl))⟩
  f19 := Tryd.func198.trans (congrArg some (by kernel_rfl))
  f20 := Tryd.func171.trans (congrArg some (by kernel_rfl))
  f21 := ⟨Tryd.f189.name, by decide, Tryd.func189.trans (congrArg some (by kernel_rfl))⟩
  f22 := ⟨Tryd.f190.name, by decide, Tryd.func190.trans (congrArg some (by kernel_rfl))⟩
  f23 := ⟨Tryd.f191.name, by decide, Tryd.func191.trans (congrArg some (by kernel_rfl))⟩
  f24 := ⟨Tryd.f192.name, by decide, Tryd.func192.trans (congrArg some (by kernel_rfl))⟩
  f25 := ⟨Tryd.f193.name, by decide, Tryd.func193.trans (congrArg some (by kernel_rfl))⟩
  f26 := ⟨Tryd.f194.name, by decide, Tryd.func194.trans (congrArg some (by kernel_rfl))⟩
  f27 := ⟨Tryd.f195.name, by decide, Tryd.func195.trans (congrArg some (by kernel_rfl))⟩
  f28 := ⟨Tryd.f196.name, by decide, Tryd.func196.trans (congrArg some (by kernel_rfl))⟩
  f29 := ⟨Tryd.f197.name, by decide, Tryd.func197.trans (congrArg some (by kernel_rfl))⟩
  f31 := Tryd.func208.trans (congrArg some (by kernel_rfl))
  f32 := Tryd.func209.trans (congrArg some (by kernel_rfl))
  f36 := ⟨Tryd.f207.name, by decide, Tryd.func207.trans (congrArg some (by kernel_rfl))⟩
  f37 := ⟨Tryd.f210.name, by decide, Tryd.func210.trans (congrArg some (by kernel_rfl))⟩
  f38 := ⟨Tryd.f211.name, by decide, Tryd.func211.trans (congrArg some (by kernel_rfl))⟩
  f39 := ⟨Tryd.f212.name, by decide, Tryd.func212.trans (congrArg some (by kernel_rfl))⟩
  f41 := ⟨Tryd.f218.name, by decide, Tryd.func218.trans (congrArg some (by kernel_rfl))⟩
  t0 := Tryd.underlying0
  a0 := Tryd.isAgg0
  z0 := Tryd.sizeOf0
  v0 := Tryd.zeroValue0
  t3 := Tryd.underlying3
  a3 := Tryd.isAgg3
  z3 := Tryd.sizeOf3
  v3 := Tryd.zeroValue3
  t4 := Tryd.underlying4
  a4 := Tryd.isAgg4
  z4 := Tryd.sizeOf4
  v4 := Tryd.zeroValue4
  t5 := Tryd.underlying5
  a5 := Tryd.isAgg5
  z5 := Tryd.sizeOf5
  v5 := Tryd.zeroValue5
  t9 := Tryd.underlying9
  a9 := Tryd.isAgg9
  z9 := Tryd.sizeOf9
  v9 := Tryd.zeroValue9
  t26 := Tryd.underlying84
  a26 := Tryd.isAgg84
  z26 := Tryd.sizeOf84
  v26 := Tryd.zeroValue84
  t27 := Tryd.underlying84
  a27 := Tryd.isAgg84
  z27 := Tryd.sizeOf84
  v27 := Tryd.zeroValue84
  t29 := Tryd.underlying9
  a29 := Tryd.isAgg9
  z29 := Tryd.sizeOf9
  v29 := Tryd.zeroValue9
  t32 := Tryd.underlying127
  a32 := Tryd.isAgg127
  z32 := Tryd.sizeOf127
  v32 := Tryd.zeroValue127
  t35 := Tryd.underlying238
  a35 := Tryd.isAgg238
  z35 := Tryd.sizeOf238
  v35 := Tryd.zeroValue238
  t36 := Tryd.underlying239
  a36 := Tryd.isAgg239
  z36 := Tryd.sizeOf239
  v36 := Tryd.zeroValue239
  t41 := Tryd.underlying243
  a41 := Tryd.isAgg243
  z41 := Tryd.sizeOf243
  v41 := Tryd.zeroValue243
  t44 := Tryd.underlying142
  a44 := Tryd.isAgg142
  z44 := Tryd.sizeOf142
  v44 := Tryd.zeroValue142
  t46 := Tryd.underlying111
  a46 := Tryd.isAgg111
  z46 := Tryd.sizeOf111
  v46 := Tryd.zeroValue111
  t53 := Tryd.underlying259
  a53 := Tryd.isAgg259
  z53 := Tryd.sizeOf259
  v53 := Tryd.zeroValue259
  t57 := Tryd.underlying263
  a57 := Tryd.isAgg263
  z57 := Tryd.sizeOf263
  v57 := Tryd.zeroValue263
  t63 := Tryd.underlying271
  a63 := Tryd.isAgg271
  z63 := Tryd.sizeOf271
  v63 := Tryd.zeroValue271
  t64 := Tryd.underlying272
  a64 := Tryd.isAgg272
  z64 := Tryd.sizeOf272
  v64 := Tryd.zeroValue272 }
open Go.RowKit Go.Maps Go.Sort in set_option maxHeartbeats 1000000 in
theorem Tryd.sorts126 (m : Nat) : AnyZ.SortsIn Tryd.prog Tryd.sorted126_ren Fence.wide m :=
  ⟨fun blk off cap ss W hH hblk hsz => callsIn_wide.2 (AnyM.slices_Sort_string Tryd.sort159 blk off cap ss W hH hblk hsz),
   fun p cap W => callsIn_wide.2 (AnyM.slices_Sort_string_none Tryd.sort159 p cap W)⟩
open Go.RowKit Go.Maps Go.Sort in set_option maxHeartbeats 1000000 in
theorem Tryd.maps_Keys_127 (mb : Option Nat) (W : World) : CallsIn Fence.wide 5 Tryd.prog 127 #[.map mb] W fun e w' => e = .returned (.func (.func 160) #[] #[.pointer (some ⟨W.heap.size, 0, none⟩)]) ∧ w' = W.alloc (.cells #[.map mb] 158) :=
  AnyZ.keys_in Tryd.keys127 Fence.wide 5 trivial rfl mb W
open Go.RowKit Go.Maps Go.Sort in set_option maxHeartbeats 1000000 in
theorem Tryd.slices_Sorted_keys_126_127 {H : Type} (b nn : Nat) (D0 : DataW H) (R : Value → Option (DataW H × List MemPlace)) (w : World) (hown : w.ownsMap Tryd.prog 9 R b nn D0) (hmax : Maps.size D0 ≤ maxLen) (hbytes : Maps.size D0 * 16 ≤ 140737488355328) :
    CallsIn Fence.wide 5 Tryd.prog 126 #[.func (.func 160) #[] #[.pointer (some ⟨w.heap.size, 0, none⟩)]] (w.alloc (.cells #[.map (some b)] 158)) fun e w' => ∃ (v : Value) (ss : List (List UInt8)), e = .returned v ∧ ss.Perm (strKeys D0) ∧
      w'.ownsRow (w.alloc (.cells #[.map (some b)] 158)).heap.size 9 1 v ss.length ((ss.mergeSort (fun x y => decide (x ≤ y))).map encStr) ∧ (v = .slice none 0 0 ↔ ss = []) ∧ Below (w.alloc (.cells #[.map (some b)] 158)).heap.size (w.alloc (.cells #[.map (some b)] 158)) w' := by
  have hbl := hown.lt
  have hseq : SeqGives Fence.wide 2 Tryd.prog 160 #[.pointer (some ⟨w.heap.size, 0, none⟩)] encStr (fun ss => ss.Perm (strKeys D0)) (Maps.size D0) (w.alloc (.cells #[.map (some b)] 158)) :=
    AnyZ.keys_gives (ρ := Tryd.keys127_ren) { Tryd.keys127 with } Fence.wide _ trivial rfl (by omega) w.heap.size b nn D0 _ (by simp) (by simp) (by
      obtain ⟨es, clock, hb, Ft, hs, hD⟩ := hown
      exact ⟨es, clock, (Below.heap_alloc _ _ b hbl).trans hb, Ft, hs, hD⟩)
  exact AnyZ.sorted_in Tryd.sorted126 Fence.wide 5 trivial trivial trivial trivial rfl (by omega) (Tryd.sorts126 _) (enters_of Tryd.func159 (by kernel_rfl) rfl) 160 #[.pointer (some ⟨w.heap.size, 0, none⟩)] trivial (enters_of Tryd.func160 (by kernel_rfl) rfl) _ _ hmax hbytes _ hseq
end Go.Proofs
namespace Go.Proofs.YtifmkgkiipckbaaDoor.P
open Go.RowKit Go.Proofs.YtifmkgkiipckbaaDoorW.PrintWords Go.Proofs.YtifmkgkiipckbaaDoorW.PrintLast Go.Proofs.YtifmkgkiipckbaaDoorW.PrintMore
attribute [local go_sem] max2_int min2_int max_two min_two max_three min_three max_four min_four
set_option linter.unusedVariables false
set_option linter.unusedSimpArgs false
def headers_is.f (a0_0 : ByteArray) (a0_1 : ByteArray) (a1 : ByteArray) : Option (Bool) := (infra_Lower.f a0_0).bind fun t220 => ((infra_Lower.f a1).bind fun t221 => (some (t220.toList == t221.toList)))
set_option maxHeartbeats 8000000 in
set_option maxRecDepth 100000 in
theorem headers_is.calls (a0_0 : ByteArray) (a0_1 : ByteArray) (a1 : ByteArray) (r : Bool) (w : World) (h : headers_is.f a0_0 a0_1 a1 = some r) :
  Calls Tryd.prog 86 #[.agg #[.string a0_0, .string a0_1], .string a1] w fun e w' => e = .returned (.bool r) ∧ Below w.heap.size w w' := by
 have hu72 := Tryd.underlying72
 have HB := Aside0.mk (Below.refl w.heap.size w)
 have H : ((infra_Lower.f a0_0).bind fun t220 => ((infra_Lower.f a1).bind fun t221 => (some (t220.toList == t221.toList)))) = some r := h
 clear h
 replace H := Option.bind_eq_some_iff.mp H
 obtain ⟨t220, A30, H⟩ := H
 replace H : ((infra_Lower.f a1).bind fun t221 => (some (t220.toList == t221.toList))) = some r := H
 have A3 := Aside0.mk A30
 clear A30
 replace H := Option.bind_eq_some_iff.mp H
 obtain ⟨t221, A40, H⟩ := H
 replace H : (some (t220.toList == t221.toList)) = some r := H
 have A4 := Aside0.mk A40
 clear A40
 obtain rfl := Option.some.inj H
 go_enter Tryd.func86, Tryd.ntmps86
 have tok0 : True := trivial
 have tok1 : True := trivial
 have tok2 : True := trivial
 go_wp2_with (first | (revert tok0; intro tok0; (with_reducible refine gate_dst (N := 2) rfl ?_); refine box_event ?hg (N := 2) ?hd (cs := #[.string a0_0, .string a0_1]) (t := 72) ?hr ?_; (case hd => rfl); (case hg => rfl); (case hr => first | (go_simp; done) | (go_simp; rfl)); intro gb219 hg w5 hbox hb; have n0_ := Aside0.mk (below_step hB hb); have n1_ := Aside0.mk (hbox); have n2_ := Aside0.mk ((by rw [hg]; exact (below_size hB) : w.heap.size ≤ gb219)); have n3_ := Aside0.mk ((by rw [hg]; exact (below_size hB) : w.heap.size ≤ gb219)); clear HB; have HB := n0_; have BK219 := n1_; have GW219 := n2_; have GE219 := n3_; clear n0_ n1_ n2_ n3_; clear hb hbox hg; have hcz6_0 : w5.cell? ⟨gb219, 0, none⟩ = some (.string a0_0) := (blk_cell BK219.out 0).trans rfl; have hcz6_1 : w5.cell? ⟨gb219, 1, none⟩ = some (.string a0_1) := (blk_cell BK219.out 1).trans rfl; have hfz6_0 := blk_frozen BK219.out 0; have hfz6_1 := blk_frozen BK219.out 1; clear tok0) | (revert tok1; intro tok1; (with_reducible refine gate_callee (f := 53) rfl ?_); refine goesL_ (some 7) rfl rfl Tryd.func53 q20_ rfl #[.string a0_0] rfl tS ?_; (with_reducible refine (infra_Lower.calls a0_0 t220 _ A3.out).mono ?_); rintro e w7 ⟨rfl, hb⟩; refine ⟨_, rfl, ?_⟩; have n0_ := Aside0.mk (blk_below (g := gb219) (o := .cells #[.string a0_0, .string a0_1] 72 (0, 0)) (by (with_reducible repeat (first | refine blk_drewN ?_ _ | refine blk_drew ?_ | refine blk_alloc ?_ _)); exact BK219.out) hb); have n1_ := Aside0.mk (below_step (by repeat (first | (with_reducible first | exact HB.out | apply below_alloc | apply pw_below_drewN | apply below_drew1 | refine below_set ?_ GE219.out) | exact HB.out)) hb); clear BK219; clear HB; have BK219 := n0_; have HB := n1_; clear n0_ n1_; (try clear hb); (try clear hb2); (try clear hk); (try clear hi); clear tok1) | (revert tok2; intro tok2; (with_reducible refine gate_callee (f := 53) rfl ?_); refine goesL_ (some 9) rfl rfl Tryd.func53 q20_ rfl #[.string a1] rfl tS ?_; (with_reducible refine (infra_Lower.calls a1 t221 _ A4.out).mono ?_); rintro e w8 ⟨rfl, hb⟩; refine ⟨_, rfl, ?_⟩; have n0_ := Aside0.mk (blk_below (g := gb219) (o := .cells #[.string a0_0, .string a0_1] 72 (0, 0)) (by (with_reducible repeat (first | refine blk_drewN ?_ _ | refine blk_drew ?_ | refine blk_alloc ?_ _)); exact BK219.out) hb); have n1_ := Aside0.mk (below_step (by repeat (first | (with_reducible first | exact HB.out | apply below_alloc | apply pw_below_drewN | apply below_drew1 | refine below_set ?_ GE219.out) | exact HB.out)) hb); clear BK219; clear HB; have BK219 := n0_; have HB := n1_; clear n0_ n1_; (try clear hb); (try clear hb2); (try clear hk); (try clear hi); clear tok2))
 go_ret
 exact ⟨by first | rfl | (simp [errW_none, errW_some] <;> rfl) | (simp [*, errW_none, errW_some] <;> rfl), by repeat (first | (with_reducible first | exact HB.out | apply below_alloc | apply pw_below_drewN | apply below_drew1 | refine below_set ?_ GE219.out) | exact HB.out)⟩
end Go.Proofs.YtifmkgkiipckbaaDoor.P
namespace Go.Proofs.YtifmkgkiipckbaaDoor.P
open Go.RowKit Go.Proofs.YtifmkgkiipckbaaDoorW.PrintWords Go.Proofs.YtifmkgkiipckbaaDoorW.PrintLast Go.Proofs.YtifmkgkiipckbaaDoorW.PrintMore
attribute [local go_sem] max2_int min2_int max_two min_two max_three min_three max_four min_four
set_option linter.unusedVariables false
set_option linter.unusedSimpArgs false
def headers_Get.l0 : Nat → ByteArray → List ByteArray → List (S72) → Int → Int → Option (ByteArray × Bool)
 | 0, _, _, _, _, _ => none
 | k + 1, x1, x6, x9, x10, x11 => if x11 < x10 then (if 0 ≤ x11 then (if x11 < (x9.length : Int) then ((headers_is.f ((rd_T72 x9 x11).f0) ((rd_T72 x9 x11).f1) x1).bind fun t224 => (if t224 = true then (if x6.length < 8796093022208 then (headers_Get.l0 k x1 (x6 ++ [(rd_T72 x9 x11).f1]) x9 x10 (wrap64 (x11 + 1))) else (none)) else (headers_Get.l0 k x1 x6 x9 x10 (wrap64 (x11 + 1))))) else (none)) else (none)) else ((strings_Join.f x6 (⟨#[44, 32]⟩ : ByteArray)).bind fun t228 => (some (t228, decide ((x6.length : Int) > 0))))
def headers_Get.f (k : Nat) (l0 : List (S72)) (a1 : ByteArray) : Option (ByteArray × Bool) := headers_Get.l0 k a1 ([] : List ByteArray) l0 (l0.length : Int) 0
theorem headers_Get.mono_l : ∀ k, (∀ y0 y1 y2 y3 y4, LeO (headers_Get.l0 k y0 y1 y2 y3 y4) (headers_Get.l0 (k + 1) y0 y1 y2 y3 y4))
 | 0 => fun _ _ _ _ _ r h => by simp [headers_Get.l0] at h
 | k + 1 => by
  have ih0 := headers_Get.mono_l k
  ·intro y0 y1 y2 y3 y4
   unfold headers_Get.l0
   exact lO
theorem headers_Get.mono : ∀ a0 a1 k, LeO (headers_Get.f k a0 a1) (headers_Get.f (k + 1) a0 a1) := by
 intro a0 a1 k
 have ih0 := headers_Get.mono_l k
 unfold headers_Get.f
 exact lO
set_option maxHeartbeats 8000000 in
set_option maxRecDepth 100000 in
theorem headers_Get.calls (k : Nat) (A0 : Option Addr) (c0 : Nat) (l0 : List (S72)) (a1 : ByteArray) (r1 : ByteArray) (r2 : Bool) (w : World) (hr0 : Kd.C k72 w A0 l0.length l0) (hc0 : l0.length ≤ c0) (h : headers_Get.f k l0 a1 = some (r1, r2)) :
  Calls Tryd.prog 48 #[.slice A0 l0.length c0, .string a1] w fun e w' => e = .returned (.tuple #[.string r1, .bool r2]) ∧ Below w.heap.size w w' := by
 have hu72 := Tryd.underlying72
 have HR0 := Aside0.mk hr0
 have HC0 := Aside0.mk hc0
 clear hr0 hc0
 have HB := Aside0.mk (Below.refl w.heap.size w)
 have H : (headers_Get.l0 k a1 ([] : List ByteArray) l0 (l0.length : Int) 0) = some (r1, r2) := h
 clear h
 have H' := Aside0.mk H
 clear H
 go_enter Tryd.func48, Tryd.ntmps48
 go_wp2
 go_loopg [6, 11] k (fun kq v6 v11 w' => ∃ (x6_1 : List ByteArray) (x11_1 : Int), v11 = .int .i64 x11_1 ∧ Aside0 (headers_Get.l0 kq a1 x6_1 l0 (l0.length : Int) x11_1 = some (r1, r2)) ∧ Aside0 (kq ≤ k) ∧ Aside0 (Kd.R Kd.string 9 w' w.heap.size (fun _ => True) v6 x6_1) ∧ Aside0 (Below w.heap.size w w'))
 case atStart => exact ⟨(([] : List ByteArray)), (0), rS, H', ⟨Nat.le_refl _⟩, ⟨by first | exact Kd.R_nil _ _ _ _ _ | exact Kd.N_nil _ _ _ _ _ | exact Kd.V_nil _ _ _ _ _ | exact Kd.Q_nil _ _ _ _ _ | exact Kd.S_nil _ _ _ _ _⟩, ⟨by repeat (first | (with_reducible first | exact HB.out | apply below_alloc | apply pw_below_drewN | apply below_drew1) | exact HB.out)⟩⟩
 case round =>
  clear H'
  try clear p2
  obtain ⟨x6_1, x11_1, rfl, HA, HK1, HO_6, HB⟩ := hrel
  cases gk with
  | zero => exact absurd HA.out (by simp [headers_Get.l0])
  | succ k1 =>
   have H := HA.out
   clear HA
   simp only [headers_Get.l0] at H
   by_cases c3 : x11_1 < (l0.length : Int)
   ·rw [if_pos c3] at H
    have c3b0 : decide (x11_1 < (l0.length : Int)) = true := decide_eq_true c3
    clear c3
    by_cases c4 : 0 ≤ x11_1
    ·rw [if_pos c4] at H
     have c4b0 : decide (0 ≤ x11_1) = true := decide_eq_true c4
     clear c4
     by_cases c5 : x11_1 < (l0.length : Int)
     ·rw [if_pos c5] at H
      have c5b0 : decide (x11_1 < (l0.length : Int)) = true := decide_eq_true c5
      clear c5
      replace H := Option.bind_eq_some_iff.mp H
      obtain ⟨t224, A60, H⟩ := H
      replace H : (if t224 = true then (if x6_1.length < 8796093022208 then (headers_Get.l0 k1 a1 (x6_1 ++ [(rd_T72 l0 x11_1).f1]) l0 (l0.length : Int) (wrap64 (x11_1 + 1))) else (none)) else (headers_Get.l0 k1 a1 x6_1 l0 (l0.length : Int) (wrap64 (x11_1 + 1)))) = some (r1, r2) := H
      have A6 := Aside0.mk A60
      clear A60
      by_cases c7 : t224 = true
      ·subst c7
       have H1 : (if x6_1.length < 8796093022208 then (headers_Get.l0 k1 a1 (x6_1 ++ [(rd_T72 l0 x11_1).f1]) l0 (l0.length : Int) (wrap64 (x11_1 + 1))) else (none)) = some (r1, r2) := by rw [if_pos rfl] at H; exact H
       clear H
       have H := H1
       clear H1
       by_cases c8 : x6_1.length < 8796093022208
       ·rw [if_pos c8] at H
        have LMc8 := Aside0.mk c8
        clear c8
        obtain ⟨y225, hy225⟩ : ∃ y_ : List ByteArray, y_ = (x6_1 ++ [(rd_T72 l0 x11_1).f1]) := ⟨_, rfl⟩
        replace H : (headers_Get.l0 k1 a1 y225 l0 (l0.length : Int) (wrap64 (x11_1 + 1))) = some (r1, r2) := by first | (rw [hy225]; with_reducible exact H) | (have H2_ := (Option.bind_some _ _).symm.trans H; rw [hy225]; with_reducible exact H2_) | (have H2_ := (Option.bind_some _ _).symm.trans H; with_reducible exact H2_) | with_reducible exact H | (rw [hy225]; exact H) | exact H
        have Ny225 := Aside0.mk hy225
        clear hy225
        have H' := Aside0.mk H
        clear H
        have p222 : 0 ≤ (x11_1 : Int) := of_decide_eq_true aS
        have q222 : x11_1 < (l0.length : Int) := of_decide_eq_true aS
        obtain ⟨ad222, e222, hx222_0, hx222_1⟩ := at_T72 HR0.out x11_1 p222 q222
        cases e222
        replace hx222_0 := (HB.out.cell (World.block_lt_of_cell? w _ hx222_0)).trans hx222_0
        replace hx222_1 := (HB.out.cell (World.block_lt_of_cell? w _ hx222_1)).trans hx222_1
        replace p222 := eq_true p222
        replace q222 := eq_true q222
        go_wp2_with (first | ((with_reducible refine gate_dst (N := 8) rfl ?_); refine box_event ?hg (N := 8) ?hd (cs := #[.string (⟨#[]⟩ : ByteArray), .string (⟨#[]⟩ : ByteArray)]) (t := 72) ?hr ?_; (case hd => rfl); (case hg => rfl); (case hr => first | (go_simp; done) | (go_simp; rfl)); intro gb223 hg w9 hbox hb; have n0_ := Aside0.mk (Kd.R_below (by (with_reducible repeat (first | apply Kd.R_alloc | apply Kd.R_drewN | apply Kd.R_drew)); exact HO_6.out) hb); have n1_ := Aside0.mk (below_step hB hb); have n2_ := Aside0.mk (hbox); have n3_ := Aside0.mk ((by rw [hg]; exact (below_size hB) : w.heap.size ≤ gb223)); have n4_ := Aside0.mk ((by rw [hg]; exact (below_size hB) : w.heap.size ≤ gb223)); clear HO_6; clear HB; have HO_6 := n0_; have HB := n1_; have BK223 := n2_; have GW223 := n3_; have GE223 := n4_; clear n0_ n1_ n2_ n3_ n4_; clear hb hbox hg; have hcz10_0 : w9.cell? ⟨gb223, 0, none⟩ = some (.string (⟨#[]⟩ : ByteArray)) := (blk_cell BK223.out 0).trans rfl; have hcz10_1 : w9.cell? ⟨gb223, 1, none⟩ = some (.string (⟨#[]⟩ : ByteArray)) := (blk_cell BK223.out 1).trans rfl; have hfz10_0 := blk_frozen BK223.out 0; have hfz10_1 := blk_frozen BK223.out 1) | ((with_reducible refine gate_callee (f := 86) rfl ?_); refine goesL_ (some 17) rfl rfl Tryd.func86 q20_ rfl #[.agg #[.string ((rd_T72 l0 x11_1).f0), .string ((rd_T72 l0 x11_1).f1)], .string a1] rfl tS ?_; (with_reducible refine (headers_is.calls ((rd_T72 l0 x11_1).f0) ((rd_T72 l0 x11_1).f1) a1 true _ A6.out).mono ?_); rintro e w11 ⟨rfl, hb⟩; refine ⟨_, rfl, ?_⟩; have n0_ := Aside0.mk (Kd.R_below (by (with_reducible repeat (first | apply Kd.R_alloc | apply Kd.R_drewN | apply Kd.R_drew)); exact (Kd.R_mono (Kd.R_far (p := ⟨gb223, 1, none⟩) (Kd.R_far (p := ⟨gb223, 0, none⟩) (Kd.R_types HO_6.out BK223.out (by decide)) (fun _ hk => hk.2) (.string ((rd_T72 l0 x11_1).f0))) (fun _ hk => hk.2) (.string ((rd_T72 l0 x11_1).f1))) (fun _ h_ => h_.1))) hb); have n1_ := Aside0.mk (blk_below (g := gb223) (o := .cells #[.string ((rd_T72 l0 x11_1).f0), .string ((rd_T72 l0 x11_1).f1)] 72 (0, 0)) (by (with_reducible repeat (first | refine blk_drewN ?_ _ | refine blk_drew ?_ | refine blk_alloc ?_ _)); refine blk_put (cs := #[.string ((rd_T72 l0 x11_1).f0), .string (⟨#[]⟩ : ByteArray)]) ?_ 1 _ rfl; (with_reducible repeat (first | refine blk_drewN ?_ _ | refine blk_drew ?_ | refine blk_alloc ?_ _)); refine blk_put (cs := #[.string (⟨#[]⟩ : ByteArray), .string (⟨#[]⟩ : ByteArray)]) ?_ 0 _ rfl; (with_reducible repeat (first | refine blk_drewN ?_ _ | refine blk_drew ?_ | refine blk_alloc ?_ _)); exact BK223.out) hb); have n2_ := Aside0.mk (below_step (by repeat (first | (with_reducible first | exact HB.out | apply below_alloc | apply pw_below_drewN | apply below_drew1 | refine below_set ?_ GE223.out) | exact HB.out)) hb); clear HO_6; clear BK223; clear HB; have HO_6 := n0_; have BK223 := n1_; have HB := n2_; clear n0_ n1_ n2_; (try clear hb); (try clear hb2); (try clear hk); (try clear hi); have hcz12_0 : w11.cell? ⟨gb223, 0, none⟩ = some (.string ((rd_T72 l0 x11_1).f0)) := (blk_cell BK223.out 0).trans rfl; have hcz12_1 : w11.cell? ⟨gb223, 1, none⟩ = some (.string ((rd_T72 l0 x11_1).f1)) := (blk_cell BK223.out 1).trans rfl; have hfz12_0 := blk_frozen BK223.out 0; have hfz12_1 := blk_frozen BK223.out 1) | ((with_reducible refine gate_builtin (b := .append) (xs := #[.tmp 18, .tmp 21]) rfl ?_); at_builtin; refine Kd.R_append Kd.string (w0 := w) w.heap.size rfl (.tmp 18) (.tmp 21) 84 9 (.string ⟨#[]⟩) 16 rfl Tryd.underlying84 info9 rfl (by decide) (by omega) u6 x6_1 ((rd_T72 l0 x11_1).f1) [.string ((rd_T72 l0 x11_1).f1)] (fun _ => True) (fun _ => False) rfl rfl ?aP (fun _ hk => hk.elim) ?aF ?aO ?aB ?aS ?aL ?_; (case aP => exact rfl); (case aB => exact (by repeat (first | (with_reducible first | exact HB.out | apply below_alloc | apply pw_below_drewN | apply below_drew1 | refine below_set ?_ GE223.out) | exact HB.out))); (case aF => exact (fun _ _ => trivial)); (case aO => exact (by (with_reducible repeat (first | apply Kd.R_alloc | apply Kd.R_drewN | apply Kd.R_drew)); exact HO_6.out)); (case aS => exact (below_size (by repeat (first | (with_reducible first | exact HB.out | apply below_alloc | apply pw_below_drewN | apply below_drew1 | refine below_set ?_ GE223.out) | exact HB.out)))); (case aL => have := LMc8.out; omega); intro v226 w13 ho hb hg hat; rw [← Ny225.out] at ho; have n0_ := Aside0.mk (blk_grown (g := gb223) (o := .cells #[.string ((rd_T72 l0 x11_1).f0), .string ((rd_T72 l0 x11_1).f1)] 72 (0, 0)) (by (with_reducible repeat (first | refine blk_drewN ?_ _ | refine blk_drew ?_ | refine blk_alloc ?_ _)); exact BK223.out) hg (Kd.R_ne HO_6.out BK223.out (by decide))); have n1_ := Aside0.mk (hb); have n2_ := Aside0.mk (ho); clear BK223; clear HB; clear HO_6; have BK223 := n0_; have HB := n1_; have HO227 := n2_; clear n0_ n1_ n2_; clear ho hb hg hat))
        go_roundg k1
        case measure => have := HK1.out; omega
        case rel => exact ⟨(y225), (wrap64 (x11_1 + 1)), rS, H', ⟨by have := HK1.out; omega⟩, ⟨by (with_reducible repeat (first | apply Kd.R_alloc | apply Kd.R_drewN | apply Kd.R_drew)); exact HO227.out⟩, ⟨by repeat (first | (with_reducible first | exact HB.out | apply below_alloc | apply pw_below_drewN | apply below_drew1 | refine below_set ?_ GE223.out) | exact HB.out)⟩⟩
       ·rw [if_neg c8] at H
        exact absurd H (by simp)
      ·replace c7 := Bool.eq_false_iff.mpr c7
       subst c7
       have H1 : (headers_Get.l0 k1 a1 x6_1 l0 (l0.length : Int) (wrap64 (x11_1 + 1))) = some (r1, r2) := by rw [if_neg (show ¬ (false = true) by decide)] at H; exact H
       clear H
       have H := H1
       clear H1
       have H' := Aside0.mk H
       clear H
       have p222 : 0 ≤ (x11_1 : Int) := of_decide_eq_true aS
       have q222 : x11_1 < (l0.length : Int) := of_decide_eq_true aS
       obtain ⟨ad222, e222, hx222_0, hx222_1⟩ := at_T72 HR0.out x11_1 p222 q222
       cases e222
       replace hx222_0 := (HB.out.cell (World.block_lt_of_cell? w _ hx222_0)).trans hx222_0
       replace hx222_1 := (HB.out.cell (World.block_lt_of_cell? w _ hx222_1)).trans hx222_1
       replace p222 := eq_true p222
       replace q222 := eq_true q222
       go_wp2_with (first | ((with_reducible refine gate_dst (N := 8) rfl ?_); refine box_event ?hg (N := 8) ?hd (cs := #[.string (⟨#[]⟩ : ByteArray), .string (⟨#[]⟩ : ByteArray)]) (t := 72) ?hr ?_; (case hd => rfl); (case hg => rfl); (case hr => first | (go_simp; done) | (go_simp; rfl)); intro gb223 hg w14 hbox hb; have n0_ := Aside0.mk (Kd.R_below (by (with_reducible repeat (first | apply Kd.R_alloc | apply Kd.R_drewN | apply Kd.R_drew)); exact HO_6.out) hb); have n1_ := Aside0.mk (below_step hB hb); have n2_ := Aside0.mk (hbox); have n3_ := Aside0.mk ((by rw [hg]; exact (below_size hB) : w.heap.size ≤ gb223)); have n4_ := Aside0.mk ((by rw [hg]; exact (below_size hB) : w.heap.size ≤ gb223)); clear HO_6; clear HB; have HO_6 := n0_; have HB := n1_; have BK223 := n2_; have GW223 := n3_; have GE223 := n4_; clear n0_ n1_ n2_ n3_ n4_; clear hb hbox hg; have hcz15_0 : w14.cell? ⟨gb223, 0, none⟩ = some (.string (⟨#[]⟩ : ByteArray)) := (blk_cell BK223.out 0).trans rfl; have hcz15_1 : w14.cell? ⟨gb223, 1, none⟩ = some (.string (⟨#[]⟩ : ByteArray)) := (blk_cell BK223.out 1).trans rfl; have hfz15_0 := blk_frozen BK223.out 0; have hfz15_1 := blk_frozen BK223.out 1) | ((with_reducible refine gate_callee (f := 86) rfl ?_); refine goesL_ (some 17) rfl rfl Tryd.func86 q20_ rfl #[.agg #[.string ((rd_T72 l0 x11_1).f0), .string ((rd_T72 l0 x11_1).f1)], .string a1] rfl tS ?_; (with_reducible refine (headers_is.calls ((rd_T72 l0 x11_1).f0) ((rd_T72 l0 x11_1).f1) a1 false _ A6.out).mono ?_); rintro e w16 ⟨rfl, hb⟩; refine ⟨_, rfl, ?_⟩; have n0_ := Aside0.mk (Kd.R_below (by (with_reducible repeat (first | apply Kd.R_alloc | apply Kd.R_drewN | apply Kd.R_drew)); exact (Kd.R_mono (Kd.R_far (p := ⟨gb223, 1, none⟩) (Kd.R_far (p := ⟨gb223, 0, none⟩) (Kd.R_types HO_6.out BK223.out (by decide)) (fun _ hk => hk.2) (.string ((rd_T72 l0 x11_1).f0))) (fun _ hk => hk.2) (.string ((rd_T72 l0 x11_1).f1))) (fun _ h_ => h_.1))) hb); have n1_ := Aside0.mk (blk_below (g := gb223) (o := .cells #[.string ((rd_T72 l0 x11_1).f0), .string ((rd_T72 l0 x11_1).f1)] 72 (0, 0)) (by (with_reducible repeat (first | refine blk_drewN ?_ _ | refine blk_drew ?_ | refine blk_alloc ?_ _)); refine blk_put (cs := #[.string ((rd_T72 l0 x11_1).f0), .string (⟨#[]⟩ : ByteArray)]) ?_ 1 _ rfl; (with_reducible repeat (first | refine blk_drewN ?_ _ | refine blk_drew ?_ | refine blk_alloc ?_ _)); refine blk_put (cs := #[.string (⟨#[]⟩ : ByteArray), .string (⟨#[]⟩ : ByteArray)]) ?_ 0 _ rfl; (with_reducible repeat (first | refine blk_drewN ?_ _ | refine blk_drew ?_ | refine blk_alloc ?_ _)); exact BK223.out) hb); have n2_ := Aside0.mk (below_step (by repeat (first | (with_reducible first | exact HB.out | apply below_alloc | apply pw_below_drewN | apply below_drew1 | refine below_set ?_ GE223.out) | exact HB.out)) hb); clear HO_6; clear BK223; clear HB; have HO_6 := n0_; have BK223 := n1_; have HB := n2_; clear n0_ n1_ n2_; (try clear hb); (try clear hb2); (try clear hk); (try clear hi)))
       go_roundg k1
       case measure => have := HK1.out; omega
       case rel => exact ⟨(x6_1), (wrap64 (x11_1 + 1)), rS, H', ⟨by have := HK1.out; omega⟩, ⟨by (with_reducible repeat (first | apply Kd.R_alloc | apply Kd.R_drewN | apply Kd.R_drew)); exact HO_6.out⟩, ⟨by repeat (first | (with_reducible first | exact HB.out | apply below_alloc | apply pw_below_drewN | apply below_drew1 | refine below_set ?_ GE223.out) | exact HB.out)⟩⟩
     ·rw [if_neg c5] at H
      exact absurd H (by simp)
    ·rw [if_neg c4] at H
     exact absurd H (by simp)
   ·rw [if_neg c3] at H
    have c3b0 : decide (x11_1 < (l0.length : Int)) = false := decide_eq_false c3
    clear c3
    replace H := Option.bind_eq_some_iff.mp H
    obtain ⟨t228, A170, H⟩ := H
    replace H : (some (t228, decide ((x6_1.length : Int) > 0))) = some (r1, r2) := H
    have A17 := Aside0.mk A170
    clear A170
    simp only [Option.some.injEq, Prod.mk.injEq] at H
    obtain ⟨rfl, rfl⟩ := H
    obtain ⟨Ao18, co18, eo18⟩ := Kd.R_slice HO_6.out
    subst eo18
    go_wp2_with (first | ((with_reducible refine gate_callee (f := 87) rfl ?_); refine goesL_ (some 25) rfl rfl Tryd.func87 q20_ rfl #[.slice Ao18 x6_1.length co18, .string (⟨#[44, 32]⟩ : ByteArray)] rfl tS ?_; (with_reducible refine (strings_Join.calls _ _ x6_1 (⟨#[44, 32]⟩ : ByteArray) t228 _ ?side1 ?side2 A17.out).mono ?_); (case side1 => repeat (first | exact (Kd.R_reads' HO_6.out).2.2 | (with_reducible refine Kd.C_alloc ?_ _) | (with_reducible refine Kd.C_drewN ?_ _) | (with_reducible refine Kd.C_drew ?_))); (case side2 => exact (Kd.R_reads' HO_6.out).2.1); rintro e w19 ⟨rfl, hb⟩; refine ⟨_, rfl, ?_⟩; have n0_ := Aside0.mk (Kd.R_below (by (with_reducible repeat (first | apply Kd.R_alloc | apply Kd.R_drewN | apply Kd.R_drew)); exact HO_6.out) hb); have n1_ := Aside0.mk (below_step hB hb); clear HO_6; clear HB; have HO_6 := n0_; have HB := n1_; clear n0_ n1_; (try clear hb); (try clear hb2); (try clear hk); (try clear hi)))
    go_ret2
    exact ⟨by first | rfl | (simp [errW_none, errW_some] <;> rfl) | (simp [*, errW_none, errW_some] <;> rfl), by repeat (first | (with_reducible first | exact HB.out | apply below_alloc | apply pw_below_drewN | apply below_drew1) | exact HB.out)⟩
end Go.Proofs.YtifmkgkiipckbaaDoor.P
namespace Go.Proofs.YtifmkgkiipckbaaDoor.P
open Go.RowKit Go.Proofs.YtifmkgkiipckbaaDoorW.PrintWords Go.Proofs.YtifmkgkiipckbaaDoorW.PrintLast Go.Proofs.YtifmkgkiipckbaaDoorW.PrintMore
attribute [local go_sem] max2_int min2_int max_two min_two max_three min_three max_four min_four
set_option linter.unusedVariables false
set_option linter.unusedSimpArgs false
mutual
def headers_Split.l0 : Nat → ByteArray → List ByteArray → Bool → Int → Int → Option (List ByteArray × Bool)
 | 0, _, _, _, _, _ => none
 | k + 1, x6, x8, x9, x10, x11 => if x11 < (x6.size : Int) then (if 0 ≤ x11 then (if (bt x6 x11) = 34 then (headers_Split.l0 k x6 x8 (!x9) x10 (wrap64 (x11 + 1))) else (if x9 = true then (headers_Split.j1 k x6 x8 x9 x10 x11 ((bt x6 x11) == 92)) else (headers_Split.j1 k x6 x8 x9 x10 x11 false))) else (none)) else (if 0 ≤ x10 then (if x10 ≤ (x6.size : Int) then ((strings_Trim.f (x6.extract (x10 : Int).toNat x6.size) (⟨#[9, 32]⟩ : ByteArray)).bind fun t231 => (if x8.length < 8796093022208 then (some ((x8 ++ [t231]), true)) else (none))) else (none)) else (none))
def headers_Split.j1 : Nat → ByteArray → List ByteArray → Bool → Int → Int → Bool → Option (List ByteArray × Bool)
 | 0, _, _, _, _, _, _ => none
 | k + 1, x6, x8, x9, x10, x11, x33 => if x33 = true then (headers_Split.l0 k x6 x8 x9 x10 (wrap64 ((wrap64 (x11 + 1)) + 1))) else (if x9 = true then (headers_Split.l0 k x6 x8 x9 x10 (wrap64 (x11 + 1))) else (if 0 ≤ x11 then (if x11 < (x6.size : Int) then (if (bt x6 x11) = 44 then (if 0 ≤ x10 then (if x10 ≤ x11 then (if x11 ≤ (x6.size : Int) then ((strings_Trim.f (x6.extract (x10 : Int).toNat (x11 : Int).toNat) (⟨#[9, 32]⟩ : ByteArray)).bind fun t235 => (if x8.length < 8796093022208 then (headers_Split.l0 k x6 (x8 ++ [t235]) x9 (wrap64 (x11 + 1)) (wrap64 (x11 + 1))) else (none))) else (none)) else (none)) else (none)) else (headers_Split.l0 k x6 x8 x9 x10 (wrap64 (x11 + 1)))) else (none)) else (none)))
end
def headers_Split.f (k : Nat) (l0 : List (S72)) (a1 : ByteArray) : Option (List ByteArray × Bool) := (headers_Get.f k l0 a1).bind fun bt229 => (if bt229.2 = true then (headers_Split.l0 k bt229.1 ([] : List ByteArray) false 0 0) else (some (([] : List ByteArray), false)))
theorem headers_Split.mono_l : ∀ k, (∀ y0 y1 y2 y3 y4, LeO (headers_Split.l0 k y0 y1 y2 y3 y4) (headers_Split.l0 (k + 1) y0 y1 y2 y3 y4)) ∧ (∀ y0 y1 y2 y3 y4 y5, LeO (headers_Split.j1 k y0 y1 y2 y3 y4 y5) (headers_Split.j1 (k + 1) y0 y1 y2 y3 y4 y5))
 | 0 => ⟨fun _ _ _ _ _ r h => by simp [headers_Split.l0] at h, fun _ _ _ _ _ _ r h => by simp [headers_Split.j1] at h⟩
 | k + 1 => by
  obtain ⟨ih0, ih1⟩ := headers_Split.mono_l k
  refine ⟨?_, ?_⟩
  ·intro y0 y1 y2 y3 y4
   unfold headers_Split.l0
   repeat' first
   | (with_reducible exact ih0 _ _ _ _ _)
   | (with_reducible exact ih1 _ _ _ _ _ _)
   | (with_reducible exact headers_Get.mono _ _ _)
   | (with_reducible exact LeO.refl _)
   | (with_reducible exact LeO.none _)
   | (with_reducible refine LeO.ite ?_ ?_)
   | (with_reducible refine LeO.bind ?_ (fun _ => ?_))
   | exact ih0 _ _ _ _ _
   | exact ih1 _ _ _ _ _ _
   | exact headers_Get.mono _ _ _
   | exact LeO.none _
   | refine LeO.ite ?_ ?_
   | refine LeO.bind ?_ (fun _ => ?_)
  ·intro y0 y1 y2 y3 y4 y5
   unfold headers_Split.j1
   repeat' first
   | (with_reducible exact ih0 _ _ _ _ _)
   | (with_reducible exact ih1 _ _ _ _ _ _)
   | (with_reducible exact headers_Get.mono _ _ _)
   | (with_reducible exact LeO.refl _)
   | (with_reducible exact LeO.none _)
   | (with_reducible refine LeO.ite ?_ ?_)
   | (with_reducible refine LeO.bind ?_ (fun _ => ?_))
   | exact ih0 _ _ _ _ _
   | exact ih1 _ _ _ _ _ _
   | exact headers_Get.mono _ _ _
   | exact LeO.none _
   | refine LeO.ite ?_ ?_
   | refine LeO.bind ?_ (fun _ => ?_)
theorem headers_Split.mono : ∀ a0 a1 k, LeO (headers_Split.f k a0 a1) (headers_Split.f (k + 1) a0 a1) := by
 intro a0 a1 k
 obtain ⟨ih0, ih1⟩ := headers_Split.mono_l k
 unfold headers_Split.f
 repeat' first
   | (with_reducible exact ih0 _ _ _ _ _)
   | (with_reducible exact ih1 _ _ _ _ _ _)
   | (with_reducible exact headers_Get.mono _ _ _)
   | (with_reducible exact LeO.refl _)
   | (with_reducible exact LeO.none _)
   | (with_reducible refine LeO.ite ?_ ?_)
   | (with_reducible refine LeO.bind ?_ (fun _ => ?_))
   | exact ih0 _ _ _ _ _
   | exact ih1 _ _ _ _ _ _
   | exact headers_Get.mono _ _ _
   | exact LeO.none _
   | refine LeO.ite ?_ ?_
   | refine LeO.bind ?_ (fun _ => ?_)
set_option maxHeartbeats 8000000 in
set_option maxRecDepth 100000 in
theorem headers_Split.calls (k : Nat) (A0 : Option Addr) (c0 : Nat) (l0 : List (S72)) (a1 : ByteArray) (r1 : List ByteArray) (r2 : Bool) (w : World) (hr0 : Kd.C k72 w A0 l0.length l0) (hc0 : l0.length ≤ c0) (h : headers_Split.f k l0 a1 = some (r1, r2)) :
  Calls Tryd.prog 104 #[.slice A0 l0.length c0, .string a1] w fun e w' => ∃ v0_ : Value, e = .returned (.tuple #[v0_, .bool r2]) ∧ Kd.R Kd.string 9 w' w.heap.size (fun _ => True) v0_ r1 ∧ Below w.heap.size w w' := by
 have HR0 := Aside0.mk hr0
 have HC0 := Aside0.mk hc0
 clear hr0 hc0
 have HB := Aside0.mk (Below.refl w.heap.size w)
 have H : ((headers_Get.f k l0 a1).bind fun bt229 => (if bt229.2 = true then (headers_Split.l0 k bt229.1 ([] : List ByteArray) false 0 0) else (some (([] : List ByteArray), false)))) = some (r1, r2) := h
 clear h
 replace H := Option.bind_eq_some_iff.mp H
 obtain ⟨⟨t229, t230⟩, A30, H⟩ := H
 replace H : (if t230 = true then (headers_Split.l0 k t229 ([] : List ByteArray) false 0 0) else (some (([] : List ByteArray), false))) = some (r1, r2) := H
 have A3 := Aside0.mk A30
 clear A30
 by_cases c4 : t230 = true
 ·subst c4
  have H1 : (headers_Split.l0 k t229 ([] : List ByteArray) false 0 0) = some (r1, r2) := by rw [if_pos rfl] at H; exact H
  clear H
  have H := H1
  clear H1
  have H' := Aside0.mk H
  clear H
  go_enter Tryd.func104, Tryd.ntmps104
  go_wp2_with (first | ((with_reducible refine gate_callee (f := 48) rfl ?_); refine goesL_ (some 15) rfl rfl Tryd.func48 q20_ rfl #[.slice A0 l0.length c0, .string a1] rfl tS ?_; (with_reducible refine (headers_Get.calls k _ _ l0 a1 t229 true _ ?side1 ?side2 A3.out).mono ?_); (case side1 => repeat (first | exact HR0.out | (with_reducible refine Kd.C_alloc ?_ _) | (with_reducible refine Kd.C_drewN ?_ _) | (with_reducible refine Kd.C_drew ?_))); (case side2 => exact HC0.out); rintro e w5 ⟨rfl, hb⟩; refine ⟨_, rfl, ?_⟩; have n0_ := Aside0.mk (below_step hB hb); clear HB; have HB := n0_; clear n0_; (try clear hb); (try clear hb2); (try clear hk); (try clear hi)))
  go_loopg [8, 9, 10, 11] k (fun kq v8 v9 v10 v11 w' => ∃ (x8_1 : List ByteArray) (x9_1 : Bool) (x10_1 : Int) (x11_1 : Int), v9 = .bool x9_1 ∧ v10 = .int .i64 x10_1 ∧ v11 = .int .i64 x11_1 ∧ Aside0 (headers_Split.l0 kq t229 x8_1 x9_1 x10_1 x11_1 = some (r1, r2)) ∧ Aside0 (kq ≤ k) ∧ Aside0 (Kd.R Kd.string 9 w' w.heap.size (fun _ => True) v8 x8_1) ∧ Aside0 (Below w.heap.size w w'))
  case atStart => exact ⟨(([] : List ByteArray)), (false), (0), (0), rS, rS, rS, H', ⟨Nat.le_refl _⟩, ⟨by first | exact Kd.R_nil _ _ _ _ _ | exact Kd.N_nil _ _ _ _ _ | exact Kd.V_nil _ _ _ _ _ | exact Kd.Q_nil _ _ _ _ _ | exact Kd.S_nil _ _ _ _ _⟩, ⟨by repeat (first | (with_reducible first | exact HB.out | apply below_alloc | apply pw_below_drewN | apply below_drew1) | exact HB.out)⟩⟩
  case round =>
   clear H'
   try clear c1
   try clear p2
   try clear c4
   obtain ⟨x8_1, x9_1, x10_1, x11_1, rfl, rfl, rfl, HA, HK1, HO_8, HB⟩ := hrel
   cases gk with
   | zero => exact absurd HA.out (by simp [headers_Split.l0])
   | succ k1 =>
    have H := HA.out
    clear HA
    simp only [headers_Split.l0] at H
    by_cases c6 : x11_1 < (t229.size : Int)
    ·rw [if_pos c6] at H
     have c6b0 : decide (x11_1 < (t229.size : Int)) = true := decide_eq_true c6
     clear c6
     by_cases c7 : 0 ≤ x11_1
     ·rw [if_pos c7] at H
      have c7b0 : decide (0 ≤ x11_1) = true := decide_eq_true c7
      clear c7
      by_cases c9 : (bt t229 x11_1) = 34
      ·rw [if_pos c9] at H
       have c9b0 : ((bt t229 x11_1) == 34) = true := beq_iff_eq.mpr c9
       have c9b1 : ((bt t229 x11_1) != 34) = false := bne_eq_false_iff_eq.mpr c9
       clear c9
       have H' := Aside0.mk H
       clear H
       have p8 : 0 ≤ (x11_1 : Int) := of_decide_eq_true aS
       have q8 : x11_1 < (t229.size : Int) := of_decide_eq_true aS
       have hx8 := bt_at t229 x11_1
       replace p8 := eq_true p8
       replace q8 := eq_true q8
       go_wp2
       go_roundg k1
       case measure => have := HK1.out; omega
       case rel => exact ⟨(x8_1), (!x9_1), (x10_1), (wrap64 (x11_1 + 1)), rS, rS, rS, H', ⟨by have := HK1.out; omega⟩, ⟨by (with_reducible repeat (first | apply Kd.R_alloc | apply Kd.R_drewN | apply Kd.R_drew)); exact HO_8.out⟩, ⟨by repeat (first | (with_reducible first | exact HB.out | apply below_alloc | apply pw_below_drewN | apply below_drew1) | exact HB.out)⟩⟩
      ·rw [if_neg c9] at H
       have c9b0 : ((bt t229 x11_1) == 34) = false := beq_eq_false_iff_ne.mpr c9
       have c9b1 : ((bt t229 x11_1) != 34) = true := bne_iff_ne.mpr c9
       have HC10 := Aside0.mk H
       clear H
       have p8 : 0 ≤ (x11_1 : Int) := of_decide_eq_true aS
       have q8 : x11_1 < (t229.size : Int) := of_decide_eq_true aS
       have hx8 := bt_at t229 x11_1
       replace p8 := eq_true p8
       replace q8 := eq_true q8
       go_upto_region 11 with (fail)
       go_cut [33] (fun v33 wc => ∃ (kq : Nat) (x33_9 : Bool), v33 = .bool x33_9 ∧ Aside0 (headers_Split.j1 kq t229 x8_1 x9_1 x10_1 x11_1 x33_9 = some (r1, r2)) ∧ Aside0 (kq ≤ k1) ∧ Aside0 (Kd.R Kd.string 9 wc w.heap.size (fun _ => True) u8 x8_1) ∧ Aside0 (Below w.heap.size w wc))
       case first =>
        have H := HC10.out
        clear HC10
        by_cases c11 : x9_1 = true
        ·subst c11
         have H1 : (headers_Split.j1 k1 t229 x8_1 true x10_1 x11_1 ((bt t229 x11_1) == 92)) = some (r1, r2) := by rw [if_pos rfl] at H; exact H
         clear H
         have H := H1
         clear H1
         have H' := Aside0.mk H
         clear H
         have p12 : 0 ≤ (x11_1 : Int) := of_decide_eq_true aS
         have q12 : x11_1 < (t229.size : Int) := of_decide_eq_true aS
         have hx12 := bt_at t229 x11_1
         replace p12 := eq_true p12
         replace q12 := eq_true q12
         go_wp2
         go_meet
         case rel => exact ⟨_, (((bt t229 x11_1) == 92)), rS, H', ⟨by have := HK1.out; first | omega | exact Nat.le_refl _⟩, ⟨by (with_reducible repeat (first | apply Kd.R_alloc | apply Kd.R_drewN | apply Kd.R_drew)); exact HO_8.out⟩, ⟨by repeat (first | (with_reducible first | exact HB.out | apply below_alloc | apply pw_below_drewN | apply below_drew1) | exact HB.out)⟩⟩
        ·replace c11 := Bool.eq_false_iff.mpr c11
         subst c11
         have H1 : (headers_Split.j1 k1 t229 x8_1 false x10_1 x11_1 false) = some (r1, r2) := by rw [if_neg (show ¬ (false = true) by decide)] at H; exact H
         clear H
         have H := H1
         clear H1
         have H' := Aside0.mk H
         clear H
         go_wp2
         go_meet
         case rel => exact ⟨_, (false), rS, H', ⟨by have := HK1.out; first | omega | exact Nat.le_refl _⟩, ⟨by (with_reducible repeat (first | apply Kd.R_alloc | apply Kd.R_drewN | apply Kd.R_drew)); exact HO_8.out⟩, ⟨by repeat (first | (with_reducible first | exact HB.out | apply below_alloc | apply pw_below_drewN | apply below_drew1) | exact HB.out)⟩⟩
       case rest =>
        clear HC10
        try clear c1
        try clear p1
        try clear q1
        try clear hx1
        try clear p2
        try clear c4
        try clear c6
        try clear c6b0
        try clear p6
        try clear c7
        try clear c7b0
        try clear p8
        try clear q8
        try clear hx8
        try clear c9
        try clear c9b0
        try clear c9b1
        try clear c10
        try clear c11
        try clear p12
        try clear q12
        try clear hx12
        try clear p12
        try clear p2
        try clear p8
        try clear q12
        try clear q8
        obtain ⟨kq, x33_9, rfl, HA, HJ9, HO_8, HB⟩ := hcut
        cases kq with
        | zero => exact absurd HA.out (by simp [headers_Split.j1])
        | succ kj9 =>
         have H := HA.out
         clear HA
         simp only [headers_Split.j1] at H
         by_cases c13 : x33_9 = true
         ·subst c13
          have H1 : (headers_Split.l0 kj9 t229 x8_1 x9_1 x10_1 (wrap64 ((wrap64 (x11_1 + 1)) + 1))) = some (r1, r2) := by rw [if_pos rfl] at H; exact H
          clear H
          have H := H1
          clear H1
          have H' := Aside0.mk H
          clear H
          go_wp2
          go_roundg kj9
          case measure => have := HK1.out; have := HJ9.out; omega
          case rel => exact ⟨(x8_1), (x9_1), (x10_1), (wrap64 ((wrap64 (x11_1 + 1)) + 1)), rS, rS, rS, H', ⟨by have := HK1.out; have := HJ9.out; omega⟩, ⟨by (with_reducible repeat (first | apply Kd.R_alloc | apply Kd.R_drewN | apply Kd.R_drew)); exact HO_8.out⟩, ⟨by repeat (first | (with_reducible first | exact HB.out | apply below_alloc | apply pw_below_drewN | apply below_drew1) | exact HB.out)⟩⟩
         ·replace c13 := Bool.eq_false_iff.mpr c13
          subst c13
          have H1 : (if x9_1 = true then (headers_Split.l0 kj9 t229 x8_1 x9_1 x10_1 (wrap64 (x11_1 + 1))) else (if 0 ≤ x11_1 then (if x11_1 < (t229.size : Int) then (if (bt t229 x11_1) = 44 then (if 0 ≤ x10_1 then (if x10_1 ≤ x11_1 then (if x11_1 ≤ (t229.size : Int) then ((strings_Trim.f (t229.extract (x10_1 : Int).toNat (x11_1 : Int).toNat) (⟨#[9, 32]⟩ : ByteArray)).bind fun t235 => (if x8_1.length < 8796093022208 then (headers_Split.l0 kj9 t229 (x8_1 ++ [t235]) x9_1 (wrap64 (x11_1 + 1)) (wrap64 (x11_1 + 1))) else (none))) else (none)) else (none)) else (none)) else (headers_Split.l0 kj9 t229 x8_1 x9_1 x10_1 (wrap64 (x11_1 + 1)))) else (none)) else (none))) = some (r1, r2) := by rw [if_neg (show ¬ (false = true) by decide)] at H; exact H
          clear H
          have H := H1
          clear H1
          by_cases c14 : x9_1 = true
          ·subst c14
           have H1 : (headers_Split.l0 kj9 t229 x8_1 true x10_1 (wrap64 (x11_1 + 1))) = some (r1, r2) := by rw [if_pos rfl] at H; exact H
           clear H
           have H := H1
           clear H1
           have H' := Aside0.mk H
           clear H
           go_wp2
           go_roundg kj9
           case measure => have := HK1.out; have := HJ9.out; omega
           case rel => exact ⟨(x8_1), (true), (x10_1), (wrap64 (x11_1 + 1)), rS, rS, rS, H', ⟨by have := HK1.out; have := HJ9.out; omega⟩, ⟨by (with_reducible repeat (first | apply Kd.R_alloc | apply Kd.R_drewN | apply Kd.R_drew)); exact HO_8.out⟩, ⟨by repeat (first | (with_reducible first | exact HB.out | apply below_alloc | apply pw_below_drewN | apply below_drew1) | exact HB.out)⟩⟩
          ·replace c14 := Bool.eq_false_iff.mpr c14
           subst c14
           have H1 : (if 0 ≤ x11_1 then (if x11_1 < (t229.size : Int) then (if (bt t229 x11_1) = 44 then (if 0 ≤ x10_1 then (if x10_1 ≤ x11_1 then (if x11_1 ≤ (t229.size : Int) then ((strings_Trim.f (t229.extract (x10_1 : Int).toNat (x11_1 : Int).toNat) (⟨#[9, 32]⟩ : ByteArray)).bind fun t235 => (if x8_1.length < 8796093022208 then (headers_Split.l0 kj9 t229 (x8_1 ++ [t235]) false (wrap64 (x11_1 + 1)) (wrap64 (x11_1 + 1))) else (none))) else (none)) else (none)) else (none)) else (headers_Split.l0 kj9 t229 x8_1 false x10_1 (wrap64 (x11_1 + 1)))) else (none)) else (none)) = some (r1, r2) := by rw [if_neg (show ¬ (false = true) by decide)] at H; exact H
           clear H
           have H := H1
           clear H1
           by_cases c15 : 0 ≤ x11_1
           ·rw [if_pos c15] at H
            have c15b0 : decide (0 ≤ x11_1) = true := decide_eq_true c15
            clear c15
            by_cases c16 : x11_1 < (t229.size : Int)
            ·rw [if_pos c16] at H
             have c16b0 : decide (x11_1 < (t229.size : Int)) = true := decide_eq_true c16
             clear c16
             by_cases c18 : (bt t229 x11_1) = 44
             ·rw [if_pos c18] at H
              have c18b0 : ((bt t229 x11_1) == 44) = true := beq_iff_eq.mpr c18
              have c18b1 : ((bt t229 x11_1) != 44) = false := bne_eq_false_iff_eq.mpr c18
              clear c18
              by_cases c19 : 0 ≤ x10_1
              ·rw [if_pos c19] at H
               have c19b0 := eq_true c19
               have c19b1 : decide (0 ≤ x10_1) = true := decide_eq_true c19
               clear c19
               by_cases c20 : x10_1 ≤ x11_1
               ·rw [if_pos c20] at H
                have c20b0 := eq_true c20
                have c20b1 : decide (x10_1 ≤ x11_1) = true := decide_eq_true c20
                clear c20
                by_cases c21 : x11_1 ≤ (t229.size : Int)
                ·rw [if_pos c21] at H
                 have c21b0 := eq_true c21
                 have c21b1 : decide (x11_1 ≤ (t229.size : Int)) = true := decide_eq_true c21
                 clear c21
                 replace H := Option.bind_eq_some_iff.mp H
                 obtain ⟨t235, A220, H⟩ := H
                 replace H : (if x8_1.length < 8796093022208 then (headers_Split.l0 kj9 t229 (x8_1 ++ [t235]) false (wrap64 (x11_1 + 1)) (wrap64 (x11_1 + 1))) else (none)) = some (r1, r2) := H
                 have A22 := Aside0.mk A220
                 clear A220
                 by_cases c23 : x8_1.length < 8796093022208
                 ·rw [if_pos c23] at H
                  have LMc23 := Aside0.mk c23
                  clear c23
                  obtain ⟨y236, hy236⟩ : ∃ y_ : List ByteArray, y_ = (x8_1 ++ [t235]) := ⟨_, rfl⟩
                  replace H : (headers_Split.l0 kj9 t229 y236 false (wrap64 (x11_1 + 1)) (wrap64 (x11_1 + 1))) = some (r1, r2) := by first | (rw [hy236]; with_reducible exact H) | (have H2_ := (Option.bind_some _ _).symm.trans H; rw [hy236]; with_reducible exact H2_) | (have H2_ := (Option.bind_some _ _).symm.trans H; with_reducible exact H2_) | with_reducible exact H | (rw [hy236]; exact H) | exact H
                  have Ny236 := Aside0.mk hy236
                  clear hy236
                  have H' := Aside0.mk H
                  clear H
                  have p17 : 0 ≤ (x11_1 : Int) := of_decide_eq_true aS
                  have q17 : x11_1 < (t229.size : Int) := of_decide_eq_true aS
                  have hx17 := bt_at t229 x11_1
                  replace p17 := eq_true p17
                  replace q17 := eq_true q17
                  go_wp2_with (first | ((with_reducible refine gate_callee (f := 125) rfl ?_); refine goesL_ (some 57) rfl rfl Tryd.func125 q20_ rfl #[.string (t229.extract (x10_1 : Int).toNat (x11_1 : Int).toNat), .string (⟨#[9, 32]⟩ : ByteArray)] rfl tS ?_; (with_reducible refine (strings_Trim.calls (t229.extract (x10_1 : Int).toNat (x11_1 : Int).toNat) (⟨#[9, 32]⟩ : ByteArray) t235 _ A22.out).mono ?_); rintro e w24 ⟨rfl, hb⟩; refine ⟨_, rfl, ?_⟩; have n0_ := Aside0.mk (Kd.R_below (by (with_reducible repeat (first | apply Kd.R_alloc | apply Kd.R_drewN | apply Kd.R_drew)); exact HO_8.out) hb); have n1_ := Aside0.mk (below_step hB hb); clear HO_8; clear HB; have HO_8 := n0_; have HB := n1_; clear n0_ n1_; (try clear hb); (try clear hb2); (try clear hk); (try clear hi)) | ((with_reducible refine gate_builtin (b := .append) (xs := #[.tmp 52, .tmp 58]) rfl ?_); at_builtin; refine Kd.R_append Kd.string (w0 := w) w.heap.size rfl (.tmp 52) (.tmp 58) 84 9 (.string ⟨#[]⟩) 16 rfl Tryd.underlying84 info9 rfl (by decide) (by omega) u8 x8_1 t235 [.string t235] (fun _ => True) (fun _ => False) rfl rfl ?aP (fun _ hk => hk.elim) ?aF ?aO ?aB ?aS ?aL ?_; (case aP => exact rfl); (case aB => exact hB); (case aF => exact (fun _ _ => trivial)); (case aO => exact (by (with_reducible repeat (first | apply Kd.R_alloc | apply Kd.R_drewN | apply Kd.R_drew)); exact HO_8.out)); (case aS => exact (below_size hB)); (case aL => have := LMc23.out; omega); intro v237 w25 ho hb hg hat; rw [← Ny236.out] at ho; have n0_ := Aside0.mk (hb); have n1_ := Aside0.mk (ho); clear HB; clear HO_8; have HB := n0_; have HO238 := n1_; clear n0_ n1_; clear ho hb hg hat))
                  go_roundg kj9
                  case measure => have := HK1.out; have := HJ9.out; omega
                  case rel => exact ⟨(y236), (false), (wrap64 (x11_1 + 1)), (wrap64 (x11_1 + 1)), rS, rS, rS, H', ⟨by have := HK1.out; have := HJ9.out; omega⟩, ⟨by (with_reducible repeat (first | apply Kd.R_alloc | apply Kd.R_drewN | apply Kd.R_drew)); exact HO238.out⟩, ⟨by repeat (first | (with_reducible first | exact HB.out | apply below_alloc | apply pw_below_drewN | apply below_drew1) | exact HB.out)⟩⟩
                 ·rw [if_neg c23] at H
                  exact absurd H (by simp)
                ·rw [if_neg c21] at H
                 exact absurd H (by simp)
               ·rw [if_neg c20] at H
                exact absurd H (by simp)
              ·rw [if_neg c19] at H
               exact absurd H (by simp)
             ·rw [if_neg c18] at H
              have c18b0 : ((bt t229 x11_1) == 44) = false := beq_eq_false_iff_ne.mpr c18
              have c18b1 : ((bt t229 x11_1) != 44) = true := bne_iff_ne.mpr c18
              have H' := Aside0.mk H
              clear H
              have p17 : 0 ≤ (x11_1 : Int) := of_decide_eq_true aS
              have q17 : x11_1 < (t229.size : Int) := of_decide_eq_true aS
              have hx17 := bt_at t229 x11_1
              replace p17 := eq_true p17
              replace q17 := eq_true q17
              go_wp2
              go_roundg kj9
              case measure => have := HK1.out; have := HJ9.out; omega
              case rel => exact ⟨(x8_1), (false), (x10_1), (wrap64 (x11_1 + 1)), rS, rS, rS, H', ⟨by have := HK1.out; have := HJ9.out; omega⟩, ⟨by (with_reducible repeat (first | apply Kd.R_alloc | apply Kd.R_drewN | apply Kd.R_drew)); exact HO_8.out⟩, ⟨by repeat (first | (with_reducible first | exact HB.out | apply below_alloc | apply pw_below_drewN | apply below_drew1) | exact HB.out)⟩⟩
            ·rw [if_neg c16] at H
             exact absurd H (by simp)
           ·rw [if_neg c15] at H
            exact absurd H (by simp)
     ·rw [if_neg c7] at H
      exact absurd H (by simp)
    ·rw [if_neg c6] at H
     have c6b0 : decide (x11_1 < (t229.size : Int)) = false := decide_eq_false c6
     clear c6
     by_cases c26 : 0 ≤ x10_1
     ·rw [if_pos c26] at H
      have c26b0 := eq_true c26
      have c26b1 : decide (0 ≤ x10_1) = true := decide_eq_true c26
      clear c26
      by_cases c27 : x10_1 ≤ (t229.size : Int)
      ·rw [if_pos c27] at H
       have c27b0 := eq_true c27
       have c27b1 : decide (x10_1 ≤ (t229.size : Int)) = true := decide_eq_true c27
       clear c27
       replace H := Option.bind_eq_some_iff.mp H
       obtain ⟨t231, A280, H⟩ := H
       replace H : (if x8_1.length < 8796093022208 then (some ((x8_1 ++ [t231]), true)) else (none)) = some (r1, r2) := H
       have A28 := Aside0.mk A280
       clear A280
       by_cases c29 : x8_1.length < 8796093022208
       ·rw [if_pos c29] at H
        have LMc29 := Aside0.mk c29
        clear c29
        obtain ⟨y232, hy232⟩ : ∃ y_ : List ByteArray, y_ = (x8_1 ++ [t231]) := ⟨_, rfl⟩
        replace H : (some (y232, true)) = some (r1, r2) := by first | (rw [hy232]; with_reducible exact H) | (have H2_ := (Option.bind_some _ _).symm.trans H; rw [hy232]; with_reducible exact H2_) | (have H2_ := (Option.bind_some _ _).symm.trans H; with_reducible exact H2_) | with_reducible exact H | (rw [hy232]; exact H) | exact H
        have Ny232 := Aside0.mk hy232
        clear hy232
        simp only [Option.some.injEq, Prod.mk.injEq] at H
        obtain ⟨rfl, rfl⟩ := H
        go_wp2_with (first | ((with_reducible refine gate_callee (f := 125) rfl ?_); refine goesL_ (some 66) rfl rfl Tryd.func125 q20_ rfl #[.string (t229.extract (x10_1 : Int).toNat t229.size), .string (⟨#[9, 32]⟩ : ByteArray)] rfl tS ?_; (with_reducible refine (strings_Trim.calls (t229.extract (x10_1 : Int).toNat t229.size) (⟨#[9, 32]⟩ : ByteArray) t231 _ A28.out).mono ?_); rintro e w30 ⟨rfl, hb⟩; refine ⟨_, rfl, ?_⟩; have n0_ := Aside0.mk (Kd.R_below (by (with_reducible repeat (first | apply Kd.R_alloc | apply Kd.R_drewN | apply Kd.R_drew)); exact HO_8.out) hb); have n1_ := Aside0.mk (below_step hB hb); clear HO_8; clear HB; have HO_8 := n0_; have HB := n1_; clear n0_ n1_; (try clear hb); (try clear hb2); (try clear hk); (try clear hi)) | ((with_reducible refine gate_builtin (b := .append) (xs := #[.tmp 62, .tmp 67]) rfl ?_); at_builtin; refine Kd.R_append Kd.string (w0 := w) w.heap.size rfl (.tmp 62) (.tmp 67) 84 9 (.string ⟨#[]⟩) 16 rfl Tryd.underlying84 info9 rfl (by decide) (by omega) u8 x8_1 t231 [.string t231] (fun _ => True) (fun _ => False) rfl rfl ?aP (fun _ hk => hk.elim) ?aF ?aO ?aB ?aS ?aL ?_; (case aP => exact rfl); (case aB => exact hB); (case aF => exact (fun _ _ => trivial)); (case aO => exact (by (with_reducible repeat (first | apply Kd.R_alloc | apply Kd.R_drewN | apply Kd.R_drew)); exact HO_8.out)); (case aS => exact (below_size hB)); (case aL => have := LMc29.out; omega); intro v233 w31 ho hb hg hat; rw [← Ny232.out] at ho; have n0_ := Aside0.mk (hb); have n1_ := Aside0.mk (ho); clear HB; clear HO_8; have HB := n0_; have HO234 := n1_; clear n0_ n1_; clear ho hb hg hat))
        go_ret2
        exact ⟨_, by first | rfl | (simp [errW_none, errW_some] <;> rfl) | (simp [*, errW_none, errW_some] <;> rfl), by (with_reducible repeat (first | apply Kd.R_alloc | apply Kd.R_drewN | apply Kd.R_drew)); exact HO234.out, by repeat (first | (with_reducible first | exact HB.out | apply below_alloc | apply pw_below_drewN | apply below_drew1) | exact HB.out)⟩
       ·rw [if_neg c29] at H
        exact absurd H (by simp)
      ·rw [if_neg c27] at H
       exact absurd H (by simp)
     ·rw [if_neg c26] at H
      exact absurd H (by simp)
 ·replace c4 := Bool.eq_false_iff.mpr c4
  subst c4
  have H1 : (some (([] : List ByteArray), false)) = some (r1, r2) := by rw [if_neg (show ¬ (false = true) by decide)] at H; exact H
  clear H
  have H := H1
  clear H1
  simp only [Option.some.injEq, Prod.mk.injEq] at H
  obtain ⟨rfl, rfl⟩ := H
  go_enter Tryd.func104, Tryd.ntmps104
  go_wp2_with (first | ((with_reducible refine gate_callee (f := 48) rfl ?_); refine goesL_ (some 15) rfl rfl Tryd.func48 q20_ rfl #[.slice A0 l0.length c0, .string a1] rfl tS ?_; (with_reducible refine (headers_Get.calls k _ _ l0 a1 t229 false _ ?side1 ?side2 A3.out).mono ?_); (case side1 => repeat (first | exact HR0.out | (with_reducible refine Kd.C_alloc ?_ _) | (with_reducible refine Kd.C_drewN ?_ _) | (with_reducible refine Kd.C_drew ?_))); (case side2 => exact HC0.out); rintro e w32 ⟨rfl, hb⟩; refine ⟨_, rfl, ?_⟩; have n0_ := Aside0.mk (below_step hB hb); clear HB; have HB := n0_; clear n0_; (try clear hb); (try clear hb2); (try clear hk); (try clear hi)))
  go_ret2
  exact ⟨_, by first | rfl | (simp [errW_none, errW_some] <;> rfl) | (simp [*, errW_none, errW_some] <;> rfl), by first | exact Kd.R_nil _ _ _ _ _ | exact Kd.N_nil _ _ _ _ _ | exact Kd.V_nil _ _ _ _ _ | exact Kd.Q_nil _ _ _ _ _ | exact Kd.S_nil _ _ _ _ _, by repeat (first | (with_reducible first | exact HB.out | apply below_alloc | apply pw_below_drewN | apply below_drew1) | exact HB.out)⟩
end Go.Proofs.YtifmkgkiipckbaaDoor.P
