/- A part of the proof of FS: texts of walks and plain lemmas. -/
import Derived.Shelf.SlIter.Nil
import Derived.Shelf.SortM.Plain
import Derived.Shelf.SortM.SortNone
import Derived.Ground.GgzProg
import Derived.Ground.SlgmProg
import Derived.Test.YtifmkgkiipckbaaGreatDoorProg
import Derived.Test.YtifmkgkiipckbaaGreatDoorXFS1
namespace Go.Proofs
open Go.Shelf
def Tryz.keys193_ren : Go.Shelf.Ren := ⟨fun | 7 => 193 | 10 => 231 | n => n, fun | 23 => 195 | 26 => 9 | 3 => 3 | 28 => 234 | 0 => 0 | 27 => 233 | 33 => 63 | 4 => 4 | n => n, fun | n => n⟩
theorem Tryz.keys193 : Go.Proofs.SlLaysZ.n7 Tryz.prog Tryz.keys193_ren := {
  mixed := by kernel_rfl
  f7 := ⟨Tryz.f193.name, by decide, Tryz.func193.trans (congrArg some (by kernel_rfl))⟩
  f10 := ⟨Tryz.f231.name, by decide, Tryz.func231.trans (congrArg some (by kernel_rfl))⟩
  t0 := Tryz.underlying0
  a0 := Tryz.isAgg0
  z0 := Tryz.sizeOf0
  v0 := Tryz.zeroValue0
  t4 := Tryz.underlying4
  a4 := Tryz.isAgg4
  z4 := Tryz.sizeOf4
  v4 := Tryz.zeroValue4
  t23 := Tryz.underlying195
  a23 := Tryz.isAgg195
  z23 := Tryz.sizeOf195
  v23 := Tryz.zeroValue195
  t26 := Tryz.underlying9
  a26 := Tryz.isAgg9
  z26 := Tryz.sizeOf9
  v26 := Tryz.zeroValue9
  t27 := Tryz.underlying233
  a27 := Tryz.isAgg233
  z27 := Tryz.sizeOf233
  v27 := Tryz.zeroValue233
  t28 := Tryz.underlying234
  a28 := Tryz.isAgg234
  z28 := Tryz.sizeOf234
  v28 := Tryz.zeroValue234
  t33 := Tryz.underlying63
  a33 := Tryz.isAgg63
  z33 := Tryz.sizeOf63
  v33 := Tryz.zeroValue63 }
def Tryz.sorted192_ren : Go.Shelf.Ren := ⟨fun | 6 => 192 | 8 => 230 | 9 => 119 | 11 => 251 | 13 => 166 | 12 => 165 | 23 => 204 | 24 => 205 | 14 => 195 | 15 => 196 | 16 => 197 | 17 => 198 | 18 => 199 | 19 => 200 | 20 => 201 | 21 => 202 | 22 => 203 | 25 => 232 | 26 => 233 | 27 => 234 | 28 => 235 | 29 => 236 | 30 => 237 | 31 => 252 | n => n, fun | 26 => 9 | 28 => 234 | 24 => 39 | 0 => 0 | 3 => 3 | 37 => 150 | 48 => 245 | 50 => 212 | 4 => 4 | 40 => 238 | 39 => 237 | 45 => 242 | 5 => 5 | 9 => 9 | 51 => 258 | 55 => 262 | 57 => 274 | 58 => 275 | 33 => 63 | n => n, fun | n => n⟩
theorem Tryz.sorted192 : Go.Proofs.SlLaysZ.n6 Tryz.prog Tryz.sorted192_ren := {
  mixed := by kernel_rfl
  f6 := ⟨Tryz.f192.name, by decide, Tryz.func192.trans (congrArg some (by kernel_rfl))⟩
  f8 := ⟨Tryz.f230.name, by decide, Tryz.func230.trans (congrArg some (by kernel_rfl))⟩
  f11 := ⟨Tryz.f251.name, by decide, Tryz.func251.trans (congrArg some (by kernel_rfl))⟩
  t0 := Tryz.underlying0
  a0 := Tryz.isAgg0
  z0 := Tryz.sizeOf0
  v0 := Tryz.zeroValue0
  t24 := Tryz.underlying39
  a24 := Tryz.isAgg39
  z24 := Tryz.sizeOf39
  v24 := Tryz.zeroValue39
  t26 := Tryz.underlying9
  a26 := Tryz.isAgg9
  z26 := Tryz.sizeOf9
  v26 := Tryz.zeroValue9
  t28 := Tryz.underlying234
  a28 := Tryz.isAgg234
  z28 := Tryz.sizeOf234
  v28 := Tryz.zeroValue234
  i26 := by kernel_rfl }
def Tryz.sort119_ren : Go.Shelf.Ren := ⟨fun | 6 => 119 | 8 => 166 | 9 => 165 | 19 => 204 | 20 => 205 | 21 => 195 | 22 => 196 | 23 => 197 | 24 => 198 | 25 => 199 | 26 => 200 | 27 => 201 | 28 => 202 | 29 => 203 | 36 => 232 | 31 => 233 | 32 => 234 | 37 => 235 | 38 => 236 | 39 => 237 | 41 => 252 | n => n, fun | 27 => 39 | 29 => 9 | 3 => 3 | 32 => 150 | 26 => 39 | 0 => 0 | 44 => 245 | 46 => 212 | 4 => 4 | 36 => 238 | 35 => 237 | 41 => 242 | 5 => 5 | 9 => 9 | 53 => 258 | 57 => 262 | 63 => 274 | 64 => 275 | n => n, fun | n => n⟩
theorem Tryz.sort119 : Go.Proofs.SlLaysM.n6 Tryz.prog Tryz.sort119_ren := {
  mixed := by kernel_rfl
  f6 := ⟨Tryz.f119.name, by decide, Tryz.func119.trans (congrArg some (by kernel_rfl))⟩
  f8 := Tryz.func166.trans (congrArg some (by kernel_rfl))
  f9 := ⟨Tryz.f165.name, by decide, Tryz.func165.trans (congrArg some (by kernel_rfl))⟩
  f19 := Tryz.func204.trans (congrArg some (by kernel_rfl))
  f20 := Tryz.func205.trans (congrArg some (by kernel_rfl))
  f21 := ⟨Tryz.f195.name, by decide, Tryz.func195.trans (congrArg some (by kernel_rfl))⟩
  f22 := ⟨Tryz.f196.name, by decide, Tryz.func196.trans (congrArg some (by kernel_rfl))⟩
  f23 := ⟨Tryz.f197.name, by decide, Tryz.func197.trans (congrArg some (by kernel_rfl))⟩
  f24 := ⟨Tryz.f198.name, by decide, Tryz.func198.trans (congrArg some (by kernel_rfl))⟩
  f25 := ⟨Tryz.f199.name, by decide, Tryz.func199.trans (congrArg some (by kernel_rfl))⟩
  f26 := ⟨Tryz.f200.name, by decide, Tryz.func200.trans (congrArg some (by kernel_rfl))⟩
  f27 := ⟨Tryz.f201.name, by decide, Tryz.func201.trans (congrArg some (by kernel_rfl))⟩
  f28 := ⟨Tryz.f202.name, by decide, Tryz.func202.trans (congrArg some (by kernel_rfl))⟩
  f29 := ⟨Tryz.f203.name, by decide, Tryz.func203.trans (congrArg some (by kernel_rfl))⟩
  f31 := Tryz.func233.trans (congrArg some (by kernel_rfl))
  f32 := Tryz.func234.trans (congrArg some (by kernel_rfl))
  f36 := ⟨Tryz.f232.name, by decide, Tryz.func232.trans (congrArg some (by kernel_rfl))⟩
  f37 := ⟨Tryz.f235.name, by decide, Tryz.func235.trans (congrArg some (by kernel_rfl))⟩
  f38 := ⟨Tryz.f236.name, by decide, Tryz.func236.trans (congrArg some (by kernel_rfl))⟩
  f39 := ⟨Tryz.f237.name, by decide, Tryz.func237.trans (congrArg some (by kernel_rfl))⟩
  f41 := ⟨Tryz.f252.name, by decide, Tryz.func252.trans (congrArg some (by kernel_rfl))⟩
  t0 := Tryz.underlying0
  a0 := Tryz.isAgg0
  z0 := Tryz.sizeOf0
  v0 := Tryz.zeroValue0
  t3 := Tryz.underlying3
  a3 := Tryz.isAgg3
  z3 := Tryz.sizeOf3
  v3 := Tryz.zeroValue3
  t4 := Tryz.underlying4
  a4 := Tryz.isAgg4
  z4 := Tryz.sizeOf4
  v4 := Tryz.zeroValue4
  t5 := Tryz.underlying5
  a5 := Tryz.isAgg5
  z5 := Tryz.sizeOf5
  v5 := Tryz.zeroValue5
  t9 := Tryz.underlying9
  a9 := Tryz.isAgg9
  z9 := Tryz.sizeOf9
  v9 := Tryz.zeroValue9
  t26 := Tryz.underlying39
  a26 := Tryz.isAgg39
  z26 := Tryz.sizeOf39
  v26 := Tryz.zeroValue39
  t27 := Tryz.underlying39
  a27 := Tryz.isAgg39
  z27 := Tryz.sizeOf39
  v27 := Tryz.zeroValue39
  t29 := Tryz.underlying9
  a29 := Tryz.isAgg9
  z29 := Tryz.sizeOf9
  v29 := Tryz.zeroValue9
  t32 := Tryz.underlying150
  a32 := Tryz.isAgg150
  z32 := Tryz.sizeOf150
  v32 := Tryz.zeroValue150
  t35 := Tryz.underlying237
  a35 := Tryz.isAgg237
  z35 := Tryz.sizeOf237
  v35 := Tryz.zeroValue237
  t36 := Tryz.underlying238
  a36 := Tryz.isAgg238
  z36 := Tryz.sizeOf238
  v36 := Tryz.zeroValue238
  t41 := Tryz.underlying242
  a41 := Tryz.isAgg242
  z41 := Tryz.sizeOf242
  v41 := Tryz.zeroValue242
  t44 := Tryz.underlying245
  a44 := Tryz.isAgg245
  z44 := Tryz.sizeOf245
  v44 := Tryz.zeroValue245
  t46 := Tryz.underlying212
  a46 := Tryz.isAgg212
  z46 := Tryz.sizeOf212
  v46 := Tryz.zeroValue212
  t53 := Tryz.underlying258
  a53 := Tryz.isAgg258
  z53 := Tryz.sizeOf258
  v53 := Tryz.zeroValue258
  t57 := Tryz.underlying262
  a57 := Tryz.isAgg262
  z57 := Tryz.sizeOf262
  v57 := Tryz.zeroValue262
  t63 := Tryz.underlying274
  a63 := Tryz.isAgg274
  z63 := Tryz.sizeOf274
  v63 := Tryz.zeroValue274
  t64 := Tryz.underlying275
  a64 := Tryz.isAgg275
  z64 := Tryz.sizeOf275
  v64 := Tryz.zeroValue275 }
open Go.RowKit Go.Maps Go.Sort in set_option maxHeartbeats 1000000 in
theorem Tryz.sorts192 (m : Nat) : AnyZ.SortsIn Tryz.prog Tryz.sorted192_ren Fence.wide m :=
  ⟨fun blk off cap ss W hH hblk hsz => callsIn_wide.2 (AnyM.slices_Sort_string Tryz.sort119 blk off cap ss W hH hblk hsz),
   fun p cap W => callsIn_wide.2 (AnyM.slices_Sort_string_none Tryz.sort119 p cap W)⟩
open Go.RowKit Go.Maps Go.Sort in set_option maxHeartbeats 1000000 in
theorem Tryz.maps_Keys_193 (mb : Option Nat) (W : World) : CallsIn Fence.wide 5 Tryz.prog 193 #[.map mb] W fun e w' => e = .returned (.func (.func 231) #[] #[.pointer (some ⟨W.heap.size, 0, none⟩)]) ∧ w' = W.alloc (.cells #[.map mb] 195) :=
  AnyZ.keys_in Tryz.keys193 Fence.wide 5 trivial rfl mb W
open Go.RowKit Go.Maps Go.Sort in set_option maxHeartbeats 1000000 in
theorem Tryz.slices_Sorted_keys_192_193 {H : Type} (b nn : Nat) (D0 : DataW H) (R : Value → Option (DataW H × List MemPlace)) (w : World) (hown : w.ownsMap Tryz.prog 9 R b nn D0) (hmax : Maps.size D0 ≤ maxLen) (hbytes : Maps.size D0 * 16 ≤ 140737488355328) :
    CallsIn Fence.wide 5 Tryz.prog 192 #[.func (.func 231) #[] #[.pointer (some ⟨w.heap.size, 0, none⟩)]] (w.alloc (.cells #[.map (some b)] 195)) fun e w' => ∃ (v : Value) (ss : List (List UInt8)), e = .returned v ∧ ss.Perm (strKeys D0) ∧
      w'.ownsRow (w.alloc (.cells #[.map (some b)] 195)).heap.size 9 1 v ss.length ((ss.mergeSort (fun x y => decide (x ≤ y))).map encStr) ∧ (v = .slice none 0 0 ↔ ss = []) ∧ Below (w.alloc (.cells #[.map (some b)] 195)).heap.size (w.alloc (.cells #[.map (some b)] 195)) w' := by
  have hbl := hown.lt
  have hseq : SeqGives Fence.wide 2 Tryz.prog 231 #[.pointer (some ⟨w.heap.size, 0, none⟩)] encStr (fun ss => ss.Perm (strKeys D0)) (Maps.size D0) (w.alloc (.cells #[.map (some b)] 195)) :=
    AnyZ.keys_gives (ρ := Tryz.keys193_ren) { Tryz.keys193 with } Fence.wide _ trivial rfl (by omega) w.heap.size b nn D0 _ (by simp) (by simp) (by
      obtain ⟨es, clock, hb, Ft, hs, hD⟩ := hown
      exact ⟨es, clock, (Below.heap_alloc _ _ b hbl).trans hb, Ft, hs, hD⟩)
  exact AnyZ.sorted_in Tryz.sorted192 Fence.wide 5 trivial trivial trivial trivial rfl (by omega) (Tryz.sorts192 _) (enters_of Tryz.func119 (by kernel_rfl) rfl) 231 #[.pointer (some ⟨w.heap.size, 0, none⟩)] trivial (enters_of Tryz.func231 (by kernel_rfl) rfl) _ _ hmax hbytes _ hseq
end Go.Proofs
namespace Go.Proofs.YtifmkgkiipckbaaGreatDoor.P
open Go.RowKit Go.Proofs.YtifmkgkiipckbaaGreatDoorW.PrintWords Go.Proofs.YtifmkgkiipckbaaGreatDoorW.PrintLast Go.Proofs.YtifmkgkiipckbaaGreatDoorW.PrintMore
attribute [local go_sem] max2_int min2_int max_two min_two max_three min_three max_four min_four
set_option linter.unusedVariables false
set_option linter.unusedSimpArgs false
def headers_is.f (a0_0 : ByteArray) (a0_1 : ByteArray) (a1 : ByteArray) : Option (Bool) := (infra_Lower.f a0_0).bind fun t326 => ((infra_Lower.f a1).bind fun t327 => (some (t326.toList == t327.toList)))
set_option maxHeartbeats 8000000 in
set_option maxRecDepth 100000 in
theorem headers_is.calls (a0_0 : ByteArray) (a0_1 : ByteArray) (a1 : ByteArray) (r : Bool) (w : World) (h : headers_is.f a0_0 a0_1 a1 = some r) :
  Calls Tryz.prog 125 #[.agg #[.string a0_0, .string a0_1], .string a1] w fun e w' => e = .returned (.bool r) ∧ Below w.heap.size w w' := by
 have hu30 := Tryz.underlying30
 have HB := Aside0.mk (Below.refl w.heap.size w)
 have H : ((infra_Lower.f a0_0).bind fun t326 => ((infra_Lower.f a1).bind fun t327 => (some (t326.toList == t327.toList)))) = some r := h
 clear h
 replace H := Option.bind_eq_some_iff.mp H
 obtain ⟨t326, A30, H⟩ := H
 replace H : ((infra_Lower.f a1).bind fun t327 => (some (t326.toList == t327.toList))) = some r := H
 have A3 := Aside0.mk A30
 clear A30
 replace H := Option.bind_eq_some_iff.mp H
 obtain ⟨t327, A40, H⟩ := H
 replace H : (some (t326.toList == t327.toList)) = some r := H
 have A4 := Aside0.mk A40
 clear A40
 obtain rfl := Option.some.inj H
 go_enter Tryz.func125, Tryz.ntmps125
 have tok0 : True := trivial
 have tok1 : True := trivial
 have tok2 : True := trivial
 go_wp2_with (first | (revert tok0; intro tok0; (with_reducible refine gate_dst (N := 2) rfl ?_); refine box_event ?hg (N := 2) ?hd (cs := #[.string a0_0, .string a0_1]) (t := 30) ?hr ?_; (case hd => rfl); (case hg => rfl); (case hr => first | (go_simp; done) | (go_simp; rfl)); intro gb325 hg w5 hbox hb; have n0_ := Aside0.mk (below_step hB hb); have n1_ := Aside0.mk (hbox); have n2_ := Aside0.mk ((by rw [hg]; exact (below_size hB) : w.heap.size ≤ gb325)); have n3_ := Aside0.mk ((by rw [hg]; exact (below_size hB) : w.heap.size ≤ gb325)); clear HB; have HB := n0_; have BK325 := n1_; have GW325 := n2_; have GE325 := n3_; clear n0_ n1_ n2_ n3_; clear hb hbox hg; have hcz6_0 : w5.cell? ⟨gb325, 0, none⟩ = some (.string a0_0) := (blk_cell BK325.out 0).trans rfl; have hcz6_1 : w5.cell? ⟨gb325, 1, none⟩ = some (.string a0_1) := (blk_cell BK325.out 1).trans rfl; have hfz6_0 := blk_frozen BK325.out 0; have hfz6_1 := blk_frozen BK325.out 1; clear tok0) | (revert tok1; intro tok1; (with_reducible refine gate_callee (f := 118) rfl ?_); refine goesL_ (some 7) rfl rfl Tryz.func118 q9_ rfl #[.string a0_0] rfl tS ?_; (with_reducible refine (infra_Lower.calls a0_0 t326 _ A3.out).mono ?_); rintro e w7 ⟨rfl, hb⟩; refine ⟨_, rfl, ?_⟩; have n0_ := Aside0.mk (blk_below (g := gb325) (o := .cells #[.string a0_0, .string a0_1] 30 (0, 0)) (by (with_reducible repeat (first | refine blk_drewN ?_ _ | refine blk_drew ?_ | refine blk_alloc ?_ _)); exact BK325.out) hb); have n1_ := Aside0.mk (below_step (by repeat (first | (with_reducible first | exact HB.out | apply below_alloc | apply pw_below_drewN | apply below_drew1 | refine below_set ?_ GE325.out) | exact HB.out)) hb); clear BK325; clear HB; have BK325 := n0_; have HB := n1_; clear n0_ n1_; (try clear hb); (try clear hb2); (try clear hk); (try clear hi); clear tok1) | (revert tok2; intro tok2; (with_reducible refine gate_callee (f := 118) rfl ?_); refine goesL_ (some 9) rfl rfl Tryz.func118 q9_ rfl #[.string a1] rfl tS ?_; (with_reducible refine (infra_Lower.calls a1 t327 _ A4.out).mono ?_); rintro e w8 ⟨rfl, hb⟩; refine ⟨_, rfl, ?_⟩; have n0_ := Aside0.mk (blk_below (g := gb325) (o := .cells #[.string a0_0, .string a0_1] 30 (0, 0)) (by (with_reducible repeat (first | refine blk_drewN ?_ _ | refine blk_drew ?_ | refine blk_alloc ?_ _)); exact BK325.out) hb); have n1_ := Aside0.mk (below_step (by repeat (first | (with_reducible first | exact HB.out | apply below_alloc | apply pw_below_drewN | apply below_drew1 | refine below_set ?_ GE325.out) | exact HB.out)) hb); clear BK325; clear HB; have BK325 := n0_; have HB := n1_; clear n0_ n1_; (try clear hb); (try clear hb2); (try clear hk); (try clear hi); clear tok2))
 go_ret
 exact ⟨by first | rfl | (simp [errW_none, errW_some] <;> rfl) | (simp [*, errW_none, errW_some] <;> rfl), by repeat (first | (with_reducible first | exact HB.out | apply below_alloc | apply pw_below_drewN | apply below_drew1 | refine below_set ?_ GE325.out) | exact HB.out)⟩
end Go.Proofs.YtifmkgkiipckbaaGreatDoor.P
namespace Go.Proofs.YtifmkgkiipckbaaGreatDoor.P
open Go.RowKit Go.Proofs.YtifmkgkiipckbaaGreatDoorW.PrintWords Go.Proofs.YtifmkgkiipckbaaGreatDoorW.PrintLast Go.Proofs.YtifmkgkiipckbaaGreatDoorW.PrintMore
attribute [local go_sem] max2_int min2_int max_two min_two max_three min_three max_four min_four
set_option linter.unusedVariables false
set_option linter.unusedSimpArgs false
def headers_Get.l0 : Nat → ByteArray → List ByteArray → List (S30) → Int → Int → Option (ByteArray × Bool)
 | 0, _, _, _, _, _ => none
 | k + 1, x1, x6, x9, x10, x11 => if x11 < x10 then (if 0 ≤ x11 then (if x11 < (x9.length : Int) then ((headers_is.f ((rd_T30 x9 x11).f0) ((rd_T30 x9 x11).f1) x1).bind fun t330 => (if t330 = true then (if x6.length < 8796093022208 then (headers_Get.l0 k x1 (x6 ++ [(rd_T30 x9 x11).f1]) x9 x10 (wrap64 (x11 + 1))) else (none)) else (headers_Get.l0 k x1 x6 x9 x10 (wrap64 (x11 + 1))))) else (none)) else (none)) else ((strings_Join.f x6 (⟨#[44, 32]⟩ : ByteArray)).bind fun t334 => (some (t334, decide ((x6.length : Int) > 0))))
def headers_Get.f (k : Nat) (l0 : List (S30)) (a1 : ByteArray) : Option (ByteArray × Bool) := headers_Get.l0 k a1 ([] : List ByteArray) l0 (l0.length : Int) 0
theorem headers_Get.mono_l : ∀ k, (∀ y0 y1 y2 y3 y4, LeO (headers_Get.l0 k y0 y1 y2 y3 y4) (headers_Get.l0 (k + 1) y0 y1 y2 y3 y4))
 | 0 => fun _ _ _ _ _ r h => by simp [headers_Get.l0] at h
 | k + 1 => by
  have ih0 := headers_Get.mono_l k
  ·intro y0 y1 y2 y3 y4
   unfold headers_Get.l0
   exact lO
theorem headers_Get.mono : ∀ a0 a1 k, LeO (headers_Get.f k a0 a1) (headers_Get.f (k + 1) a0 a1) := by
 intro a0 a1 k
 have ih0 := headers_Get.mono_l k
 unfold headers_Get.f
 exact lO
set_option maxHeartbeats 8000000 in
set_option maxRecDepth 100000 in
theorem headers_Get.calls (k : Nat) (A0 : Option Addr) (c0 : Nat) (l0 : List (S30)) (a1 : ByteArray) (r1 : ByteArray) (r2 : Bool) (w : World) (hr0 : Kd.C k30 w A0 l0.length l0) (hc0 : l0.length ≤ c0) (h : headers_Get.f k l0 a1 = some (r1, r2)) :
  Calls Tryz.prog 67 #[.slice A0 l0.length c0, .string a1] w fun e w' => e = .returned (.tuple #[.string r1, .bool r2]) ∧ Below w.heap.size w w' := by
 have hu30 := Tryz.underlying30
 have HR0 := Aside0.mk hr0
 have HC0 := Aside0.mk hc0
 clear hr0 hc0
 have HB := Aside0.mk (Below.refl w.heap.size w)
 have H : (headers_Get.l0 k a1 ([] : List ByteArray) l0 (l0.length : Int) 0) = some (r1, r2) := h
 clear h
 have H' := Aside0.mk H
 clear H
 go_enter Tryz.func67, Tryz.ntmps67
 go_wp2
 go_loopg [6, 11] k (fun kq v6 v11 w' => ∃ (x6_1 : List ByteArray) (x11_1 : Int), v11 = .int .i64 x11_1 ∧ Aside0 (headers_Get.l0 kq a1 x6_1 l0 (l0.length : Int) x11_1 = some (r1, r2)) ∧ Aside0 (kq ≤ k) ∧ Aside0 (Kd.R Kd.string 9 w' w.heap.size (fun _ => True) v6 x6_1) ∧ Aside0 (Below w.heap.size w w'))
 case atStart => exact ⟨(([] : List ByteArray)), (0), rS, H', ⟨Nat.le_refl _⟩, ⟨by first | exact Kd.R_nil _ _ _ _ _ | exact Kd.N_nil _ _ _ _ _ | exact Kd.V_nil _ _ _ _ _ | exact Kd.Q_nil _ _ _ _ _ | exact Kd.S_nil _ _ _ _ _⟩, ⟨by repeat (first | (with_reducible first | exact HB.out | apply below_alloc | apply pw_below_drewN | apply below_drew1) | exact HB.out)⟩⟩
 case round =>
  clear H'
  try clear p2
  obtain ⟨x6_1, x11_1, rfl, HA, HK1, HO_6, HB⟩ := hrel
  cases gk with
  | zero => exact absurd HA.out (by simp [headers_Get.l0])
  | succ k1 =>
   have H := HA.out
   clear HA
   simp only [headers_Get.l0] at H
   by_cases c3 : x11_1 < (l0.length : Int)
   ·rw [if_pos c3] at H
    have c3b0 : decide (x11_1 < (l0.length : Int)) = true := decide_eq_true c3
    clear c3
    by_cases c4 : 0 ≤ x11_1
    ·rw [if_pos c4] at H
     have c4b0 : decide (0 ≤ x11_1) = true := decide_eq_true c4
     clear c4
     by_cases c5 : x11_1 < (l0.length : Int)
     ·rw [if_pos c5] at H
      have c5b0 : decide (x11_1 < (l0.length : Int)) = true := decide_eq_true c5
      clear c5
      replace H := Option.bind_eq_some_iff.mp H
      obtain ⟨t330, A60, H⟩ := H
      replace H : (if t330 = true then (if x6_1.length < 8796093022208 then (headers_Get.l0 k1 a1 (x6_1 ++ [(rd_T30 l0 x11_1).f1]) l0 (l0.length : Int) (wrap64 (x11_1 + 1))) else (none)) else (headers_Get.l0 k1 a1 x6_1 l0 (l0.length : Int) (wrap64 (x11_1 + 1)))) = some (r1, r2) := H
      have A6 := Aside0.mk A60
      clear A60
      by_cases c7 : t330 = true
      ·subst c7
       have H1 : (if x6_1.length < 8796093022208 then (headers_Get.l0 k1 a1 (x6_1 ++ [(rd_T30 l0 x11_1).f1]) l0 (l0.length : Int) (wrap64 (x11_1 + 1))) else (none)) = some (r1, r2) := by rw [if_pos rfl] at H; exact H
       clear H
       have H := H1
       clear H1
       by_cases c8 : x6_1.length < 8796093022208
       ·rw [if_pos c8] at H
        have LMc8 := Aside0.mk c8
        clear c8
        obtain ⟨y331, hy331⟩ : ∃ y_ : List ByteArray, y_ = (x6_1 ++ [(rd_T30 l0 x11_1).f1]) := ⟨_, rfl⟩
        replace H : (headers_Get.l0 k1 a1 y331 l0 (l0.length : Int) (wrap64 (x11_1 + 1))) = some (r1, r2) := by first | (rw [hy331]; with_reducible exact H) | (have H2_ := (Option.bind_some _ _).symm.trans H; rw [hy331]; with_reducible exact H2_) | (have H2_ := (Option.bind_some _ _).symm.trans H; with_reducible exact H2_) | with_reducible exact H | (rw [hy331]; exact H) | exact H
        have Ny331 := Aside0.mk hy331
        clear hy331
        have H' := Aside0.mk H
        clear H
        have p328 : 0 ≤ (x11_1 : Int) := of_decide_eq_true aS
        have q328 : x11_1 < (l0.length : Int) := of_decide_eq_true aS
        obtain ⟨ad328, e328, hx328_0, hx328_1⟩ := at_T30 HR0.out x11_1 p328 q328
        cases e328
        replace hx328_0 := (HB.out.cell (World.block_lt_of_cell? w _ hx328_0)).trans hx328_0
        replace hx328_1 := (HB.out.cell (World.block_lt_of_cell? w _ hx328_1)).trans hx328_1
        replace p328 := eq_true p328
        replace q328 := eq_true q328
        go_wp2_with (first | ((with_reducible refine gate_dst (N := 8) rfl ?_); refine box_event ?hg (N := 8) ?hd (cs := #[.string (⟨#[]⟩ : ByteArray), .string (⟨#[]⟩ : ByteArray)]) (t := 30) ?hr ?_; (case hd => rfl); (case hg => rfl); (case hr => first | (go_simp; done) | (go_simp; rfl)); intro gb329 hg w9 hbox hb; have n0_ := Aside0.mk (Kd.R_below (by (with_reducible repeat (first | apply Kd.R_alloc | apply Kd.R_drewN | apply Kd.R_drew)); exact HO_6.out) hb); have n1_ := Aside0.mk (below_step hB hb); have n2_ := Aside0.mk (hbox); have n3_ := Aside0.mk ((by rw [hg]; exact (below_size hB) : w.heap.size ≤ gb329)); have n4_ := Aside0.mk ((by rw [hg]; exact (below_size hB) : w.heap.size ≤ gb329)); clear HO_6; clear HB; have HO_6 := n0_; have HB := n1_; have BK329 := n2_; have GW329 := n3_; have GE329 := n4_; clear n0_ n1_ n2_ n3_ n4_; clear hb hbox hg; have hcz10_0 : w9.cell? ⟨gb329, 0, none⟩ = some (.string (⟨#[]⟩ : ByteArray)) := (blk_cell BK329.out 0).trans rfl; have hcz10_1 : w9.cell? ⟨gb329, 1, none⟩ = some (.string (⟨#[]⟩ : ByteArray)) := (blk_cell BK329.out 1).trans rfl; have hfz10_0 := blk_frozen BK329.out 0; have hfz10_1 := blk_frozen BK329.out 1) | ((with_reducible refine gate_callee (f := 125) rfl ?_); refine goesL_ (some 17) rfl rfl Tryz.func125 q9_ rfl #[.agg #[.string ((rd_T30 l0 x11_1).f0), .string ((rd_T30 l0 x11_1).f1)], .string a1] rfl tS ?_; (with_reducible refine (headers_is.calls ((rd_T30 l0 x11_1).f0) ((rd_T30 l0 x11_1).f1) a1 true _ A6.out).mono ?_); rintro e w11 ⟨rfl, hb⟩; refine ⟨_, rfl, ?_⟩; have n0_ := Aside0.mk (Kd.R_below (by (with_reducible repeat (first | apply Kd.R_alloc | apply Kd.R_drewN | apply Kd.R_drew)); exact (Kd.R_mono (Kd.R_far (p := ⟨gb329, 1, none⟩) (Kd.R_far (p := ⟨gb329, 0, none⟩) (Kd.R_types HO_6.out BK329.out (by decide)) (fun _ hk => hk.2) (.string ((rd_T30 l0 x11_1).f0))) (fun _ hk => hk.2) (.string ((rd_T30 l0 x11_1).f1))) (fun _ h_ => h_.1))) hb); have n1_ := Aside0.mk (blk_below (g := gb329) (o := .cells #[.string ((rd_T30 l0 x11_1).f0), .string ((rd_T30 l0 x11_1).f1)] 30 (0, 0)) (by (with_reducible repeat (first | refine blk_drewN ?_ _ | refine blk_drew ?_ | refine blk_alloc ?_ _)); refine blk_put (cs := #[.string ((rd_T30 l0 x11_1).f0), .string (⟨#[]⟩ : ByteArray)]) ?_ 1 _ rfl; (with_reducible repeat (first | refine blk_drewN ?_ _ | refine blk_drew ?_ | refine blk_alloc ?_ _)); refine blk_put (cs := #[.string (⟨#[]⟩ : ByteArray), .string (⟨#[]⟩ : ByteArray)]) ?_ 0 _ rfl; (with_reducible repeat (first | refine blk_drewN ?_ _ | refine blk_drew ?_ | refine blk_alloc ?_ _)); exact BK329.out) hb); have n2_ := Aside0.mk (below_step (by repeat (first | (with_reducible first | exact HB.out | apply below_alloc | apply pw_below_drewN | apply below_drew1 | refine below_set ?_ GE329.out) | exact HB.out)) hb); clear HO_6; clear BK329; clear HB; have HO_6 := n0_; have BK329 := n1_; have HB := n2_; clear n0_ n1_ n2_; (try clear hb); (try clear hb2); (try clear hk); (try clear hi); have hcz12_0 : w11.cell? ⟨gb329, 0, none⟩ = some (.string ((rd_T30 l0 x11_1).f0)) := (blk_cell BK329.out 0).trans rfl; have hcz12_1 : w11.cell? ⟨gb329, 1, none⟩ = some (.string ((rd_T30 l0 x11_1).f1)) := (blk_cell BK329.out 1).trans rfl; have hfz12_0 := blk_frozen BK329.out 0; have hfz12_1 := blk_frozen BK329.out 1) | ((with_reducible refine gate_builtin (b := .append) (xs := #[.tmp 18, .tmp 21]) rfl ?_); at_builtin; refine Kd.R_append Kd.string (w0 := w) w.heap.size rfl (.tmp 18) (.tmp 21) 39 9 (.string ⟨#[]⟩) 16 rfl Tryz.underlying39 info9 rfl (by decide) (by omega) u6 x6_1 ((rd_T30 l0 x11_1).f1) [.string ((rd_T30 l0 x11_1).f1)] (fun _ => True) (fun _ => False) rfl rfl ?aP (fun _ hk => hk.elim) ?aF ?aO ?aB ?aS ?aL ?_; (case aP => exact rfl); (case aB => exact (by repeat (first | (with_reducible first | exact HB.out | apply below_alloc | apply pw_below_drewN | apply below_drew1 | refine below_set ?_ GE329.out) | exact HB.out))); (case aF => exact (fun _ _ => trivial)); (case aO => exact (by (with_reducible repeat (first | apply Kd.R_alloc | apply Kd.R_drewN | apply Kd.R_drew)); exact HO_6.out)); (case aS => exact (below_size (by repeat (first | (with_reducible first | exact HB.out | apply below_alloc | apply pw_below_drewN | apply below_drew1 | refine below_set ?_ GE329.out) | exact HB.out)))); (case aL => have := LMc8.out; omega); intro v332 w13 ho hb hg hat; rw [← Ny331.out] at ho; have n0_ := Aside0.mk (blk_grown (g := gb329) (o := .cells #[.string ((rd_T30 l0 x11_1).f0), .string ((rd_T30 l0 x11_1).f1)] 30 (0, 0)) (by (with_reducible repeat (first | refine blk_drewN ?_ _ | refine blk_drew ?_ | refine blk_alloc ?_ _)); exact BK329.out) hg (Kd.R_ne HO_6.out BK329.out (by decide))); have n1_ := Aside0.mk (hb); have n2_ := Aside0.mk (ho); clear BK329; clear HB; clear HO_6; have BK329 := n0_; have HB := n1_; have HO333 := n2_; clear n0_ n1_ n2_; clear ho hb hg hat))
        go_roundg k1
        case measure => have := HK1.out; omega
        case rel => exact ⟨(y331), (wrap64 (x11_1 + 1)), rS, H', ⟨by have := HK1.out; omega⟩, ⟨by (with_reducible repeat (first | apply Kd.R_alloc | apply Kd.R_drewN | apply Kd.R_drew)); exact HO333.out⟩, ⟨by repeat (first | (with_reducible first | exact HB.out | apply below_alloc | apply pw_below_drewN | apply below_drew1 | refine below_set ?_ GE329.out) | exact HB.out)⟩⟩
       ·rw [if_neg c8] at H
        exact absurd H (by simp)
      ·replace c7 := Bool.eq_false_iff.mpr c7
       subst c7
       have H1 : (headers_Get.l0 k1 a1 x6_1 l0 (l0.length : Int) (wrap64 (x11_1 + 1))) = some (r1, r2) := by rw [if_neg (show ¬ (false = true) by decide)] at H; exact H
       clear H
       have H := H1
       clear H1
       have H' := Aside0.mk H
       clear H
       have p328 : 0 ≤ (x11_1 : Int) := of_decide_eq_true aS
       have q328 : x11_1 < (l0.length : Int) := of_decide_eq_true aS
       obtain ⟨ad328, e328, hx328_0, hx328_1⟩ := at_T30 HR0.out x11_1 p328 q328
       cases e328
       replace hx328_0 := (HB.out.cell (World.block_lt_of_cell? w _ hx328_0)).trans hx328_0
       replace hx328_1 := (HB.out.cell (World.block_lt_of_cell? w _ hx328_1)).trans hx328_1
       replace p328 := eq_true p328
       replace q328 := eq_true q328
       go_wp2_with (first | ((with_reducible refine gate_dst (N := 8) rfl ?_); refine box_event ?hg (N := 8) ?hd (cs := #[.string (⟨#[]⟩ : ByteArray), .string (⟨#[]⟩ : ByteArray)]) (t := 30) ?hr ?_; (case hd => rfl); (case hg => rfl); (case hr => first | (go_simp; done) | (go_simp; rfl)); intro gb329 hg w14 hbox hb; have n0_ := Aside0.mk (Kd.R_below (by (with_reducible repeat (first | apply Kd.R_alloc | apply Kd.R_drewN | apply Kd.R_drew)); exact HO_6.out) hb); have n1_ := Aside0.mk (below_step hB hb); have n2_ := Aside0.mk (hbox); have n3_ := Aside0.mk ((by rw [hg]; exact (below_size hB) : w.heap.size ≤ gb329)); have n4_ := Aside0.mk ((by rw [hg]; exact (below_size hB) : w.heap.size ≤ gb329)); clear HO_6; clear HB; have HO_6 := n0_; have HB := n1_; have BK329 := n2_; have GW329 := n3_; have GE329 := n4_; clear n0_ n1_ n2_ n3_ n4_; clear hb hbox hg; have hcz15_0 : w14.cell? ⟨gb329, 0, none⟩ = some (.string (⟨#[]⟩ : ByteArray)) := (blk_cell BK329.out 0).trans rfl; have hcz15_1 : w14.cell? ⟨gb329, 1, none⟩ = some (.string (⟨#[]⟩ : ByteArray)) := (blk_cell BK329.out 1).trans rfl; have hfz15_0 := blk_frozen BK329.out 0; have hfz15_1 := blk_frozen BK329.out 1) | ((with_reducible refine gate_callee (f := 125) rfl ?_); refine goesL_ (some 17) rfl rfl Tryz.func125 q9_ rfl #[.agg #[.string ((rd_T30 l0 x11_1).f0), .string ((rd_T30 l0 x11_1).f1)], .string a1] rfl tS ?_; (with_reducible refine (headers_is.calls ((rd_T30 l0 x11_1).f0) ((rd_T30 l0 x11_1).f1) a1 false _ A6.out).mono ?_); rintro e w16 ⟨rfl, hb⟩; refine ⟨_, rfl, ?_⟩; have n0_ := Aside0.mk (Kd.R_below (by (with_reducible repeat (first | apply Kd.R_alloc | apply Kd.R_drewN | apply Kd.R_drew)); exact (Kd.R_mono (Kd.R_far (p := ⟨gb329, 1, none⟩) (Kd.R_far (p := ⟨gb329, 0, none⟩) (Kd.R_types HO_6.out BK329.out (by decide)) (fun _ hk => hk.2) (.string ((rd_T30 l0 x11_1).f0))) (fun _ hk => hk.2) (.string ((rd_T30 l0 x11_1).f1))) (fun _ h_ => h_.1))) hb); have n1_ := Aside0.mk (blk_below (g := gb329) (o := .cells #[.string ((rd_T30 l0 x11_1).f0), .string ((rd_T30 l0 x11_1).f1)] 30 (0, 0)) (by (with_reducible repeat (first | refine blk_drewN ?_ _ | refine blk_drew ?_ | refine blk_alloc ?_ _)); refine blk_put (cs := #[.string ((rd_T30 l0 x11_1).f0), .string (⟨#[]⟩ : ByteArray)]) ?_ 1 _ rfl; (with_reducible repeat (first | refine blk_drewN ?_ _ | refine blk_drew ?_ | refine blk_alloc ?_ _)); refine blk_put (cs := #[.string (⟨#[]⟩ : ByteArray), .string (⟨#[]⟩ : ByteArray)]) ?_ 0 _ rfl; (with_reducible repeat (first | refine blk_drewN ?_ _ | refine blk_drew ?_ | refine blk_alloc ?_ _)); exact BK329.out) hb); have n2_ := Aside0.mk (below_step (by repeat (first | (with_reducible first | exact HB.out | apply below_alloc | apply pw_below_drewN | apply below_drew1 | refine below_set ?_ GE329.out) | exact HB.out)) hb); clear HO_6; clear BK329; clear HB; have HO_6 := n0_; have BK329 := n1_; have HB := n2_; clear n0_ n1_ n2_; (try clear hb); (try clear hb2); (try clear hk); (try clear hi)))
       go_roundg k1
       case measure => have := HK1.out; omega
       case rel => exact ⟨(x6_1), (wrap64 (x11_1 + 1)), rS, H', ⟨by have := HK1.out; omega⟩, ⟨by (with_reducible repeat (first | apply Kd.R_alloc | apply Kd.R_drewN | apply Kd.R_drew)); exact HO_6.out⟩, ⟨by repeat (first | (with_reducible first | exact HB.out | apply below_alloc | apply pw_below_drewN | apply below_drew1 | refine below_set ?_ GE329.out) | exact HB.out)⟩⟩
     ·rw [if_neg c5] at H
      exact absurd H (by simp)
    ·rw [if_neg c4] at H
     exact absurd H (by simp)
   ·rw [if_neg c3] at H
    have c3b0 : decide (x11_1 < (l0.length : Int)) = false := decide_eq_false c3
    clear c3
    replace H := Option.bind_eq_some_iff.mp H
    obtain ⟨t334, A170, H⟩ := H
    replace H : (some (t334, decide ((x6_1.length : Int) > 0))) = some (r1, r2) := H
    have A17 := Aside0.mk A170
    clear A170
    simp only [Option.some.injEq, Prod.mk.injEq] at H
    obtain ⟨rfl, rfl⟩ := H
    obtain ⟨Ao18, co18, eo18⟩ := Kd.R_slice HO_6.out
    subst eo18
    go_wp2_with (first | ((with_reducible refine gate_callee (f := 126) rfl ?_); refine goesL_ (some 25) rfl rfl Tryz.func126 q9_ rfl #[.slice Ao18 x6_1.length co18, .string (⟨#[44, 32]⟩ : ByteArray)] rfl tS ?_; (with_reducible refine (strings_Join.calls _ _ x6_1 (⟨#[44, 32]⟩ : ByteArray) t334 _ ?side1 ?side2 A17.out).mono ?_); (case side1 => repeat (first | exact (Kd.R_reads' HO_6.out).2.2 | (with_reducible refine Kd.C_alloc ?_ _) | (with_reducible refine Kd.C_drewN ?_ _) | (with_reducible refine Kd.C_drew ?_))); (case side2 => exact (Kd.R_reads' HO_6.out).2.1); rintro e w19 ⟨rfl, hb⟩; refine ⟨_, rfl, ?_⟩; have n0_ := Aside0.mk (Kd.R_below (by (with_reducible repeat (first | apply Kd.R_alloc | apply Kd.R_drewN | apply Kd.R_drew)); exact HO_6.out) hb); have n1_ := Aside0.mk (below_step hB hb); clear HO_6; clear HB; have HO_6 := n0_; have HB := n1_; clear n0_ n1_; (try clear hb); (try clear hb2); (try clear hk); (try clear hi)))
    go_ret2
    exact ⟨by first | rfl | (simp [errW_none, errW_some] <;> rfl) | (simp [*, errW_none, errW_some] <;> rfl), by repeat (first | (with_reducible first | exact HB.out | apply below_alloc | apply pw_below_drewN | apply below_drew1) | exact HB.out)⟩
end Go.Proofs.YtifmkgkiipckbaaGreatDoor.P
namespace Go.Proofs.YtifmkgkiipckbaaGreatDoor.P
open Go.RowKit Go.Proofs.YtifmkgkiipckbaaGreatDoorW.PrintWords Go.Proofs.YtifmkgkiipckbaaGreatDoorW.PrintLast Go.Proofs.YtifmkgkiipckbaaGreatDoorW.PrintMore
attribute [local go_sem] max2_int min2_int max_two min_two max_three min_three max_four min_four
set_option linter.unusedVariables false
set_option linter.unusedSimpArgs false
mutual
def headers_Split.l0 : Nat → ByteArray → List ByteArray → Bool → Int → Int → Option (List ByteArray × Bool)
 | 0, _, _, _, _, _ => none
 | k + 1, x6, x8, x9, x10, x11 => if x11 < (x6.size : Int) then (if 0 ≤ x11 then (if (bt x6 x11) = 34 then (headers_Split.l0 k x6 x8 (!x9) x10 (wrap64 (x11 + 1))) else (if x9 = true then (headers_Split.j1 k x6 x8 x9 x10 x11 ((bt x6 x11) == 92)) else (headers_Split.j1 k x6 x8 x9 x10 x11 false))) else (none)) else (if 0 ≤ x10 then (if x10 ≤ (x6.size : Int) then ((strings_Trim.f (x6.extract (x10 : Int).toNat x6.size) (⟨#[9, 32]⟩ : ByteArray)).bind fun t337 => (if x8.length < 8796093022208 then (some ((x8 ++ [t337]), true)) else (none))) else (none)) else (none))
def headers_Split.j1 : Nat → ByteArray → List ByteArray → Bool → Int → Int → Bool → Option (List ByteArray × Bool)
 | 0, _, _, _, _, _, _ => none
 | k + 1, x6, x8, x9, x10, x11, x33 => if x33 = true then (headers_Split.l0 k x6 x8 x9 x10 (wrap64 ((wrap64 (x11 + 1)) + 1))) else (if x9 = true then (headers_Split.l0 k x6 x8 x9 x10 (wrap64 (x11 + 1))) else (if 0 ≤ x11 then (if x11 < (x6.size : Int) then (if (bt x6 x11) = 44 then (if 0 ≤ x10 then (if x10 ≤ x11 then (if x11 ≤ (x6.size : Int) then ((strings_Trim.f (x6.extract (x10 : Int).toNat (x11 : Int).toNat) (⟨#[9, 32]⟩ : ByteArray)).bind fun t341 => (if x8.length < 8796093022208 then (headers_Split.l0 k x6 (x8 ++ [t341]) x9 (wrap64 (x11 + 1)) (wrap64 (x11 + 1))) else (none))) else (none)) else (none)) else (none)) else (headers_Split.l0 k x6 x8 x9 x10 (wrap64 (x11 + 1)))) else (none)) else (none)))
end
def headers_Split.f (k : Nat) (l0 : List (S30)) (a1 : ByteArray) : Option (List ByteArray × Bool) := (headers_Get.f k l0 a1).bind fun bt335 => (if bt335.2 = true then (headers_Split.l0 k bt335.1 ([] : List ByteArray) false 0 0) else (some (([] : List ByteArray), false)))
theorem headers_Split.mono_l : ∀ k, (∀ y0 y1 y2 y3 y4, LeO (headers_Split.l0 k y0 y1 y2 y3 y4) (headers_Split.l0 (k + 1) y0 y1 y2 y3 y4)) ∧ (∀ y0 y1 y2 y3 y4 y5, LeO (headers_Split.j1 k y0 y1 y2 y3 y4 y5) (headers_Split.j1 (k + 1) y0 y1 y2 y3 y4 y5))
 | 0 => ⟨fun _ _ _ _ _ r h => by simp [headers_Split.l0] at h, fun _ _ _ _ _ _ r h => by simp [headers_Split.j1] at h⟩
 | k + 1 => by
  obtain ⟨ih0, ih1⟩ := headers_Split.mono_l k
  refine ⟨?_, ?_⟩
  ·intro y0 y1 y2 y3 y4
   unfold headers_Split.l0
   repeat' first
   | (with_reducible exact ih0 _ _ _ _ _)
   | (with_reducible exact ih1 _ _ _ _ _ _)
   | (with_reducible exact headers_Get.mono _ _ _)
   | (with_reducible exact LeO.refl _)
   | (with_reducible exact LeO.none _)
   | (with_reducible refine LeO.ite ?_ ?_)
   | (with_reducible refine LeO.bind ?_ (fun _ => ?_))
   | exact ih0 _ _ _ _ _
   | exact ih1 _ _ _ _ _ _
   | exact headers_Get.mono _ _ _
   | exact LeO.none _
   | refine LeO.ite ?_ ?_
   | refine LeO.bind ?_ (fun _ => ?_)
  ·intro y0 y1 y2 y3 y4 y5
   unfold headers_Split.j1
   repeat' first
   | (with_reducible exact ih0 _ _ _ _ _)
   | (with_reducible exact ih1 _ _ _ _ _ _)
   | (with_reducible exact headers_Get.mono _ _ _)
   | (with_reducible exact LeO.refl _)
   | (with_reducible exact LeO.none _)
   | (with_reducible refine LeO.ite ?_ ?_)
   | (with_reducible refine LeO.bind ?_ (fun _ => ?_))
   | exact ih0 _ _ _ _ _
   | exact ih1 _ _ _ _ _ _
   | exact headers_Get.mono _ _ _
   | exact LeO.none _
   | refine LeO.ite ?_ ?_
   | refine LeO.bind ?_ (fun _ => ?_)
theorem headers_Split.mono : ∀ a0 a1 k, LeO (headers_Split.f k a0 a1) (headers_Split.f (k + 1) a0 a1) := by
 intro a0 a1 k
 obtain ⟨ih0, ih1⟩ := headers_Split.mono_l k
 unfold headers_Split.f
 repeat' first
   | (with_reducible exact ih0 _ _ _ _ _)
   | (with_reducible exact ih1 _ _ _ _ _ _)
   | (with_reducible exact headers_Get.mono _ _ _)
   | (with_reducible exact LeO.refl _)
   | (with_reducible exact LeO.none _)
   | (with_reducible refine LeO.ite ?_ ?_)
   | (with_reducible refine LeO.bind ?_ (fun _ => ?_))
   | exact ih0 _ _ _ _ _
   | exact ih1 _ _ _ _ _ _
   | exact headers_Get.mono _ _ _
   | exact LeO.none _
   | refine LeO.ite ?_ ?_
   | refine LeO.bind ?_ (fun _ => ?_)
set_option maxHeartbeats 8000000 in
set_option maxRecDepth 100000 in
theorem headers_Split.calls (k : Nat) (A0 : Option Addr) (c0 : Nat) (l0 : List (S30)) (a1 : ByteArray) (r1 : List ByteArray) (r2 : Bool) (w : World) (hr0 : Kd.C k30 w A0 l0.length l0) (hc0 : l0.length ≤ c0) (h : headers_Split.f k l0 a1 = some (r1, r2)) :
  Calls Tryz.prog 117 #[.slice A0 l0.length c0, .string a1] w fun e w' => ∃ v0_ : Value, e = .returned (.tuple #[v0_, .bool r2]) ∧ Kd.R Kd.string 9 w' w.heap.size (fun _ => True) v0_ r1 ∧ Below w.heap.size w w' := by
 have HR0 := Aside0.mk hr0
 have HC0 := Aside0.mk hc0
 clear hr0 hc0
 have HB := Aside0.mk (Below.refl w.heap.size w)
 have H : ((headers_Get.f k l0 a1).bind fun bt335 => (if bt335.2 = true then (headers_Split.l0 k bt335.1 ([] : List ByteArray) false 0 0) else (some (([] : List ByteArray), false)))) = some (r1, r2) := h
 clear h
 replace H := Option.bind_eq_some_iff.mp H
 obtain ⟨⟨t335, t336⟩, A30, H⟩ := H
 replace H : (if t336 = true then (headers_Split.l0 k t335 ([] : List ByteArray) false 0 0) else (some (([] : List ByteArray), false))) = some (r1, r2) := H
 have A3 := Aside0.mk A30
 clear A30
 by_cases c4 : t336 = true
 ·subst c4
  have H1 : (headers_Split.l0 k t335 ([] : List ByteArray) false 0 0) = some (r1, r2) := by rw [if_pos rfl] at H; exact H
  clear H
  have H := H1
  clear H1
  have H' := Aside0.mk H
  clear H
  go_enter Tryz.func117, Tryz.ntmps117
  go_wp2_with (first | ((with_reducible refine gate_callee (f := 67) rfl ?_); refine goesL_ (some 15) rfl rfl Tryz.func67 q9_ rfl #[.slice A0 l0.length c0, .string a1] rfl tS ?_; (with_reducible refine (headers_Get.calls k _ _ l0 a1 t335 true _ ?side1 ?side2 A3.out).mono ?_); (case side1 => repeat (first | exact HR0.out | (with_reducible refine Kd.C_alloc ?_ _) | (with_reducible refine Kd.C_drewN ?_ _) | (with_reducible refine Kd.C_drew ?_))); (case side2 => exact HC0.out); rintro e w5 ⟨rfl, hb⟩; refine ⟨_, rfl, ?_⟩; have n0_ := Aside0.mk (below_step hB hb); clear HB; have HB := n0_; clear n0_; (try clear hb); (try clear hb2); (try clear hk); (try clear hi)))
  go_loopg [8, 9, 10, 11] k (fun kq v8 v9 v10 v11 w' => ∃ (x8_1 : List ByteArray) (x9_1 : Bool) (x10_1 : Int) (x11_1 : Int), v9 = .bool x9_1 ∧ v10 = .int .i64 x10_1 ∧ v11 = .int .i64 x11_1 ∧ Aside0 (headers_Split.l0 kq t335 x8_1 x9_1 x10_1 x11_1 = some (r1, r2)) ∧ Aside0 (kq ≤ k) ∧ Aside0 (Kd.R Kd.string 9 w' w.heap.size (fun _ => True) v8 x8_1) ∧ Aside0 (Below w.heap.size w w'))
  case atStart => exact ⟨(([] : List ByteArray)), (false), (0), (0), rS, rS, rS, H', ⟨Nat.le_refl _⟩, ⟨by first | exact Kd.R_nil _ _ _ _ _ | exact Kd.N_nil _ _ _ _ _ | exact Kd.V_nil _ _ _ _ _ | exact Kd.Q_nil _ _ _ _ _ | exact Kd.S_nil _ _ _ _ _⟩, ⟨by repeat (first | (with_reducible first | exact HB.out | apply below_alloc | apply pw_below_drewN | apply below_drew1) | exact HB.out)⟩⟩
  case round =>
   clear H'
   try clear c1
   try clear p2
   try clear c4
   obtain ⟨x8_1, x9_1, x10_1, x11_1, rfl, rfl, rfl, HA, HK1, HO_8, HB⟩ := hrel
   cases gk with
   | zero => exact absurd HA.out (by simp [headers_Split.l0])
   | succ k1 =>
    have H := HA.out
    clear HA
    simp only [headers_Split.l0] at H
    by_cases c6 : x11_1 < (t335.size : Int)
    ·rw [if_pos c6] at H
     have c6b0 : decide (x11_1 < (t335.size : Int)) = true := decide_eq_true c6
     clear c6
     by_cases c7 : 0 ≤ x11_1
     ·rw [if_pos c7] at H
      have c7b0 : decide (0 ≤ x11_1) = true := decide_eq_true c7
      clear c7
      by_cases c9 : (bt t335 x11_1) = 34
      ·rw [if_pos c9] at H
       have c9b0 : ((bt t335 x11_1) == 34) = true := beq_iff_eq.mpr c9
       have c9b1 : ((bt t335 x11_1) != 34) = false := bne_eq_false_iff_eq.mpr c9
       clear c9
       have H' := Aside0.mk H
       clear H
       have p8 : 0 ≤ (x11_1 : Int) := of_decide_eq_true aS
       have q8 : x11_1 < (t335.size : Int) := of_decide_eq_true aS
       have hx8 := bt_at t335 x11_1
       replace p8 := eq_true p8
       replace q8 := eq_true q8
       go_wp2
       go_roundg k1
       case measure => have := HK1.out; omega
       case rel => exact ⟨(x8_1), (!x9_1), (x10_1), (wrap64 (x11_1 + 1)), rS, rS, rS, H', ⟨by have := HK1.out; omega⟩, ⟨by (with_reducible repeat (first | apply Kd.R_alloc | apply Kd.R_drewN | apply Kd.R_drew)); exact HO_8.out⟩, ⟨by repeat (first | (with_reducible first | exact HB.out | apply below_alloc | apply pw_below_drewN | apply below_drew1) | exact HB.out)⟩⟩
      ·rw [if_neg c9] at H
       have c9b0 : ((bt t335 x11_1) == 34) = false := beq_eq_false_iff_ne.mpr c9
       have c9b1 : ((bt t335 x11_1) != 34) = true := bne_iff_ne.mpr c9
       have HC10 := Aside0.mk H
       clear H
       have p8 : 0 ≤ (x11_1 : Int) := of_decide_eq_true aS
       have q8 : x11_1 < (t335.size : Int) := of_decide_eq_true aS
       have hx8 := bt_at t335 x11_1
       replace p8 := eq_true p8
       replace q8 := eq_true q8
       go_upto_region 11 with (fail)
       go_cut [33] (fun v33 wc => ∃ (kq : Nat) (x33_9 : Bool), v33 = .bool x33_9 ∧ Aside0 (headers_Split.j1 kq t335 x8_1 x9_1 x10_1 x11_1 x33_9 = some (r1, r2)) ∧ Aside0 (kq ≤ k1) ∧ Aside0 (Kd.R Kd.string 9 wc w.heap.size (fun _ => True) u8 x8_1) ∧ Aside0 (Below w.heap.size w wc))
       case first =>
        have H := HC10.out
        clear HC10
        by_cases c11 : x9_1 = true
        ·subst c11
         have H1 : (headers_Split.j1 k1 t335 x8_1 true x10_1 x11_1 ((bt t335 x11_1) == 92)) = some (r1, r2) := by rw [if_pos rfl] at H; exact H
         clear H
         have H := H1
         clear H1
         have H' := Aside0.mk H
         clear H
         have p12 : 0 ≤ (x11_1 : Int) := of_decide_eq_true aS
         have q12 : x11_1 < (t335.size : Int) := of_decide_eq_true aS
         have hx12 := bt_at t335 x11_1
         replace p12 := eq_true p12
         replace q12 := eq_true q12
         go_wp2
         go_meet
         case rel => exact ⟨_, (((bt t335 x11_1) == 92)), rS, H', ⟨by have := HK1.out; first | omega | exact Nat.le_refl _⟩, ⟨by (with_reducible repeat (first | apply Kd.R_alloc | apply Kd.R_drewN | apply Kd.R_drew)); exact HO_8.out⟩, ⟨by repeat (first | (with_reducible first | exact HB.out | apply below_alloc | apply pw_below_drewN | apply below_drew1) | exact HB.out)⟩⟩
        ·replace c11 := Bool.eq_false_iff.mpr c11
         subst c11
         have H1 : (headers_Split.j1 k1 t335 x8_1 false x10_1 x11_1 false) = some (r1, r2) := by rw [if_neg (show ¬ (false = true) by decide)] at H; exact H
         clear H
         have H := H1
         clear H1
         have H' := Aside0.mk H
         clear H
         go_wp2
         go_meet
         case rel => exact ⟨_, (false), rS, H', ⟨by have := HK1.out; first | omega | exact Nat.le_refl _⟩, ⟨by (with_reducible repeat (first | apply Kd.R_alloc | apply Kd.R_drewN | apply Kd.R_drew)); exact HO_8.out⟩, ⟨by repeat (first | (with_reducible first | exact HB.out | apply below_alloc | apply pw_below_drewN | apply below_drew1) | exact HB.out)⟩⟩
       case rest =>
        clear HC10
        try clear c1
        try clear p1
        try clear q1
        try clear hx1
        try clear p2
        try clear c4
        try clear c6
        try clear c6b0
        try clear p6
        try clear c7
        try clear c7b0
        try clear p8
        try clear q8
        try clear hx8
        try clear c9
        try clear c9b0
        try clear c9b1
        try clear c11
        try clear p12
        try clear q12
        try clear hx12
        try clear p12
        try clear p2
        try clear p8
        try clear q12
        try clear q8
        obtain ⟨kq, x33_9, rfl, HA, HJ9, HO_8, HB⟩ := hcut
        cases kq with
        | zero => exact absurd HA.out (by simp [headers_Split.j1])
        | succ kj9 =>
         have H := HA.out
         clear HA
         simp only [headers_Split.j1] at H
         by_cases c13 : x33_9 = true
         ·subst c13
          have H1 : (headers_Split.l0 kj9 t335 x8_1 x9_1 x10_1 (wrap64 ((wrap64 (x11_1 + 1)) + 1))) = some (r1, r2) := by rw [if_pos rfl] at H; exact H
          clear H
          have H := H1
          clear H1
          have H' := Aside0.mk H
          clear H
          go_wp2
          go_roundg kj9
          case measure => have := HK1.out; have := HJ9.out; omega
          case rel => exact ⟨(x8_1), (x9_1), (x10_1), (wrap64 ((wrap64 (x11_1 + 1)) + 1)), rS, rS, rS, H', ⟨by have := HK1.out; have := HJ9.out; omega⟩, ⟨by (with_reducible repeat (first | apply Kd.R_alloc | apply Kd.R_drewN | apply Kd.R_drew)); exact HO_8.out⟩, ⟨by repeat (first | (with_reducible first | exact HB.out | apply below_alloc | apply pw_below_drewN | apply below_drew1) | exact HB.out)⟩⟩
         ·replace c13 := Bool.eq_false_iff.mpr c13
          subst c13
          have H1 : (if x9_1 = true then (headers_Split.l0 kj9 t335 x8_1 x9_1 x10_1 (wrap64 (x11_1 + 1))) else (if 0 ≤ x11_1 then (if x11_1 < (t335.size : Int) then (if (bt t335 x11_1) = 44 then (if 0 ≤ x10_1 then (if x10_1 ≤ x11_1 then (if x11_1 ≤ (t335.size : Int) then ((strings_Trim.f (t335.extract (x10_1 : Int).toNat (x11_1 : Int).toNat) (⟨#[9, 32]⟩ : ByteArray)).bind fun t341 => (if x8_1.length < 8796093022208 then (headers_Split.l0 kj9 t335 (x8_1 ++ [t341]) x9_1 (wrap64 (x11_1 + 1)) (wrap64 (x11_1 + 1))) else (none))) else (none)) else (none)) else (none)) else (headers_Split.l0 kj9 t335 x8_1 x9_1 x10_1 (wrap64 (x11_1 + 1)))) else (none)) else (none))) = some (r1, r2) := by rw [if_neg (show ¬ (false = true) by decide)] at H; exact H
          clear H
          have H := H1
          clear H1
          by_cases c14 : x9_1 = true
          ·subst c14
           have H1 : (headers_Split.l0 kj9 t335 x8_1 true x10_1 (wrap64 (x11_1 + 1))) = some (r1, r2) := by rw [if_pos rfl] at H; exact H
           clear H
           have H := H1
           clear H1
           have H' := Aside0.mk H
           clear H
           go_wp2
           go_roundg kj9
           case measure => have := HK1.out; have := HJ9.out; omega
           case rel => exact ⟨(x8_1), (true), (x10_1), (wrap64 (x11_1 + 1)), rS, rS, rS, H', ⟨by have := HK1.out; have := HJ9.out; omega⟩, ⟨by (with_reducible repeat (first | apply Kd.R_alloc | apply Kd.R_drewN | apply Kd.R_drew)); exact HO_8.out⟩, ⟨by repeat (first | (with_reducible first | exact HB.out | apply below_alloc | apply pw_below_drewN | apply below_drew1) | exact HB.out)⟩⟩
          ·replace c14 := Bool.eq_false_iff.mpr c14
           subst c14
           have H1 : (if 0 ≤ x11_1 then (if x11_1 < (t335.size : Int) then (if (bt t335 x11_1) = 44 then (if 0 ≤ x10_1 then (if x10_1 ≤ x11_1 then (if x11_1 ≤ (t335.size : Int) then ((strings_Trim.f (t335.extract (x10_1 : Int).toNat (x11_1 : Int).toNat) (⟨#[9, 32]⟩ : ByteArray)).bind fun t341 => (if x8_1.length < 8796093022208 then (headers_Split.l0 kj9 t335 (x8_1 ++ [t341]) false (wrap64 (x11_1 + 1)) (wrap64 (x11_1 + 1))) else (none))) else (none)) else (none)) else (none)) else (headers_Split.l0 kj9 t335 x8_1 false x10_1 (wrap64 (x11_1 + 1)))) else (none)) else (none)) = some (r1, r2) := by rw [if_neg (show ¬ (false = true) by decide)] at H; exact H
           clear H
           have H := H1
           clear H1
           by_cases c15 : 0 ≤ x11_1
           ·rw [if_pos c15] at H
            have c15b0 : decide (0 ≤ x11_1) = true := decide_eq_true c15
            clear c15
            by_cases c16 : x11_1 < (t335.size : Int)
            ·rw [if_pos c16] at H
             have c16b0 : decide (x11_1 < (t335.size : Int)) = true := decide_eq_true c16
             clear c16
             by_cases c18 : (bt t335 x11_1) = 44
             ·rw [if_pos c18] at H
              have c18b0 : ((bt t335 x11_1) == 44) = true := beq_iff_eq.mpr c18
              have c18b1 : ((bt t335 x11_1) != 44) = false := bne_eq_false_iff_eq.mpr c18
              clear c18
              by_cases c19 : 0 ≤ x10_1
              ·rw [if_pos c19] at H
               have c19b0 := eq_true c19
               have c19b1 : decide (0 ≤ x10_1) = true := decide_eq_true c19
               clear c19
               by_cases c20 : x10_1 ≤ x11_1
               ·rw [if_pos c20] at H
                have c20b0 := eq_true c20
                have c20b1 : decide (x10_1 ≤ x11_1) = true := decide_eq_true c20
                clear c20
                by_cases c21 : x11_1 ≤ (t335.size : Int)
                ·rw [if_pos c21] at H
                 have c21b0 := eq_true c21
                 have c21b1 : decide (x11_1 ≤ (t335.size : Int)) = true := decide_eq_true c21
                 clear c21
                 replace H := Option.bind_eq_some_iff.mp H
                 obtain ⟨t341, A220, H⟩ := H
                 replace H : (if x8_1.length < 8796093022208 then (headers_Split.l0 kj9 t335 (x8_1 ++ [t341]) false (wrap64 (x11_1 + 1)) (wrap64 (x11_1 + 1))) else (none)) = some (r1, r2) := H
                 have A22 := Aside0.mk A220
                 clear A220
                 by_cases c23 : x8_1.length < 8796093022208
                 ·rw [if_pos c23] at H
                  have LMc23 := Aside0.mk c23
                  clear c23
                  obtain ⟨y342, hy342⟩ : ∃ y_ : List ByteArray, y_ = (x8_1 ++ [t341]) := ⟨_, rfl⟩
                  replace H : (headers_Split.l0 kj9 t335 y342 false (wrap64 (x11_1 + 1)) (wrap64 (x11_1 + 1))) = some (r1, r2) := by first | (rw [hy342]; with_reducible exact H) | (have H2_ := (Option.bind_some _ _).symm.trans H; rw [hy342]; with_reducible exact H2_) | (have H2_ := (Option.bind_some _ _).symm.trans H; with_reducible exact H2_) | with_reducible exact H | (rw [hy342]; exact H) | exact H
                  have Ny342 := Aside0.mk hy342
                  clear hy342
                  have H' := Aside0.mk H
                  clear H
                  have p17 : 0 ≤ (x11_1 : Int) := of_decide_eq_true aS
                  have q17 : x11_1 < (t335.size : Int) := of_decide_eq_true aS
                  have hx17 := bt_at t335 x11_1
                  replace p17 := eq_true p17
                  replace q17 := eq_true q17
                  go_wp2_with (first | ((with_reducible refine gate_callee (f := 138) rfl ?_); refine goesL_ (some 57) rfl rfl Tryz.func138 q9_ rfl #[.string (t335.extract (x10_1 : Int).toNat (x11_1 : Int).toNat), .string (⟨#[9, 32]⟩ : ByteArray)] rfl tS ?_; (with_reducible refine (strings_Trim.calls (t335.extract (x10_1 : Int).toNat (x11_1 : Int).toNat) (⟨#[9, 32]⟩ : ByteArray) t341 _ A22.out).mono ?_); rintro e w24 ⟨rfl, hb⟩; refine ⟨_, rfl, ?_⟩; have n0_ := Aside0.mk (Kd.R_below q33_ hb); have n1_ := Aside0.mk (below_step hB hb); clear HO_8; clear HB; have HO_8 := n0_; have HB := n1_; clear n0_ n1_; (try clear hb); (try clear hb2); (try clear hk); (try clear hi)) | ((with_reducible refine gate_builtin (b := .append) (xs := #[.tmp 52, .tmp 58]) rfl ?_); at_builtin; refine Kd.R_append Kd.string (w0 := w) w.heap.size rfl (.tmp 52) (.tmp 58) 39 9 (.string ⟨#[]⟩) 16 rfl Tryz.underlying39 info9 rfl (by decide) (by omega) u8 x8_1 t341 [.string t341] (fun _ => True) (fun _ => False) rfl rfl ?aP (fun _ hk => hk.elim) ?aF ?aO ?aB ?aS ?aL ?_; (case aP => exact rfl); (case aB => exact hB); (case aF => exact (fun _ _ => trivial)); (case aO => exact q33_); (case aS => exact (below_size hB)); (case aL => have := LMc23.out; omega); intro v343 w25 ho hb hg hat; rw [← Ny342.out] at ho; have n0_ := Aside0.mk (hb); have n1_ := Aside0.mk (ho); clear HB; clear HO_8; have HB := n0_; have HO344 := n1_; clear n0_ n1_; clear ho hb hg hat))
                  go_roundg kj9
                  case measure => have := HK1.out; have := HJ9.out; omega
                  case rel => exact ⟨(y342), (false), (wrap64 (x11_1 + 1)), (wrap64 (x11_1 + 1)), rS, rS, rS, H', ⟨by have := HK1.out; have := HJ9.out; omega⟩, ⟨by (with_reducible repeat (first | apply Kd.R_alloc | apply Kd.R_drewN | apply Kd.R_drew)); exact HO344.out⟩, ⟨by repeat (first | (with_reducible first | exact HB.out | apply below_alloc | apply pw_below_drewN | apply below_drew1) | exact HB.out)⟩⟩
                 ·rw [if_neg c23] at H
                  exact absurd H (by simp)
                ·rw [if_neg c21] at H
                 exact absurd H (by simp)
               ·rw [if_neg c20] at H
                exact absurd H (by simp)
              ·rw [if_neg c19] at H
               exact absurd H (by simp)
             ·rw [if_neg c18] at H
              have c18b0 : ((bt t335 x11_1) == 44) = false := beq_eq_false_iff_ne.mpr c18
              have c18b1 : ((bt t335 x11_1) != 44) = true := bne_iff_ne.mpr c18
              have H' := Aside0.mk H
              clear H
              have p17 : 0 ≤ (x11_1 : Int) := of_decide_eq_true aS
              have q17 : x11_1 < (t335.size : Int) := of_decide_eq_true aS
              have hx17 := bt_at t335 x11_1
              replace p17 := eq_true p17
              replace q17 := eq_true q17
              go_wp2
              go_roundg kj9
              case measure => have := HK1.out; have := HJ9.out; omega
              case rel => exact ⟨(x8_1), (false), (x10_1), (wrap64 (x11_1 + 1)), rS, rS, rS, H', ⟨by have := HK1.out; have := HJ9.out; omega⟩, ⟨by (with_reducible repeat (first | apply Kd.R_alloc | apply Kd.R_drewN | apply Kd.R_drew)); exact HO_8.out⟩, ⟨by repeat (first | (with_reducible first | exact HB.out | apply below_alloc | apply pw_below_drewN | apply below_drew1) | exact HB.out)⟩⟩
            ·rw [if_neg c16] at H
             exact absurd H (by simp)
           ·rw [if_neg c15] at H
            exact absurd H (by simp)
     ·rw [if_neg c7] at H
      exact absurd H (by simp)
    ·rw [if_neg c6] at H
     have c6b0 : decide (x11_1 < (t335.size : Int)) = false := decide_eq_false c6
     clear c6
     by_cases c26 : 0 ≤ x10_1
     ·rw [if_pos c26] at H
      have c26b0 := eq_true c26
      have c26b1 : decide (0 ≤ x10_1) = true := decide_eq_true c26
      clear c26
      by_cases c27 : x10_1 ≤ (t335.size : Int)
      ·rw [if_pos c27] at H
       have c27b0 := eq_true c27
       have c27b1 : decide (x10_1 ≤ (t335.size : Int)) = true := decide_eq_true c27
       clear c27
       replace H := Option.bind_eq_some_iff.mp H
       obtain ⟨t337, A280, H⟩ := H
       replace H : (if x8_1.length < 8796093022208 then (some ((x8_1 ++ [t337]), true)) else (none)) = some (r1, r2) := H
       have A28 := Aside0.mk A280
       clear A280
       by_cases c29 : x8_1.length < 8796093022208
       ·rw [if_pos c29] at H
        have LMc29 := Aside0.mk c29
        clear c29
        obtain ⟨y338, hy338⟩ : ∃ y_ : List ByteArray, y_ = (x8_1 ++ [t337]) := ⟨_, rfl⟩
        replace H : (some (y338, true)) = some (r1, r2) := by first | (rw [hy338]; with_reducible exact H) | (have H2_ := (Option.bind_some _ _).symm.trans H; rw [hy338]; with_reducible exact H2_) | (have H2_ := (Option.bind_some _ _).symm.trans H; with_reducible exact H2_) | with_reducible exact H | (rw [hy338]; exact H) | exact H
        have Ny338 := Aside0.mk hy338
        clear hy338
        simp only [Option.some.injEq, Prod.mk.injEq] at H
        obtain ⟨rfl, rfl⟩ := H
        go_wp2_with (first | ((with_reducible refine gate_callee (f := 138) rfl ?_); refine goesL_ (some 66) rfl rfl Tryz.func138 q9_ rfl #[.string (t335.extract (x10_1 : Int).toNat t335.size), .string (⟨#[9, 32]⟩ : ByteArray)] rfl tS ?_; (with_reducible refine (strings_Trim.calls (t335.extract (x10_1 : Int).toNat t335.size) (⟨#[9, 32]⟩ : ByteArray) t337 _ A28.out).mono ?_); rintro e w30 ⟨rfl, hb⟩; refine ⟨_, rfl, ?_⟩; have n0_ := Aside0.mk (Kd.R_below q33_ hb); have n1_ := Aside0.mk (below_step hB hb); clear HO_8; clear HB; have HO_8 := n0_; have HB := n1_; clear n0_ n1_; (try clear hb); (try clear hb2); (try clear hk); (try clear hi)) | ((with_reducible refine gate_builtin (b := .append) (xs := #[.tmp 62, .tmp 67]) rfl ?_); at_builtin; refine Kd.R_append Kd.string (w0 := w) w.heap.size rfl (.tmp 62) (.tmp 67) 39 9 (.string ⟨#[]⟩) 16 rfl Tryz.underlying39 info9 rfl (by decide) (by omega) u8 x8_1 t337 [.string t337] (fun _ => True) (fun _ => False) rfl rfl ?aP (fun _ hk => hk.elim) ?aF ?aO ?aB ?aS ?aL ?_; (case aP => exact rfl); (case aB => exact hB); (case aF => exact (fun _ _ => trivial)); (case aO => exact q33_); (case aS => exact (below_size hB)); (case aL => have := LMc29.out; omega); intro v339 w31 ho hb hg hat; rw [← Ny338.out] at ho; have n0_ := Aside0.mk (hb); have n1_ := Aside0.mk (ho); clear HB; clear HO_8; have HB := n0_; have HO340 := n1_; clear n0_ n1_; clear ho hb hg hat))
        go_ret2
        exact ⟨_, by first | rfl | (simp [errW_none, errW_some] <;> rfl) | (simp [*, errW_none, errW_some] <;> rfl), by (with_reducible repeat (first | apply Kd.R_alloc | apply Kd.R_drewN | apply Kd.R_drew)); exact HO340.out, by repeat (first | (with_reducible first | exact HB.out | apply below_alloc | apply pw_below_drewN | apply below_drew1) | exact HB.out)⟩
       ·rw [if_neg c29] at H
        exact absurd H (by simp)
      ·rw [if_neg c27] at H
       exact absurd H (by simp)
     ·rw [if_neg c26] at H
      exact absurd H (by simp)
 ·replace c4 := Bool.eq_false_iff.mpr c4
  subst c4
  have H1 : (some (([] : List ByteArray), false)) = some (r1, r2) := by rw [if_neg (show ¬ (false = true) by decide)] at H; exact H
  clear H
  have H := H1
  clear H1
  simp only [Option.some.injEq, Prod.mk.injEq] at H
  obtain ⟨rfl, rfl⟩ := H
  go_enter Tryz.func117, Tryz.ntmps117
  go_wp2_with (first | ((with_reducible refine gate_callee (f := 67) rfl ?_); refine goesL_ (some 15) rfl rfl Tryz.func67 q9_ rfl #[.slice A0 l0.length c0, .string a1] rfl tS ?_; (with_reducible refine (headers_Get.calls k _ _ l0 a1 t335 false _ ?side1 ?side2 A3.out).mono ?_); (case side1 => repeat (first | exact HR0.out | (with_reducible refine Kd.C_alloc ?_ _) | (with_reducible refine Kd.C_drewN ?_ _) | (with_reducible refine Kd.C_drew ?_))); (case side2 => exact HC0.out); rintro e w32 ⟨rfl, hb⟩; refine ⟨_, rfl, ?_⟩; have n0_ := Aside0.mk (below_step hB hb); clear HB; have HB := n0_; clear n0_; (try clear hb); (try clear hb2); (try clear hk); (try clear hi)))
  go_ret2
  exact ⟨_, by first | rfl | (simp [errW_none, errW_some] <;> rfl) | (simp [*, errW_none, errW_some] <;> rfl), by first | exact Kd.R_nil _ _ _ _ _ | exact Kd.N_nil _ _ _ _ _ | exact Kd.V_nil _ _ _ _ _ | exact Kd.Q_nil _ _ _ _ _ | exact Kd.S_nil _ _ _ _ _, by repeat (first | (with_reducible first | exact HB.out | apply below_alloc | apply pw_below_drewN | apply below_drew1) | exact HB.out)⟩
end Go.Proofs.YtifmkgkiipckbaaGreatDoor.P
