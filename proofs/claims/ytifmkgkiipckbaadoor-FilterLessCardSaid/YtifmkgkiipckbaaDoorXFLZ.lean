/- FilterLess returns true for every input, whatever the heap holds beside it, where the listed tables of the library (unicode/utf8's two) hold what their text lays; each argument reads behind the call as it read before. -/
import Derived.Test.YtifmkgkiipckbaaDoorXFL8
import Derived.Test.YtifmkgkiipckbaaDoorXFL12
import Derived.Test.YtifmkgkiipckbaaDoorXFL1
import Derived.WalkKit
import Derived.ProofKit
import Derived.OpenShut
import Derived.ShutString
import Derived.ChangeOld
import Derived.Below
import Derived.Lay
import Derived.Deep.SlicePairs
import Derived.Deep.DeepHandedRow
import Derived.Lib.SmallJoins
import Derived.MakeChecks
import Derived.Test.YtifmkgkiipckbaaDoorCards
import Derived.Test.YtifmkgkiipckbaaDoorTie
namespace Go.Proofs.YtifmkgkiipckbaaDoor.P
open Go.RowKit Go.Proofs.YtifmkgkiipckbaaDoorW.PrintWords Go.Proofs.YtifmkgkiipckbaaDoorW.PrintLast Go.Proofs.YtifmkgkiipckbaaDoorW.PrintMore
set_option linter.unusedVariables false
set_option linter.unusedSimpArgs false
theorem known20_true : ostiarylaw20_known.f 200 = some true := by kernel_rfl
theorem Reply_tot (k : Nat) (a0 : Int) (l : List S72) (b : List Int) (hk : 100 ≤ k) : Tot (ostiarykeep_Reply.f k a0 l b) (fun r => FewH r.2.1 ∧ r.2.2.length ≤ 300) := by
 unfold ostiarykeep_Reply.f fb_.f
 refine Tot.bind (FewHeaders_tot k l 12 200 (by omega) (by omega) (by omega) (by omega) hk) (fun r hr => ?_)
 simp only [Option.bind_some]
 rw [if_pos (by omega), if_pos (by omega)]
 simp only [Option.bind_some]
 refine Tot.guard ?_ (Tot.pure ⟨hr, ?_⟩)
 ·simp only [List.length_nil, List.length_take]
  omega
 ·simp only [List.nil_append, List.length_take]
  omega
theorem filter_imp {α : Type} {p q : α → Bool} (l : List α) (h : ∀ x ∈ l, p x = true → q x = true) : (l.filter p).Sublist (l.filter q) := by
 have : l.filter p = (l.filter q).filter p := by
  rw [List.filter_filter]
  refine List.filter_congr fun x hx => ?_
  cases hp : p x with
  | false => rfl
  | true => rw [h x hx hp]; rfl
 rw [this]
 exact List.filter_sublist
theorem not_cookie {P : ByteArray → Bool} {l : List S72} : ∀ x ∈ l.filter (shB P), cookieB (lowS x.f0) = false := by
 intro x hx
 have := (List.mem_filter.1 hx).2
 unfold shB at this
 rw [Bool.and_eq_true] at this
 simpa using this.1
theorem FilterLess_true (a0 : Int) (l : List S72) (b : List Int) (u : ByteArray) : ostiarylaw20_FilterLess.f 1000 a0 l b u = some true := by
 obtain ⟨⟨c0, H, B⟩, hr, hH, hB⟩ := Reply_tot 1000 a0 l b (by omega)
 simp only at hH hB
 have h20 := hH.1
 have hz : ∀ x ∈ H, x.f0.size ≤ 1000000 := fun x hx => by have := hH.2 x hx; omega
 obtain ⟨ps, hps, hsh⟩ := Share_is c0 H hH B (by omega) u
 have ho := Own_is c0 H hz (by omega) B (by omega) u
 unfold ostiarylaw20_FilterLess.f
 rw [hr]
 simp only [Option.bind_some]
 rw [ho]
 simp only [Option.bind_some]
 rw [hsh true]
 simp only [Option.bind_some]
 rw [hsh false]
 simp only [Option.bind_some]
 have hle : ∀ P : S72 → Bool, (H.filter P).length ≤ 20 := fun P => Nat.le_trans (List.length_filter_le _ _) h20
 rw [among_true _ _ not_cookie (filter_imp H fun x _ hx => by
  unfold shB at hx ⊢
  simp only [Bool.and_eq_true, Bool.or_eq_true, Bool.not_true, Bool.false_and, Bool.false_or] at hx ⊢
  exact ⟨hx.1, hx.2.imp id (fun h => .inr h)⟩) (by have := hle; exact Nat.le_trans (hle _) (by omega)) 1000 (by have := hle (shB fun n => fixedB n || ((!false && Lib.containsS ps ⟨#[42]⟩) || lowB_ 100000 ps n)); omega)]
 simp only [Option.bind_some, if_true]
 rw [among_true _ _ not_cookie (filter_imp H fun x _ hx => by
  unfold shB at hx ⊢
  simp only [Bool.and_eq_true] at hx ⊢
  exact ⟨hx.1, trivial⟩) (Nat.le_trans (hle _) (by omega)) 1000 (by have := hle (shB fun _ => true); omega)]
 simp only [Option.bind_some, if_true]
 rw [among_true _ _ not_cookie List.filter_sublist (by omega) 1000 (by omega)]
 simp only [Option.bind_some, if_true]
 rw [mono_le (F := fun k => ostiarylaw20_known.f k) (fun k => ostiarylaw20_known.mono k) (show 200 ≤ 1000 by omega) _ known20_true]
 simp
end Go.Proofs.YtifmkgkiipckbaaDoor.P
namespace Go.Proofs.YtifmkgkiipckbaaDoor.rowB
open Go.ChangeShapes Go.WideShapes Go.ChangeAt Go.RowKit Go.Proofs.YtifmkgkiipckbaaDoor.P Go.Proofs.YtifmkgkiipckbaaDoorW.PrintWords
open Go.ChangeMaps (open_string shut_string)
set_option linter.unusedVariables false
theorem own : ownKnob Tryd.prog.godebug = none := by kernel_rfl
theorem laidOut : laidOutB Tryd.prog = true := by kernel_rfl
theorem cells72 : Tryd.prog.cellsOf 72 = 2 := by kernel_rfl
theorem cells9 : Tryd.prog.cellsOf 9 = 1 := by kernel_rfl
variable {H : Type} {enc : TypeId × Value → H} {W : World}
theorem headers {v : Value} {d : DataW H × List MemPlace} {n : Nat} (hn : DataW.trod enc Tryd.prog W 0 (fun _ => true) true n 22 [v] = some d) :
  ∃ (a : Option Addr) (cap : Nat) (l : List S72), v = .slice a l.length cap ∧ l.length ≤ cap ∧ Kd.C k72 W a l.length l := by
 rcases Deep.open_slice_pairs Tryd.underlying22 Tryd.underlying72 cells72 rfl rfl cells9 cells9 hn with ⟨hc, hx⟩ | ⟨a', len', cap', m, k, V0, V1, D0, D1, P0, P1, hc, _, hl, hm, hmm, hx, hall⟩
 ·simp at hc
  subst hc
  exact ⟨none, 0, [], rfl, Nat.le_refl _, Kd.C_nil _ _⟩
 ·simp at hc
  subst hc
  have hlm : len' ≤ m := by rw [hmm]; split <;> omega
  have each : ∀ i, i < m → ∃ x : S72, V0 i = .string x.f0 ∧ V1 i = .string x.f1 := fun i hi => by
   obtain ⟨s, h1, _, _⟩ := DataW.trod_string Tryd.underlying9 (hall i hi).2.2.1
   obtain ⟨s2, h2, _, _⟩ := DataW.trod_string Tryd.underlying9 (hall i hi).2.2.2
   exact ⟨⟨s, s2⟩, by simpa using h1, by simpa using h2⟩
  haveI : Inhabited S72 := ⟨z72⟩
  obtain ⟨X, hX⟩ := Deep.choose_lt each
  have hlen : ((List.range len').map X).length = len' := by simp
  refine ⟨some a', cap', (List.range len').map X, by rw [hlen], by rw [hlen]; exact hl, ?_⟩
  rw [hlen]
  refine ⟨hlen, by unfold maxLen at hm; omega, fun hp => ⟨a', rfl, fun j x hj => ?_⟩⟩
  have hj' : j < len' := by
   rcases Nat.lt_or_ge j len' with q | q
   ·exact q
   ·rw [List.getElem?_eq_none (by rw [hlen]; exact q)] at hj
    cases hj
  obtain rfl : X j = x := by simpa [hj'] using hj
  obtain ⟨c0, c1, _, _⟩ := hall j (by omega)
  rw [(hX j (by omega)).1] at c0
  rw [(hX j (by omega)).2] at c1
  refine ⟨[.string (X j).f0, .string (X j).f1], rfl, k72_mk W (X j), fun i u hu => ?_⟩
  match i, hu with
  | 0, hu =>
   simp at hu
   subst hu
   exact c0
  | 1, hu =>
   simp at hu
   subst hu
   exact c1
theorem bytes {v : Value} {d : DataW H × List MemPlace} {n : Nat} (hn : DataW.trod enc Tryd.prog W 0 (fun _ => true) true n 34 [v] = some d) :
  ∃ (a : Option Addr) (cap : Nat) (l : List Int), v = .slice a l.length cap ∧ l.length ≤ cap ∧ Kd.C (Kd.int .u8) W a l.length l ∧ ∀ x ∈ l, 0 ≤ x ∧ x ≤ 255 := by
 rcases open_ints Tryd.underlying34 Tryd.underlying5 (by kernel_rfl) hn with ⟨hcs, _⟩ | ⟨x, l, c, zs, hcs, _, hl, hm, hz, _, hcell, hwz⟩
 ·simp at hcs
  subst hcs
  exact ⟨none, 0, [], rfl, Nat.le_refl _, Kd.C_nil _ _, by simp⟩
 ·simp at hcs
  subst hcs
  have hz' : zs.length = c := by simpa using hz
  have hlen : (zs.take l).length = l := by rw [List.length_take]; omega
  refine ⟨some x, c, zs.take l, by rw [hlen], by rw [hlen]; exact hl, ?_, fun y hy => ?_⟩
  ·rw [hlen]
   refine Kd.C_of_reads (d := (0 : Int)) ⟨hlen, by unfold maxLen at hm; omega, fun hp => ⟨x, rfl, fun j hj => ?_⟩⟩
   rw [hcell j (by omega)]
   congr 2
   rw [List.getD_eq_getElem?_getD, List.getD_eq_getElem?_getD, List.getElem?_take, if_pos hj]
  ·have := hwz y (List.mem_of_mem_take hy)
   simpa [Lit.wf, IntKind.min, IntKind.max, IntKind.signed, IntKind.bits] using this
set_option maxRecDepth 100000 in
theorem reply {r : Reach} {b0 : Nat} {v : Value} {d : DataW H} {p : List MemPlace} (hv : Value.okWide Tryd.prog W r b0 63 v) (h : DataW.Trod enc Tryd.prog W 0 (fun _ => true) true 63 v d p) :
  ∃ (s : Int) (a1 : Option Addr) (c1 : Nat) (l1 : List S72) (a2 : Option Addr) (c2 : Nat) (l2 : List Int), v = .agg #[.int .i64 s, .slice a1 l1.length c1, .slice a2 l2.length c2] ∧ l1.length ≤ c1 ∧ Kd.C k72 W a1 l1.length l1 ∧ l2.length ≤ c2 ∧ Kd.C (Kd.int .u8) W a2 l2.length l2 ∧ ∀ x ∈ l2, 0 ≤ x ∧ x ≤ 255 := by
 obtain ⟨v0, v1, v2, y0, y1, y2, n, rfl, rfl, rfl, h0, h1, h2⟩ := Joins.open_agg3 Tryd.underlying63 (by kernel_rfl) (by kernel_rfl) hv h
 obtain ⟨s, e0, _, _⟩ := DataW.trod_int Tryd.underlying3 h0
 obtain ⟨a1, c1, l1, rfl, q1, q2⟩ := headers h1
 obtain ⟨a2, c2, l2, rfl, q3, q4, q5⟩ := bytes h2
 obtain rfl : v0 = .int .i64 s := by simpa using e0
 exact ⟨s, a1, c1, l1, a2, c2, l2, rfl, q1, q2, q3, q4, q5⟩
end Go.Proofs.YtifmkgkiipckbaaDoor.rowB
namespace Go.Proofs.YtifmkgkiipckbaaDoor.filterLess
open Go.ChangeShapes Go.WideShapes Go.ChangeAt Go.RowKit Go.Proofs.YtifmkgkiipckbaaDoor.P Go.Proofs.YtifmkgkiipckbaaDoor.rowB Go.Proofs.YtifmkgkiipckbaaDoorW.PrintWords
open Go.ChangeMaps (open_string shut_string)
set_option linter.unusedVariables false
set_option maxRecDepth 100000 in
theorem lifted (os : Os) (started : os.Started) (H : Type) (enc : TypeId × Value → H) (F : Stop.Interp) :
  ReturnsInHanded {} Tryd.checked os 7 .any ((OpenSpec.ofChange Rows.filterLessSpec).preRow enc Tryd.prog Tryd.f7 Rows.filterLessRow.domain false Rows.filterLessRow.laid) (((OpenSpec.ofChange Rows.filterLessSpec).at F).post enc Tryd.prog Tryd.f7 false true false false) := by
 have hx : ∃ places, DataW.whole enc Tryd.prog ((World.laidAll Tryd.prog os Rows.filterLessRow.laid).forCall (fun _ _ => 0) ⟨#[], #[.agg #[.int .i64 0, .slice none 0 0, .slice none 0 0], .string ByteArray.empty], []⟩).memory Tryd.f7.params.toList Rows.filterLessSpec.vars false #[Value.agg #[.int .i64 0, .slice none 0 0, .slice none 0 0], .string ByteArray.empty].toList 8 = some ([.agg [.lit (.int .i64 0), .nil, .nil], .lit (.string [])], [], places) := ⟨[], by kernel_rfl⟩
 obtain ⟨places, hx⟩ := hx
 refine returnsInHanded_of_row (C := Tryd.checked) (s := OpenSpec.ofChange Rows.filterLessSpec) own started (by kernel_rfl) Tryd.func7
  (witness_row_at (enc := enc) (C := Tryd.checked) false (World.laidAll Tryd.prog os Rows.filterLessRow.laid) #[.agg #[.int .i64 0, .slice none 0 0, .slice none 0 0], .string ByteArray.empty] (World.laidAll_os _ _ _) (by kernel_rfl) (by kernel_rfl) (by kernel_rfl)
   (OpenSpec.preRow_of_cond 8 hx (by kernel_rfl) (fun k hk => by cases hk) (by kernel_rfl) (laidMet_laidAll _ (by kernel_rfl) (by kernel_rfl)))) ?_
 intro W base args ds gs before hval0 hW _ _ _ hL _ _
 have hval : ∀ (j : Nat) t v, Tryd.f7.params[j]? = some t → args[j]? = some v → Value.okWide Tryd.prog W .any base t v := hval0
 have hW' := hW
 obtain ⟨p, q, hA0, hV, rfl, hfz, hnd⟩ := hW
 have hA : DataW.TrodAll enc Tryd.prog W 0 (fun _ => true) true Tryd.f7.params.toList args.toList ds p := hA0
 rw [Tryd.params7] at hA hval
 obtain ⟨v0, vs0, d0, ds0, p0, q0, hargs, rfl, rfl, h0, r0⟩ := trodAll_cons hA
 obtain ⟨v1, vs1, d1, ds1, p1, q1, rfl, rfl, rfl, h1, r1⟩ := trodAll_cons r0
 obtain ⟨rfl, rfl, rfl⟩ := trodAll_nil r1
 obtain rfl : args = #[v0, v1] := by cases args; simp_all
 obtain ⟨rfl, rfl⟩ := trodVars_none hV
 have k0 := h0
 have lt0 : ∀ x ∈ p0, x.block < W.heap.size := by obtain ⟨m, hm⟩ := k0; exact DataW.trod_lt m _ _ _ hm
 obtain ⟨s, a1, c1, l1, a2, c2, l2, rfl, e1, e2, e3, e4, e5⟩ := reply (hval 0 63 v0 rfl rfl) h0
 obtain ⟨u, rfl, rfl, rfl, y1⟩ := open_string Tryd.underlying9 (hval 1 9 v1 rfl rfl) h1
 clear hA0 hval0
 refine (ostiarylaw20_FilterLess.calls 1000 s a1 c1 l1 a2 c2 l2 u W e2 e1 e4 e3 (FilterLess_true s l1 l2 u)).mono fun e W' ⟨he, bel⟩ => ?_
 subst he
 exact ⟨_, rfl, _, _, _, [], _, [], hW', trodAll_mk1 (shut_bool Tryd.underlying4 _), (trodAll_cons_mk (Below.trod laidOut (by kernel_rfl) (of_decide_eq_true (by kernel_rfl)) k0 bel lt0) (trodAll_cons_mk (shut_string Tryd.underlying9 y1) trodAll_mk0)), rfl, bel.frame _, fun h => by cases h⟩
theorem said : Rows.FilterLessSaid :=
 OpenClaim.holds_of_cond 7 Tryd.f7 rfl rfl rfl rfl rfl rfl rfl ⟨rfl, rfl, rfl, rfl, rfl⟩ rfl rfl rfl rfl rfl (by kernel_rfl) Tryd.func7 (by kernel_rfl)
  (of_decide_eq_true (by kernel_rfl)) (by unfold Func.isWrapper; first | (rw [if_pos (by decide +kernel)]; kernel_rfl) | (rw [if_neg (by decide +kernel)]; exact ⟨rfl, rfl⟩))
  (fun os started H enc _ F => by rw [OpenClaim.pre_eq_preRow]; exact lifted os started H enc F)
theorem plain (f : FuncId) (fn : Func) (hf : Tryd.pinned.checked.prog.funcNamed "ostiary/ostiarylaw20.FilterLess" = some f) (hfn : Tryd.pinned.checked.prog.funcs[f]? = some fn) :
  false = Tryd.pinned.checked.prog.looks [] ∧ ∀ (j : Nat) t, fn.params[j]? = some t → Tryd.pinned.checked.prog.wantsStandIn t = false := by
 obtain rfl : f = 7 := Option.some.inj ((show Tryd.prog.funcNamed "ostiary/ostiarylaw20.FilterLess" = some 7 by kernel_rfl).symm.trans hf) |>.symm
 obtain rfl : fn = Tryd.f7 := (Option.some.inj (Tryd.func7.symm.trans hfn)).symm
 refine ⟨by kernel_rfl, fun j t ht => ?_⟩
 rw [Tryd.params7] at ht
 have hm : t ∈ [63, 9] := by simpa using Array.mem_of_getElem? ht
 have hall : ([63, 9].all fun u => !Tryd.prog.wantsStandIn u) = true := by kernel_rfl
 exact (show Tryd.prog.wantsStandIn t = false by simpa using List.all_eq_true.1 hall t hm)
theorem card : Rows.FilterLessCardSaid :=
 Claim7.holds_tied_plain_at .later [] _ _ _ _ said (fun _ h => by cases h) (by kernel_rfl) (fun _ h => by cases h) filterLess_row_tie rfl ⟨rfl, rfl⟩ (by kernel_rfl) rfl plain (by kernel_rfl)
end Go.Proofs.YtifmkgkiipckbaaDoor.filterLess
namespace Go.Proofs.YtifmkgkiipckbaaDoor
theorem filterLess_card : Rows.FilterLessCardSaid := filterLess.card
#print axioms filterLess_card
end Go.Proofs.YtifmkgkiipckbaaDoor
