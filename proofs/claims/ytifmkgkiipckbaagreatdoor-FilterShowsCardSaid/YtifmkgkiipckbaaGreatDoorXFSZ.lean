/- FilterShows returns true for every input, whatever the heap holds beside it, where the listed tables of the library (unicode/utf8's two) hold what their text lays; each argument reads behind the call as it read before. -/
import Derived.Test.YtifmkgkiipckbaaGreatDoorXFS13
import Derived.Test.YtifmkgkiipckbaaGreatDoorXFS17
import Derived.Test.YtifmkgkiipckbaaGreatDoorXFS1
import Derived.WalkKit
import Derived.ProofKit
import Derived.OpenShut
import Derived.ShutString
import Derived.ChangeOld
import Derived.Below
import Derived.Lay
import Derived.Deep.SlicePairs
import Derived.Deep.DeepHandedRow
import Derived.Lib.SmallJoins
import Derived.MakeChecks
import Derived.Test.YtifmkgkiipckbaaGreatDoorCards
import Derived.Test.YtifmkgkiipckbaaGreatDoorTie
namespace Go.Proofs.YtifmkgkiipckbaaGreatDoor.P
open Go.RowKit Go.Proofs.YtifmkgkiipckbaaGreatDoorW.PrintWords Go.Proofs.YtifmkgkiipckbaaGreatDoorW.PrintLast Go.Proofs.YtifmkgkiipckbaaGreatDoorW.PrintMore
set_option linter.unusedVariables false
set_option linter.unusedSimpArgs false
theorem SameH_refl (l : List S30) (hl : l.length ≤ 1000000) : ∀ (d k i : Nat), l.length - i = d → i ≤ l.length → d + 1 ≤ k → api_Header.l0 k l l (i : Int) = some true
 | 0, k, i, hd, hi, hk => by
  obtain ⟨k, rfl⟩ : ∃ j, k = j + 1 := ⟨k - 1, by omega⟩
  unfold api_Header.l0
  rw [if_neg (by omega)]
 | d + 1, k, i, hd, hi, hk => by
  obtain ⟨k, rfl⟩ : ∃ j, k = j + 1 := ⟨k - 1, by omega⟩
  have hw : wrap64 ((i : Int) + 1) = ((i + 1 : Nat) : Int) := by unfold wrap64; omega
  unfold api_Header.l0
  rw [if_pos (by omega), if_pos (by omega), if_pos (by omega), if_neg (by simp), hw]
  exact SameH_refl l hl d k (i + 1) (by omega) (by omega) (by omega)
theorem SameB_refl (l : List Int) (hl : l.length ≤ 1000000) : ∀ (d k i : Nat), l.length - i = d → i ≤ l.length → d + 1 ≤ k → ostiarybook_Same_byte.l0 k l l (i : Int) = some true
 | 0, k, i, hd, hi, hk => by
  obtain ⟨k, rfl⟩ : ∃ j, k = j + 1 := ⟨k - 1, by omega⟩
  unfold ostiarybook_Same_byte.l0
  rw [if_neg (by omega)]
 | d + 1, k, i, hd, hi, hk => by
  obtain ⟨k, rfl⟩ : ∃ j, k = j + 1 := ⟨k - 1, by omega⟩
  have hw : wrap64 ((i : Int) + 1) = ((i + 1 : Nat) : Int) := by unfold wrap64; omega
  unfold ostiarybook_Same_byte.l0
  rw [if_pos (by omega), if_pos (by omega), if_pos (by omega), if_pos rfl, hw]
  exact SameB_refl l hl d k (i + 1) (by omega) (by omega) (by omega)
theorem SameResponse_refl (k : Nat) (a b : Int) (h : List S30) (l : List Int) (u : ByteArray) (hh : h.length ≤ 1000000) (hl : l.length ≤ 1000000) (hk : 1000001 ≤ k) : ostiarykeep_SameResponse.f k a b h l u a b h l u = some true := by
 unfold ostiarykeep_SameResponse.f api_Header.f ostiarybook_Same_byte.f
 have h1 : api_Header.l0 k h h 0 = some true := SameH_refl h hh h.length k 0 (by omega) (by omega) (by omega)
 have h2 : ostiarybook_Same_byte.l0 k l l 0 = some true := SameB_refl l hl l.length k 0 (by omega) (by omega) (by omega)
 rw [if_pos rfl, if_pos rfl, if_pos rfl, if_pos rfl, h1]
 simp only [Option.bind_some, if_true]
 rw [h2]
 simp
theorem SameReply_refl (k : Nat) (a : Int) (h : List S30) (l : List Int) (hh : h.length ≤ 1000000) (hl : l.length ≤ 1000000) (hk : 1000001 ≤ k) : ostiarykeep_SameReply.f k a h l a h l = some true := by
 unfold ostiarykeep_SameReply.f api_Header.f ostiarybook_Same_byte.f
 have h1 : api_Header.l0 k h h 0 = some true := SameH_refl h hh h.length k 0 (by omega) (by omega) (by omega)
 have h2 : ostiarybook_Same_byte.l0 k l l 0 = some true := SameB_refl l hl l.length k 0 (by omega) (by omega) (by omega)
 rw [if_pos rfl, if_pos rfl, if_pos rfl, h1]
 simp only [Option.bind_some, if_true]
 rw [h2]
 rfl
abbrev fixL : List ByteArray := [(⟨#[99, 97, 99, 104, 101, 45, 99, 111, 110, 116, 114, 111, 108]⟩ : ByteArray), (⟨#[99, 111, 110, 116, 101, 110, 116, 45, 108, 97, 110, 103, 117, 97, 103, 101]⟩ : ByteArray), (⟨#[99, 111, 110, 116, 101, 110, 116, 45, 108, 101, 110, 103, 116, 104]⟩ : ByteArray), (⟨#[99, 111, 110, 116, 101, 110, 116, 45, 116, 121, 112, 101]⟩ : ByteArray), (⟨#[101, 120, 112, 105, 114, 101, 115]⟩ : ByteArray), (⟨#[108, 97, 115, 116, 45, 109, 111, 100, 105, 102, 105, 101, 100]⟩ : ByteArray), (⟨#[112, 114, 97, 103, 109, 97]⟩ : ByteArray)]
theorem fixL_any (n : ByteArray) : (fixL.any fun y => y.toList == n.toList) = fixedB n := by
 unfold fixedB
 simp only [fixL, List.any_cons, List.any_nil, Bool.or_false, ByteArray.toList_eq]
 rw [Bool.eq_iff_iff]
 simp only [Bool.or_eq_true, beq_iff_eq]
 constructor
 ·rintro (h | h | h | h | h | h | h)
  ·exact .inl (.inl (.inl (.inl (.inl (.inl h.symm)))))
  ·exact .inl (.inl (.inl (.inl (.inl (.inr h.symm)))))
  ·exact .inl (.inl (.inl (.inl (.inr h.symm))))
  ·exact .inl (.inl (.inl (.inr h.symm)))
  ·exact .inl (.inl (.inr h.symm))
  ·exact .inl (.inr h.symm)
  ·exact .inr h.symm
 ·rintro ((((((h | h) | h) | h) | h) | h) | h)
  ·exact .inl h.symm
  ·exact .inr (.inl h.symm)
  ·exact .inr (.inr (.inl h.symm))
  ·exact .inr (.inr (.inr (.inl h.symm)))
  ·exact .inr (.inr (.inr (.inr (.inl h.symm))))
  ·exact .inr (.inr (.inr (.inr (.inr (.inl h.symm)))))
  ·exact .inr (.inr (.inr (.inr (.inr (.inr h.symm)))))
theorem names_any_low (ps names : List ByteArray) (h : ∀ y, y ∈ names ↔ ∃ p ∈ ps, tokB 100000 p = true ∧ y = lowS p) (n : ByteArray) : (names.any fun y => y.toList == n.toList) = lowB_ 100000 ps n := by
 rw [Bool.eq_iff_iff]
 unfold lowB_
 rw [← low_mem ps (tokB 100000) names h n, List.any_eq_true]
 constructor
 ·rintro ⟨y, hy, he⟩
  rw [beq_iff_eq] at he
  exact str_inj he ▸ hy
 ·intro hn
  exact ⟨n, hn, by simp⟩
theorem rShare_is (a0 : Int) (l : List S30) (hl : FewH l) (b : List Int) (hb : b.length ≤ 1000000) (u : ByteArray) (ps : List ByteArray) (bq : Bool) (hs : headers_Split.f 100000 l nmExpose = some (ps, bq)) (hp : FewP ps) (c : Bool) (k : Nat) (hk : big + 300000 ≤ k) :
  ostiaryref20_Share.f k a0 l b u c = some (3, a0, l.filter (shB fun n => fixedB n || ((!c && Lib.containsS ps ⟨#[42]⟩) || lowB_ 100000 ps n)), b, u) := by
 have h20 := hl.1
 have hz : ∀ x ∈ l, x.f0.size ≤ 1000000 := fun x hx => by have := hl.2 x hx; omega
 obtain ⟨names, all, he, hn, ha, hm⟩ := rExp_is l hl c ps bq hs hp k (by omega)
 unfold big at hk
 unfold ostiaryref20_Share.f
 rw [rOwn_is k a0 l hz (by omega) b hb u (by omega)]
 simp only [Option.bind_some]
 rw [he]
 simp only [Option.bind_some]
 rw [if_pos (by simp; omega)]
 have hf : (l.filter (shB fun _ => true)).length ≤ 20 := Nat.le_trans (List.length_filter_le _ _) h20
 have := rShare_loop (l.filter (shB fun _ => true)) (fun x hx => hz x (List.mem_filter.1 hx).1) (by omega) (names ++ fixL) (by simp; omega) all b 3 a0 u k 0 [] (Nat.zero_le _) (Nat.le_refl _) (by omega)
 rw [show ((0 : Nat) : Int) = 0 from rfl, List.drop_zero, List.nil_append] at this
 rw [this, List.filter_filter]
 congr 4
 refine List.filter_congr fun x hx => ?_
 unfold hasB shB
 rw [List.any_append, fixL_any, ← ha]
 cases all with
 | true => simp
 | false =>
  rw [names_any_low ps names (hm rfl)]
  simp only [Bool.false_or, Bool.and_true]
  rw [Bool.and_comm, Bool.or_comm (lowB_ 100000 ps (lowS x.f0))]
theorem Share_of (a0 : Int) (l : List S30) (hl : FewH l) (b : List Int) (hb : b.length ≤ 1000000) (u : ByteArray) (ps : List ByteArray) (bq : Bool) (hs : headers_Split.f 100000 l nmExpose = some (ps, bq)) (hp : FewP ps) (c : Bool) :
  filter_Share.f a0 l b u c = some (3, a0, l.filter (shB fun n => fixedB n || ((!c && Lib.containsS ps ⟨#[42]⟩) || lowB_ 100000 ps n)), b, u) := by
 have h1 := hp.1
 have h2 := hp.2
 unfold filter_Share.f
 rw [hs]
 simp only [Option.bind_some]
 rw [if_pos (by omega), if_pos]
 ·have := hl.1
  exact shownB_is (fun n => fixedB n || ((!c && Lib.containsS ps ⟨#[42]⟩) || lowB_ 100000 ps n)) l (fun x hx => by have := hl.2 x hx; omega) (by omega) _ (by omega) 3 a0 b hb u
 ·rw [List.all_eq_true]
  intro p hp
  have := h2 p hp
  obtain ⟨r, hr, _⟩ := Token_tot 100000 p (by omega) (by omega)
  rw [hr]
  simp
  omega
theorem known20_true : ostiarylaw20_known.f 200 = some true := by kernel_rfl
theorem Reply_tot (k : Nat) (a0 : Int) (l : List S30) (b : List Int) (hk : 100 ≤ k) : Tot (ostiarykeep_Reply.f k a0 l b) (fun r => FewH r.2.1 ∧ r.2.2.length ≤ 300) := by
 unfold ostiarykeep_Reply.f fb_.f
 refine Tot.bind (FewHeaders_tot k l 12 200 (by omega) (by omega) (by omega) (by omega) hk) (fun r hr => ?_)
 simp only [Option.bind_some]
 rw [if_pos (by omega), if_pos (by omega)]
 simp only [Option.bind_some]
 refine Tot.guard ?_ (Tot.pure ⟨hr, ?_⟩)
 ·simp only [List.length_nil, List.length_take]
  omega
 ·simp only [List.nil_append, List.length_take]
  omega
theorem FilterShows_true (a0 : Int) (l : List S30) (b : List Int) (u : ByteArray) (c : Bool) : ostiarylaw20_FilterShows.f (big + 2000000) a0 l b u c = some true := by
 obtain ⟨⟨c0, H, B⟩, hr, hH, hB⟩ := Reply_tot (big + 2000000) a0 l b (by omega)
 simp only at hH hB
 have h20 := hH.1
 have hz : ∀ x ∈ H, x.f0.size ≤ 1000000 := fun x hx => by have := hH.2 x hx; omega
 obtain ⟨⟨ps, bq⟩, hs, hp⟩ := Split_tot 100000 H nmExpose hH (by decide) (by omega)
 obtain ⟨t, ht, _⟩ := Few_tot u 100 (by omega)
 have hlen : ∀ P, (H.filter P).length ≤ 1000000 := fun P => Nat.le_trans (List.length_filter_le _ _) (by omega)
 unfold ostiarylaw20_FilterShows.f
 rw [hr]
 simp only [Option.bind_some]
 rw [ht]
 simp only [Option.bind_some]
 have hc : ostiarykeep_CopyReply.f c0 H B = some (c0, H, B) := by
  unfold ostiarykeep_CopyReply.f
  simp only [Option.bind_some]
  rw [if_pos (by simp; omega), if_pos (by simp; omega)]
  rfl
 rw [hc]
 simp only [Option.bind_some]
 rw [Own_is c0 H hz (by omega) B (by omega) t]
 simp only [Option.bind_some]
 rw [rOwn_is _ c0 H hz (by omega) B (by omega) t (by omega)]
 simp only [Option.bind_some]
 rw [SameResponse_refl _ _ _ _ _ _ (hlen _) (by omega) (by omega)]
 simp only [Option.bind_some, if_true]
 rw [Share_of c0 H hH B (by omega) t ps bq hs hp c]
 simp only [Option.bind_some]
 rw [rShare_is c0 H hH B (by omega) t ps bq hs hp c _ (by omega)]
 simp only [Option.bind_some]
 rw [SameResponse_refl _ _ _ _ _ _ (hlen _) (by omega) (by omega)]
 simp only [Option.bind_some, if_true]
 rw [SameReply_refl _ _ _ _ (by omega) (by omega) (by omega)]
 simp only [Option.bind_some, if_true]
 unfold filter_HideRedirect.f
 simp only [Option.bind_some]
 rw [SameResponse_refl _ _ _ _ _ _ (by simp) (by simp) (by omega)]
 simp only [Option.bind_some, if_true]
 rw [mono_le (F := fun k => ostiarylaw20_known.f k) (fun k => ostiarylaw20_known.mono k) (show 200 ≤ big + 2000000 by omega) _ known20_true]
 simp
end Go.Proofs.YtifmkgkiipckbaaGreatDoor.P
namespace Go.Proofs.YtifmkgkiipckbaaGreatDoor.rowB
open Go.ChangeShapes Go.WideShapes Go.ChangeAt Go.RowKit Go.Proofs.YtifmkgkiipckbaaGreatDoor.P Go.Proofs.YtifmkgkiipckbaaGreatDoorW.PrintWords
open Go.ChangeMaps (open_string shut_string)
set_option linter.unusedVariables false
theorem own : ownKnob Tryz.prog.godebug = none := by kernel_rfl
theorem laidOut : laidOutB Tryz.prog = true := by kernel_rfl
theorem cells30 : Tryz.prog.cellsOf 30 = 2 := by kernel_rfl
theorem cells9 : Tryz.prog.cellsOf 9 = 1 := by kernel_rfl
variable {H : Type} {enc : TypeId × Value → H} {W : World}
theorem headers {v : Value} {d : DataW H × List MemPlace} {n : Nat} (hn : DataW.trod enc Tryz.prog W 0 (fun _ => true) true n 25 [v] = some d) :
  ∃ (a : Option Addr) (cap : Nat) (l : List S30), v = .slice a l.length cap ∧ l.length ≤ cap ∧ Kd.C k30 W a l.length l := by
 rcases Deep.open_slice_pairs Tryz.underlying25 Tryz.underlying30 cells30 rfl rfl cells9 cells9 hn with ⟨hc, hx⟩ | ⟨a', len', cap', m, k, V0, V1, D0, D1, P0, P1, hc, _, hl, hm, hmm, hx, hall⟩
 ·simp at hc
  subst hc
  exact ⟨none, 0, [], rfl, Nat.le_refl _, Kd.C_nil _ _⟩
 ·simp at hc
  subst hc
  have hlm : len' ≤ m := by rw [hmm]; split <;> omega
  have each : ∀ i, i < m → ∃ x : S30, V0 i = .string x.f0 ∧ V1 i = .string x.f1 := fun i hi => by
   obtain ⟨s, h1, _, _⟩ := DataW.trod_string Tryz.underlying9 (hall i hi).2.2.1
   obtain ⟨s2, h2, _, _⟩ := DataW.trod_string Tryz.underlying9 (hall i hi).2.2.2
   exact ⟨⟨s, s2⟩, by simpa using h1, by simpa using h2⟩
  haveI : Inhabited S30 := ⟨z30⟩
  obtain ⟨X, hX⟩ := Deep.choose_lt each
  have hlen : ((List.range len').map X).length = len' := by simp
  refine ⟨some a', cap', (List.range len').map X, by rw [hlen], by rw [hlen]; exact hl, ?_⟩
  rw [hlen]
  refine ⟨hlen, by unfold maxLen at hm; omega, fun hp => ⟨a', rfl, fun j x hj => ?_⟩⟩
  have hj' : j < len' := by
   rcases Nat.lt_or_ge j len' with q | q
   ·exact q
   ·rw [List.getElem?_eq_none (by rw [hlen]; exact q)] at hj
    cases hj
  obtain rfl : X j = x := by simpa [hj'] using hj
  obtain ⟨c0, c1, _, _⟩ := hall j (by omega)
  rw [(hX j (by omega)).1] at c0
  rw [(hX j (by omega)).2] at c1
  refine ⟨[.string (X j).f0, .string (X j).f1], rfl, k30_mk W (X j), fun i u hu => ?_⟩
  match i, hu with
  | 0, hu =>
   simp at hu
   subst hu
   exact c0
  | 1, hu =>
   simp at hu
   subst hu
   exact c1
theorem bytes {v : Value} {d : DataW H × List MemPlace} {n : Nat} (hn : DataW.trod enc Tryz.prog W 0 (fun _ => true) true n 26 [v] = some d) :
  ∃ (a : Option Addr) (cap : Nat) (l : List Int), v = .slice a l.length cap ∧ l.length ≤ cap ∧ Kd.C (Kd.int .u8) W a l.length l ∧ ∀ x ∈ l, 0 ≤ x ∧ x ≤ 255 := by
 rcases open_ints Tryz.underlying26 Tryz.underlying5 (by kernel_rfl) hn with ⟨hcs, _⟩ | ⟨x, l, c, zs, hcs, _, hl, hm, hz, _, hcell, hwz⟩
 ·simp at hcs
  subst hcs
  exact ⟨none, 0, [], rfl, Nat.le_refl _, Kd.C_nil _ _, by simp⟩
 ·simp at hcs
  subst hcs
  have hz' : zs.length = c := by simpa using hz
  have hlen : (zs.take l).length = l := by rw [List.length_take]; omega
  refine ⟨some x, c, zs.take l, by rw [hlen], by rw [hlen]; exact hl, ?_, fun y hy => ?_⟩
  ·rw [hlen]
   refine Kd.C_of_reads (d := (0 : Int)) ⟨hlen, by unfold maxLen at hm; omega, fun hp => ⟨x, rfl, fun j hj => ?_⟩⟩
   rw [hcell j (by omega)]
   congr 2
   rw [List.getD_eq_getElem?_getD, List.getD_eq_getElem?_getD, List.getElem?_take, if_pos hj]
  ·have := hwz y (List.mem_of_mem_take hy)
   simpa [Lit.wf, IntKind.min, IntKind.max, IntKind.signed, IntKind.bits] using this
set_option maxRecDepth 100000 in
theorem reply {r : Reach} {b0 : Nat} {v : Value} {d : DataW H} {p : List MemPlace} (hv : Value.okWide Tryz.prog W r b0 28 v) (h : DataW.Trod enc Tryz.prog W 0 (fun _ => true) true 28 v d p) :
  ∃ (s : Int) (a1 : Option Addr) (c1 : Nat) (l1 : List S30) (a2 : Option Addr) (c2 : Nat) (l2 : List Int), v = .agg #[.int .i64 s, .slice a1 l1.length c1, .slice a2 l2.length c2] ∧ l1.length ≤ c1 ∧ Kd.C k30 W a1 l1.length l1 ∧ l2.length ≤ c2 ∧ Kd.C (Kd.int .u8) W a2 l2.length l2 ∧ ∀ x ∈ l2, 0 ≤ x ∧ x ≤ 255 := by
 obtain ⟨v0, v1, v2, y0, y1, y2, n, rfl, rfl, rfl, h0, h1, h2⟩ := Joins.open_agg3 Tryz.underlying28 (by kernel_rfl) (by kernel_rfl) hv h
 obtain ⟨s, e0, _, _⟩ := DataW.trod_int Tryz.underlying3 h0
 obtain ⟨a1, c1, l1, rfl, q1, q2⟩ := headers h1
 obtain ⟨a2, c2, l2, rfl, q3, q4, q5⟩ := bytes h2
 obtain rfl : v0 = .int .i64 s := by simpa using e0
 exact ⟨s, a1, c1, l1, a2, c2, l2, rfl, q1, q2, q3, q4, q5⟩
end Go.Proofs.YtifmkgkiipckbaaGreatDoor.rowB
namespace Go.Proofs.YtifmkgkiipckbaaGreatDoor.filterShows
open Go.ChangeShapes Go.WideShapes Go.ChangeAt Go.RowKit Go.Proofs.YtifmkgkiipckbaaGreatDoor.P Go.Proofs.YtifmkgkiipckbaaGreatDoor.rowB Go.Proofs.YtifmkgkiipckbaaGreatDoorW.PrintWords
open Go.ChangeMaps (open_string shut_string)
set_option linter.unusedVariables false
set_option maxRecDepth 100000 in
theorem lifted (os : Os) (started : os.Started) (H : Type) (enc : TypeId × Value → H) (F : Stop.Interp) :
  ReturnsInHanded {} Tryz.checked os 10 .any ((OpenSpec.ofChange Rows.filterShowsSpec).preRow enc Tryz.prog Tryz.f10 Rows.filterShowsRow.domain false Rows.filterShowsRow.laid) (((OpenSpec.ofChange Rows.filterShowsSpec).at F).post enc Tryz.prog Tryz.f10 false true false false) := by
 have hx : ∃ places, DataW.whole enc Tryz.prog ((World.laidAll Tryz.prog os Rows.filterShowsRow.laid).forCall (fun _ _ => 0) ⟨#[], #[.agg #[.int .i64 0, .slice none 0 0, .slice none 0 0], .string ByteArray.empty, .bool false], []⟩).memory Tryz.f10.params.toList Rows.filterShowsSpec.vars false #[Value.agg #[.int .i64 0, .slice none 0 0, .slice none 0 0], .string ByteArray.empty, .bool false].toList 8 = some ([.agg [.lit (.int .i64 0), .nil, .nil], .lit (.string []), .lit (.bool false)], [], places) := ⟨[], by kernel_rfl⟩
 obtain ⟨places, hx⟩ := hx
 refine returnsInHanded_of_row (C := Tryz.checked) (s := OpenSpec.ofChange Rows.filterShowsSpec) own started (by kernel_rfl) Tryz.func10
  (witness_row_at (enc := enc) (C := Tryz.checked) false (World.laidAll Tryz.prog os Rows.filterShowsRow.laid) #[.agg #[.int .i64 0, .slice none 0 0, .slice none 0 0], .string ByteArray.empty, .bool false] (World.laidAll_os _ _ _) (by kernel_rfl) (by kernel_rfl) (by kernel_rfl)
   (OpenSpec.preRow_of_cond 8 hx (by kernel_rfl) (fun k hk => by cases hk) (by kernel_rfl) (laidMet_laidAll _ (by kernel_rfl) (by kernel_rfl)))) ?_
 intro W base args ds gs before hval0 hW _ _ _ hL _ _
 have hval : ∀ (j : Nat) t v, Tryz.f10.params[j]? = some t → args[j]? = some v → Value.okWide Tryz.prog W .any base t v := hval0
 have hW' := hW
 obtain ⟨p, q, hA0, hV, rfl, hfz, hnd⟩ := hW
 have hA : DataW.TrodAll enc Tryz.prog W 0 (fun _ => true) true Tryz.f10.params.toList args.toList ds p := hA0
 rw [Tryz.params10] at hA hval
 obtain ⟨v0, vs0, d0, ds0, p0, q0, hargs, rfl, rfl, h0, r0⟩ := trodAll_cons hA
 obtain ⟨v1, vs1, d1, ds1, p1, q1, rfl, rfl, rfl, h1, r1⟩ := trodAll_cons r0
 obtain ⟨v2, vs2, d2, ds2, p2, q2, rfl, rfl, rfl, h2, r2⟩ := trodAll_cons r1
 obtain ⟨rfl, rfl, rfl⟩ := trodAll_nil r2
 obtain rfl : args = #[v0, v1, v2] := by cases args; simp_all
 obtain ⟨rfl, rfl⟩ := trodVars_none hV
 have k0 := h0
 have lt0 : ∀ x ∈ p0, x.block < W.heap.size := by obtain ⟨m, hm⟩ := k0; exact DataW.trod_lt m _ _ _ hm
 obtain ⟨s, a1, c1, l1, a2, c2, l2, rfl, e1, e2, e3, e4, e5⟩ := reply (hval 0 28 v0 rfl rfl) h0
 obtain ⟨u, rfl, rfl, rfl, y1⟩ := open_string Tryz.underlying9 (hval 1 9 v1 rfl rfl) h1
 obtain ⟨cr, rfl, rfl, rfl⟩ := open_bool Tryz.underlying4 (hval 2 4 v2 rfl rfl) h2
 clear hA0 hval0
 refine (ostiarylaw20_FilterShows.calls (big + 2000000) s a1 c1 l1 a2 c2 l2 u cr W e2 e1 e4 e3 (FilterShows_true s l1 l2 u cr)).mono fun e W' ⟨he, bel⟩ => ?_
 subst he
 exact ⟨_, rfl, _, _, _, [], _, [], hW', trodAll_mk1 (shut_bool Tryz.underlying4 _), (trodAll_cons_mk (Below.trod laidOut (by kernel_rfl) (of_decide_eq_true (by kernel_rfl)) k0 bel lt0) (trodAll_cons_mk (shut_string Tryz.underlying9 y1) (trodAll_cons_mk (shut_bool Tryz.underlying4 _) trodAll_mk0))), rfl, bel.frame _, fun h => by cases h⟩
theorem said : Rows.FilterShowsSaid :=
 OpenClaim.holds_of_cond 10 Tryz.f10 rfl rfl rfl rfl rfl rfl rfl ⟨rfl, rfl, rfl, rfl, rfl⟩ rfl rfl rfl rfl rfl (by kernel_rfl) Tryz.func10 (by kernel_rfl)
  (of_decide_eq_true (by kernel_rfl)) (by unfold Func.isWrapper; first | (rw [if_pos (by decide +kernel)]; kernel_rfl) | (rw [if_neg (by decide +kernel)]; exact ⟨rfl, rfl⟩))
  (fun os started H enc _ F => by rw [OpenClaim.pre_eq_preRow]; exact lifted os started H enc F)
theorem plain (f : FuncId) (fn : Func) (hf : Tryz.pinned.checked.prog.funcNamed "ostiary/ostiarylaw20.FilterShows" = some f) (hfn : Tryz.pinned.checked.prog.funcs[f]? = some fn) :
  false = Tryz.pinned.checked.prog.looks [] ∧ ∀ (j : Nat) t, fn.params[j]? = some t → Tryz.pinned.checked.prog.wantsStandIn t = false := by
 obtain rfl : f = 10 := Option.some.inj ((show Tryz.prog.funcNamed "ostiary/ostiarylaw20.FilterShows" = some 10 by kernel_rfl).symm.trans hf) |>.symm
 obtain rfl : fn = Tryz.f10 := (Option.some.inj (Tryz.func10.symm.trans hfn)).symm
 refine ⟨by kernel_rfl, fun j t ht => ?_⟩
 rw [Tryz.params10] at ht
 have hm : t ∈ [28, 9, 4] := by simpa using Array.mem_of_getElem? ht
 have hall : ([28, 9, 4].all fun u => !Tryz.prog.wantsStandIn u) = true := by kernel_rfl
 exact (show Tryz.prog.wantsStandIn t = false by simpa using List.all_eq_true.1 hall t hm)
theorem card : Rows.FilterShowsCardSaid :=
 Claim7.holds_tied_plain_at .later [] _ _ _ _ said (fun _ h => by cases h) (by kernel_rfl) (fun _ h => by cases h) filterShows_row_tie rfl ⟨rfl, rfl⟩ (by kernel_rfl) rfl plain (by kernel_rfl)
end Go.Proofs.YtifmkgkiipckbaaGreatDoor.filterShows
namespace Go.Proofs.YtifmkgkiipckbaaGreatDoor
theorem filterShows_card : Rows.FilterShowsCardSaid := filterShows.card
#print axioms filterShows_card
end Go.Proofs.YtifmkgkiipckbaaGreatDoor
