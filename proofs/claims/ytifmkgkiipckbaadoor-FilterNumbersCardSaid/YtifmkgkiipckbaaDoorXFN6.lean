/- A part of the proof of FN: texts of walks and plain lemmas. -/
import Derived.Test.YtifmkgkiipckbaaDoorXFN2
import Derived.Test.YtifmkgkiipckbaaDoorXFN3
import Derived.Test.YtifmkgkiipckbaaDoorXFN5
import Derived.Test.YtifmkgkiipckbaaDoorXFN1
namespace Go.Proofs.YtifmkgkiipckbaaDoor.P
open Go.RowKit Go.Proofs.YtifmkgkiipckbaaDoorW.PrintWords Go.Proofs.YtifmkgkiipckbaaDoorW.PrintLast Go.Proofs.YtifmkgkiipckbaaDoorW.PrintMore
set_option linter.unusedVariables false
set_option linter.unusedSimpArgs false
theorem own_true (t : ByteArray) (W : World) : Calls Tryd.prog 77 #[.string t] W fun e w' => e = .returned (.bool true) ∧ Below W.heap.size W w' := by
 go_enter Tryd.func77, Tryd.ntmps77
 go_wp2
 go_ret
 exact ⟨rfl, Below.refl _ _⟩
abbrev zresp : Array Value := #[.int .i64 0, .int .i64 0, .slice none 0 0, .slice none 0 0, .string ⟨#[]⟩]
theorem put5 {W : World} {b T : Nat} {c0 c1 c2 c3 c4 : Value} (hb : W.heap[b]? = some (.cells #[c0, c1, c2, c3, c4] T (0, 0))) (v0 v1 v2 v3 v4 : Value) :
  (((((W.setCell ⟨b, 0, none⟩ v0).setCell ⟨b, 1, none⟩ v1).setCell ⟨b, 2, none⟩ v2).setCell ⟨b, 3, none⟩ v3).setCell ⟨b, 4, none⟩ v4).heap[b]? = some (.cells #[v0, v1, v2, v3, v4] T (0, 0)) := by
 simpa using blk_set (blk_set (blk_set (blk_set (blk_set hb 0 v0) 1 v1) 2 v2) 3 v3) 4 v4
theorem below5 {B : Nat} {w W : World} {b : Nat} (h : Below B w W) (hb : B ≤ b) (v0 v1 v2 v3 v4 : Value) :
  Below B w (((((W.setCell ⟨b, 0, none⟩ v0).setCell ⟨b, 1, none⟩ v1).setCell ⟨b, 2, none⟩ v2).setCell ⟨b, 3, none⟩ v3).setCell ⟨b, 4, none⟩ v4) :=
 ((((h.setCell (p := ⟨b, 0, none⟩) hb v0).setCell (p := ⟨b, 1, none⟩) hb v1).setCell (p := ⟨b, 2, none⟩) hb v2).setCell (p := ⟨b, 3, none⟩) hb v3).setCell (p := ⟨b, 4, none⟩) hb v4
theorem R5 {α : Type} {d : Kd α} {e T : Nat} {W : World} {base b : Nat} {v : Value} {xs : List α} {cs : Array Value} (h : d.R e W base (fun _ => True) v xs) (hb : W.heap[b]? = some (.cells cs T (0, 0))) (ht : ∀ q ∈ e :: d.E, q ≠ T) (v0 v1 v2 v3 v4 : Value) :
  d.R e (((((W.setCell ⟨b, 0, none⟩ v0).setCell ⟨b, 1, none⟩ v1).setCell ⟨b, 2, none⟩ v2).setCell ⟨b, 3, none⟩ v3).setCell ⟨b, 4, none⟩ v4) base (fun _ => True) v xs :=
 Kd.R_mono (Kd.R_far (p := ⟨b, 4, none⟩) (Kd.R_far (p := ⟨b, 3, none⟩) (Kd.R_far (p := ⟨b, 2, none⟩) (Kd.R_far (p := ⟨b, 1, none⟩) (Kd.R_far (p := ⟨b, 0, none⟩) (Kd.R_types h hb ht) (fun _ hk => hk.2) v0) (fun _ hk => hk.2) v1) (fun _ hk => hk.2) v2) (fun _ hk => hk.2) v3) (fun _ hk => hk.2) v4) (fun _ _ => trivial)
def filter_Own.f (a0 : Int) (l1 : List S72) (l2 : List Int) (a1 : ByteArray) : Option (Int × Int × List S72 × List Int × ByteArray) := filter_shownA.f (l1.length + 5) 2 a0 l1 l2 a1 (fun _ => some true)
set_option maxHeartbeats 4000000 in
set_option maxRecDepth 100000 in
theorem filter_Own.calls (a0_0 : Int) (A1 : Option Addr) (c1 : Nat) (l1 : List S72) (A2 : Option Addr) (c2 : Nat) (l2 : List Int) (a1 : ByteArray) (r1 : Int) (r2 : Int) (r3 : List S72) (r4 : List Int) (r5 : ByteArray) (w : World) (hr1 : Kd.C k72 w A1 l1.length l1) (hc1 : l1.length ≤ c1) (hr2 : Kd.C (Kd.int .u8) w A2 l2.length l2) (hc2 : l2.length ≤ c2) (h : filter_Own.f a0_0 l1 l2 a1 = some (r1, r2, r3, r4, r5)) :
  Calls Tryd.prog 33 #[.agg #[.int .i64 a0_0, .slice A1 l1.length c1, .slice A2 l2.length c2], .string a1] w fun e w' => ∃ v2_ v3_ : Value, e = .returned (.agg #[.int .i64 r1, .int .i64 r2, v2_, v3_, .string r5]) ∧ Kd.R k72 72 w' w.heap.size (fun _ => True) v2_ r3 ∧ Kd.R (Kd.int .u8) 5 w' w.heap.size (fun _ => True) v3_ r4 ∧ Below w.heap.size w w' := by
 have HR1 := Lib.hid hr1
 have HR2 := Lib.hid hr2
 have HC1 := Lib.hid hc1
 have HC2 := Lib.hid hc2
 unfold filter_Own.f at h
 have H := Lib.hid h
 have HB := Aside0.mk (Below.refl w.heap.size w)
 clear hr1 hr2 hc1 hc2 h
 have hu := Tryd.underlying63
 have hu2 := Tryd.underlying66
 go_enter Tryd.func33, Tryd.ntmps33
 go_wp2_with (first
  | ((with_reducible refine gate_dst (N := 2) rfl ?_); refine box_event ?hg (N := 2) ?hd (cs := #[.int .i64 a0_0, .slice A1 l1.length c1, .slice A2 l2.length c2]) (t := 63) ?hr ?_; (case hd => rfl); (case hg => rfl); (case hr => first | (go_simp; done) | (go_simp; rfl)); intro gA hg w1 hbox hb; have BA := Aside0.mk hbox; have HB1 := Aside0.mk (below_step HB.out hb); have GA := Aside0.mk (by rw [hg]; exact below_size HB.out : w.heap.size ≤ gA); clear hg hbox hb HB)
  | ((with_reducible refine gate_dst (N := 4) rfl ?_); refine box_event ?hg (N := 4) ?hd (cs := zresp) (t := 66) ?hr ?_; (case hd => rfl); (case hg => rfl); (case hr => first | (go_simp; done) | (go_simp; rfl)); intro gB hg w2 hbox hb; have BA2 := Aside0.mk (blk_below BA.out hb); have BB := Aside0.mk hbox; have HB2 := Aside0.mk (below_step HB1.out hb); have GB := Aside0.mk (by rw [hg]; exact below_size HB1.out : w.heap.size ≤ gB); clear hg hbox hb HB1 BA; have y0 := (blk_cell BA2.out 0).trans rfl; have y1 := (blk_cell BA2.out 1).trans rfl; have y2 := (blk_cell BA2.out 2).trans rfl)
  | (go_at_call 76; (with_reducible refine (filter_shownA.calls _ 2 a0_0 A1 c1 l1 A2 c2 l2 a1 (fun _ => some true) r1 r2 r3 r4 r5 _ (fun W t r _ hr => by injection hr with hr; subst hr; exact own_true t W) (Kd.C_below HR1.out HB2.out) HC1.out (Kd.C_below HR2.out HB2.out) HC2.out H.out).mono ?_); rintro e w3 ⟨v2, v3, rfl, o1, o2, hb⟩; have O1 := Aside0.mk (Kd.R_lower o1 (below_size HB2.out)); have O2 := Aside0.mk (Kd.R_lower o2 (below_size HB2.out)); have BB3 := Aside0.mk (blk_below BB.out hb); have HB3 := Aside0.mk (below_step HB2.out hb); clear o1 o2 hb BB HB2; obtain ⟨Ap, cp, ep⟩ := Kd.R_slice O1.out; subst ep; obtain ⟨Aq, cq, eq⟩ := Kd.R_slice O2.out; subst eq; have z0 := (blk_cell BB3.out 0).trans rfl; have z1 := (blk_cell BB3.out 1).trans rfl; have z2 := (blk_cell BB3.out 2).trans rfl; have z3 := (blk_cell BB3.out 3).trans rfl; have z4 := (blk_cell BB3.out 4).trans rfl; have f0 := blk_frozen BB3.out 0; have f1 := blk_frozen BB3.out 1; have f2 := blk_frozen BB3.out 2; have f3 := blk_frozen BB3.out 3; have f4 := blk_frozen BB3.out 4))
 refine bodyPost_ret (results_cell_row rfl _ _ gB 66 #[.int .i64 r1, .int .i64 r2, .slice Ap r3.length cp, .slice Aq r4.length cq, .string r5] (0, 0) _ rfl (put5 BB3.out _ _ _ _ _) hu2 rfl q20_) rfl ?_
 exact ⟨_, _, rfl, R5 O1.out BB3.out (by decide) _ _ _ _ _, R5 O2.out BB3.out (by decide) _ _ _ _ _, below5 HB3.out GB.out _ _ _ _ _⟩
def fixedB (n : ByteArray) : Bool :=
 n.toList == [99, 97, 99, 104, 101, 45, 99, 111, 110, 116, 114, 111, 108] || n.toList == [99, 111, 110, 116, 101, 110, 116, 45, 108, 97, 110, 103, 117, 97, 103, 101] || n.toList == [99, 111, 110, 116, 101, 110, 116, 45, 108, 101, 110, 103, 116, 104] || n.toList == [99, 111, 110, 116, 101, 110, 116, 45, 116, 121, 112, 101] || n.toList == [101, 120, 112, 105, 114, 101, 115] || n.toList == [108, 97, 115, 116, 45, 109, 111, 100, 105, 102, 105, 101, 100] || n.toList == [112, 114, 97, 103, 109, 97]
set_option maxHeartbeats 1000000 in
set_option maxRecDepth 100000 in
theorem share_fn (n : ByteArray) (all r : Bool) (A : Option Addr) (c : Nat) (zs : List ByteArray) (g1 g2 : Nat) (W : World) (h1 : W.cell? ⟨g1, 0, none⟩ = some (.bool all)) (h2 : W.cell? ⟨g2, 0, none⟩ = some (.slice A zs.length c)) (hC : Kd.C Kd.string W A zs.length zs) (hr : (fixedB n || (all || Lib.containsS zs n)) = r) :
  Calls Tryd.prog 79 #[.string n, .pointer (some ⟨g1, 0, none⟩), .pointer (some ⟨g2, 0, none⟩)] W fun e w' => e = .returned (.bool r) ∧ Below W.heap.size W w' := by
 have HC := Lib.hid hC
 obtain ⟨st, hst⟩ : ∃ st, Lib.containsS zs n = st := ⟨_, rfl⟩
 have HST := Lib.hid hst
 rw [hst] at hr
 have HR := Lib.hid hr
 clear hC hst hr
 cases all <;> cases st
 all_goals
  go_enter Tryd.func79, Tryd.ntmps79
  go_wp2_with (go_at_call 80; (with_reducible refine (contains_any A c zs n _ _ HC.out HST.out).mono ?_); rintro e w2 ⟨rfl, rfl⟩)
 all_goals
  go_ret
  refine ⟨?_, Below.refl _ _⟩
  rw [← HR.out]
  simp_all [fixedB]
def tokB (K : Nat) (p : ByteArray) : Bool := infra_Token.f K p == some true
def lowB_ (K : Nat) (ps : List ByteArray) (n : ByteArray) : Bool := ps.any fun p => tokB K p && ((lowS p).data.toList == n.data.toList)
def shareP (K : Nat) (ps : List ByteArray) (all : Bool) (n : ByteArray) : Option Bool := some (fixedB n || (all || lowB_ K ps n))
def filter_Share.f (a0 : Int) (l1 : List S72) (l2 : List Int) (a1 : ByteArray) (a2 : Bool) : Option (Int × Int × List S72 × List Int × ByteArray) :=
 (headers_Split.f 100000 l1 nmExpose).bind fun s => if s.1.length ≤ 1000000 then if (s.1.all fun p => decide (p.size ≤ 1000000) && (infra_Token.f 100000 p).isSome) = true then filter_shownB.f (l1.length + 5) 3 a0 l1 l2 a1 (shareP 100000 s.1 (!a2 && Lib.containsS s.1 ⟨#[42]⟩)) else none else none
theorem share_inj {K : Nat} {ps : List ByteArray} {all r : Bool} {t : ByteArray} (h : shareP K ps all t = some r) : (fixedB t || (all || lowB_ K ps t)) = r := by
 unfold shareP at h
 injection h
theorem share_in {K : Nat} {ps zs : List ByteArray} {all : Bool} (h : all = false → ∀ x, x ∈ zs.map (·.data.toList) ↔ lowIn (tokB K) ps x) (n : ByteArray) : (fixedB n || (all || Lib.containsS zs n)) = (fixedB n || (all || lowB_ K ps n)) := by
 cases all with
 | true => simp
 | false =>
  have e : Lib.containsS zs n = lowB_ K ps n := by
   rw [Bool.eq_iff_iff, Lib.containsS_iff]
   unfold lowB_
   rw [List.any_eq_true]
   have h1 := h rfl n.data.toList
   unfold lowIn at h1
   constructor
   ·intro hz
    obtain ⟨p, hp, h2, h3⟩ := h1.1 (List.mem_map.2 ⟨n, hz, rfl⟩)
    exact ⟨p, hp, by rw [h2, h3]; simp⟩
   ·rintro ⟨p, hp, h2⟩
    rw [Bool.and_eq_true, beq_iff_eq] at h2
    obtain ⟨z, hz, hzn⟩ := List.mem_map.1 (h1.2 ⟨p, hp, h2.1, h2.2⟩)
    have : z = n := by
     obtain ⟨z⟩ := z
     obtain ⟨n⟩ := n
     congr 1
     exact Array.toList_inj.1 hzn
    exact this ▸ hz
  rw [e]
set_option maxHeartbeats 4000000 in
set_option maxRecDepth 100000 in
theorem filter_Share.calls (a0_0 : Int) (A1 : Option Addr) (c1 : Nat) (l1 : List S72) (A2 : Option Addr) (c2 : Nat) (l2 : List Int) (a1 : ByteArray) (a2 : Bool) (r1 : Int) (r2 : Int) (r3 : List S72) (r4 : List Int) (r5 : ByteArray) (w : World) (hr1 : Kd.C k72 w A1 l1.length l1) (hc1 : l1.length ≤ c1) (hr2 : Kd.C (Kd.int .u8) w A2 l2.length l2) (hc2 : l2.length ≤ c2) (h : filter_Share.f a0_0 l1 l2 a1 a2 = some (r1, r2, r3, r4, r5)) :
  Calls Tryd.prog 34 #[.agg #[.int .i64 a0_0, .slice A1 l1.length c1, .slice A2 l2.length c2], .string a1, .bool a2] w fun e w' => ∃ v2_ v3_ : Value, e = .returned (.agg #[.int .i64 r1, .int .i64 r2, v2_, v3_, .string r5]) ∧ Kd.R k72 72 w' w.heap.size (fun _ => True) v2_ r3 ∧ Kd.R (Kd.int .u8) 5 w' w.heap.size (fun _ => True) v3_ r4 ∧ Below w.heap.size w w' := by
 unfold filter_Share.f at h
 obtain ⟨⟨ps, bq⟩, hs, h⟩ := Option.bind_eq_some_iff.1 h
 simp only at h
 rcases Classical.em (ps.length ≤ 1000000) with hlen | hlen
 case inr => rw [if_neg hlen] at h; cases h
 rw [if_pos hlen] at h
 rcases Classical.em ((ps.all fun p => decide (p.size ≤ 1000000) && (infra_Token.f 100000 p).isSome) = true) with hall | hall
 case inr => rw [if_neg hall] at h; cases h
 rw [if_pos hall] at h
 have HR1 := Lib.hid hr1
 have HR2 := Lib.hid hr2
 have HC1 := Lib.hid hc1
 have HC2 := Lib.hid hc2
 have HS := Lib.hid hs
 have HT := Lib.hid (fun p hp => by
  have h1 := List.all_eq_true.1 hall p hp
  rw [Bool.and_eq_true] at h1
  obtain ⟨b, hb⟩ := Option.isSome_iff_exists.1 h1.2
  rw [hb]
  cases b <;> simp [tokB, hb] : ∀ p ∈ ps, infra_Token.f 100000 p = some (tokB 100000 p))
 have HZ := Lib.hid (fun p hp => by
  have h1 := List.all_eq_true.1 hall p hp
  rw [Bool.and_eq_true] at h1
  exact of_decide_eq_true h1.1 : ∀ p ∈ ps, p.size ≤ 1000000)
 obtain ⟨all, ha⟩ : ∃ all, all = (!a2 && Lib.containsS ps ⟨#[42]⟩) := ⟨_, rfl⟩
 rw [← ha] at h
 have HA := Lib.hid ha
 have H := Lib.hid h
 have HL := Lib.hid hlen
 have HB := Aside0.mk (Below.refl w.heap.size w)
 clear hr1 hr2 hc1 hc2 h hs hlen hall ha
 have hu := Tryd.underlying63
 have hu2 := Tryd.underlying66
 go_enter Tryd.func34, Tryd.ntmps34
 go_wp2_with (first
  | ((with_reducible refine gate_dst (N := 3) rfl ?_); refine box_event ?hg (N := 3) ?hd (cs := #[.int .i64 a0_0, .slice A1 l1.length c1, .slice A2 l2.length c2]) (t := 63) ?hr ?_; (case hd => rfl); (case hg => rfl); (case hr => first | (go_simp; done) | (go_simp; rfl)); intro gA hg w1 hbox hb; have BA := Aside0.mk hbox; have HB1 := Aside0.mk (below_step HB.out hb); have GA := Aside0.mk (by rw [hg]; exact below_size HB.out : w.heap.size ≤ gA); clear hg hbox hb HB)
  | ((with_reducible refine gate_dst (N := 6) rfl ?_); refine box_event ?hg (N := 6) ?hd (cs := zresp) (t := 66) ?hr ?_; (case hd => rfl); (case hg => rfl); (case hr => first | (go_simp; done) | (go_simp; rfl)); intro gB hg w2 hbox hb; have BA2 := Aside0.mk (blk_below BA.out hb); have BB := Aside0.mk hbox; have HB2 := Aside0.mk (below_step HB1.out hb); have GB := Aside0.mk (by rw [hg]; exact below_size HB1.out : w.heap.size ≤ gB); clear hg hbox hb HB1 BA; have y1 := (blk_cell BA2.out 1).trans rfl)
  | (go_at_call 78; (with_reducible refine (exposed_any 100000 A1 c1 l1 a2 all ps bq (tokB 100000) _ (Kd.C_below HR1.out HB2.out) HC1.out HS.out HT.out HZ.out HL.out HA.out).mono ?_); rintro e w3 ⟨Az, cz, zs, rfl, hcz, hCz, hin, hb⟩; have BA3 := Aside0.mk (blk_below BA2.out hb); have BB3 := Aside0.mk (blk_below BB.out hb); have HB3 := Aside0.mk (below_step HB2.out hb); have HCZ := Lib.hid hCz; have HIN := Lib.hid hin; clear hcz hCz hin hb BA2 BB HB2 y1)
  | ((with_reducible refine gate_dst (N := 7) rfl ?_); refine box_event ?hg (N := 7) ?hd (cs := #[.slice none 0 0]) (t := 84) ?hr ?_; (case hd => rfl); (case hg => rfl); (case hr => first | (go_simp; done) | (go_simp; rfl)); intro gN hg w4 hbox hb; have BA4 := Aside0.mk (blk_below BA3.out hb); have BB4 := Aside0.mk (blk_below BB3.out hb); have BN4 := Aside0.mk hbox; have HB4 := Aside0.mk (below_step HB3.out hb); have GN := Aside0.mk (by rw [hg]; exact below_size HB3.out : w.heap.size ≤ gN); have HCZ4 := Lib.hid (Kd.C_below HCZ.out hb); have NZ := Aside0.mk (by rw [hg]; exact Nat.le_refl _ : w3.heap.size ≤ gN); have C4 := Aside0.mk hb; clear hg hbox hb BA3 BB3 HB3)
  | ((with_reducible refine gate_dst (N := 8) rfl ?_); refine box_event ?hg (N := 8) ?hd (cs := #[.bool false]) (t := 4) ?hr ?_; (case hd => rfl); (case hg => rfl); (case hr => first | (go_simp; done) | (go_simp; rfl)); intro gL hg w5 hbox hb; have BA5 := Aside0.mk (blk_below BA4.out hb); have BB5 := Aside0.mk (blk_below BB4.out hb); have BN5 := Aside0.mk (blk_below BN4.out hb); have BL5 := Aside0.mk hbox; have HB5 := Aside0.mk (below_step HB4.out hb); have C5 := Aside0.mk (below_step C4.out hb); have GL := Aside0.mk (by rw [hg]; exact below_size HB4.out : w.heap.size ≤ gL); have NL := Aside0.mk (by rw [hg]; exact below_size C4.out : w3.heap.size ≤ gL); clear hg hbox hb BA4 BB4 BN4 HB4 C4; have NA := Aside0.mk (blk_ne BA5.out BN5.out (by decide)); have LA := Aside0.mk (blk_ne BA5.out BL5.out (by decide)); have NB := Aside0.mk (blk_ne BB5.out BN5.out (by decide)); have LB := Aside0.mk (blk_ne BB5.out BL5.out (by decide)); have LN := Aside0.mk (blk_ne BN5.out BL5.out (by decide)); have n0 := (blk_cell BN5.out 0).trans rfl; have nf := blk_frozen BN5.out 0; have l1b := blk_far (p := ⟨gN, 0, none⟩) BL5.out (fun e => LN.out e.symm) (.slice Az zs.length cz); have l0 := (blk_cell l1b 0).trans rfl; have lf := blk_frozen l1b 0; have b6 := blk_far (p := ⟨gL, 0, none⟩) (blk_far (p := ⟨gN, 0, none⟩) BA5.out NA.out (.slice Az zs.length cz)) LA.out (.bool all); have y0 := (blk_cell b6 0).trans rfl; have y1 := (blk_cell b6 1).trans rfl; have y2 := (blk_cell b6 2).trans rfl; have BB6 := Aside0.mk (blk_far (p := ⟨gL, 0, none⟩) (blk_far (p := ⟨gN, 0, none⟩) BB5.out NB.out (.slice Az zs.length cz)) LB.out (.bool all)); have BN6 := Aside0.mk (blk_far (p := ⟨gL, 0, none⟩) (blk_put (cs' := #[.slice Az zs.length cz]) BN5.out 0 (.slice Az zs.length cz) rfl) LN.out (.bool all)); have BL6 := Aside0.mk (blk_put (cs' := #[.bool all]) l1b 0 (.bool all) rfl); have HB6 := Aside0.mk (below_set (j := 0) (v := .bool all) (below_set (j := 0) (v := .slice Az zs.length cz) HB5.out GN.out) GL.out); have HCZ6 := Lib.hid (Kd.C_below HCZ.out (below_set (j := 0) (v := .bool all) (below_set (j := 0) (v := .slice Az zs.length cz) C5.out NZ.out) NL.out)); clear b6 l1b BA5 BB5 BN5 BL5 HB5 C5)
  | (go_at_call 76; (with_reducible refine (filter_shownB.calls _ 3 a0_0 A1 c1 l1 A2 c2 l2 a1 (shareP 100000 ps all) r1 r2 r3 r4 r5 _ _ _ (fun W t r hbW hr => share_fn t all r Az cz zs gL gN W ((blk_cell (blk_below BL6.out hbW) 0).trans rfl) ((blk_cell (blk_below BN6.out hbW) 0).trans rfl) (Kd.C_below HCZ6.out hbW) ((share_in HIN.out t).trans (share_inj hr))) (Kd.C_below HR1.out HB6.out) HC1.out (Kd.C_below HR2.out HB6.out) HC2.out H.out).mono ?_); rintro e w7 ⟨v2, v3, rfl, o1, o2, hb⟩; have O1 := Aside0.mk (Kd.R_lower o1 (below_size HB6.out)); have O2 := Aside0.mk (Kd.R_lower o2 (below_size HB6.out)); have BB7 := Aside0.mk (blk_below BB6.out hb); have HB7 := Aside0.mk (below_step HB6.out hb); clear o1 o2 hb BB6 HB6; obtain ⟨Ap, cp, ep⟩ := Kd.R_slice O1.out; subst ep; obtain ⟨Aq, cq, eq⟩ := Kd.R_slice O2.out; subst eq; have z0 := (blk_cell BB7.out 0).trans rfl; have z1 := (blk_cell BB7.out 1).trans rfl; have z2 := (blk_cell BB7.out 2).trans rfl; have z3 := (blk_cell BB7.out 3).trans rfl; have z4 := (blk_cell BB7.out 4).trans rfl; have f0 := blk_frozen BB7.out 0; have f1 := blk_frozen BB7.out 1; have f2 := blk_frozen BB7.out 2; have f3 := blk_frozen BB7.out 3; have f4 := blk_frozen BB7.out 4))
 refine bodyPost_ret (results_cell_row rfl _ _ gB 66 #[.int .i64 r1, .int .i64 r2, .slice Ap r3.length cp, .slice Aq r4.length cq, .string r5] (0, 0) _ rfl (put5 BB7.out _ _ _ _ _) hu2 rfl q20_) rfl ?_
 exact ⟨_, _, rfl, R5 O1.out BB7.out (by decide) _ _ _ _ _, R5 O2.out BB7.out (by decide) _ _ _ _ _, below5 HB7.out GB.out _ _ _ _ _⟩
end Go.Proofs.YtifmkgkiipckbaaDoor.P
namespace Go.Proofs.YtifmkgkiipckbaaDoor.P
open Go.RowKit Go.Proofs.YtifmkgkiipckbaaDoorW.PrintWords Go.Proofs.YtifmkgkiipckbaaDoorW.PrintLast Go.Proofs.YtifmkgkiipckbaaDoorW.PrintMore
attribute [local go_sem] max2_int min2_int max_two min_two max_three min_three max_four min_four
set_option linter.unusedVariables false
set_option linter.unusedSimpArgs false
def ostiarylaw20_h.f (a0 : ByteArray) (a1 : ByteArray) : Option (ByteArray × ByteArray) := some (a0, a1)
set_option maxHeartbeats 8000000 in
set_option maxRecDepth 100000 in
theorem ostiarylaw20_h.calls (a0 : ByteArray) (a1 : ByteArray) (r1 : ByteArray) (r2 : ByteArray) (w : World) (h : ostiarylaw20_h.f a0 a1 = some (r1, r2)) :
  Calls Tryd.prog 37 #[.string a0, .string a1] w fun e w' => e = .returned (.agg #[.string r1, .string r2]) ∧ Below w.heap.size w w' := by
 have hu72 := Tryd.underlying72
 have HB := Aside0.mk (Below.refl w.heap.size w)
 have H : (some (a0, a1)) = some (r1, r2) := h
 clear h
 simp only [Option.some.injEq, Prod.mk.injEq] at H
 obtain ⟨rfl, rfl⟩ := H
 go_enter Tryd.func37, Tryd.ntmps37
 go_wp2_with (first | ((with_reducible refine gate_dst (N := 4) rfl ?_); refine box_event ?hg (N := 4) ?hd (cs := #[.string (⟨#[]⟩ : ByteArray), .string (⟨#[]⟩ : ByteArray)]) (t := 72) ?hr ?_; (case hd => rfl); (case hg => rfl); (case hr => first | (go_simp; done) | (go_simp; rfl)); intro gb101 hg w3 hbox hb; have n0_ := Aside0.mk (below_step hB hb); have n1_ := Aside0.mk (hbox); have n2_ := Aside0.mk ((by rw [hg]; exact (below_size hB) : w.heap.size ≤ gb101)); have n3_ := Aside0.mk ((by rw [hg]; exact (below_size hB) : w.heap.size ≤ gb101)); clear HB; have HB := n0_; have BK101 := n1_; have GW101 := n2_; have GE101 := n3_; clear n0_ n1_ n2_ n3_; clear hb hbox hg; have hcz4_0 : w3.cell? ⟨gb101, 0, none⟩ = some (.string (⟨#[]⟩ : ByteArray)) := (blk_cell BK101.out 0).trans rfl; have hcz4_1 : w3.cell? ⟨gb101, 1, none⟩ = some (.string (⟨#[]⟩ : ByteArray)) := (blk_cell BK101.out 1).trans rfl; have hfz4_0 := blk_frozen BK101.out 0; have hfz4_1 := blk_frozen BK101.out 1))
 refine bodyPost_ret (results_cell_row rfl _ _ gb101 72 #[.string a0, .string a1] (0, 0) _ rfl (by (with_reducible repeat (first | refine blk_drewN ?_ _ | refine blk_drew ?_ | refine blk_alloc ?_ _)); refine blk_put (cs := #[.string a0, .string (⟨#[]⟩ : ByteArray)]) ?_ 1 _ rfl; (with_reducible repeat (first | refine blk_drewN ?_ _ | refine blk_drew ?_ | refine blk_alloc ?_ _)); refine blk_put (cs := #[.string (⟨#[]⟩ : ByteArray), .string (⟨#[]⟩ : ByteArray)]) ?_ 0 _ rfl; (with_reducible repeat (first | refine blk_drewN ?_ _ | refine blk_drew ?_ | refine blk_alloc ?_ _)); exact BK101.out) Tryd.underlying72 rfl q20_) rfl ?_
 exact ⟨by first | rfl | (simp [errW_none, errW_some] <;> rfl) | (simp [*, errW_none, errW_some] <;> rfl), by repeat (first | (with_reducible first | exact HB.out | apply below_alloc | apply pw_below_drewN | apply below_drew1 | refine below_set ?_ GE101.out) | exact HB.out)⟩
end Go.Proofs.YtifmkgkiipckbaaDoor.P
namespace Go.Proofs.YtifmkgkiipckbaaDoor.P
open Go.RowKit Go.Proofs.YtifmkgkiipckbaaDoorW.PrintWords Go.Proofs.YtifmkgkiipckbaaDoorW.PrintLast Go.Proofs.YtifmkgkiipckbaaDoorW.PrintMore
attribute [local go_sem] max2_int min2_int max_two min_two max_three min_three max_four min_four
set_option linter.unusedVariables false
set_option linter.unusedSimpArgs false
theorem eqA72 (d : Nat) (w : World) (x0 y0 : ByteArray) (x1 y1 : ByteArray) :
  (Op.equalIn (d + 2) 72 (.agg #[.string x0, .string x1]) (.agg #[.string y0, .string y1])).run Tryd.prog w = .ok (x0.toList == y0.toList && (x1.toList == y1.toList)) w := by
 refine eqA_of Tryd.underlying72 q20_ ?_
 refine eqf_cons (by rfl) (by go_simp; rfl) (by go_simp; rfl) (by go_simp) ?_
 exact eqf_last (by rfl) (by go_simp; rfl) (by go_simp; rfl) (by go_simp)
end Go.Proofs.YtifmkgkiipckbaaDoor.P
namespace Go.Proofs.YtifmkgkiipckbaaDoor.P
open Go.RowKit Go.Proofs.YtifmkgkiipckbaaDoorW.PrintWords Go.Proofs.YtifmkgkiipckbaaDoorW.PrintLast Go.Proofs.YtifmkgkiipckbaaDoorW.PrintMore
attribute [local go_sem] max2_int min2_int max_two min_two max_three min_three max_four min_four
set_option linter.unusedVariables false
set_option linter.unusedSimpArgs false
attribute [local go_sem high] eqA72
def api_Header.l0 : Nat → List (S72) → List (S72) → Int → Option (Bool)
 | 0, _, _, _ => none
 | k + 1, x0, x1, x5 => if x5 < (x0.length : Int) then (if 0 ≤ x5 then (if x5 < (x1.length : Int) then (if (!((((rd_T72 x0 x5).f0).toList) == (((rd_T72 x1 x5).f0).toList)) || (!((((rd_T72 x0 x5).f1).toList) == (((rd_T72 x1 x5).f1).toList)))) = true then (some false) else (api_Header.l0 k x0 x1 (wrap64 (x5 + 1)))) else (none)) else (none)) else (some true)
def api_Header.f (k : Nat) (l0 : List (S72)) (l1 : List (S72)) : Option (Bool) := if (l0.length : Int) = (l1.length : Int) then (api_Header.l0 k l0 l1 0) else (some false)
theorem api_Header.mono_l : ∀ k, (∀ y0 y1 y2, LeO (api_Header.l0 k y0 y1 y2) (api_Header.l0 (k + 1) y0 y1 y2))
 | 0 => fun _ _ _ r h => by simp [api_Header.l0] at h
 | k + 1 => by
  have ih0 := api_Header.mono_l k
  ·intro y0 y1 y2
   unfold api_Header.l0
   exact lO
theorem api_Header.mono : ∀ a0 a1 k, LeO (api_Header.f k a0 a1) (api_Header.f (k + 1) a0 a1) := by
 intro a0 a1 k
 have ih0 := api_Header.mono_l k
 unfold api_Header.f
 exact lO
set_option maxHeartbeats 8000000 in
set_option maxRecDepth 100000 in
theorem api_Header.calls (k : Nat) (A0 : Option Addr) (c0 : Nat) (l0 : List (S72)) (A1 : Option Addr) (c1 : Nat) (l1 : List (S72)) (r : Bool) (w : World) (hr0 : Kd.C k72 w A0 l0.length l0) (hc0 : l0.length ≤ c0) (hr1 : Kd.C k72 w A1 l1.length l1) (hc1 : l1.length ≤ c1) (h : api_Header.f k l0 l1 = some r) :
  Calls Tryd.prog 45 #[.slice A0 l0.length c0, .slice A1 l1.length c1] w fun e w' => e = .returned (.bool r) ∧ Drawn0 w w' := by
 have hu72 := Tryd.underlying72
 have HR0 := Aside0.mk hr0
 have HC0 := Aside0.mk hc0
 clear hr0 hc0
 have HR1 := Aside0.mk hr1
 have HC1 := Aside0.mk hc1
 clear hr1 hc1
 have H : (if (l0.length : Int) = (l1.length : Int) then (api_Header.l0 k l0 l1 0) else (some false)) = some r := h
 clear h
 by_cases c3 : (l0.length : Int) = (l1.length : Int)
 ·rw [if_pos c3] at H
  have c3b0 : ((l0.length : Int) == (l1.length : Int)) = true := beq_iff_eq.mpr c3
  have c3b1 : ((l0.length : Int) != (l1.length : Int)) = false := bne_eq_false_iff_eq.mpr c3
  have c3b2 : (l0.length == l1.length) = true := by first | simpa using c3 | (simp at c3 ⊢; omega)
  clear c3
  have H' := Aside0.mk H
  clear H
  go_enter Tryd.func45, Tryd.ntmps45
  go_wp2
  repeat (go_quiet (fail); try go_wp2)
  go_loopg [5] k (fun kq v5 w' => ∃ (x5_1 : Int), v5 = .int .i64 x5_1 ∧ Aside0 (api_Header.l0 kq l0 l1 x5_1 = some r) ∧ Aside0 (kq ≤ k) ∧ Drawn0 w w')
  case atStart => exact ⟨(0), rS, H', ⟨Nat.le_refl _⟩, by repeat (first | exact Drawn0.refl _ | apply Drawn0.step)⟩
  case round =>
   clear H'
   try clear c1
   try clear p2
   try clear c3
   try clear c3b0
   try clear c3b1
   try clear c3b2
   obtain ⟨x5_1, rfl, HA, HK1, ⟨m1, rfl⟩⟩ := hrel
   cases gk with
   | zero => exact absurd HA.out (by simp [api_Header.l0])
   | succ k1 =>
    have H := HA.out
    clear HA
    simp only [api_Header.l0] at H
    by_cases c4 : x5_1 < (l0.length : Int)
    ·rw [if_pos c4] at H
     have c4b0 : decide (x5_1 < (l0.length : Int)) = true := decide_eq_true c4
     clear c4
     by_cases c5 : 0 ≤ x5_1
     ·rw [if_pos c5] at H
      have c5b0 : decide (0 ≤ x5_1) = true := decide_eq_true c5
      clear c5
      by_cases c6 : x5_1 < (l1.length : Int)
      ·rw [if_pos c6] at H
       have c6b0 : decide (x5_1 < (l1.length : Int)) = true := decide_eq_true c6
       clear c6
       by_cases c7 : (!((((rd_T72 l0 x5_1).f0).toList) == (((rd_T72 l1 x5_1).f0).toList)) || (!((((rd_T72 l0 x5_1).f1).toList) == (((rd_T72 l1 x5_1).f1).toList)))) = true
       ·rw [if_pos c7] at H
        have c7b0 : (!((((rd_T72 l0 x5_1).f0).toList) == (((rd_T72 l1 x5_1).f0).toList)) || (!((((rd_T72 l0 x5_1).f1).toList) == (((rd_T72 l1 x5_1).f1).toList)))) = true := c7
        clear c7
        obtain rfl := Option.some.inj H
        have p102 : 0 ≤ (x5_1 : Int) := of_decide_eq_true aS
        have q102 : x5_1 < (l0.length : Int) := of_decide_eq_true aS
        obtain ⟨ad102, e102, hx102_0, hx102_1⟩ := at_T72 HR0.out x5_1 p102 q102
        cases e102
        replace p102 := eq_true p102
        replace q102 := eq_true q102
        have p103 : 0 ≤ (x5_1 : Int) := of_decide_eq_true aS
        have q103 : x5_1 < (l1.length : Int) := of_decide_eq_true aS
        obtain ⟨ad103, e103, hx103_0, hx103_1⟩ := at_T72 HR1.out x5_1 p103 q103
        cases e103
        replace p103 := eq_true p103
        replace q103 := eq_true q103
        go_wp2
        repeat (go_quiet (fail); try go_wp2)
        go_ret
        exact ⟨rS, by repeat (first | exact Drawn0.refl _ | apply Drawn0.step)⟩
       ·rw [if_neg c7] at H
        have c7b0 : (!((((rd_T72 l0 x5_1).f0).toList) == (((rd_T72 l1 x5_1).f0).toList)) || (!((((rd_T72 l0 x5_1).f1).toList) == (((rd_T72 l1 x5_1).f1).toList)))) = false := by simpa using c7
        clear c7
        have H' := Aside0.mk H
        clear H
        have p102 : 0 ≤ (x5_1 : Int) := of_decide_eq_true aS
        have q102 : x5_1 < (l0.length : Int) := of_decide_eq_true aS
        obtain ⟨ad102, e102, hx102_0, hx102_1⟩ := at_T72 HR0.out x5_1 p102 q102
        cases e102
        replace p102 := eq_true p102
        replace q102 := eq_true q102
        have p103 : 0 ≤ (x5_1 : Int) := of_decide_eq_true aS
        have q103 : x5_1 < (l1.length : Int) := of_decide_eq_true aS
        obtain ⟨ad103, e103, hx103_0, hx103_1⟩ := at_T72 HR1.out x5_1 p103 q103
        cases e103
        replace p103 := eq_true p103
        replace q103 := eq_true q103
        go_wp2
        repeat (go_quiet (fail); try go_wp2)
        go_roundg k1
        case measure => have := HK1.out; omega
        case rel => exact ⟨(wrap64 (x5_1 + 1)), rS, H', ⟨by have := HK1.out; omega⟩, by repeat (first | exact Drawn0.refl _ | apply Drawn0.step)⟩
      ·rw [if_neg c6] at H
       exact absurd H (by simp)
     ·rw [if_neg c5] at H
      exact absurd H (by simp)
    ·rw [if_neg c4] at H
     have c4b0 : decide (x5_1 < (l0.length : Int)) = false := decide_eq_false c4
     clear c4
     obtain rfl := Option.some.inj H
     go_wp2
     repeat (go_quiet (fail); try go_wp2)
     go_ret
     exact ⟨rS, by repeat (first | exact Drawn0.refl _ | apply Drawn0.step)⟩
 ·rw [if_neg c3] at H
  have c3b0 : ((l0.length : Int) == (l1.length : Int)) = false := beq_eq_false_iff_ne.mpr c3
  have c3b1 : ((l0.length : Int) != (l1.length : Int)) = true := bne_iff_ne.mpr c3
  have c3b2 : (l0.length == l1.length) = false := by first | simpa using c3 | (simp at c3 ⊢; omega)
  obtain rfl := Option.some.inj H
  go_enter Tryd.func45, Tryd.ntmps45
  go_wp2
  repeat (go_quiet (fail); try go_wp2)
  go_ret
  exact ⟨rS, by repeat (first | exact Drawn0.refl _ | apply Drawn0.step)⟩
end Go.Proofs.YtifmkgkiipckbaaDoor.P
namespace Go.Proofs.YtifmkgkiipckbaaDoor.P
open Go.RowKit Go.Proofs.YtifmkgkiipckbaaDoorW.PrintWords Go.Proofs.YtifmkgkiipckbaaDoorW.PrintLast Go.Proofs.YtifmkgkiipckbaaDoorW.PrintMore
attribute [local go_sem] max2_int min2_int max_two min_two max_three min_three max_four min_four
set_option linter.unusedVariables false
set_option linter.unusedSimpArgs false
def ostiarybook_Same_byte.l0 : Nat → List Int → List Int → Int → Option (Bool)
 | 0, _, _, _ => none
 | k + 1, x0, x1, x5 => if x5 < (x0.length : Int) then (if 0 ≤ x5 then (if x5 < (x1.length : Int) then (if (rd x0 x5) = (rd x1 x5) then (ostiarybook_Same_byte.l0 k x0 x1 (wrap64 (x5 + 1))) else (some false)) else (none)) else (none)) else (some true)
def ostiarybook_Same_byte.f (k : Nat) (l0 : List Int) (l1 : List Int) : Option (Bool) := if (l0.length : Int) = (l1.length : Int) then (ostiarybook_Same_byte.l0 k l0 l1 0) else (some false)
theorem ostiarybook_Same_byte.mono_l : ∀ k, (∀ y0 y1 y2, LeO (ostiarybook_Same_byte.l0 k y0 y1 y2) (ostiarybook_Same_byte.l0 (k + 1) y0 y1 y2))
 | 0 => fun _ _ _ r h => by simp [ostiarybook_Same_byte.l0] at h
 | k + 1 => by
  have ih0 := ostiarybook_Same_byte.mono_l k
  ·intro y0 y1 y2
   unfold ostiarybook_Same_byte.l0
   exact lO
theorem ostiarybook_Same_byte.mono : ∀ a0 a1 k, LeO (ostiarybook_Same_byte.f k a0 a1) (ostiarybook_Same_byte.f (k + 1) a0 a1) := by
 intro a0 a1 k
 have ih0 := ostiarybook_Same_byte.mono_l k
 unfold ostiarybook_Same_byte.f
 exact lO
set_option maxHeartbeats 8000000 in
set_option maxRecDepth 100000 in
theorem ostiarybook_Same_byte.calls (k : Nat) (A0 : Option Addr) (c0 : Nat) (l0 : List Int) (A1 : Option Addr) (c1 : Nat) (l1 : List Int) (r : Bool) (w : World) (hr0 : Kd.C (Kd.int .u8) w A0 l0.length l0) (hc0 : l0.length ≤ c0) (hr1 : Kd.C (Kd.int .u8) w A1 l1.length l1) (hc1 : l1.length ≤ c1) (h : ostiarybook_Same_byte.f k l0 l1 = some r) :
  Calls Tryd.prog 81 #[.slice A0 l0.length c0, .slice A1 l1.length c1] w fun e w' => e = .returned (.bool r) ∧ Drawn0 w w' := by
 have HR0 := Aside0.mk hr0
 have HC0 := Aside0.mk hc0
 clear hr0 hc0
 have HR1 := Aside0.mk hr1
 have HC1 := Aside0.mk hc1
 clear hr1 hc1
 have H : (if (l0.length : Int) = (l1.length : Int) then (ostiarybook_Same_byte.l0 k l0 l1 0) else (some false)) = some r := h
 clear h
 by_cases c3 : (l0.length : Int) = (l1.length : Int)
 ·rw [if_pos c3] at H
  have c3b0 : ((l0.length : Int) == (l1.length : Int)) = true := beq_iff_eq.mpr c3
  have c3b1 : ((l0.length : Int) != (l1.length : Int)) = false := bne_eq_false_iff_eq.mpr c3
  have c3b2 : (l0.length == l1.length) = true := by first | simpa using c3 | (simp at c3 ⊢; omega)
  clear c3
  have H' := Aside0.mk H
  clear H
  go_enter Tryd.func81, Tryd.ntmps81
  go_wp2
  repeat (go_quiet (fail); try go_wp2)
  go_loopg [5] k (fun kq v5 w' => ∃ (x5_1 : Int), v5 = .int .i64 x5_1 ∧ Aside0 (ostiarybook_Same_byte.l0 kq l0 l1 x5_1 = some r) ∧ Aside0 (kq ≤ k) ∧ Drawn0 w w')
  case atStart => exact ⟨(0), rS, H', ⟨Nat.le_refl _⟩, by repeat (first | exact Drawn0.refl _ | apply Drawn0.step)⟩
  case round =>
   clear H'
   try clear c1
   try clear p2
   try clear c3
   try clear c3b0
   try clear c3b1
   try clear c3b2
   obtain ⟨x5_1, rfl, HA, HK1, ⟨m1, rfl⟩⟩ := hrel
   cases gk with
   | zero => exact absurd HA.out (by simp [ostiarybook_Same_byte.l0])
   | succ k1 =>
    have H := HA.out
    clear HA
    simp only [ostiarybook_Same_byte.l0] at H
    by_cases c4 : x5_1 < (l0.length : Int)
    ·rw [if_pos c4] at H
     have c4b0 : decide (x5_1 < (l0.length : Int)) = true := decide_eq_true c4
     clear c4
     by_cases c5 : 0 ≤ x5_1
     ·rw [if_pos c5] at H
      have c5b0 : decide (0 ≤ x5_1) = true := decide_eq_true c5
      clear c5
      by_cases c6 : x5_1 < (l1.length : Int)
      ·rw [if_pos c6] at H
       have c6b0 : decide (x5_1 < (l1.length : Int)) = true := decide_eq_true c6
       clear c6
       by_cases c7 : (rd l0 x5_1) = (rd l1 x5_1)
       ·rw [if_pos c7] at H
        have c7b0 : ((rd l0 x5_1) == (rd l1 x5_1)) = true := beq_iff_eq.mpr c7
        have c7b1 : ((rd l0 x5_1) != (rd l1 x5_1)) = false := bne_eq_false_iff_eq.mpr c7
        clear c7
        have H' := Aside0.mk H
        clear H
        have p104 : 0 ≤ (x5_1 : Int) := of_decide_eq_true aS
        have q104 : x5_1 < (l0.length : Int) := of_decide_eq_true aS
        obtain ⟨ad104, e104, hx104_0⟩ := Kd.at_int HR0.out x5_1 p104 q104
        cases e104
        replace p104 := eq_true p104
        replace q104 := eq_true q104
        have p105 : 0 ≤ (x5_1 : Int) := of_decide_eq_true aS
        have q105 : x5_1 < (l1.length : Int) := of_decide_eq_true aS
        obtain ⟨ad105, e105, hx105_0⟩ := Kd.at_int HR1.out x5_1 p105 q105
        cases e105
        replace p105 := eq_true p105
        replace q105 := eq_true q105
        go_wp2
        repeat (go_quiet (fail); try go_wp2)
        go_roundg k1
        case measure => have := HK1.out; omega
        case rel => exact ⟨(wrap64 (x5_1 + 1)), rS, H', ⟨by have := HK1.out; omega⟩, by repeat (first | exact Drawn0.refl _ | apply Drawn0.step)⟩
       ·rw [if_neg c7] at H
        have c7b0 : ((rd l0 x5_1) == (rd l1 x5_1)) = false := beq_eq_false_iff_ne.mpr c7
        have c7b1 : ((rd l0 x5_1) != (rd l1 x5_1)) = true := bne_iff_ne.mpr c7
        obtain rfl := Option.some.inj H
        have p104 : 0 ≤ (x5_1 : Int) := of_decide_eq_true aS
        have q104 : x5_1 < (l0.length : Int) := of_decide_eq_true aS
        obtain ⟨ad104, e104, hx104_0⟩ := Kd.at_int HR0.out x5_1 p104 q104
        cases e104
        replace p104 := eq_true p104
        replace q104 := eq_true q104
        have p105 : 0 ≤ (x5_1 : Int) := of_decide_eq_true aS
        have q105 : x5_1 < (l1.length : Int) := of_decide_eq_true aS
        obtain ⟨ad105, e105, hx105_0⟩ := Kd.at_int HR1.out x5_1 p105 q105
        cases e105
        replace p105 := eq_true p105
        replace q105 := eq_true q105
        go_wp2
        repeat (go_quiet (fail); try go_wp2)
        go_ret
        exact ⟨rS, by repeat (first | exact Drawn0.refl _ | apply Drawn0.step)⟩
      ·rw [if_neg c6] at H
       exact absurd H (by simp)
     ·rw [if_neg c5] at H
      exact absurd H (by simp)
    ·rw [if_neg c4] at H
     have c4b0 : decide (x5_1 < (l0.length : Int)) = false := decide_eq_false c4
     clear c4
     obtain rfl := Option.some.inj H
     go_wp2
     repeat (go_quiet (fail); try go_wp2)
     go_ret
     exact ⟨rS, by repeat (first | exact Drawn0.refl _ | apply Drawn0.step)⟩
 ·rw [if_neg c3] at H
  have c3b0 : ((l0.length : Int) == (l1.length : Int)) = false := beq_eq_false_iff_ne.mpr c3
  have c3b1 : ((l0.length : Int) != (l1.length : Int)) = true := bne_iff_ne.mpr c3
  have c3b2 : (l0.length == l1.length) = false := by first | simpa using c3 | (simp at c3 ⊢; omega)
  obtain rfl := Option.some.inj H
  go_enter Tryd.func81, Tryd.ntmps81
  go_wp2
  repeat (go_quiet (fail); try go_wp2)
  go_ret
  exact ⟨rS, by repeat (first | exact Drawn0.refl _ | apply Drawn0.step)⟩
end Go.Proofs.YtifmkgkiipckbaaDoor.P
