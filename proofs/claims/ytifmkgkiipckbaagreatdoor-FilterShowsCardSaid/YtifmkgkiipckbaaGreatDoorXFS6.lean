/- A part of the proof of FS: texts of walks and plain lemmas. -/
import Derived.Test.YtifmkgkiipckbaaGreatDoorXFS2
import Derived.Test.YtifmkgkiipckbaaGreatDoorXFS3
import Derived.Test.YtifmkgkiipckbaaGreatDoorXFS5
import Derived.Test.YtifmkgkiipckbaaGreatDoorXFS1
import Derived.Test.YtifmkgkiipckbaaGreatDoorXFS4
namespace Go.Proofs.YtifmkgkiipckbaaGreatDoor.P
open Go.RowKit Go.Proofs.YtifmkgkiipckbaaGreatDoorW.PrintWords Go.Proofs.YtifmkgkiipckbaaGreatDoorW.PrintLast Go.Proofs.YtifmkgkiipckbaaGreatDoorW.PrintMore
set_option linter.unusedVariables false
set_option linter.unusedSimpArgs false
theorem own_true (t : ByteArray) (W : World) : Calls Tryz.prog 110 #[.string t] W fun e w' => e = .returned (.bool true) ∧ Below W.heap.size W w' := by
 go_enter Tryz.func110, Tryz.ntmps110
 go_wp2
 go_ret
 exact ⟨rfl, Below.refl _ _⟩
abbrev zresp : Array Value := #[.int .i64 0, .int .i64 0, .slice none 0 0, .slice none 0 0, .string ⟨#[]⟩]
theorem put5 {W : World} {b T : Nat} {c0 c1 c2 c3 c4 : Value} (hb : W.heap[b]? = some (.cells #[c0, c1, c2, c3, c4] T (0, 0))) (v0 v1 v2 v3 v4 : Value) :
  (((((W.setCell ⟨b, 0, none⟩ v0).setCell ⟨b, 1, none⟩ v1).setCell ⟨b, 2, none⟩ v2).setCell ⟨b, 3, none⟩ v3).setCell ⟨b, 4, none⟩ v4).heap[b]? = some (.cells #[v0, v1, v2, v3, v4] T (0, 0)) := by
 simpa using blk_set (blk_set (blk_set (blk_set (blk_set hb 0 v0) 1 v1) 2 v2) 3 v3) 4 v4
theorem below5 {B : Nat} {w W : World} {b : Nat} (h : Below B w W) (hb : B ≤ b) (v0 v1 v2 v3 v4 : Value) :
  Below B w (((((W.setCell ⟨b, 0, none⟩ v0).setCell ⟨b, 1, none⟩ v1).setCell ⟨b, 2, none⟩ v2).setCell ⟨b, 3, none⟩ v3).setCell ⟨b, 4, none⟩ v4) :=
 ((((h.setCell (p := ⟨b, 0, none⟩) hb v0).setCell (p := ⟨b, 1, none⟩) hb v1).setCell (p := ⟨b, 2, none⟩) hb v2).setCell (p := ⟨b, 3, none⟩) hb v3).setCell (p := ⟨b, 4, none⟩) hb v4
theorem R5 {α : Type} {d : Kd α} {e T : Nat} {W : World} {base b : Nat} {v : Value} {xs : List α} {cs : Array Value} (h : d.R e W base (fun _ => True) v xs) (hb : W.heap[b]? = some (.cells cs T (0, 0))) (ht : ∀ q ∈ e :: d.E, q ≠ T) (v0 v1 v2 v3 v4 : Value) :
  d.R e (((((W.setCell ⟨b, 0, none⟩ v0).setCell ⟨b, 1, none⟩ v1).setCell ⟨b, 2, none⟩ v2).setCell ⟨b, 3, none⟩ v3).setCell ⟨b, 4, none⟩ v4) base (fun _ => True) v xs :=
 Kd.R_mono (Kd.R_far (p := ⟨b, 4, none⟩) (Kd.R_far (p := ⟨b, 3, none⟩) (Kd.R_far (p := ⟨b, 2, none⟩) (Kd.R_far (p := ⟨b, 1, none⟩) (Kd.R_far (p := ⟨b, 0, none⟩) (Kd.R_types h hb ht) (fun _ hk => hk.2) v0) (fun _ hk => hk.2) v1) (fun _ hk => hk.2) v2) (fun _ hk => hk.2) v3) (fun _ hk => hk.2) v4) (fun _ _ => trivial)
def filter_Own.f (a0 : Int) (l1 : List S30) (l2 : List Int) (a1 : ByteArray) : Option (Int × Int × List S30 × List Int × ByteArray) := filter_shownA.f (l1.length + 5) 2 a0 l1 l2 a1 (fun _ => some true)
set_option maxHeartbeats 4000000 in
set_option maxRecDepth 100000 in
theorem filter_Own.calls (a0_0 : Int) (A1 : Option Addr) (c1 : Nat) (l1 : List S30) (A2 : Option Addr) (c2 : Nat) (l2 : List Int) (a1 : ByteArray) (r1 : Int) (r2 : Int) (r3 : List S30) (r4 : List Int) (r5 : ByteArray) (w : World) (hr1 : Kd.C k30 w A1 l1.length l1) (hc1 : l1.length ≤ c1) (hr2 : Kd.C (Kd.int .u8) w A2 l2.length l2) (hc2 : l2.length ≤ c2) (h : filter_Own.f a0_0 l1 l2 a1 = some (r1, r2, r3, r4, r5)) :
  Calls Tryz.prog 55 #[.agg #[.int .i64 a0_0, .slice A1 l1.length c1, .slice A2 l2.length c2], .string a1] w fun e w' => ∃ v2_ v3_ : Value, e = .returned (.agg #[.int .i64 r1, .int .i64 r2, v2_, v3_, .string r5]) ∧ Kd.R k30 30 w' w.heap.size (fun _ => True) v2_ r3 ∧ Kd.R (Kd.int .u8) 5 w' w.heap.size (fun _ => True) v3_ r4 ∧ Below w.heap.size w w' := by
 have HR1 := Lib.hid hr1
 have HR2 := Lib.hid hr2
 have HC1 := Lib.hid hc1
 have HC2 := Lib.hid hc2
 unfold filter_Own.f at h
 have H := Lib.hid h
 have HB := Aside0.mk (Below.refl w.heap.size w)
 clear hr1 hr2 hc1 hc2 h
 have hu := Tryz.underlying28
 have hu2 := Tryz.underlying93
 go_enter Tryz.func55, Tryz.ntmps55
 go_wp2_with (first
  | ((with_reducible refine gate_dst (N := 2) rfl ?_); refine box_event ?hg (N := 2) ?hd (cs := #[.int .i64 a0_0, .slice A1 l1.length c1, .slice A2 l2.length c2]) (t := 28) ?hr ?_; (case hd => rfl); (case hg => rfl); (case hr => first | (go_simp; done) | (go_simp; rfl)); intro gA hg w1 hbox hb; have BA := Aside0.mk hbox; have HB1 := Aside0.mk (below_step HB.out hb); have GA := Aside0.mk (by rw [hg]; exact below_size HB.out : w.heap.size ≤ gA); clear hg hbox hb HB)
  | ((with_reducible refine gate_dst (N := 4) rfl ?_); refine box_event ?hg (N := 4) ?hd (cs := zresp) (t := 93) ?hr ?_; (case hd => rfl); (case hg => rfl); (case hr => first | (go_simp; done) | (go_simp; rfl)); intro gB hg w2 hbox hb; have BA2 := Aside0.mk (blk_below BA.out hb); have BB := Aside0.mk hbox; have HB2 := Aside0.mk (below_step HB1.out hb); have GB := Aside0.mk (by rw [hg]; exact below_size HB1.out : w.heap.size ≤ gB); clear hg hbox hb HB1 BA; have y0 := (blk_cell BA2.out 0).trans rfl; have y1 := (blk_cell BA2.out 1).trans rfl; have y2 := (blk_cell BA2.out 2).trans rfl)
  | (go_at_call 109; (with_reducible refine (filter_shownA.calls _ 2 a0_0 A1 c1 l1 A2 c2 l2 a1 (fun _ => some true) r1 r2 r3 r4 r5 _ (fun W t r _ hr => by injection hr with hr; subst hr; exact own_true t W) (Kd.C_below HR1.out HB2.out) HC1.out (Kd.C_below HR2.out HB2.out) HC2.out H.out).mono ?_); rintro e w3 ⟨v2, v3, rfl, o1, o2, hb⟩; have O1 := Aside0.mk (Kd.R_lower o1 (below_size HB2.out)); have O2 := Aside0.mk (Kd.R_lower o2 (below_size HB2.out)); have BB3 := Aside0.mk (blk_below BB.out hb); have HB3 := Aside0.mk (below_step HB2.out hb); clear o1 o2 hb BB HB2; obtain ⟨Ap, cp, ep⟩ := Kd.R_slice O1.out; subst ep; obtain ⟨Aq, cq, eq⟩ := Kd.R_slice O2.out; subst eq; have z0 := (blk_cell BB3.out 0).trans rfl; have z1 := (blk_cell BB3.out 1).trans rfl; have z2 := (blk_cell BB3.out 2).trans rfl; have z3 := (blk_cell BB3.out 3).trans rfl; have z4 := (blk_cell BB3.out 4).trans rfl; have f0 := blk_frozen BB3.out 0; have f1 := blk_frozen BB3.out 1; have f2 := blk_frozen BB3.out 2; have f3 := blk_frozen BB3.out 3; have f4 := blk_frozen BB3.out 4))
 refine bodyPost_ret (results_cell_row rfl _ _ gB 93 #[.int .i64 r1, .int .i64 r2, .slice Ap r3.length cp, .slice Aq r4.length cq, .string r5] (0, 0) _ rfl (put5 BB3.out _ _ _ _ _) hu2 rfl q9_) rfl ?_
 exact ⟨_, _, rfl, R5 O1.out BB3.out (by decide) _ _ _ _ _, R5 O2.out BB3.out (by decide) _ _ _ _ _, below5 HB3.out GB.out _ _ _ _ _⟩
def fixedB (n : ByteArray) : Bool :=
 n.toList == [99, 97, 99, 104, 101, 45, 99, 111, 110, 116, 114, 111, 108] || n.toList == [99, 111, 110, 116, 101, 110, 116, 45, 108, 97, 110, 103, 117, 97, 103, 101] || n.toList == [99, 111, 110, 116, 101, 110, 116, 45, 108, 101, 110, 103, 116, 104] || n.toList == [99, 111, 110, 116, 101, 110, 116, 45, 116, 121, 112, 101] || n.toList == [101, 120, 112, 105, 114, 101, 115] || n.toList == [108, 97, 115, 116, 45, 109, 111, 100, 105, 102, 105, 101, 100] || n.toList == [112, 114, 97, 103, 109, 97]
set_option maxHeartbeats 1000000 in
set_option maxRecDepth 100000 in
theorem share_fn (n : ByteArray) (all r : Bool) (A : Option Addr) (c : Nat) (zs : List ByteArray) (g1 g2 : Nat) (W : World) (h1 : W.cell? ⟨g1, 0, none⟩ = some (.bool all)) (h2 : W.cell? ⟨g2, 0, none⟩ = some (.slice A zs.length c)) (hC : Kd.C Kd.string W A zs.length zs) (hr : (fixedB n || (all || Lib.containsS zs n)) = r) :
  Calls Tryz.prog 113 #[.string n, .pointer (some ⟨g1, 0, none⟩), .pointer (some ⟨g2, 0, none⟩)] W fun e w' => e = .returned (.bool r) ∧ Below W.heap.size W w' := by
 have HC := Lib.hid hC
 obtain ⟨st, hst⟩ : ∃ st, Lib.containsS zs n = st := ⟨_, rfl⟩
 have HST := Lib.hid hst
 rw [hst] at hr
 have HR := Lib.hid hr
 clear hC hst hr
 cases all <;> cases st
 all_goals
  go_enter Tryz.func113, Tryz.ntmps113
  go_wp2_with (go_at_call 114; (with_reducible refine (contains_any A c zs n _ _ HC.out HST.out).mono ?_); rintro e w2 ⟨rfl, rfl⟩)
 all_goals
  go_ret
  refine ⟨?_, Below.refl _ _⟩
  rw [← HR.out]
  simp_all [fixedB]
def tokB (K : Nat) (p : ByteArray) : Bool := infra_Token.f K p == some true
def lowB_ (K : Nat) (ps : List ByteArray) (n : ByteArray) : Bool := ps.any fun p => tokB K p && ((lowS p).data.toList == n.data.toList)
def shareP (K : Nat) (ps : List ByteArray) (all : Bool) (n : ByteArray) : Option Bool := some (fixedB n || (all || lowB_ K ps n))
def filter_Share.f (a0 : Int) (l1 : List S30) (l2 : List Int) (a1 : ByteArray) (a2 : Bool) : Option (Int × Int × List S30 × List Int × ByteArray) :=
 (headers_Split.f 100000 l1 nmExpose).bind fun s => if s.1.length ≤ 1000000 then if (s.1.all fun p => decide (p.size ≤ 1000000) && (infra_Token.f 100000 p).isSome) = true then filter_shownB.f (l1.length + 5) 3 a0 l1 l2 a1 (shareP 100000 s.1 (!a2 && Lib.containsS s.1 ⟨#[42]⟩)) else none else none
theorem share_inj {K : Nat} {ps : List ByteArray} {all r : Bool} {t : ByteArray} (h : shareP K ps all t = some r) : (fixedB t || (all || lowB_ K ps t)) = r := by
 unfold shareP at h
 injection h
theorem share_in {K : Nat} {ps zs : List ByteArray} {all : Bool} (h : all = false → ∀ x, x ∈ zs.map (·.data.toList) ↔ lowIn (tokB K) ps x) (n : ByteArray) : (fixedB n || (all || Lib.containsS zs n)) = (fixedB n || (all || lowB_ K ps n)) := by
 cases all with
 | true => simp
 | false =>
  have e : Lib.containsS zs n = lowB_ K ps n := by
   rw [Bool.eq_iff_iff, Lib.containsS_iff]
   unfold lowB_
   rw [List.any_eq_true]
   have h1 := h rfl n.data.toList
   unfold lowIn at h1
   constructor
   ·intro hz
    obtain ⟨p, hp, h2, h3⟩ := h1.1 (List.mem_map.2 ⟨n, hz, rfl⟩)
    exact ⟨p, hp, by rw [h2, h3]; simp⟩
   ·rintro ⟨p, hp, h2⟩
    rw [Bool.and_eq_true, beq_iff_eq] at h2
    obtain ⟨z, hz, hzn⟩ := List.mem_map.1 (h1.2 ⟨p, hp, h2.1, h2.2⟩)
    have : z = n := by
     obtain ⟨z⟩ := z
     obtain ⟨n⟩ := n
     congr 1
     exact Array.toList_inj.1 hzn
    exact this ▸ hz
  rw [e]
set_option maxHeartbeats 4000000 in
set_option maxRecDepth 100000 in
theorem filter_Share.calls (a0_0 : Int) (A1 : Option Addr) (c1 : Nat) (l1 : List S30) (A2 : Option Addr) (c2 : Nat) (l2 : List Int) (a1 : ByteArray) (a2 : Bool) (r1 : Int) (r2 : Int) (r3 : List S30) (r4 : List Int) (r5 : ByteArray) (w : World) (hr1 : Kd.C k30 w A1 l1.length l1) (hc1 : l1.length ≤ c1) (hr2 : Kd.C (Kd.int .u8) w A2 l2.length l2) (hc2 : l2.length ≤ c2) (h : filter_Share.f a0_0 l1 l2 a1 a2 = some (r1, r2, r3, r4, r5)) :
  Calls Tryz.prog 57 #[.agg #[.int .i64 a0_0, .slice A1 l1.length c1, .slice A2 l2.length c2], .string a1, .bool a2] w fun e w' => ∃ v2_ v3_ : Value, e = .returned (.agg #[.int .i64 r1, .int .i64 r2, v2_, v3_, .string r5]) ∧ Kd.R k30 30 w' w.heap.size (fun _ => True) v2_ r3 ∧ Kd.R (Kd.int .u8) 5 w' w.heap.size (fun _ => True) v3_ r4 ∧ Below w.heap.size w w' := by
 unfold filter_Share.f at h
 obtain ⟨⟨ps, bq⟩, hs, h⟩ := Option.bind_eq_some_iff.1 h
 simp only at h
 rcases Classical.em (ps.length ≤ 1000000) with hlen | hlen
 case inr => rw [if_neg hlen] at h; cases h
 rw [if_pos hlen] at h
 rcases Classical.em ((ps.all fun p => decide (p.size ≤ 1000000) && (infra_Token.f 100000 p).isSome) = true) with hall | hall
 case inr => rw [if_neg hall] at h; cases h
 rw [if_pos hall] at h
 have HR1 := Lib.hid hr1
 have HR2 := Lib.hid hr2
 have HC1 := Lib.hid hc1
 have HC2 := Lib.hid hc2
 have HS := Lib.hid hs
 have HT := Lib.hid (fun p hp => by
  have h1 := List.all_eq_true.1 hall p hp
  rw [Bool.and_eq_true] at h1
  obtain ⟨b, hb⟩ := Option.isSome_iff_exists.1 h1.2
  rw [hb]
  cases b <;> simp [tokB, hb] : ∀ p ∈ ps, infra_Token.f 100000 p = some (tokB 100000 p))
 have HZ := Lib.hid (fun p hp => by
  have h1 := List.all_eq_true.1 hall p hp
  rw [Bool.and_eq_true] at h1
  exact of_decide_eq_true h1.1 : ∀ p ∈ ps, p.size ≤ 1000000)
 obtain ⟨all, ha⟩ : ∃ all, all = (!a2 && Lib.containsS ps ⟨#[42]⟩) := ⟨_, rfl⟩
 rw [← ha] at h
 have HA := Lib.hid ha
 have H := Lib.hid h
 have HL := Lib.hid hlen
 have HB := Aside0.mk (Below.refl w.heap.size w)
 clear hr1 hr2 hc1 hc2 h hs hlen hall ha
 have hu := Tryz.underlying28
 have hu2 := Tryz.underlying93
 go_enter Tryz.func57, Tryz.ntmps57
 go_wp2_with (first
  | ((with_reducible refine gate_dst (N := 3) rfl ?_); refine box_event ?hg (N := 3) ?hd (cs := #[.int .i64 a0_0, .slice A1 l1.length c1, .slice A2 l2.length c2]) (t := 28) ?hr ?_; (case hd => rfl); (case hg => rfl); (case hr => first | (go_simp; done) | (go_simp; rfl)); intro gA hg w1 hbox hb; have BA := Aside0.mk hbox; have HB1 := Aside0.mk (below_step HB.out hb); have GA := Aside0.mk (by rw [hg]; exact below_size HB.out : w.heap.size ≤ gA); clear hg hbox hb HB)
  | ((with_reducible refine gate_dst (N := 6) rfl ?_); refine box_event ?hg (N := 6) ?hd (cs := zresp) (t := 93) ?hr ?_; (case hd => rfl); (case hg => rfl); (case hr => first | (go_simp; done) | (go_simp; rfl)); intro gB hg w2 hbox hb; have BA2 := Aside0.mk (blk_below BA.out hb); have BB := Aside0.mk hbox; have HB2 := Aside0.mk (below_step HB1.out hb); have GB := Aside0.mk (by rw [hg]; exact below_size HB1.out : w.heap.size ≤ gB); clear hg hbox hb HB1 BA; have y1 := (blk_cell BA2.out 1).trans rfl)
  | (go_at_call 112; (with_reducible refine (exposed_any 100000 A1 c1 l1 a2 all ps bq (tokB 100000) _ (Kd.C_below HR1.out HB2.out) HC1.out HS.out HT.out HZ.out HL.out HA.out).mono ?_); rintro e w3 ⟨Az, cz, zs, rfl, hcz, hCz, hin, hb⟩; have BA3 := Aside0.mk (blk_below BA2.out hb); have BB3 := Aside0.mk (blk_below BB.out hb); have HB3 := Aside0.mk (below_step HB2.out hb); have HCZ := Lib.hid hCz; have HIN := Lib.hid hin; clear hcz hCz hin hb BA2 BB HB2 y1)
  | ((with_reducible refine gate_dst (N := 7) rfl ?_); refine box_event ?hg (N := 7) ?hd (cs := #[.slice none 0 0]) (t := 39) ?hr ?_; (case hd => rfl); (case hg => rfl); (case hr => first | (go_simp; done) | (go_simp; rfl)); intro gN hg w4 hbox hb; have BA4 := Aside0.mk (blk_below BA3.out hb); have BB4 := Aside0.mk (blk_below BB3.out hb); have BN4 := Aside0.mk hbox; have HB4 := Aside0.mk (below_step HB3.out hb); have GN := Aside0.mk (by rw [hg]; exact below_size HB3.out : w.heap.size ≤ gN); have HCZ4 := Lib.hid (Kd.C_below HCZ.out hb); have NZ := Aside0.mk (by rw [hg]; exact Nat.le_refl _ : w3.heap.size ≤ gN); have C4 := Aside0.mk hb; clear hg hbox hb BA3 BB3 HB3)
  | ((with_reducible refine gate_dst (N := 8) rfl ?_); refine box_event ?hg (N := 8) ?hd (cs := #[.bool false]) (t := 4) ?hr ?_; (case hd => rfl); (case hg => rfl); (case hr => first | (go_simp; done) | (go_simp; rfl)); intro gL hg w5 hbox hb; have BA5 := Aside0.mk (blk_below BA4.out hb); have BB5 := Aside0.mk (blk_below BB4.out hb); have BN5 := Aside0.mk (blk_below BN4.out hb); have BL5 := Aside0.mk hbox; have HB5 := Aside0.mk (below_step HB4.out hb); have C5 := Aside0.mk (below_step C4.out hb); have GL := Aside0.mk (by rw [hg]; exact below_size HB4.out : w.heap.size ≤ gL); have NL := Aside0.mk (by rw [hg]; exact below_size C4.out : w3.heap.size ≤ gL); clear hg hbox hb BA4 BB4 BN4 HB4 C4; have NA := Aside0.mk (blk_ne BA5.out BN5.out (by decide)); have LA := Aside0.mk (blk_ne BA5.out BL5.out (by decide)); have NB := Aside0.mk (blk_ne BB5.out BN5.out (by decide)); have LB := Aside0.mk (blk_ne BB5.out BL5.out (by decide)); have LN := Aside0.mk (blk_ne BN5.out BL5.out (by decide)); have n0 := (blk_cell BN5.out 0).trans rfl; have nf := blk_frozen BN5.out 0; have l1b := blk_far (p := ⟨gN, 0, none⟩) BL5.out (fun e => LN.out e.symm) (.slice Az zs.length cz); have l0 := (blk_cell l1b 0).trans rfl; have lf := blk_frozen l1b 0; have b6 := blk_far (p := ⟨gL, 0, none⟩) (blk_far (p := ⟨gN, 0, none⟩) BA5.out NA.out (.slice Az zs.length cz)) LA.out (.bool all); have y0 := (blk_cell b6 0).trans rfl; have y1 := (blk_cell b6 1).trans rfl; have y2 := (blk_cell b6 2).trans rfl; have BB6 := Aside0.mk (blk_far (p := ⟨gL, 0, none⟩) (blk_far (p := ⟨gN, 0, none⟩) BB5.out NB.out (.slice Az zs.length cz)) LB.out (.bool all)); have BN6 := Aside0.mk (blk_far (p := ⟨gL, 0, none⟩) (blk_put (cs' := #[.slice Az zs.length cz]) BN5.out 0 (.slice Az zs.length cz) rfl) LN.out (.bool all)); have BL6 := Aside0.mk (blk_put (cs' := #[.bool all]) l1b 0 (.bool all) rfl); have HB6 := Aside0.mk (below_set (j := 0) (v := .bool all) (below_set (j := 0) (v := .slice Az zs.length cz) HB5.out GN.out) GL.out); have HCZ6 := Lib.hid (Kd.C_below HCZ.out (below_set (j := 0) (v := .bool all) (below_set (j := 0) (v := .slice Az zs.length cz) C5.out NZ.out) NL.out)); clear b6 l1b BA5 BB5 BN5 BL5 HB5 C5)
  | (go_at_call 109; (with_reducible refine (filter_shownB.calls _ 3 a0_0 A1 c1 l1 A2 c2 l2 a1 (shareP 100000 ps all) r1 r2 r3 r4 r5 _ _ _ (fun W t r hbW hr => share_fn t all r Az cz zs gL gN W ((blk_cell (blk_below BL6.out hbW) 0).trans rfl) ((blk_cell (blk_below BN6.out hbW) 0).trans rfl) (Kd.C_below HCZ6.out hbW) ((share_in HIN.out t).trans (share_inj hr))) (Kd.C_below HR1.out HB6.out) HC1.out (Kd.C_below HR2.out HB6.out) HC2.out H.out).mono ?_); rintro e w7 ⟨v2, v3, rfl, o1, o2, hb⟩; have O1 := Aside0.mk (Kd.R_lower o1 (below_size HB6.out)); have O2 := Aside0.mk (Kd.R_lower o2 (below_size HB6.out)); have BB7 := Aside0.mk (blk_below BB6.out hb); have HB7 := Aside0.mk (below_step HB6.out hb); clear o1 o2 hb BB6 HB6; obtain ⟨Ap, cp, ep⟩ := Kd.R_slice O1.out; subst ep; obtain ⟨Aq, cq, eq⟩ := Kd.R_slice O2.out; subst eq; have z0 := (blk_cell BB7.out 0).trans rfl; have z1 := (blk_cell BB7.out 1).trans rfl; have z2 := (blk_cell BB7.out 2).trans rfl; have z3 := (blk_cell BB7.out 3).trans rfl; have z4 := (blk_cell BB7.out 4).trans rfl; have f0 := blk_frozen BB7.out 0; have f1 := blk_frozen BB7.out 1; have f2 := blk_frozen BB7.out 2; have f3 := blk_frozen BB7.out 3; have f4 := blk_frozen BB7.out 4))
 refine bodyPost_ret (results_cell_row rfl _ _ gB 93 #[.int .i64 r1, .int .i64 r2, .slice Ap r3.length cp, .slice Aq r4.length cq, .string r5] (0, 0) _ rfl (put5 BB7.out _ _ _ _ _) hu2 rfl q9_) rfl ?_
 exact ⟨_, _, rfl, R5 O1.out BB7.out (by decide) _ _ _ _ _, R5 O2.out BB7.out (by decide) _ _ _ _ _, below5 HB7.out GB.out _ _ _ _ _⟩
end Go.Proofs.YtifmkgkiipckbaaGreatDoor.P
namespace Go.Proofs.YtifmkgkiipckbaaGreatDoor.P
open Go.RowKit Go.Proofs.YtifmkgkiipckbaaGreatDoorW.PrintWords Go.Proofs.YtifmkgkiipckbaaGreatDoorW.PrintLast Go.Proofs.YtifmkgkiipckbaaGreatDoorW.PrintMore
set_option linter.unusedVariables false
set_option linter.unusedSimpArgs false
def Tot {α : Type} (o : Option α) (P : α → Prop) : Prop := ∃ r, o = some r ∧ P r
theorem Tot.pure {α : Type} {a : α} {P : α → Prop} (h : P a) : Tot (some a) P := ⟨a, rfl, h⟩
theorem Tot.guard {α : Type} {c : Prop} [Decidable c] {a : Option α} {P : α → Prop} (h : c) (k : Tot a P) : Tot (if c then a else none) P := by rw [if_pos h]; exact k
theorem Tot.ite {α : Type} {c : Prop} [Decidable c] {a b : Option α} {P : α → Prop} (h : c → Tot a P) (k : ¬ c → Tot b P) : Tot (if c then a else b) P := by
 split
 ·exact h (by assumption)
 ·exact k (by assumption)
theorem Tot.bind {α β : Type} {o : Option α} {f : α → Option β} {Q : α → Prop} {P : β → Prop} (h : Tot o Q) (k : ∀ r, Q r → Tot (f r) P) : Tot (o.bind f) P := by
 obtain ⟨r, hr, hq⟩ := h
 rw [hr]
 exact k r hq
theorem wr (x : Int) (h : -9223372036854775808 ≤ x) (k : x ≤ 9223372036854775807) : wrap64 x = x := by unfold wrap64; omega
theorem lit_size (a : Array UInt8) : (⟨a⟩ : ByteArray).size = a.size := rfl
theorem mono_le {α : Type} {F : Nat → Option α} (h : ∀ k, LeO (F k) (F (k + 1))) : ∀ {k j : Nat}, k ≤ j → LeO (F k) (F j) := by
 intro k j hkj
 induction hkj with
 | refl => exact LeO.refl _
 | step _ ih => exact LeO.trans ih (h _)
end Go.Proofs.YtifmkgkiipckbaaGreatDoor.P
namespace Go.Proofs.YtifmkgkiipckbaaGreatDoor.P
open Go.RowKit Go.Proofs.YtifmkgkiipckbaaGreatDoorW.PrintWords Go.Proofs.YtifmkgkiipckbaaGreatDoorW.PrintLast Go.Proofs.YtifmkgkiipckbaaGreatDoorW.PrintMore
attribute [local go_sem] max2_int min2_int max_two min_two max_three min_three max_four min_four
set_option linter.unusedVariables false
set_option linter.unusedSimpArgs false
def ostiarykeep_Few.f (a0 : ByteArray) (a1 : Int) : Option (ByteArray) := if (a0.size : Int) > a1 then (if 0 ≤ a1 then (if a1 ≤ (a0.size : Int) then (some (a0.extract 0 (a1 : Int).toNat)) else (none)) else (none)) else (some a0)
set_option maxHeartbeats 8000000 in
set_option maxRecDepth 100000 in
theorem ostiarykeep_Few.calls (a0 : ByteArray) (a1 : Int) (r : ByteArray) (w : World) (h : ostiarykeep_Few.f a0 a1 = some r) :
  Calls Tryz.prog 53 #[.string a0, .int .i64 a1] w fun e w' => e = .returned (.string r) ∧ Drawn0 w w' := by
 have H : (if (a0.size : Int) > a1 then (if 0 ≤ a1 then (if a1 ≤ (a0.size : Int) then (some (a0.extract 0 (a1 : Int).toNat)) else (none)) else (none)) else (some a0)) = some r := h
 clear h
 by_cases c3 : (a0.size : Int) > a1
 ·rw [if_pos c3] at H
  have c3b0 : decide (a1 < (a0.size : Int)) = true := decide_eq_true c3
  clear c3
  by_cases c4 : 0 ≤ a1
  ·rw [if_pos c4] at H
   have c4b0 := eq_true c4
   have c4b1 : decide (0 ≤ a1) = true := decide_eq_true c4
   clear c4
   by_cases c5 : a1 ≤ (a0.size : Int)
   ·rw [if_pos c5] at H
    have c5b0 := eq_true c5
    have c5b1 : decide (a1 ≤ (a0.size : Int)) = true := decide_eq_true c5
    clear c5
    obtain rfl := Option.some.inj H
    go_enter Tryz.func53, Tryz.ntmps53
    go_wp2
    go_ret
    exact ⟨rS, by repeat (first | exact Drawn0.refl _ | apply Drawn0.step)⟩
   ·rw [if_neg c5] at H
    exact absurd H (by simp)
  ·rw [if_neg c4] at H
   exact absurd H (by simp)
 ·rw [if_neg c3] at H
  have c3b0 : decide (a1 < (a0.size : Int)) = false := decide_eq_false c3
  clear c3
  obtain rfl := Option.some.inj H
  go_enter Tryz.func53, Tryz.ntmps53
  go_wp2
  go_ret
  exact ⟨rS, by repeat (first | exact Drawn0.refl _ | apply Drawn0.step)⟩
end Go.Proofs.YtifmkgkiipckbaaGreatDoor.P
namespace Go.Proofs.YtifmkgkiipckbaaGreatDoor.P
open Go.RowKit Go.Proofs.YtifmkgkiipckbaaGreatDoorW.PrintWords Go.Proofs.YtifmkgkiipckbaaGreatDoorW.PrintLast Go.Proofs.YtifmkgkiipckbaaGreatDoorW.PrintMore
attribute [local go_sem] max2_int min2_int max_two min_two max_three min_three max_four min_four
set_option linter.unusedVariables false
set_option linter.unusedSimpArgs false
mutual
def ostiarykeep_FewHeaders.l0 : Nat → List (S30) → Int → Int → List (S30) → Int → Option ((List (S30)))
 | 0, _, _, _, _, _ => none
 | k + 1, x0, x1, x2, x7, x8 => if x8 < (x0.length : Int) then (ostiarykeep_FewHeaders.j1 k x0 x1 x2 x7 x8 (decide (x8 < x1))) else (ostiarykeep_FewHeaders.j1 k x0 x1 x2 x7 x8 false)
def ostiarykeep_FewHeaders.j1 : Nat → List (S30) → Int → Int → List (S30) → Int → Bool → Option ((List (S30)))
 | 0, _, _, _, _, _, _ => none
 | k + 1, x0, x1, x2, x7, x8, x17 => if x17 = true then (if 0 ≤ x8 then (if x8 < (x0.length : Int) then ((ostiarykeep_Few.f ((rd_T30 x0 x8).f0) x2).bind fun t102 => ((ostiarykeep_Few.f ((rd_T30 x0 x8).f1) x2).bind fun t104 => (if x7.length < 4398046511104 then (ostiarykeep_FewHeaders.l0 k x0 x1 x2 (x7 ++ [(⟨t102, t104⟩ : S30)]) (wrap64 (x8 + 1))) else (none)))) else (none)) else (none)) else (some x7)
end
def ostiarykeep_FewHeaders.f (k : Nat) (l0 : List (S30)) (a1 : Int) (a2 : Int) : Option ((List (S30))) := ostiarykeep_FewHeaders.l0 k l0 a1 a2 ([] : List (S30)) 0
theorem ostiarykeep_FewHeaders.mono_l : ∀ k, (∀ y0 y1 y2 y3 y4, LeO (ostiarykeep_FewHeaders.l0 k y0 y1 y2 y3 y4) (ostiarykeep_FewHeaders.l0 (k + 1) y0 y1 y2 y3 y4)) ∧ (∀ y0 y1 y2 y3 y4 y5, LeO (ostiarykeep_FewHeaders.j1 k y0 y1 y2 y3 y4 y5) (ostiarykeep_FewHeaders.j1 (k + 1) y0 y1 y2 y3 y4 y5))
 | 0 => ⟨fun _ _ _ _ _ r h => by simp [ostiarykeep_FewHeaders.l0] at h, fun _ _ _ _ _ _ r h => by simp [ostiarykeep_FewHeaders.j1] at h⟩
 | k + 1 => by
  obtain ⟨ih0, ih1⟩ := ostiarykeep_FewHeaders.mono_l k
  refine ⟨?_, ?_⟩
  ·intro y0 y1 y2 y3 y4
   unfold ostiarykeep_FewHeaders.l0
   exact lO
  ·intro y0 y1 y2 y3 y4 y5
   unfold ostiarykeep_FewHeaders.j1
   exact lO
theorem ostiarykeep_FewHeaders.mono : ∀ a0 a1 a2 k, LeO (ostiarykeep_FewHeaders.f k a0 a1 a2) (ostiarykeep_FewHeaders.f (k + 1) a0 a1 a2) := by
 intro a0 a1 a2 k
 obtain ⟨ih0, ih1⟩ := ostiarykeep_FewHeaders.mono_l k
 unfold ostiarykeep_FewHeaders.f
 exact lO
def ostiarykeep_FewHeaders.T5 : Bool × List (List Nat × List Nat) := (true, [([], []), ([], []), ([], []), ([1, 2], [1, 2]), ([3], [3]), ([4], [4]), ([], []), ([5, 6], [5, 6]), ([], []), ([], []), ([8, 9], [8, 9]), ([10], [10]), ([11], [11]), ([], []), ([12, 13, 7], [12, 13]), ([7, 14], [7, 14]), ([15], [15]), ([0, 16, 14], [0, 16]), ([17, 17, 0, 1, 2, 3, 4, 5, 6, 7, 8, 9, 10, 11, 12, 13, 14, 15, 16, 17], [0, 17])])
def ostiarykeep_FewHeaders.B5 : List Nat := [0, 0, 0, 6, 14, 30, 0, 126, 0, 0, 768, 1792, 3840, 0, 16382, 32766, 65534, 131071, 262143]
theorem ostiarykeep_FewHeaders.tab5 : rtab .any (opsOf Tryz.f37 5) = ostiarykeep_FewHeaders.T5 := by kernel_rfl
theorem ostiarykeep_FewHeaders.bits5 : waitsOk ostiarykeep_FewHeaders.T5.2 ostiarykeep_FewHeaders.B5 = true := by kernel_rfl
set_option maxHeartbeats 8000000 in
set_option maxRecDepth 100000 in
theorem ostiarykeep_FewHeaders.calls (k : Nat) (A0 : Option Addr) (c0 : Nat) (l0 : List (S30)) (a1 : Int) (a2 : Int) (r : List (S30)) (w : World) (hr0 : Kd.C k30 w A0 l0.length l0) (hc0 : l0.length ≤ c0) (h : ostiarykeep_FewHeaders.f k l0 a1 a2 = some r) :
  Calls Tryz.prog 37 #[.slice A0 l0.length c0, .int .i64 a1, .int .i64 a2] w fun e w' => ∃ v0_ : Value, e = .returned (v0_) ∧ Kd.R k30 30 w' w.heap.size (fun _ => True) v0_ r ∧ Below w.heap.size w w' := by
 have hu30 := Tryz.underlying30
 have HR0 := Aside0.mk hr0
 have HC0 := Aside0.mk hc0
 clear hr0 hc0
 have HB := Aside0.mk (Below.refl w.heap.size w)
 have H : (ostiarykeep_FewHeaders.l0 k l0 a1 a2 ([] : List (S30)) 0) = some r := h
 clear h
 have H' := Aside0.mk H
 clear H
 go_enter Tryz.func37, Tryz.ntmps37
 go_wp2
 go_loopg [7, 8] k (fun kq v7 v8 w' => ∃ (x7_1 : List (S30)) (x8_1 : Int), v8 = .int .i64 x8_1 ∧ Aside0 (ostiarykeep_FewHeaders.l0 kq l0 a1 a2 x7_1 x8_1 = some r) ∧ Aside0 (kq ≤ k) ∧ Aside0 (Kd.R k30 30 w' w.heap.size (fun _ => True) v7 x7_1) ∧ Aside0 (Below w.heap.size w w'))
 case atStart => exact ⟨(([] : List (S30))), (0), rS, H', ⟨Nat.le_refl _⟩, ⟨by first | exact Kd.R_nil _ _ _ _ _ | exact Kd.N_nil _ _ _ _ _ | exact Kd.V_nil _ _ _ _ _ | exact Kd.Q_nil _ _ _ _ _ | exact Kd.S_nil _ _ _ _ _⟩, ⟨by repeat (first | (with_reducible first | exact HB.out | apply below_alloc | apply pw_below_drewN | apply below_drew1) | exact HB.out)⟩⟩
 case round =>
  clear H'
  try clear p2
  try clear c3
  obtain ⟨x7_1, x8_1, rfl, HA, HK1, HO_7, HB⟩ := hrel
  cases gk with
  | zero => exact absurd HA.out (by simp [ostiarykeep_FewHeaders.l0])
  | succ k1 =>
   have H := HA.out
   clear HA
   simp only [ostiarykeep_FewHeaders.l0] at H
   have HC4 := Aside0.mk H
   clear H
   go_upto_region 3 with (fail)
   go_cut [17] (fun v17 wc => ∃ (kq : Nat) (x17_3 : Bool), v17 = .bool x17_3 ∧ Aside0 (ostiarykeep_FewHeaders.j1 kq l0 a1 a2 x7_1 x8_1 x17_3 = some r) ∧ Aside0 (kq ≤ k1) ∧ Aside0 (Kd.R k30 30 wc w.heap.size (fun _ => True) u7 x7_1) ∧ Aside0 (Below w.heap.size w wc))
   case first =>
    have H := HC4.out
    clear HC4
    by_cases c5 : x8_1 < (l0.length : Int)
    ·rw [if_pos c5] at H
     have c5b0 : decide (x8_1 < (l0.length : Int)) = true := decide_eq_true c5
     clear c5
     (first | rw [c5b0] | (simp only [i64_w, i32_w]; rw [c5b0]) | skip)
     have H' := Aside0.mk H
     clear H
     go_wp2
     go_meet
     case rel => exact ⟨_, (decide (x8_1 < a1)), rS, H', ⟨by have := HK1.out; first | omega | exact Nat.le_refl _⟩, ⟨by (with_reducible repeat (first | apply Kd.R_alloc | apply Kd.R_drewN | apply Kd.R_drew)); exact HO_7.out⟩, ⟨by repeat (first | (with_reducible first | exact HB.out | apply below_alloc | apply pw_below_drewN | apply below_drew1) | exact HB.out)⟩⟩
    ·rw [if_neg c5] at H
     have c5b0 : decide (x8_1 < (l0.length : Int)) = false := decide_eq_false c5
     clear c5
     (first | rw [c5b0] | (simp only [i64_w, i32_w]; rw [c5b0]) | skip)
     have H' := Aside0.mk H
     clear H
     go_wp2
     go_meet
     case rel => exact ⟨_, (false), rS, H', ⟨by have := HK1.out; first | omega | exact Nat.le_refl _⟩, ⟨by (with_reducible repeat (first | apply Kd.R_alloc | apply Kd.R_drewN | apply Kd.R_drew)); exact HO_7.out⟩, ⟨by repeat (first | (with_reducible first | exact HB.out | apply below_alloc | apply pw_below_drewN | apply below_drew1) | exact HB.out)⟩⟩
   case rest =>
    clear HC4
    try clear p2
    try clear c3
    try clear c5
    try clear c5b0
    try clear p2
    obtain ⟨kq, x17_3, rfl, HA, HJ3, HO_7, HB⟩ := hcut
    cases kq with
    | zero => exact absurd HA.out (by simp [ostiarykeep_FewHeaders.j1])
    | succ kj3 =>
     have H := HA.out
     clear HA
     simp only [ostiarykeep_FewHeaders.j1] at H
     by_cases c6 : x17_3 = true
     ·subst c6
      have H1 : (if 0 ≤ x8_1 then (if x8_1 < (l0.length : Int) then ((ostiarykeep_Few.f ((rd_T30 l0 x8_1).f0) a2).bind fun t102 => ((ostiarykeep_Few.f ((rd_T30 l0 x8_1).f1) a2).bind fun t104 => (if x7_1.length < 4398046511104 then (ostiarykeep_FewHeaders.l0 kj3 l0 a1 a2 (x7_1 ++ [(⟨t102, t104⟩ : S30)]) (wrap64 (x8_1 + 1))) else (none)))) else (none)) else (none)) = some r := by rw [if_pos rfl] at H; exact H
      clear H
      have H := H1
      clear H1
      by_cases c7 : 0 ≤ x8_1
      ·rw [if_pos c7] at H
       have c7b0 : decide (0 ≤ x8_1) = true := decide_eq_true c7
       clear c7
       by_cases c8 : x8_1 < (l0.length : Int)
       ·rw [if_pos c8] at H
        have c8b0 : decide (x8_1 < (l0.length : Int)) = true := decide_eq_true c8
        clear c8
        replace H := Option.bind_eq_some_iff.mp H
        obtain ⟨t102, A90, H⟩ := H
        replace H : ((ostiarykeep_Few.f ((rd_T30 l0 x8_1).f1) a2).bind fun t104 => (if x7_1.length < 4398046511104 then (ostiarykeep_FewHeaders.l0 kj3 l0 a1 a2 (x7_1 ++ [(⟨t102, t104⟩ : S30)]) (wrap64 (x8_1 + 1))) else (none))) = some r := H
        have A9 := Aside0.mk A90
        clear A90
        replace H := Option.bind_eq_some_iff.mp H
        obtain ⟨t104, A100, H⟩ := H
        replace H : (if x7_1.length < 4398046511104 then (ostiarykeep_FewHeaders.l0 kj3 l0 a1 a2 (x7_1 ++ [(⟨t102, t104⟩ : S30)]) (wrap64 (x8_1 + 1))) else (none)) = some r := H
        have A10 := Aside0.mk A100
        clear A100
        by_cases c11 : x7_1.length < 4398046511104
        ·rw [if_pos c11] at H
         have LMc11 := Aside0.mk c11
         clear c11
         obtain ⟨y105, hy105⟩ : ∃ y_ : List (S30), y_ = (x7_1 ++ [(⟨t102, t104⟩ : S30)]) := ⟨_, rfl⟩
         replace H : (ostiarykeep_FewHeaders.l0 kj3 l0 a1 a2 y105 (wrap64 (x8_1 + 1))) = some r := by first | (rw [hy105]; with_reducible exact H) | (have H2_ := (Option.bind_some _ _).symm.trans H; rw [hy105]; with_reducible exact H2_) | (have H2_ := (Option.bind_some _ _).symm.trans H; with_reducible exact H2_) | with_reducible exact H | (rw [hy105]; exact H) | exact H
         have Ny105 := Aside0.mk hy105
         clear hy105
         have H' := Aside0.mk H
         clear H
         try go_wp2
         have n0_ := Aside0.mk (Kd.R_drew HO_7.out)
         have n1_ := Aside0.mk (below_drew1 HB.out)
         clear HO_7
         clear HB
         have HO_7 := n0_
         have HB := n1_
         clear n0_ n1_
         have p101 : 0 ≤ (x8_1 : Int) := of_decide_eq_true aS
         have q101 : x8_1 < (l0.length : Int) := of_decide_eq_true aS
         obtain ⟨ad101, e101, hx101_0, hx101_1⟩ := at_T30 HR0.out x8_1 p101 q101
         have hw101_1 := hx101_1
         have hw101_0 := hx101_0
         cases e101
         replace hx101_0 := (HB.out.cell (World.block_lt_of_cell? w _ hx101_0)).trans hx101_0
         replace hx101_1 := (HB.out.cell (World.block_lt_of_cell? w _ hx101_1)).trans hx101_1
         replace p101 := eq_true p101
         replace q101 := eq_true q101
         have p103 : 0 ≤ (x8_1 : Int) := of_decide_eq_true aS
         have q103 : x8_1 < (l0.length : Int) := of_decide_eq_true aS
         obtain ⟨ad103, e103, hx103_0, hx103_1⟩ := at_T30 HR0.out x8_1 p103 q103
         have hw103_1 := hx103_1
         have hw103_0 := hx103_0
         obtain rfl : ad101 = ad103 := (by injection e103)
         replace hx103_0 := (HB.out.cell (World.block_lt_of_cell? w _ hx103_0)).trans hx103_0
         replace hx103_1 := (HB.out.cell (World.block_lt_of_cell? w _ hx103_1)).trans hx103_1
         replace p103 := eq_true p103
         replace q103 := eq_true q103
         refine start_ (n := 19) (S := fun w' => w'.cell? (ad101.add ((x8_1).toNat * 2)) = some (.string ((rd_T30 l0 x8_1).f0)) ∧ w'.cell? ⟨(ad101.add ((x8_1).toNat * 2)).block, (ad101.add ((x8_1).toNat * 2)).off + 1, none⟩ = some (.string ((rd_T30 l0 x8_1).f1)) ∧ w'.cell? (ad101.add ((x8_1).toNat * 2)) = some (.string ((rd_T30 l0 x8_1).f0)) ∧ w'.cell? ⟨(ad101.add ((x8_1).toNat * 2)).block, (ad101.add ((x8_1).toNat * 2)).off + 1, none⟩ = some (.string ((rd_T30 l0 x8_1).f1))) (ds := []) #[false, false, false, false, false, false, false, false, false, false, false, false, false, false, false, false, false, false, false] q9_ rfl rfl ⟨((HB.out.cell (World.block_lt_of_cell? w _ hw101_0)).trans hw101_0), ((HB.out.cell (World.block_lt_of_cell? w _ hw101_1)).trans hw101_1), ((HB.out.cell (World.block_lt_of_cell? w _ hw103_0)).trans hw103_0), ((HB.out.cell (World.block_lt_of_cell? w _ hw103_1)).trans hw103_1)⟩ (fun hHeld => ?_); refine with_tabW ostiarykeep_FewHeaders.tab5 ostiarykeep_FewHeaders.bits5 (fun HT_ HW_ => ?_)
         generalize wc.drew = w12 at HO_7 HB hx101_0 hx101_1 hx103_0 hx103_1 hHeld ⊢
         refine pure_ (i := 0) (N := some 20) (v := ?_) (a' := ?_) #[true, false, false, false, false, false, false, false, false, false, false, false, false, false, false, false, false, false, false] rfl rfl (any_of HT_.out q9_) (fun _ _ _ h => h) (Or.inl ⟨by rfl, ?_⟩) ?_ ?_
         rotate_left
         ·intro w'
          go_simp
          with_reducible rfl
         rotate_left
         ·simp only [Act.put, List.setIfInBounds_toArray, List.set_cons_zero, List.set_cons_succ, i64_w, i32_w]
          rfl
         refine pure_ (i := 1) (N := some 21) (v := ?_) (a' := ?_) #[true, true, false, false, false, false, false, false, false, false, false, false, false, false, false, false, false, false, false] rfl rfl (any_of HT_.out q9_) (fun _ _ _ h => h) (Or.inl ⟨by rfl, ?_⟩) ?_ ?_
         rotate_left
         ·intro w'
          go_simp
          with_reducible rfl
         rotate_left
         ·simp only [Act.put, List.setIfInBounds_toArray, List.set_cons_zero, List.set_cons_succ, i64_w, i32_w]
          rfl
         refine pure_ (i := 2) (N := some 22) (v := ?_) (a' := ?_) #[true, true, true, false, false, false, false, false, false, false, false, false, false, false, false, false, false, false, false] rfl rfl (any_of HT_.out q9_) (fun _ _ _ h => h) (Or.inl ⟨by rfl, ?_⟩) ?_ ?_
         rotate_left
         ·intro w'
          go_simp
          with_reducible rfl
         rotate_left
         ·simp only [Act.put, List.setIfInBounds_toArray, List.set_cons_zero, List.set_cons_succ, i64_w, i32_w]
          rfl
         refine pure_ (i := 3) (N := some 23) (v := ?_) (a' := ?_) #[true, true, true, true, false, false, false, false, false, false, false, false, false, false, false, false, false, false, false] rfl rfl (any_of HT_.out q9_) (fun _ _ _ h => h) (Or.inl ⟨by rfl, ?_⟩) ?_ ?_
         rotate_left
         ·intro w'
          go_simp
          with_reducible rfl
         rotate_left
         ·simp only [Act.put, List.setIfInBounds_toArray, List.set_cons_zero, List.set_cons_succ, i64_w, i32_w]
          rfl
         refine pure_ (i := 4) (N := some 24) (v := ?_) (a' := ?_) #[true, true, true, true, true, false, false, false, false, false, false, false, false, false, false, false, false, false, false] rfl rfl (any_of HT_.out q9_) (fun _ _ _ h => h) (Or.inl ⟨by rfl, ?_⟩) ?_ ?_
         rotate_left
         ·intro w'
          go_simp
          with_reducible rfl
         rotate_left
         ·simp only [Act.put, List.setIfInBounds_toArray, List.set_cons_zero, List.set_cons_succ, i64_w, i32_w]
          rfl
         refine pure_ (i := 6) (N := some 26) (v := ?_) (a' := ?_) #[true, true, true, true, true, false, true, false, false, false, false, false, false, false, false, false, false, false, false] rfl rfl (any_of HT_.out q9_) (fun _ _ _ h => h) (Or.inl ⟨by rfl, ?_⟩) ?_ ?_
         rotate_left
         ·intro w'
          go_simp
          with_reducible rfl
         rotate_left
         ·simp only [Act.put, List.setIfInBounds_toArray, List.set_cons_zero, List.set_cons_succ, i64_w, i32_w]
          rfl
         refine pure_ (i := 8) (N := some 28) (v := ?_) (a' := ?_) #[true, true, true, true, true, false, true, false, true, false, false, false, false, false, false, false, false, false, false] rfl rfl (any_of HT_.out q9_) (fun _ _ _ h => h) (Or.inl ⟨by rfl, ?_⟩) ?_ ?_
         rotate_left
         ·intro w'
          go_simp
          with_reducible rfl
         rotate_left
         ·simp only [Act.put, List.setIfInBounds_toArray, List.set_cons_zero, List.set_cons_succ, i64_w, i32_w]
          rfl
         refine pure_ (i := 9) (N := some 29) (v := ?_) (a' := ?_) #[true, true, true, true, true, false, true, false, true, true, false, false, false, false, false, false, false, false, false] rfl rfl (any_of HT_.out q9_) (fun _ _ _ h => h) (Or.inl ⟨by rfl, ?_⟩) ?_ ?_
         rotate_left
         ·intro w'
          go_simp
          with_reducible rfl
         rotate_left
         ·simp only [Act.put, List.setIfInBounds_toArray, List.set_cons_zero, List.set_cons_succ, i64_w, i32_w]
          rfl
         refine pure_ (i := 10) (N := some 30) (v := ?_) (a' := ?_) #[true, true, true, true, true, false, true, false, true, true, true, false, false, false, false, false, false, false, false] rfl rfl (any_of HT_.out q9_) (fun _ _ _ h => h) (Or.inl ⟨by rfl, ?_⟩) ?_ ?_
         rotate_left
         ·intro w'
          go_simp
          with_reducible rfl
         rotate_left
         ·simp only [Act.put, List.setIfInBounds_toArray, List.set_cons_zero, List.set_cons_succ, i64_w, i32_w]
          rfl
         refine pure_ (i := 11) (N := some 31) (v := ?_) (a' := ?_) #[true, true, true, true, true, false, true, false, true, true, true, true, false, false, false, false, false, false, false] rfl rfl (any_of HT_.out q9_) (fun _ _ _ h => h) (Or.inl ⟨by rfl, ?_⟩) ?_ ?_
         rotate_left
         ·intro w'
          go_simp
          with_reducible rfl
         rotate_left
         ·simp only [Act.put, List.setIfInBounds_toArray, List.set_cons_zero, List.set_cons_succ, i64_w, i32_w]
          rfl
         refine pure_ (i := 13) (N := some 33) (v := ?_) (a' := ?_) #[true, true, true, true, true, false, true, false, true, true, true, true, false, true, false, false, false, false, false] rfl rfl (any_of HT_.out q9_) (fun _ _ _ h => h) (Or.inl ⟨by rfl, ?_⟩) ?_ ?_
         rotate_left
         ·intro w'
          go_simp
          with_reducible rfl
         rotate_left
         ·simp only [Act.put, List.setIfInBounds_toArray, List.set_cons_zero, List.set_cons_succ, i64_w, i32_w]
          rfl
         refine take_ (i := 5) (N := some 25) (v := ?_) (a' := ?_) #[true, true, true, true, true, true, true, false, true, true, true, true, false, true, false, false, false, false, false] rfl rfl (take_ofW HT_.out HW_.out q9_) (fun _ _ _ h => h) (Or.inl ⟨by rfl, ?_⟩) hHeld ?_ ?_
         rotate_left
         ·rintro w' ⟨s0, s1, s2, s3⟩
          go_simp
          with_reducible rfl
         rotate_left
         ·simp only [Act.put, List.setIfInBounds_toArray, List.set_cons_zero, List.set_cons_succ, i64_w, i32_w]
          rfl
         refine take_ (i := 12) (N := some 32) (v := ?_) (a' := ?_) #[true, true, true, true, true, true, true, false, true, true, true, true, true, true, false, false, false, false, false] rfl rfl (take_ofW HT_.out HW_.out q9_) (fun _ _ _ h => h) (Or.inl ⟨by rfl, ?_⟩) hHeld ?_ ?_
         rotate_left
         ·rintro w' ⟨s0, s1, s2, s3⟩
          go_simp
          with_reducible rfl
         rotate_left
         ·simp only [Act.put, List.setIfInBounds_toArray, List.set_cons_zero, List.set_cons_succ, i64_w, i32_w]
          rfl
         refine one_ (i := 7) (N := some 27) #[true, true, true, true, true, true, true, true, true, true, true, true, true, true, false, false, false, false, false] rfl rfl (one_of HT_.out q9_) (by decide) (fun K hK => ?_)
         refine goes_ Tryz.func53 q9_ rfl #[.string ((rd_T30 l0 x8_1).f0), .int .i64 a2] (by rfl) rfl rfl tS ?_
         with_reducible refine (ostiarykeep_Few.calls ((rd_T30 l0 x8_1).f0) a2 t102 _ A9.out).mono ?_
         rintro e w' ⟨rfl, ⟨nd, rfl⟩⟩
         refine ⟨_, rfl, ?_⟩
         refine hK.out _ _ ⟨((HB.out.cell (World.block_lt_of_cell? w _ hw101_0)).trans hw101_0), ((HB.out.cell (World.block_lt_of_cell? w _ hw101_1)).trans hw101_1), ((HB.out.cell (World.block_lt_of_cell? w _ hw103_0)).trans hw103_0), ((HB.out.cell (World.block_lt_of_cell? w _ hw103_1)).trans hw103_1)⟩ (fun hHeld => ?_)
         clear hK K
         refine norm_ (a' := ?_) ?_ ?_
         rotate_left
         ·show Act.put _ (some 27) _ = _
          simp only [Act.put, List.setIfInBounds_toArray, List.set_cons_zero, List.set_cons_succ, i64_w, i32_w]
          rfl
         refine one_ (i := 14) (N := some 34) #[true, true, true, true, true, true, true, true, true, true, true, true, true, true, true, false, false, false, false] rfl rfl (one_of HT_.out q9_) (by decide) (fun K hK => ?_)
         refine goes_ Tryz.func53 q9_ rfl #[.string ((rd_T30 l0 x8_1).f1), .int .i64 a2] (by rfl) rfl rfl tS ?_
         with_reducible refine (ostiarykeep_Few.calls ((rd_T30 l0 x8_1).f1) a2 t104 _ A10.out).mono ?_
         rintro e w' ⟨rfl, ⟨nd, rfl⟩⟩
         refine ⟨_, rfl, ?_⟩
         refine hK.out _ _ ⟨((HB.out.cell (World.block_lt_of_cell? w _ hw101_0)).trans hw101_0), ((HB.out.cell (World.block_lt_of_cell? w _ hw101_1)).trans hw101_1), ((HB.out.cell (World.block_lt_of_cell? w _ hw103_0)).trans hw103_0), ((HB.out.cell (World.block_lt_of_cell? w _ hw103_1)).trans hw103_1)⟩ (fun hHeld => ?_)
         clear hK K
         refine norm_ (a' := ?_) ?_ ?_
         rotate_left
         ·show Act.put _ (some 34) _ = _
          simp only [Act.put, List.setIfInBounds_toArray, List.set_cons_zero, List.set_cons_succ, i64_w, i32_w]
          rfl
         refine pure_ (i := 15) (N := some 35) (v := ?_) (a' := ?_) #[true, true, true, true, true, true, true, true, true, true, true, true, true, true, true, true, false, false, false] rfl rfl (any_of HT_.out q9_) (fun _ _ _ h => h) (Or.inl ⟨by rfl, ?_⟩) ?_ ?_
         rotate_left
         ·intro w'
          go_simp
          with_reducible rfl
         rotate_left
         ·simp only [Act.put, List.setIfInBounds_toArray, List.set_cons_zero, List.set_cons_succ, i64_w, i32_w]
          rfl
         refine one_ (i := 16) (N := some 36) #[true, true, true, true, true, true, true, true, true, true, true, true, true, true, true, true, true, false, false] rfl rfl (one_of HT_.out q9_) (by decide) (fun K hK => ?_)
         refine value_ (w1 := ?_) (v := ?_) (by rfl) rfl ?_ ?_
         rotate_left 2
         ·go_simp
          constructor
          ·rfl
          ·rfl
         refine hK.out _ _ ⟨(World.cell?_alloc_lt _ _ _ (World.block_lt_of_cell? _ _ (((HB.out.cell (World.block_lt_of_cell? w _ hw101_0)).trans hw101_0)))).trans (((HB.out.cell (World.block_lt_of_cell? w _ hw101_0)).trans hw101_0)), (World.cell?_alloc_lt _ _ _ (World.block_lt_of_cell? _ _ (((HB.out.cell (World.block_lt_of_cell? w _ hw101_1)).trans hw101_1)))).trans (((HB.out.cell (World.block_lt_of_cell? w _ hw101_1)).trans hw101_1)), (World.cell?_alloc_lt _ _ _ (World.block_lt_of_cell? _ _ (((HB.out.cell (World.block_lt_of_cell? w _ hw103_0)).trans hw103_0)))).trans (((HB.out.cell (World.block_lt_of_cell? w _ hw103_0)).trans hw103_0)), (World.cell?_alloc_lt _ _ _ (World.block_lt_of_cell? _ _ (((HB.out.cell (World.block_lt_of_cell? w _ hw103_1)).trans hw103_1)))).trans (((HB.out.cell (World.block_lt_of_cell? w _ hw103_1)).trans hw103_1))⟩ (fun hHeld => ?_)
         clear hK K
         refine norm_ (a' := ?_) ?_ ?_
         rotate_left
         ·show Act.put _ (some 36) _ = _
          simp only [Act.put, List.setIfInBounds_toArray, List.set_cons_zero, List.set_cons_succ, i64_w, i32_w]
          rfl
         refine one_ (i := 17) (N := some 37) #[true, true, true, true, true, true, true, true, true, true, true, true, true, true, true, true, true, true, false] rfl rfl (one_of HT_.out q9_) (by decide) (fun K hK => ?_)
         refine Kd.R_append_step k30 (w0 := w) w.heap.size (by rfl) (.tmp 20) (.tmp 36) 25 30 (.agg #[(.string ⟨#[]⟩), (.string ⟨#[]⟩)]) 32 rfl Tryz.underlying25 info30 rfl (by decide) (by omega) u7 x7_1 (⟨t102, t104⟩ : S30) [.string t102, .string t104] (fun _ => True) (fun _ => False) rfl rfl ?aP (fun _ hk => hk.elim) ?aF ?aO ?aB ?aS ?aL ?_
         (case aP => exact k30_mkM _ _ _ (⟨t102, t104⟩ : S30))
         (case aB => exact hB)
         (case aF => exact (fun _ _ => trivial))
         (case aO => exact (by (with_reducible repeat (first | apply Kd.R_alloc | apply Kd.R_drewN | apply Kd.R_drew)); exact HO_7.out))
         (case aS => exact (below_size hB))
         (case aL => have := LMc11.out; omega)
         intro v106 w13 ho hb hg hat
         rw [← Ny105.out] at ho
         have n0_ := Aside0.mk (hb)
         have n1_ := Aside0.mk (ho)
         clear HB
         clear HO_7
         have HB := n0_
         have HO107 := n1_
         clear n0_ n1_
         clear ho hb hg hat
         refine hK.out _ _ ⟨((HB.out.cell (World.block_lt_of_cell? w _ hw101_0)).trans hw101_0), ((HB.out.cell (World.block_lt_of_cell? w _ hw101_1)).trans hw101_1), ((HB.out.cell (World.block_lt_of_cell? w _ hw103_0)).trans hw103_0), ((HB.out.cell (World.block_lt_of_cell? w _ hw103_1)).trans hw103_1)⟩ (fun hHeld => ?_)
         clear hK K
         refine norm_ (a' := ?_) ?_ ?_
         rotate_left
         ·show Act.put _ (some 37) _ = _
          simp only [Act.put, List.setIfInBounds_toArray, List.set_cons_zero, List.set_cons_succ, i64_w, i32_w]
          rfl
         refine pure_ (i := 18) (N := some 7) (v := ?_) (a' := ?_) #[true, true, true, true, true, true, true, true, true, true, true, true, true, true, true, true, true, true, true] rfl rfl (any_of HT_.out q9_) (fun _ _ _ h => h) (Or.inl ⟨by rfl, ?_⟩) ?_ ?_
         rotate_left
         ·intro w'
          go_simp
          with_reducible rfl
         rotate_left
         ·simp only [Act.put, List.setIfInBounds_toArray, List.set_cons_zero, List.set_cons_succ, i64_w, i32_w]
          rfl
         refine done_ (done_of HT_.out q9_) ?_
         try go_wp2
         go_roundg kj3
         case measure => have := HK1.out; have := HJ3.out; omega
         case rel => exact ⟨(y105), (wrap64 (x8_1 + 1)), rS, H', ⟨by have := HK1.out; have := HJ3.out; omega⟩, ⟨by (with_reducible repeat (first | apply Kd.R_alloc | apply Kd.R_drewN | apply Kd.R_drew)); exact HO107.out⟩, ⟨by repeat (first | (with_reducible first | exact HB.out | apply below_alloc | apply pw_below_drewN | apply below_drew1) | exact HB.out)⟩⟩
        ·rw [if_neg c11] at H
         exact absurd H (by simp)
       ·rw [if_neg c8] at H
        exact absurd H (by simp)
      ·rw [if_neg c7] at H
       exact absurd H (by simp)
     ·replace c6 := Bool.eq_false_iff.mpr c6
      subst c6
      have H1 : (some x7_1) = some r := by rw [if_neg (show ¬ (false = true) by decide)] at H; exact H
      clear H
      have H := H1
      clear H1
      obtain rfl := Option.some.inj H
      go_wp2
      go_ret
      exact ⟨_, by first | rfl | (simp [errW_none, errW_some] <;> rfl) | (simp [*, errW_none, errW_some] <;> rfl), by (with_reducible repeat (first | apply Kd.R_alloc | apply Kd.R_drewN | apply Kd.R_drew)); exact HO_7.out, by repeat (first | (with_reducible first | exact HB.out | apply below_alloc | apply pw_below_drewN | apply below_drew1) | exact HB.out)⟩
end Go.Proofs.YtifmkgkiipckbaaGreatDoor.P
namespace Go.Proofs.YtifmkgkiipckbaaGreatDoor.P
open Go.RowKit Go.Proofs.YtifmkgkiipckbaaGreatDoorW.PrintWords Go.Proofs.YtifmkgkiipckbaaGreatDoorW.PrintLast Go.Proofs.YtifmkgkiipckbaaGreatDoorW.PrintMore
set_option linter.unusedVariables false
set_option linter.unusedSimpArgs false
theorem iLower_tot (s : ByteArray) (hs : s.size ≤ 1000000) : Tot (infra_Lower.f s) (fun r => r = lowS s) := by
 unfold infra_Lower.f
 rw [if_pos (by omega)]
 exact Tot.pure rfl
theorem Few_tot (s : ByteArray) (n : Int) (h : 0 ≤ n) : Tot (ostiarykeep_Few.f s n) (fun r => r.size ≤ n.toNat) := by
 unfold ostiarykeep_Few.f
 (repeat' (first | (with_reducible refine Tot.guard oK ?_) | (with_reducible refine Tot.pure ?_) | (with_reducible refine Tot.bind (by first | exact Letter_tot _ | exact Digit_tot _ | exact Begins_tot _ _ | exact Ends_tot _ _ oK | exact Hex_tot _ _ oK | exact bad_tot _ _ oK | exact Own_tot _ _ oK | exact Special_tot _ _ oK | exact In_tot _ _ _ oK | exact Escape_tot _ (bt_range _ _).1 (bt_range _ _).2 | exact Percent_tot _ _ _ oK oK | exact Int_tot _ _ oK oK | exact Cut_tot _ _ _ oK oK | exact labels_tot _ _ oK oK | exact number_tot _ _ oK oK | exact Four_tot _ _ oK oK | exact Numeral_tot _ _ oK oK oK | exact digits_tot _ _ oK oK oK | exact Text4_tot _ _ oK oK oK | exact Numbered_tot _ _ oK oK | exact Six_tot _ oK | exact Text6_tot _ _ _ _ _ _ _ _ (by assumption) (by assumption) (by assumption) (by assumption) (by assumption) (by assumption) (by assumption) (by assumption)) ?_; intro _ _) | (with_reducible refine Tot.ite ?_ ?_ <;> intro _)))
 ·simp only [ByteArray.size_extract]; omega
 ·omega
def FewH (l : List S30) : Prop := l.length ≤ 20 ∧ ∀ x ∈ l, x.f0.size ≤ 200 ∧ x.f1.size ≤ 200
theorem FewHeaders_tot (k : Nat) (l : List S30) (n m : Int) (h0 : 0 ≤ n) (h1 : n ≤ 20) (h2 : 0 ≤ m) (h3 : m ≤ 200) (hk : 100 ≤ k) : Tot (ostiarykeep_FewHeaders.f k l n m) FewH := by
 have H : ∀ (k : Nat) (x : Int) (q : List S30), 0 ≤ x → x ≤ 20 → q.length = x.toNat → (∀ x ∈ q, x.f0.size ≤ 200 ∧ x.f1.size ≤ 200) → 2 * (21 - x.toNat) + 10 ≤ k → Tot (ostiarykeep_FewHeaders.l0 k l n m q x) FewH := by
  intro k
  induction k using Nat.strongRecOn with
  | _ k ih =>
  intro x q hx0 hx1 hq hm hk
  obtain ⟨k, rfl⟩ : ∃ j, k = j + 2 := ⟨k - 2, by omega⟩
  have J : ∀ f, (f = true → x < n ∧ x < l.length) → Tot (ostiarykeep_FewHeaders.j1 (k + 1) l n m q x f) FewH := by
   intro f hf
   unfold ostiarykeep_FewHeaders.j1
   refine Tot.ite (fun h => ?_) (fun _ => Tot.pure ⟨by omega, hm⟩)
   obtain ⟨a1, a2⟩ := hf h
   refine Tot.guard hx0 (Tot.guard a2 (Tot.bind (Few_tot _ _ h2) (fun r hr => Tot.bind (Few_tot _ _ h2) (fun r2 hr2 => Tot.guard (by omega) (ih k (by omega) _ _ oK (by unfold wrap64; omega) (by simp only [List.length_append, List.length_cons, List.length_nil, wrap64]; omega) ?_ (by unfold wrap64; omega))))))
   intro y hy
   rcases List.mem_append.1 hy with h | h
   ·exact hm y h
   ·obtain rfl := List.mem_singleton.1 h
    simp only
    omega
  unfold ostiarykeep_FewHeaders.l0
  refine Tot.ite (fun hl => J _ (fun h => ⟨by simpa using h, hl⟩)) (fun _ => J _ (by simp))
 exact H k 0 [] (by omega) (by omega) rfl (by simp) (by simp only [Int.toNat_zero]; omega)
theorem joinTail_len (sep : List UInt8) (r : List (List UInt8)) (h : ∀ x ∈ r, x.length ≤ 200) : (Lib.joinTail sep r).length ≤ (sep.length + 200) * r.length := by
 induction r with
 | nil => simp [Lib.joinTail]
 | cons x r ih =>
  have h1 := ih (fun y hy => h y (List.mem_cons_of_mem _ hy))
  have h2 := h x (List.mem_cons_self ..)
  simp only [Lib.joinTail, List.map_cons, List.flatten_cons, List.length_append, List.length_cons] at h1 ⊢
  rw [Nat.mul_add, Nat.mul_one]
  omega
theorem Join_tot (l : List ByteArray) (h : l.length ≤ 20) (hm : ∀ x ∈ l, x.size ≤ 200) : Tot (strings_Join.f l ⟨#[44, 32]⟩) (fun r => r.size ≤ 10000) := by
 unfold strings_Join.f
 have : (Lib.join (l.map (·.data.toList)) [44, 32]).length ≤ 10000 := by
  cases l with
  | nil => simp [Lib.join_nil]
  | cons x r =>
   rw [List.map_cons, Lib.join_cons, List.length_append]
   have h1 := joinTail_len [44, 32] (r.map (·.data.toList)) (by
    intro y hy
    obtain ⟨z, hz, rfl⟩ := List.mem_map.1 hy
    have := hm z (List.mem_cons_of_mem _ hz)
    simpa using this)
   have h2 := hm x (List.mem_cons_self ..)
   simp only [List.length_cons, List.length_map, List.length_nil, Array.length_toList] at h h1 ⊢
   have h3 : x.data.size ≤ 200 := h2
   have h4 : (0 + 1 + 1 + 200) * r.length ≤ 202 * 19 := Nat.mul_le_mul (by omega) (by omega)
   omega
 rw [if_pos (by omega), if_pos (Nat.le_trans this (by omega))]
 exact Tot.pure (by simpa [ByteArray.size] using this)
theorem is_tot (a b c : ByteArray) (h : a.size ≤ 1000000) (hc : c.size ≤ 1000000) : Tot (headers_is.f a b c) (fun _ => True) := by
 unfold headers_is.f
 exact Tot.bind (iLower_tot _ h) (fun _ _ => Tot.bind (iLower_tot _ hc) (fun _ _ => Tot.pure trivial))
theorem Get_tot (k : Nat) (l : List S30) (n : ByteArray) (hl : FewH l) (hn : n.size ≤ 1000000) (hk : 40 ≤ k) : Tot (headers_Get.f k l n) (fun r => r.1.size ≤ 10000) := by
 have H : ∀ (k : Nat) (x : Int) (q : List ByteArray), 0 ≤ x → x ≤ l.length → q.length ≤ x.toNat → (∀ x ∈ q, x.size ≤ 200) → (l.length - x.toNat) + 5 ≤ k → Tot (headers_Get.l0 k n q l (l.length : Int) x) (fun r => r.1.size ≤ 10000) := by
  intro k
  induction k with
  | zero => intro x q _ _ _ _ h; omega
  | succ k ih =>
   intro x q h0 hx hq hm hk
   have hz : (rd_T30 l x).f0.size ≤ 200 ∧ (rd_T30 l x).f1.size ≤ 200 := by
    unfold rd_T30
    rw [List.getD_eq_getElem?_getD]
    cases hq : l[x.toNat]? with
    | none => exact ⟨by decide, by decide⟩
    | some y => exact hl.2 y (List.mem_of_getElem? hq)
   have h20 := hl.1
   unfold headers_Get.l0
   refine Tot.ite (fun hlt => Tot.guard h0 (Tot.guard hlt (Tot.bind (is_tot _ _ _ (by omega) hn) (fun _ _ => Tot.ite (fun _ => Tot.guard (by omega) (ih _ _ oK oK (by simp only [List.length_append, List.length_cons, List.length_nil, wrap64]; omega) ?_ oK)) (fun _ => ih _ _ oK oK (by unfold wrap64; omega) hm oK))))) (fun _ => Tot.bind (Join_tot _ (by omega) hm) (fun _ h => Tot.pure h))
   intro y hy
   rcases List.mem_append.1 hy with h | h
   ·exact hm y h
   ·obtain rfl := List.mem_singleton.1 h
    exact hz.2
 exact H k 0 [] (by omega) (by omega) (by simp) (by simp) (by have := hl.1; simp only [Int.toNat_zero]; omega)
theorem Token_tot (k : Nat) (s : ByteArray) (hs : s.size ≤ 1000000) (hk : s.size + 10 ≤ k) : Tot (infra_Token.f k s) (fun _ => True) := by
 have H : ∀ (k : Nat) (x : Int), 0 ≤ x → (s.size - x.toNat) + 2 ≤ k → Tot (infra_Token.l0 k s (s.size : Int) x) (fun _ => True) := by
  intro k
  induction k with
  | zero => intro x _ h; omega
  | succ k ih =>
   intro x h0 hk
   have ib : ∀ c, Tot (strings_IndexByte.f ⟨#[33, 35, 36, 37, 38, 39, 42, 43, 45, 46, 94, 95, 96, 124, 126]⟩ c) (fun _ => True) := fun c => Tot.pure trivial
   unfold infra_Token.l0
   refine Tot.ite (fun hlt => Tot.guard h0 (Tot.guard hlt ?_)) (fun _ => Tot.pure trivial)
   have hn : Tot (infra_Token.l0 k s (s.size : Int) (wrap64 (x + 1))) (fun _ => True) := ih _ oK oK
   repeat' first
    | exact hn
    | exact Tot.pure trivial
    | refine Tot.bind (ib _) (fun _ _ => ?_)
    | refine Tot.ite (fun _ => ?_) (fun _ => ?_)
 exact H k 0 (by omega) (by omega)
end Go.Proofs.YtifmkgkiipckbaaGreatDoor.P
