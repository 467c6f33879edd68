/- A part of the proof of CorsLess: texts of walks and plain lemmas. -/
import Derived.Test.YtifmkgkiipckbaaDoorX15
import Derived.Test.YtifmkgkiipckbaaDoorX2
import Derived.Test.YtifmkgkiipckbaaDoorX1
import Derived.Test.YtifmkgkiipckbaaDoorX14
namespace Go.Proofs.YtifmkgkiipckbaaDoor.P
open Go.RowKit Go.Proofs.YtifmkgkiipckbaaDoorW.PrintWords Go.Proofs.YtifmkgkiipckbaaDoorW.PrintLast
set_option linter.unusedVariables false
set_option linter.unusedSimpArgs false
def slashB (c : UInt8) : UInt8 := if c = 92 then 47 else c
def slashL : List UInt8 → List UInt8
 | [] => []
 | c :: r => if c = 63 then c :: r else slashB c :: slashL r
theorem slashL_eq (l : List UInt8) : ∀ k, (∀ j (h : j < l.length), j < k → l[j] ≠ 63) → (∀ h : k < l.length, l[k] = 63) → k ≤ l.length → mapTo slashB k l = slashL l := by
 induction l with
 | nil => intro k _ _ _; simp [mapTo, slashL]
 | cons c r ih =>
  intro k h1 h2 hk
  cases k with
  | zero =>
   have := h2 (by simp)
   simp at this
   subst this
   simp [mapTo, slashL]
  | succ k =>
   have hc : c ≠ 63 := h1 0 (by simp) (by omega)
   have := ih k (fun j h hj => h1 (j + 1) (by simpa using h) (by omega)) (fun h => h2 (by simpa using h)) (by simpa using hk)
   simp only [mapTo, slashL, if_neg hc, List.take_succ_cons, List.drop_succ_cons, List.map_cons, List.cons_append] at this ⊢
   rw [this]
def ostiaryref3_slashes.f (a0 : ByteArray) : Option ByteArray := if a0.size ≤ 140737488355327 then some ⟨(slashL a0.data.toList).toArray⟩ else none
set_option maxHeartbeats 400000 in
theorem slashes_any (s : ByteArray) (w : World) (hs : s.size ≤ 140737488355327) :
  Calls Tryd.prog 133 #[.string s] w fun e w' => e = .returned (.string ⟨(slashL s.data.toList).toArray⟩) ∧ Below w.heap.size w w' := by
 have hcv := fun (W : World) => Lib.run_convert_string_bytes (P := Tryd.prog) W 9 34 5 s Tryd.underlying9 Tryd.underlying34 Tryd.underlying5
 have hb0 := below_bytesWorld w 5 s
 have hr0 := BRow.bytesWorld w 5 s
 go_enter Tryd.func133, Tryd.ntmps133
 go_wp2
 generalize Lib.bytesWorld w 5 s = w1 at hb0 hr0
 clear hcv
 go_loopw [4] (fun i wr => ∃ k : Nat, k ≤ s.size ∧ i = .int .i64 k ∧ BRow wr w.heap.size (mapTo slashB k s.data.toList) ∧ Below w.heap.size w wr ∧ (∀ j (h : j < s.data.toList.length), j < k → s.data.toList[j] ≠ 63)) (fun i _ => s.size - (intOf i).toNat)
 case atStart => exact ⟨0, Nat.zero_le _, rfl, by rw [mapTo_zero]; exact hr0, hb0, fun j h hj => absurd hj (by omega)⟩
 case round =>
  clear hb0 hr0
  obtain ⟨k, hk, rfl, hr, hb, hno⟩ := hrel
  have HN0 := Lib.hid hno
  clear hno
  have out : (∀ h : k < s.data.toList.length, s.data.toList[k] = 63) → ∀ cap : Nat, (convert 34 9 (.slice (some ⟨w.heap.size, 0, none⟩) s.size cap)).run Tryd.prog wr = .ok (.string ⟨(slashL s.data.toList).toArray⟩) wr := fun hq cap => by
   have := hr.back (P := Tryd.prog) s.size (by rw [mapTo_len]; simp) 34 9 5 Tryd.underlying34 Tryd.underlying5 Tryd.underlying9 cap
   rw [slashL_eq s.data.toList k HN0.out hq (by simpa using hk)] at this
   exact this
  by_cases hlt : k < s.size
  ·have hkl : k < s.data.toList.length := by simpa using hlt
   have hc := hr.cell k (by rw [mapTo_len]; exact hkl)
   have hf := hr.free k (by rw [mapTo_len]; exact hkl)
   rw [mapTo_at slashB k _ hkl] at hc
   have HS := hr.set k (by rw [mapTo_len]; exact hkl) (slashB s.data.toList[k])
   rw [mapTo_set slashB k _ hkl] at HS
   have HN : slashB s.data.toList[k] = s.data.toList[k] → BRow wr w.heap.size (mapTo slashB (k + 1) s.data.toList) := fun h => mapTo_same slashB k _ hkl h ▸ hr
   have HB := hb.setCell (p := ⟨w.heap.size, k, none⟩) (Nat.le_refl _) (.int .u8 47)
   have hne2 : s.data.toList[k] ≠ 63 → ∀ j (h : j < s.data.toList.length), j < k + 1 → s.data.toList[j] ≠ 63 := fun h0 j h hj => by
    rcases Nat.lt_or_ge j k with h1 | h1
    ·exact HN0.out j h h1
    ·have : j = k := by omega
     subst this
     exact h0
   have hq : s.data.toList[k] = 63 → ∀ cap : Nat, (convert 34 9 (.slice (some ⟨w.heap.size, 0, none⟩) s.size cap)).run Tryd.prog wr = .ok (.string ⟨(slashL s.data.toList).toArray⟩) wr := fun h => out (fun _ => h)
   clear out
   generalize s.data.toList[k] = c at hc HS HN hne2 hq
   have H1 := Lib.hid HS
   have H3 := Lib.hid HN
   have H4 := Lib.hid hb
   have H5 := Lib.hid HB
   have H6 := Lib.hid hne2
   have H7 := Lib.hid hq
   clear HS HB HN hb hr hne2 hq HN0
   by_cases c1 : c = 63
   ·subst c1
    have hconv := H7.out rfl
    go_wp2
    go_ret
    exact ⟨rfl, H4.out⟩
   ·by_cases c2 : c = 92
    ·subst c2
     go_wp2
     go_roundw
     case rel => exact ⟨k + 1, by omega, by go_num, H1.out, H5.out, H6.out (by decide)⟩
     case measure => simp [intOf]; omega
    ·have t1 : (((c.toNat : Int)) != 63) = true := bne_iff_ne.2 (fun h => c1 (UInt8.toNat_inj.1 (by simpa using (show c.toNat = 63 by omega))))
     have t2 : (((c.toNat : Int)) == 92) = false := beq_eq_false_iff_ne.2 (fun h => c2 (UInt8.toNat_inj.1 (by simpa using (show c.toNat = 92 by omega))))
     have H8 := Lib.hid (show slashB c = c by unfold slashB; rw [if_neg c2])
     have H9 := Lib.hid c1
     clear c1 c2
     go_wp2
     go_roundw
     case rel => exact ⟨k + 1, by omega, by go_num, H3.out H8.out, H4.out, H6.out H9.out⟩
     case measure => simp [intOf]; omega
  ·have hconv := out (fun h => absurd h (by simp; omega))
   clear out hr
   go_wp2
   go_ret
   exact ⟨rfl, hb⟩
theorem ostiaryref3_slashes.calls (a0 : ByteArray) (r : ByteArray) (w : World) (h : ostiaryref3_slashes.f a0 = some r) :
  Calls Tryd.prog 133 #[.string a0] w fun e w' => e = .returned (.string r) ∧ Below w.heap.size w w' := by
 unfold ostiaryref3_slashes.f at h
 split at h
 ·injection h with h
  subst h
  exact slashes_any a0 w ‹_›
 ·simp at h
def AtOk (r : Int × S86) (w0 : World) (g : Nat) (w : World) : Prop := r.1 = 0 → UAt w0 w g r.2
theorem AtOk.no {r : Int × S86} {w0 : World} {g : Nat} {w : World} (h : r.1 ≠ 0) : AtOk r w0 g w := fun h' => absurd h' h
def ostiaryref3_far.f (k : Nat) (u : S86) (s : ByteArray) : Option (Int × S86) :=
 (ostiaryref3_ahead.f k s 47 63).bind fun p =>
 (ostiaryref3_authority.f k u.f0 u.f1 u.f2 u.f3 u.f4 u.f5 u.f6 u.f7 u.f8 u.f9 u.f10 u.f11 p.1).bind fun r =>
 let u1 : S86 := ⟨r.2.1, r.2.2.1, r.2.2.2.1, r.2.2.2.2.1, r.2.2.2.2.2.1, r.2.2.2.2.2.2.1, r.2.2.2.2.2.2.2.1, u.f7, r.2.2.2.2.2.2.2.2.1, r.2.2.2.2.2.2.2.2.2.1, r.2.2.2.2.2.2.2.2.2.2.1, r.2.2.2.2.2.2.2.2.2.2.2⟩
 if r.1 = 0 then (ostiaryref3_rest.f k u1 p.2).bind fun u2 => some (0, u2) else some (r.1, u1)
set_option maxHeartbeats 1000000 in
set_option maxRecDepth 100000 in
theorem ostiaryref3_far.calls (k : Nat) (g : Nat) (u : S86) (s : ByteArray) (r : Int × S86) (w0 w : World) (hI : IsU w0 w g u) (hB : Below w0.heap.size w0 w) (h : ostiaryref3_far.f k u s = some r) :
  Calls Tryd.prog 131 #[.pointer (some ⟨g, 0, none⟩), .string s] w fun e w' => e = .returned (.int .i64 r.1) ∧ AtOk r w0 g w' ∧ Below w0.heap.size w0 w' ∧ KeepBut w w' g none := by
 unfold ostiaryref3_far.f at h
 obtain ⟨⟨p, q⟩, h1, h⟩ := Option.bind_eq_some_iff.mp h
 obtain ⟨⟨r1, r2, r3, r4, r5, r6, r7, r8, r9, r10, r11, r12⟩, h2, h⟩ := Option.bind_eq_some_iff.mp h
 have hu86 := Tryd.underlying86
 have H1 := Lib.hid h1
 have H2 := Lib.hid h2
 have HI := Lib.hid hI
 have HB := Lib.hid hB
 clear h1 h2 hI hB
 simp only at h
 by_cases h0 : r1 = 0
 ·rw [if_pos h0] at h
  obtain ⟨u2, h3, h⟩ := Option.bind_eq_some_iff.mp h
  injection h with h
  subst h h0
  have H3 := Lib.hid h3
  clear h3
  go_enter Tryd.func131, Tryd.ntmps131
  go_wp2_with fail
  refine (ostiaryref3_ahead.calls k s 47 63 p q _ H1.out).mono ?_
  rintro e w1 ⟨rfl, n, rfl⟩
  go_wp2_with fail
  refine (authority_calls k g u.f0 u.f1 u.f2 u.f3 u.f4 u.f5 u.f6 u.f7 u.f8 u.f9 u.f10 u.f11 p 0 r2 r3 r4 r5 r6 r7 r8 r9 r10 r11 r12 w0 _ (IsS86.drewN HI.out n) (pw_below_drewN HB.out n) H2.out).mono ?_
  rintro e w2 ⟨rfl, ⟨A7, c7, hb, hg, hr⟩, hB2, hK2⟩
  have KB := Lib.hid hb
  have KG := Lib.hid hg
  have K2 := Lib.hid hB2
  have K3 := Lib.hid (show KeepBut w w2 g none from hK2)
  clear hb hg hB2 hK2 hr
  go_wp2_with fail
  refine (ostiaryref3_rest.calls k g ⟨r2, r3, r4, r5, r6, r7, r8, u.f7, r9, r10, r11, r12⟩ A7 u.f7.length c7 q u2 w0 _ KB.out KG.out K2.out H3.out).mono ?_
  rintro e w3 ⟨rfl, hU, hB3, hK3⟩
  have J1 := Lib.hid hU
  have J2 := Lib.hid hB3
  have J3 := Lib.hid hK3
  clear hU hB3 hK3
  go_wp2_with fail
  go_ret
  exact ⟨rfl, fun _ => J1.out, J2.out, K3.out.trans J3.out (.inl rfl)⟩
 ·rw [if_neg h0] at h
  injection h with h
  subst h
  have t0 : (r1 != 0) = true := bne_iff_ne.2 h0
  have H0 := Lib.hid h0
  clear h0
  go_enter Tryd.func131, Tryd.ntmps131
  go_wp2_with fail
  refine (ostiaryref3_ahead.calls k s 47 63 p q _ H1.out).mono ?_
  rintro e w1 ⟨rfl, n, rfl⟩
  go_wp2_with fail
  refine (authority_calls k g u.f0 u.f1 u.f2 u.f3 u.f4 u.f5 u.f6 u.f7 u.f8 u.f9 u.f10 u.f11 p r1 r2 r3 r4 r5 r6 r7 r8 r9 r10 r11 r12 w0 _ (IsS86.drewN HI.out n) (pw_below_drewN HB.out n) H2.out).mono ?_
  rintro e w2 ⟨rfl, ⟨A7, c7, hb, hg, hr⟩, hB2, hK2⟩
  have K2 := Lib.hid hB2
  have K3 := Lib.hid (show KeepBut w w2 g none from hK2)
  clear hb hg hB2 hK2 hr
  go_wp2_with fail
  go_ret
  exact ⟨rfl, AtOk.no H0.out, K2.out, K3.out⟩
def ostiaryref3_full.f (k : Nat) (u : S86) (s : ByteArray) : Option (Int × S86) :=
 (ostiaryref3_Special.f k u.f0).bind fun sp => if sp = true then (ostiaryref3_slashes.f s).bind fun a => (ostiaryref3_over.f k a).bind fun b => ostiaryref3_far.f k { u with f5 := -1 } b
 else (ostiaryref1_Begins.f s ⟨#[47, 47]⟩).bind fun c => if c = true then (if 2 ≤ s.size then ostiaryref3_far.f k { u with f5 := -1 } (s.extract 2 s.size) else none)
 else (ostiaryref1_Begins.f s ⟨#[47]⟩).bind fun d => if d = true then (ostiaryref3_rest.f k { u with f5 := -1 } s).bind fun u2 => some (0, u2)
 else (ostiaryref3_ahead.f k s 63 63).bind fun p => (ostiaryref1_Percent.f k p.1 1).bind fun x => (ostiaryref3_query.f k { u with f5 := -1, f6 := true, f7 := [x] } s).bind fun u3 => some (0, u3)
theorem query_f7 {k : Nat} {u r : S86} {s : ByteArray} (h : ostiaryref3_query.f k u s = some r) : r.f7 = u.f7 := by
 unfold ostiaryref3_query.f at h
 obtain ⟨⟨p, q, has⟩, h1, h⟩ := Option.bind_eq_some_iff.mp h
 simp only at h
 split at h
 ·obtain ⟨sp, h2, h⟩ := Option.bind_eq_some_iff.mp h
  obtain ⟨x, h3, h⟩ := Option.bind_eq_some_iff.mp h
  injection h with h
  subst h
  rfl
 ·injection h with h
  subst h
  rfl
set_option maxHeartbeats 2000000 in
set_option maxRecDepth 100000 in
theorem ostiaryref3_full.calls (k : Nat) (g : Nat) (u : S86) (s : ByteArray) (r : Int × S86) (w0 w : World) (hI : IsU w0 w g u) (hB : Below w0.heap.size w0 w) (h : ostiaryref3_full.f k u s = some r) :
  Calls Tryd.prog 110 #[.pointer (some ⟨g, 0, none⟩), .string s] w fun e w' => e = .returned (.int .i64 r.1) ∧ AtOk r w0 g w' ∧ Below w0.heap.size w0 w' ∧ KeepBut w w' g none := by
 unfold ostiaryref3_full.f at h
 obtain ⟨sp, h1, h⟩ := Option.bind_eq_some_iff.mp h
 have hu86 := Tryd.underlying86
 have hI1 : IsU w0 (w.setCell ⟨g, 5, none⟩ (.int .i64 (-1))) g { u with f5 := -1 } := IsS86.set_5 hI (-1)
 have hg0 := IsS86.ge hI
 have hB1 : Below w0.heap.size w0 (w.setCell ⟨g, 5, none⟩ (.int .i64 (-1))) := below_set hB hg0
 have hK1 : KeepBut w (w.setCell ⟨g, 5, none⟩ (.int .i64 (-1))) g none := (KeepBut.refl w g none).set_ _ _
 obtain ⟨A7, c7, hb, hg, hr⟩ := hI
 have hc5 : w.cell? ⟨g, 5, none⟩ = some (.int .i64 u.f5) := (blk_cell hb 5).trans rfl
 have hf5 : w.frozen? ⟨g, 5, none⟩ = false := blk_frozen hb 5
 have hc0 : w.cell? ⟨g, 0, none⟩ = some (.string u.f0) := (blk_cell hb 0).trans rfl
 have H1 := Lib.hid h1
 have H0 := Lib.hid hb
 have HI := Lib.hid hI1
 have HB := Lib.hid hB1
 have HK := Lib.hid hK1
 have HG := Lib.hid hg
 clear h1 hI1 hB hB1 hb hg hr hK1 hg0
 cases sp with
 | true =>
  rw [if_pos rfl] at h
  obtain ⟨a, h2, h⟩ := Option.bind_eq_some_iff.mp h
  obtain ⟨b, h3, h⟩ := Option.bind_eq_some_iff.mp h
  have H2 := Lib.hid h2
  have H3 := Lib.hid h3
  have H4 := Lib.hid h
  clear h2 h3 h
  go_enter Tryd.func110, Tryd.ntmps110
  go_wp2_with fail
  refine (ostiaryref3_Special.calls k u.f0 true _ H1.out).mono ?_
  rintro e w1 ⟨rfl, n, rfl⟩
  go_wp2_with fail
  refine (ostiaryref3_slashes.calls s a _ H2.out).mono ?_
  rintro e w2 ⟨rfl, hb2⟩
  have J2 := Lib.hid hb2
  clear hb2
  go_wp2_with fail
  refine (ostiaryref3_over.calls k a b _ H3.out).mono ?_
  rintro e w3 ⟨rfl, n3, rfl⟩
  go_wp2_with fail
  refine (ostiaryref3_far.calls k g _ b r w0 _ (IsS86.drewN (IsS86.below (IsS86.drewN HI.out n) J2.out) n3) (pw_below_drewN (below_step (pw_below_drewN HB.out n) J2.out) n3) H4.out).mono ?_
  rintro e w4 ⟨rfl, hA, hB4, hK4⟩
  have J4 := Lib.hid hA
  have J5 := Lib.hid hB4
  have J6 := Lib.hid hK4
  clear hA hB4 hK4
  go_wp2_with fail
  go_ret
  exact ⟨rfl, J4.out, J5.out, ((keep_drewN HK.out n).trans (KeepBut.of_below J2.out g none) (.inl rfl)).trans J6.out (.inl rfl)⟩
 | false =>
  rw [if_neg (by simp)] at h
  obtain ⟨c, h2, h⟩ := Option.bind_eq_some_iff.mp h
  have H2 := Lib.hid h2
  clear h2
  cases c with
  | true =>
   rw [if_pos rfl] at h
   by_cases hsz : 2 ≤ s.size
   ·rw [if_pos hsz] at h
    have H4 := Lib.hid h
    clear h
    have hsz1 : decide (2 ≤ s.size) = true := decide_eq_true hsz
    have hsz2 : (2 : Int) ≤ (s.size : Int) := by omega
    go_enter Tryd.func110, Tryd.ntmps110
    go_wp2_with fail
    refine (ostiaryref3_Special.calls k u.f0 false _ H1.out).mono ?_
    rintro e w1 ⟨rfl, n, rfl⟩
    go_wp2_with fail
    refine (ostiaryref1_Begins.calls s ⟨#[47, 47]⟩ true _ H2.out).mono ?_
    rintro e w2 ⟨rfl, n2, rfl⟩
    go_wp2_with fail
    refine (ostiaryref3_far.calls k g _ (s.extract 2 s.size) r w0 _ (IsS86.drewN HI.out _) (pw_below_drewN HB.out _) H4.out).mono ?_
    rintro e w4 ⟨rfl, hA, hB4, hK4⟩
    have J4 := Lib.hid hA
    have J5 := Lib.hid hB4
    have J6 := Lib.hid hK4
    clear hA hB4 hK4
    go_wp2_with fail
    go_ret
    exact ⟨rfl, J4.out, J5.out, (keep_drewN HK.out _).trans J6.out (.inl rfl)⟩
   ·rw [if_neg hsz] at h
    simp at h
  | false =>
   rw [if_neg (by simp)] at h
   obtain ⟨d, h3, h⟩ := Option.bind_eq_some_iff.mp h
   have H3 := Lib.hid h3
   clear h3
   cases d with
   | true =>
    rw [if_pos rfl] at h
    obtain ⟨u2, h4, h⟩ := Option.bind_eq_some_iff.mp h
    injection h with h
    subst h
    have H4 := Lib.hid h4
    clear h4
    have HU := HI.out
    obtain ⟨A9, c9, hb9, hg9, hr9⟩ := HU
    have KB := Lib.hid hb9
    clear hb9 hg9 hr9
    go_enter Tryd.func110, Tryd.ntmps110
    go_wp2_with fail
    refine (ostiaryref3_Special.calls k u.f0 false _ H1.out).mono ?_
    rintro e w1 ⟨rfl, n, rfl⟩
    go_wp2_with fail
    refine (ostiaryref1_Begins.calls s ⟨#[47, 47]⟩ false _ H2.out).mono ?_
    rintro e w2 ⟨rfl, n2, rfl⟩
    go_wp2_with fail
    refine (ostiaryref1_Begins.calls s ⟨#[47]⟩ true _ H3.out).mono ?_
    rintro e w3 ⟨rfl, n3, rfl⟩
    go_wp2_with fail
    refine (ostiaryref3_rest.calls k g { u with f5 := -1 } A9 u.f7.length c9 s u2 w0 _ (blk_drewN KB.out _) HG.out (pw_below_drewN HB.out _) H4.out).mono ?_
    rintro e w4 ⟨rfl, hA, hB4, hK4⟩
    have J4 := Lib.hid hA
    have J5 := Lib.hid hB4
    have J6 := Lib.hid hK4
    clear hA hB4 hK4
    go_wp2_with fail
    go_ret
    exact ⟨rfl, fun _ => J4.out, J5.out, (keep_drewN HK.out _).trans J6.out (.inl rfl)⟩
   | false =>
    rw [if_neg (by simp)] at h
    obtain ⟨⟨p, q⟩, h4, h⟩ := Option.bind_eq_some_iff.mp h
    obtain ⟨x, h5, h⟩ := Option.bind_eq_some_iff.mp h
    obtain ⟨u3, h6, h⟩ := Option.bind_eq_some_iff.mp h
    injection h with h
    subst h
    have H4 := Lib.hid h4
    have H5 := Lib.hid h5
    have H6 := Lib.hid h6
    clear h4 h5 h6
    have hc6 : w.cell? ⟨g, 6, none⟩ = some (.bool u.f6) := (blk_cell H0.out 6).trans rfl
    have hf6 : w.frozen? ⟨g, 6, none⟩ = false := blk_frozen H0.out 6
    have hb6 : ∀ n m, UB (((w.setCell ⟨g, 5, none⟩ (.int .i64 (-1))).drewN n).setCell ⟨g, 6, none⟩ (.bool true) |>.drewN m) g { u with f5 := -1, f6 := true } (.slice A7 u.f7.length c7) := fun n m => blk_drewN (blk_put (blk_drewN (blk_put H0.out 5 _ rfl) n) 6 _ rfl) m
    have KB := Lib.hid hb6
    have hgl : g < w.heap.size := blk_lt H0.out
    have hca : ∀ n m o, ((((w.setCell ⟨g, 5, none⟩ (.int .i64 (-1))).drewN n).setCell ⟨g, 6, none⟩ (.bool true) |>.drewN m).alloc o).cell? ⟨g, 7, none⟩ = some (.slice A7 u.f7.length c7) := fun n m o => (blk_cell (blk_alloc (hb6 n m) o) 7).trans rfl
    have hfa : ∀ n m o, ((((w.setCell ⟨g, 5, none⟩ (.int .i64 (-1))).drewN n).setCell ⟨g, 6, none⟩ (.bool true) |>.drewN m).alloc o).frozen? ⟨g, 7, none⟩ = false := fun n m o => blk_frozen (blk_alloc (hb6 n m) o) 7
    clear hb6
    go_enter Tryd.func110, Tryd.ntmps110
    go_wp2_with fail
    refine (ostiaryref3_Special.calls k u.f0 false _ H1.out).mono ?_
    rintro e w1 ⟨rfl, n, rfl⟩
    go_wp2_with fail
    refine (ostiaryref1_Begins.calls s ⟨#[47, 47]⟩ false _ H2.out).mono ?_
    rintro e w2 ⟨rfl, n2, rfl⟩
    go_wp2_with fail
    refine (ostiaryref1_Begins.calls s ⟨#[47]⟩ false _ H3.out).mono ?_
    rintro e w3 ⟨rfl, n3, rfl⟩
    go_wp2_with fail
    refine (ostiaryref3_ahead.calls k s 63 63 p q _ H4.out).mono ?_
    rintro e w4 ⟨rfl, n4, rfl⟩
    go_wp2_with fail
    refine (ostiaryref1_Percent.calls k p 1 x _ H5.out).mono ?_
    rintro e w5 ⟨rfl, n5, rfl⟩
    go_wp2_with fail
    have hbq := blk_alloc (blk_put (KB.out (n + n2 + n3 + n4) n5) 7 (.slice (some ⟨w.heap.size, 0, none⟩) 1 1) rfl) (.cells #[.string x] 9)
    have hBq : Below w0.heap.size w0 (((((w.setCell ⟨g, 5, none⟩ (.int .i64 (-1))).drewN (n + n2 + n3 + n4)).setCell ⟨g, 6, none⟩ (.bool true) |>.drewN n5).setCell ⟨g, 7, none⟩ (.slice (some ⟨w.heap.size, 0, none⟩) 1 1)).alloc (.cells #[.string x] 9)) := below_alloc (below_set (pw_below_drewN (below_set (pw_below_drewN HB.out _) HG.out) _) HG.out) _
    have hKq := keep_alloc ((keep_drewN ((keep_drewN HK.out (n + n2 + n3 + n4)).set_ 6 (.bool true)) n5).set_ 7 (.slice (some ⟨w.heap.size, 0, none⟩) 1 1)) (.cells #[.string x] 9)
    have hRq : Kd.R Kd.string 9 (((((w.setCell ⟨g, 5, none⟩ (.int .i64 (-1))).drewN (n + n2 + n3 + n4)).setCell ⟨g, 6, none⟩ (.bool true) |>.drewN n5).setCell ⟨g, 7, none⟩ (.slice (some ⟨w.heap.size, 0, none⟩) 1 1)).alloc (.cells #[.string x] 9)) w0.heap.size (fun k => k ≠ g) (.slice (some ⟨w.heap.size, 0, none⟩) 1 1) [x] := by
     have := R_strs_new ((((w.setCell ⟨g, 5, none⟩ (.int .i64 (-1))).drewN (n + n2 + n3 + n4)).setCell ⟨g, 6, none⟩ (.bool true) |>.drewN n5).setCell ⟨g, 7, none⟩ (.slice (some ⟨w.heap.size, 0, none⟩) 1 1)) w0.heap.size (by have := HG.out; simp; omega) x g (by simp; exact hgl)
     simpa using this
    generalize (((((w.setCell ⟨g, 5, none⟩ (.int .i64 (-1))).drewN (n + n2 + n3 + n4)).setCell ⟨g, 6, none⟩ (.bool true)).drewN n5).setCell ⟨g, 7, none⟩ (.slice (some ⟨w.heap.size, 0, none⟩) 1 1)).alloc (.cells #[.string x] 9) = W at hbq hBq hKq hRq ⊢
    refine (ostiaryref3_query.calls k g { u with f5 := -1, f6 := true, f7 := [x] } _ s u3 w0 W hbq HG.out hBq H6.out).mono ?_
    rintro e w6 ⟨rfl, hb6, hB6, hK6⟩
    have J1 := Lib.hid hb6
    have J2 := Lib.hid hB6
    have J3 := Lib.hid hK6
    have J4 := Lib.hid hKq
    have J5 := Lib.hid (Kd.R_keep hRq hK6 (fun k hk => hk))
    have J6 := Lib.hid (query_f7 H6.out)
    clear hb6 hB6 hK6 hbq hBq hKq hRq hca hfa
    go_wp2_with fail
    go_ret
    exact ⟨rfl, fun _ => ⟨_, J1.out, HG.out, by rw [show u3.f7 = [x] from J6.out]; exact J5.out⟩, J2.out, J4.out.trans J3.out (.inl rfl)⟩
def zeroU : S86 := ⟨⟨#[]⟩, ⟨#[]⟩, ⟨#[]⟩, ⟨#[]⟩, false, 0, false, [], ⟨#[]⟩, ⟨#[]⟩, false, false⟩
def cellsU (u : S86) (v : Value) : Array Value := #[.string u.f0, .string u.f1, .string u.f2, .string u.f3, .bool u.f4, .int .i64 u.f5, .bool u.f6, v, .string u.f8, .string u.f9, .bool u.f10, .bool u.f11]
def parseU (k : Nat) (s : ByteArray) : Option (S86 × Int) :=
 if s.size > 4096 then some (zeroU, 3) else
 (ostiaryref3_clean.f k s).bind fun c =>
 (ostiaryref3_split.f k ⟨#[]⟩ ⟨#[]⟩ ⟨#[]⟩ ⟨#[]⟩ false 0 false [] ⟨#[]⟩ ⟨#[]⟩ false false c).bind fun r =>
 (ostiaryref3_scheme.f k r.1).bind fun t => if t.2.2 = true then
  (ostiaryref3_full.f k ⟨t.1, r.2.2.1, r.2.2.2.1, r.2.2.2.2.1, r.2.2.2.2.2.1, r.2.2.2.2.2.2.1, r.2.2.2.2.2.2.2.1, [], r.2.2.2.2.2.2.2.2.1, r.2.2.2.2.2.2.2.2.2.1, r.2.2.2.2.2.2.2.2.2.2.1, r.2.2.2.2.2.2.2.2.2.2.2⟩ t.2.1).bind fun z =>
   if z.1 = 0 then some (z.2, 0) else some (zeroU, z.1)
 else some (zeroU, 12)
theorem putU {W : World} {b T : Nat} {c0 c1 c2 c3 c4 c5 c6 c7 c8 c9 c10 c11 : Value} (hb : W.heap[b]? = some (.cells #[c0, c1, c2, c3, c4, c5, c6, c7, c8, c9, c10, c11] T (0, 0))) (v0 v1 v2 v3 v4 v5 v6 v7 v8 v9 v10 v11 : Value) :
  ((((((((((((W.setCell ⟨b, 0, none⟩ v0).setCell ⟨b, 1, none⟩ v1).setCell ⟨b, 2, none⟩ v2).setCell ⟨b, 3, none⟩ v3).setCell ⟨b, 4, none⟩ v4).setCell ⟨b, 5, none⟩ v5).setCell ⟨b, 6, none⟩ v6).setCell ⟨b, 7, none⟩ v7).setCell ⟨b, 8, none⟩ v8).setCell ⟨b, 9, none⟩ v9).setCell ⟨b, 10, none⟩ v10).setCell ⟨b, 11, none⟩ v11).heap[b]? = some (.cells #[v0, v1, v2, v3, v4, v5, v6, v7, v8, v9, v10, v11] T (0, 0)) :=
 by simpa using blk_set (blk_set (blk_set (blk_set (blk_set (blk_set (blk_set (blk_set (blk_set (blk_set (blk_set (blk_set hb 0 v0) 1 v1) 2 v2) 3 v3) 4 v4) 5 v5) 6 v6) 7 v7) 8 v8) 9 v9) 10 v10) 11 v11
theorem cellsU_at {W : World} {b T : Nat} {u : S86} {v : Value} (hb : W.heap[b]? = some (.cells (cellsU u v) T (0, 0))) :
  W.cell? ⟨b, 0, none⟩ = some (.string u.f0) ∧ W.cell? ⟨b, 1, none⟩ = some (.string u.f1) ∧ W.cell? ⟨b, 2, none⟩ = some (.string u.f2) ∧ W.cell? ⟨b, 3, none⟩ = some (.string u.f3) ∧ W.cell? ⟨b, 4, none⟩ = some (.bool u.f4) ∧ W.cell? ⟨b, 5, none⟩ = some (.int .i64 u.f5) ∧ W.cell? ⟨b, 6, none⟩ = some (.bool u.f6) ∧ W.cell? ⟨b, 7, none⟩ = some (v) ∧ W.cell? ⟨b, 8, none⟩ = some (.string u.f8) ∧ W.cell? ⟨b, 9, none⟩ = some (.string u.f9) ∧ W.cell? ⟨b, 10, none⟩ = some (.bool u.f10) ∧ W.cell? ⟨b, 11, none⟩ = some (.bool u.f11) ∧ ∀ j, W.frozen? ⟨b, j, none⟩ = false :=
 ⟨(blk_cell hb 0).trans rfl, (blk_cell hb 1).trans rfl, (blk_cell hb 2).trans rfl, (blk_cell hb 3).trans rfl, (blk_cell hb 4).trans rfl, (blk_cell hb 5).trans rfl, (blk_cell hb 6).trans rfl, (blk_cell hb 7).trans rfl, (blk_cell hb 8).trans rfl, (blk_cell hb 9).trans rfl, (blk_cell hb 10).trans rfl, (blk_cell hb 11).trans rfl, fun j => blk_frozen hb j⟩
theorem belowU {B : Nat} {w W : World} {b : Nat} (h : Below B w W) (hb : B ≤ b) (v0 v1 v2 v3 v4 v5 v6 v7 v8 v9 v10 v11 : Value) :
  Below B w ((((((((((((W.setCell ⟨b, 0, none⟩ v0).setCell ⟨b, 1, none⟩ v1).setCell ⟨b, 2, none⟩ v2).setCell ⟨b, 3, none⟩ v3).setCell ⟨b, 4, none⟩ v4).setCell ⟨b, 5, none⟩ v5).setCell ⟨b, 6, none⟩ v6).setCell ⟨b, 7, none⟩ v7).setCell ⟨b, 8, none⟩ v8).setCell ⟨b, 9, none⟩ v9).setCell ⟨b, 10, none⟩ v10).setCell ⟨b, 11, none⟩ v11) := (Below.setCell (p := ⟨b, 11, none⟩) (Below.setCell (p := ⟨b, 10, none⟩) (Below.setCell (p := ⟨b, 9, none⟩) (Below.setCell (p := ⟨b, 8, none⟩) (Below.setCell (p := ⟨b, 7, none⟩) (Below.setCell (p := ⟨b, 6, none⟩) (Below.setCell (p := ⟨b, 5, none⟩) (Below.setCell (p := ⟨b, 4, none⟩) (Below.setCell (p := ⟨b, 3, none⟩) (Below.setCell (p := ⟨b, 2, none⟩) (Below.setCell (p := ⟨b, 1, none⟩) (Below.setCell (p := ⟨b, 0, none⟩) h hb v0) hb v1) hb v2) hb v3) hb v4) hb v5) hb v6) hb v7) hb v8) hb v9) hb v10) hb v11)
theorem R_farU {e : Nat} {W : World} {base b : Nat} {v : Value} {xs : List ByteArray} (h : Kd.R Kd.string e W base (fun k => k ≠ b) v xs) (v0 v1 v2 v3 v4 v5 v6 v7 v8 v9 v10 v11 : Value) :
  Kd.R Kd.string e ((((((((((((W.setCell ⟨b, 0, none⟩ v0).setCell ⟨b, 1, none⟩ v1).setCell ⟨b, 2, none⟩ v2).setCell ⟨b, 3, none⟩ v3).setCell ⟨b, 4, none⟩ v4).setCell ⟨b, 5, none⟩ v5).setCell ⟨b, 6, none⟩ v6).setCell ⟨b, 7, none⟩ v7).setCell ⟨b, 8, none⟩ v8).setCell ⟨b, 9, none⟩ v9).setCell ⟨b, 10, none⟩ v10).setCell ⟨b, 11, none⟩ v11) base (fun k => k ≠ b) v xs := (Kd.R_far (p := ⟨b, 11, none⟩) (Kd.R_far (p := ⟨b, 10, none⟩) (Kd.R_far (p := ⟨b, 9, none⟩) (Kd.R_far (p := ⟨b, 8, none⟩) (Kd.R_far (p := ⟨b, 7, none⟩) (Kd.R_far (p := ⟨b, 6, none⟩) (Kd.R_far (p := ⟨b, 5, none⟩) (Kd.R_far (p := ⟨b, 4, none⟩) (Kd.R_far (p := ⟨b, 3, none⟩) (Kd.R_far (p := ⟨b, 2, none⟩) (Kd.R_far (p := ⟨b, 1, none⟩) (Kd.R_far (p := ⟨b, 0, none⟩) h (fun k hk => hk) v0) (fun k hk => hk) v1) (fun k hk => hk) v2) (fun k hk => hk) v3) (fun k hk => hk) v4) (fun k hk => hk) v5) (fun k hk => hk) v6) (fun k hk => hk) v7) (fun k hk => hk) v8) (fun k hk => hk) v9) (fun k hk => hk) v10) (fun k hk => hk) v11)
def Given (w0 : World) (r : S86 × Int) (e : Ending) (w' : World) : Prop :=
 ∃ v : Value, e = .returned (.tuple #[.agg (cellsU r.1 v), .int .i64 r.2]) ∧ Kd.R Kd.string 9 w' w0.heap.size (fun _ => True) v r.1.f7 ∧ Below w0.heap.size w0 w'
set_option maxHeartbeats 2000000 in
set_option maxRecDepth 100000 in
theorem parseU_calls (k : Nat) (s : ByteArray) (r : S86 × Int) (w : World) (h : parseU k s = some r) :
  Calls Tryd.prog 83 #[.string s] w (Given w r) := by
 unfold parseU at h
 have hu86 := Tryd.underlying86
 by_cases h0 : s.size > 4096
 ·rw [if_pos h0] at h
  injection h with h
  subst h
  have h1 : (4096 : Int) < (s.size : Int) := by omega
  go_enter Tryd.func83, Tryd.ntmps83
  go_wp2_with fail
  refine bodyPost_ret (results_ct rfl _ _ w.heap.size 86 (cellsU zeroU (.slice none 0 0)) (0, 0) _ rfl ?_ Tryd.underlying86 rfl q2_) rfl ?_
  ·exact blk_new w _
  ·exact ⟨.slice none 0 0, rfl, Kd.R_nil _ _ _ _ _, below_alloc (Below.refl _ _) _⟩
 ·rw [if_neg h0] at h
  have h1 : ¬ (4096 : Int) < (s.size : Int) := by omega
  obtain ⟨c, h2, h⟩ := Option.bind_eq_some_iff.mp h
  obtain ⟨⟨q1, q2, q3, q4, q5, q6, q7, q8, q9, q10, q11, q12⟩, h3, h⟩ := Option.bind_eq_some_iff.mp h
  obtain ⟨⟨nm, bh, ok⟩, h4, h⟩ := Option.bind_eq_some_iff.mp h
  have H2 := Lib.hid h2
  have H3 := Lib.hid h3
  have H4 := Lib.hid h4
  clear h2 h3 h4
  simp only at h
  obtain ⟨W0, hW0⟩ : ∃ W0, W0 = w.alloc (.cells (cellsU zeroU (.slice none 0 0)) 86) := ⟨_, rfl⟩
  have hI0 : IsU W0 (W0.alloc (.cells (cellsU zeroU (.slice none 0 0)) 86)) W0.heap.size zeroU := IsS86.new W0 W0 none 0 ⟨#[]⟩ ⟨#[]⟩ ⟨#[]⟩ ⟨#[]⟩ false 0 false [] ⟨#[]⟩ ⟨#[]⟩ false false (Below.refl _ _) (Kd.C_nil _ _)
  have hB0 : Below W0.heap.size W0 (W0.alloc (.cells (cellsU zeroU (.slice none 0 0)) 86)) := below_alloc (Below.refl _ _) _
  have hsz : W0.heap.size = w.heap.size + 1 := by rw [hW0]; simp
  have hbr : W0.heap[w.heap.size]? = some (.cells (cellsU zeroU (.slice none 0 0)) 86 (0, 0)) := by rw [hW0]; exact blk_new w _
  have hbw : Below w.heap.size w W0 := by rw [hW0]; exact below_alloc (Below.refl _ _) _
  rw [hsz] at hI0
  have E1 := Lib.hid hW0
  have E2 := Lib.hid hI0
  have E3 := Lib.hid hB0
  have E4 := Lib.hid hbr
  have E5 := Lib.hid hsz
  have E6 := Lib.hid hbw
  clear hW0 hI0 hB0 hbr hsz hbw
  have start : ∀ Q, (Calls Tryd.prog 108 #[.string s] (W0.alloc (.cells (cellsU zeroU (.slice none 0 0)) 86)) Q) → Calls Tryd.prog 108 #[.string s] ((w.alloc (.cells (cellsU zeroU (.slice none 0 0)) 86)).alloc (.cells (cellsU zeroU (.slice none 0 0)) 86)) Q := fun Q hQ => by rw [← E1.out]; exact hQ
  go_enter Tryd.func83, Tryd.ntmps83
  go_wp2_with fail
  refine start _ ?_
  refine (ostiaryref3_clean.calls k s c _ H2.out).mono ?_
  rintro e w1 ⟨rfl, n, rfl⟩
  go_wp2_with fail
  refine (ostiaryref3_split.calls k (w.heap.size + 1) ⟨#[]⟩ ⟨#[]⟩ ⟨#[]⟩ ⟨#[]⟩ false 0 false [] ⟨#[]⟩ ⟨#[]⟩ false false c q1 q2 q3 q4 q5 q6 q7 q8 q9 q10 q11 q12 W0 _ (IsS86.drewN E2.out n) (pw_below_drewN E3.out n) H3.out).mono ?_
  rintro e w2 ⟨rfl, hI2, hB2, hK2⟩
  have J1 := Lib.hid hI2
  have J2 := Lib.hid hB2
  clear hI2 hB2 hK2 start
  go_wp2_with fail
  refine (ostiaryref3_scheme.calls k q1 nm bh ok _ H4.out).mono ?_
  rintro e w3 ⟨rfl, hb3⟩
  have E4' := E4.out
  have hbr3 : w3.heap[w.heap.size]? = some (.cells (cellsU zeroU (.slice none 0 0)) 86 (0, 0)) := by
   have hlt : w.heap.size < W0.heap.size := by rw [E5.out]; omega
   exact (hb3.block _ (Nat.lt_of_lt_of_le hlt J2.out.size)).trans ((J2.out.block _ hlt).trans E4')
  obtain ⟨y0, y1, y2, y3, y4, y5, y6, y7, y8, y9, y10, y11, yf⟩ := cellsU_at hbr3
  simp only [zeroU] at y0 y1 y2 y3 y4 y5 y6 y7 y8 y9 y10 y11
  have R3 := Lib.hid (putU hbr3 (.string ⟨#[]⟩) (.string ⟨#[]⟩) (.string ⟨#[]⟩) (.string ⟨#[]⟩) (.bool false) (.int .i64 0) (.bool false) (.slice none 0 0) (.string ⟨#[]⟩) (.string ⟨#[]⟩) (.bool false) (.bool false))
  have K1 := Lib.hid hb3
  have K2 := Lib.hid hbr3
  have hI3 := IsS86.below J1.out hb3
  have hB3 := below_step J2.out hb3
  have K3 := Lib.hid hI3
  have K4 := Lib.hid hB3
  clear E4' hb3 hbr3 hI3 hB3
  cases ok with
  | false =>
   rw [if_neg (by simp)] at h
   injection h with h
   subst h
   go_wp2_with fail
   refine bodyPost_ret (results_ct rfl _ _ w.heap.size 86 #[.string ⟨#[]⟩, .string ⟨#[]⟩, .string ⟨#[]⟩, .string ⟨#[]⟩, .bool false, .int .i64 0, .bool false, .slice none 0 0, .string ⟨#[]⟩, .string ⟨#[]⟩, .bool false, .bool false] (0, 0) _ rfl ?_ Tryd.underlying86 rfl q2_) rfl ?_
   ·exact R3.out
   ·exact ⟨.slice none 0 0, rfl, Kd.R_nil _ _ _ _ _, by
     have hx : Below w.heap.size w w3 := E6.out.trans (K4.out.mono (by rw [E5.out]; omega))
     exact belowU hx (Nat.le_refl _) _ _ _ _ _ _ _ _ _ _ _ _⟩
  | true =>
   rw [if_pos rfl] at h
   obtain ⟨⟨z1, z2⟩, h5, h⟩ := Option.bind_eq_some_iff.mp h
   have H5 := Lib.hid h5
   clear h5
   have K3' := K3.out
   obtain ⟨A7, c7, hb7, hg7, hr7⟩ := K3'
   have x0 : w3.cell? ⟨w.heap.size + 1, 0, none⟩ = some (.string q2) := (blk_cell hb7 0).trans rfl
   have xf : w3.frozen? ⟨w.heap.size + 1, 0, none⟩ = false := blk_frozen hb7 0
   clear hb7 hg7 hr7
   have hI4 := IsS86.set_0 K3.out nm
   have hB4 := below_set (j := 0) (v := .string nm) K4.out (show W0.heap.size ≤ w.heap.size + 1 by rw [E5.out]; omega)
   have K5 := Lib.hid hI4
   have K6 := Lib.hid hB4
   have K7 := Lib.hid (show (w3.setCell ⟨w.heap.size + 1, 0, none⟩ (.string nm)).heap[w.heap.size]? = some (.cells (cellsU zeroU (.slice none 0 0)) 86 (0, 0)) from blk_far K2.out (by simp) _)
   clear hI4 hB4
   go_wp2_with fail
   refine (ostiaryref3_full.calls k (w.heap.size + 1) ⟨nm, q3, q4, q5, q6, q7, q8, [], q9, q10, q11, q12⟩ bh (z1, z2) W0 _ K5.out K6.out H5.out).mono ?_
   rintro e w4 ⟨rfl, hA, hB5, hK5⟩
   have hbr4 : w4.heap[w.heap.size]? = some (.cells (cellsU zeroU (.slice none 0 0)) 86 (0, 0)) := hK5.blk K7.out (by omega) (by simp)
   clear y0 y1 y2 y3 y4 y5 y6 y7 y8 y9 y10 y11 yf
   obtain ⟨y0, y1, y2, y3, y4, y5, y6, y7, y8, y9, y10, y11, yf⟩ := cellsU_at hbr4
   simp only [zeroU] at y0 y1 y2 y3 y4 y5 y6 y7 y8 y9 y10 y11
   have M1 := Lib.hid hA
   have M2 := Lib.hid hB5
   have R4 := Lib.hid (putU hbr4 (.string ⟨#[]⟩) (.string ⟨#[]⟩) (.string ⟨#[]⟩) (.string ⟨#[]⟩) (.bool false) (.int .i64 0) (.bool false) (.slice none 0 0) (.string ⟨#[]⟩) (.string ⟨#[]⟩) (.bool false) (.bool false))
   have M3 := Lib.hid hbr4
   clear hA hB5 hK5 hbr4
   by_cases hz : z1 = 0
   ·rw [if_pos hz] at h
    injection h with h
    subst h hz
    obtain ⟨v7, hb7, hg7, hr7⟩ := M1.out rfl
    obtain ⟨A8, c8, rfl⟩ := Kd.R_slice hr7
    obtain ⟨x0, x1, x2, x3, x4, x5, x6, x7, x8, x9, x10, x11, xf2⟩ := cellsU_at (u := z2) hb7
    have M4 := Lib.hid (show Kd.R Kd.string 9 w4 W0.heap.size (fun k => k ≠ w.heap.size + 1) (.slice A8 z2.f7.length c8) z2.f7 from hr7)
    have M6 := Lib.hid (putU M3.out (.string z2.f0) (.string z2.f1) (.string z2.f2) (.string z2.f3) (.bool z2.f4) (.int .i64 z2.f5) (.bool z2.f6) (.slice A8 z2.f7.length c8) (.string z2.f8) (.string z2.f9) (.bool z2.f10) (.bool z2.f11))
    clear hb7 hg7 hr7
    go_wp2_with fail
    refine bodyPost_ret (results_ct rfl _ _ w.heap.size 86 #[.string z2.f0, .string z2.f1, .string z2.f2, .string z2.f3, .bool z2.f4, .int .i64 z2.f5, .bool z2.f6, .slice A8 z2.f7.length c8, .string z2.f8, .string z2.f9, .bool z2.f10, .bool z2.f11] (0, 0) _ rfl ?_ Tryd.underlying86 rfl q2_) rfl ?_
    ·exact M6.out
    ·exact ⟨.slice A8 z2.f7.length c8, rfl, by
      have hz : Kd.R Kd.string 9 w4 W0.heap.size (fun k => k ≠ w.heap.size) (.slice A8 z2.f7.length c8) z2.f7 := Kd.R_mono (Kd.R_bound M4.out) (fun k hk => by have := hk.2.1; rw [E5.out] at this; omega)
      exact Kd.R_mono (Kd.R_lower (R_farU hz _ _ _ _ _ _ _ _ _ _ _ _) (by rw [E5.out]; omega)) (fun _ _ => trivial), by
      have hx : Below w.heap.size w w4 := E6.out.trans (M2.out.mono (by rw [E5.out]; omega))
      exact belowU hx (Nat.le_refl _) _ _ _ _ _ _ _ _ _ _ _ _⟩
   ·rw [if_neg hz] at h
    injection h with h
    subst h
    have t0 : (z1 != 0) = true := bne_iff_ne.2 hz
    clear hz
    go_wp2_with fail
    refine bodyPost_ret (results_ct rfl _ _ w.heap.size 86 #[.string ⟨#[]⟩, .string ⟨#[]⟩, .string ⟨#[]⟩, .string ⟨#[]⟩, .bool false, .int .i64 0, .bool false, .slice none 0 0, .string ⟨#[]⟩, .string ⟨#[]⟩, .bool false, .bool false] (0, 0) _ rfl ?_ Tryd.underlying86 rfl q2_) rfl ?_
    ·exact R4.out
    ·exact ⟨.slice none 0 0, rfl, Kd.R_nil _ _ _ _ _, by
      have hx : Below w.heap.size w w4 := E6.out.trans (M2.out.mono (by rw [E5.out]; omega))
      exact belowU hx (Nat.le_refl _) _ _ _ _ _ _ _ _ _ _ _ _⟩
def ostiaryref3_Parse.f (k : Nat) (a0 : ByteArray) : Option (ByteArray × ByteArray × ByteArray × ByteArray × Bool × Int × Bool × List ByteArray × ByteArray × ByteArray × Bool × Bool × Int) :=
 (parseU k a0).bind fun r => some (r.1.f0, r.1.f1, r.1.f2, r.1.f3, r.1.f4, r.1.f5, r.1.f6, r.1.f7, r.1.f8, r.1.f9, r.1.f10, r.1.f11, r.2)
theorem ostiaryref3_Parse.calls (k : Nat) (a0 : ByteArray) (r1 : ByteArray) (r2 : ByteArray) (r3 : ByteArray) (r4 : ByteArray) (r5 : Bool) (r6 : Int) (r7 : Bool) (r8 : List ByteArray) (r9 : ByteArray) (r10 : ByteArray) (r11 : Bool) (r12 : Bool) (r13 : Int) (w : World) (h : ostiaryref3_Parse.f k a0 = some (r1, r2, r3, r4, r5, r6, r7, r8, r9, r10, r11, r12, r13)) :
  Calls Tryd.prog 83 #[.string a0] w fun e w' => ∃ v7_ : Value, e = .returned (.tuple #[.agg #[.string r1, .string r2, .string r3, .string r4, .bool r5, .int .i64 r6, .bool r7, v7_, .string r9, .string r10, .bool r11, .bool r12], .int .i64 r13]) ∧ Kd.R Kd.string 9 w' w.heap.size (fun _ => True) v7_ r8 ∧ Below w.heap.size w w' := by
 obtain ⟨⟨u, e⟩, h1, h2⟩ := Option.bind_eq_some_iff.mp h
 simp only [Option.some.injEq, Prod.mk.injEq] at h2
 obtain ⟨rfl, rfl, rfl, rfl, rfl, rfl, rfl, rfl, rfl, rfl, rfl, rfl, rfl⟩ := h2
 exact parseU_calls k a0 (u, e) w h1
theorem query_mono (u : S86) (s : ByteArray) (k : Nat) : LeO (ostiaryref3_query.f k u s) (ostiaryref3_query.f (k + 1) u s) := by
 unfold ostiaryref3_query.f
 refine LeO.bind (ostiaryref1_Part.mono _ _ k) (fun p => ?_)
 exact LeO.ite (LeO.bind (ostiaryref3_Special.mono _ k) (fun sp => LeO.bind (ostiaryref1_Percent.mono _ _ k) (fun _ => LeO.refl _))) (LeO.refl _)
theorem rest_mono (u : S86) (s : ByteArray) (k : Nat) : LeO (ostiaryref3_rest.f k u s) (ostiaryref3_rest.f (k + 1) u s) := by
 unfold ostiaryref3_rest.f
 refine LeO.bind (ostiaryref3_ahead.mono _ _ _ k) (fun p => LeO.bind (query_mono _ _ k) (fun r => LeO.bind ?_ (fun _ => LeO.refl _)))
 exact LeO.ite (LeO.bind (ostiaryref3_Special.mono _ k) (fun _ => LeO.refl _)) (LeO.ite (ostiaryref3_path.mono _ _ k) (ostiaryref3_path.mono _ _ k))
theorem far_mono (u : S86) (s : ByteArray) (k : Nat) : LeO (ostiaryref3_far.f k u s) (ostiaryref3_far.f (k + 1) u s) := by
 unfold ostiaryref3_far.f
 refine LeO.bind (ostiaryref3_ahead.mono _ _ _ k) (fun p => LeO.bind (ostiaryref3_authority.mono _ _ _ _ _ _ _ _ _ _ _ _ _ k) (fun r => ?_))
 exact LeO.ite (LeO.bind (rest_mono _ _ k) (fun _ => LeO.refl _)) (LeO.refl _)
theorem full_mono (u : S86) (s : ByteArray) (k : Nat) : LeO (ostiaryref3_full.f k u s) (ostiaryref3_full.f (k + 1) u s) := by
 unfold ostiaryref3_full.f
 refine LeO.bind (ostiaryref3_Special.mono _ k) (fun sp => LeO.ite (LeO.bind (LeO.refl _) (fun a => LeO.bind (ostiaryref3_over.mono _ k) (fun b => far_mono _ _ k))) (LeO.bind (LeO.refl _) (fun c => LeO.ite (LeO.ite (far_mono _ _ k) (LeO.refl _)) (LeO.bind (LeO.refl _) (fun d => LeO.ite (LeO.bind (rest_mono _ _ k) (fun _ => LeO.refl _)) ?_)))))
 exact LeO.bind (ostiaryref3_ahead.mono _ _ _ k) (fun p => LeO.bind (ostiaryref1_Percent.mono _ _ k) (fun x => LeO.bind (query_mono _ _ k) (fun _ => LeO.refl _)))
theorem ostiaryref3_Parse.mono (a0 : ByteArray) (k : Nat) : LeO (ostiaryref3_Parse.f k a0) (ostiaryref3_Parse.f (k + 1) a0) := by
 unfold ostiaryref3_Parse.f
 refine LeO.bind ?_ (fun _ => LeO.refl _)
 unfold parseU
 refine LeO.ite (LeO.refl _) (LeO.bind (ostiaryref3_clean.mono _ k) (fun c => LeO.bind (ostiaryref3_split.mono _ _ _ _ _ _ _ _ _ _ _ _ _ k) (fun r => LeO.bind (ostiaryref3_scheme.mono _ k) (fun t => LeO.ite ?_ (LeO.refl _)))))
 exact LeO.bind (full_mono _ _ k) (fun z => LeO.refl _)
end Go.Proofs.YtifmkgkiipckbaaDoor.P
namespace Go.Proofs.YtifmkgkiipckbaaDoor.P
open Go.RowKit Go.Proofs.YtifmkgkiipckbaaDoorW.PrintWords Go.Proofs.YtifmkgkiipckbaaDoorW.PrintLast Go.Proofs.YtifmkgkiipckbaaDoorW.PrintMore
attribute [local go_sem] max2_int min2_int max_two min_two max_three min_three max_four min_four
set_option linter.unusedVariables false
set_option linter.unusedSimpArgs false
def ostiarykeep_URL.f (k : Nat) (a0 : ByteArray) : Option (ByteArray × ByteArray × ByteArray × ByteArray × Bool × Int × Bool × List ByteArray × ByteArray × ByteArray × Bool × Bool × Bool) := (ostiarykeep_Few.f a0 300).bind fun t109 => ((ostiaryref3_Parse.f k t109).bind fun bt110 => (some (bt110.1, bt110.2.1, bt110.2.2.1, bt110.2.2.2.1, bt110.2.2.2.2.1, bt110.2.2.2.2.2.1, bt110.2.2.2.2.2.2.1, bt110.2.2.2.2.2.2.2.1, bt110.2.2.2.2.2.2.2.2.1, bt110.2.2.2.2.2.2.2.2.2.1, bt110.2.2.2.2.2.2.2.2.2.2.1, bt110.2.2.2.2.2.2.2.2.2.2.2.1, (bt110.2.2.2.2.2.2.2.2.2.2.2.2 == 0))))
theorem ostiarykeep_URL.mono : ∀ a0 k, LeO (ostiarykeep_URL.f k a0) (ostiarykeep_URL.f (k + 1) a0) := by
 intro a0 k
 unfold ostiarykeep_URL.f
 repeat' first
   | (with_reducible exact ostiaryref3_Parse.mono _ _)
   | (with_reducible exact LeO.refl _)
   | (with_reducible exact LeO.none _)
   | (with_reducible refine LeO.ite ?_ ?_)
   | (with_reducible refine LeO.bind ?_ (fun _ => ?_))
   | exact ostiaryref3_Parse.mono _ _
   | exact LeO.none _
   | refine LeO.ite ?_ ?_
   | refine LeO.bind ?_ (fun _ => ?_)
set_option maxHeartbeats 8000000 in
set_option maxRecDepth 100000 in
theorem ostiarykeep_URL.calls (k : Nat) (a0 : ByteArray) (r1 : ByteArray) (r2 : ByteArray) (r3 : ByteArray) (r4 : ByteArray) (r5 : Bool) (r6 : Int) (r7 : Bool) (r8 : List ByteArray) (r9 : ByteArray) (r10 : ByteArray) (r11 : Bool) (r12 : Bool) (r13 : Bool) (w : World) (h : ostiarykeep_URL.f k a0 = some (r1, r2, r3, r4, r5, r6, r7, r8, r9, r10, r11, r12, r13)) :
  Calls Tryd.prog 46 #[.string a0] w fun e w' => ∃ v7_ : Value, e = .returned (.tuple #[.agg #[.string r1, .string r2, .string r3, .string r4, .bool r5, .int .i64 r6, .bool r7, v7_, .string r9, .string r10, .bool r11, .bool r12], .bool r13]) ∧ Kd.R Kd.string 9 w' w.heap.size (fun _ => True) v7_ r8 ∧ Below w.heap.size w w' := by
 have hu86 := Tryd.underlying86
 have HB := Aside0.mk (Below.refl w.heap.size w)
 have H : ((ostiarykeep_Few.f a0 300).bind fun t109 => ((ostiaryref3_Parse.f k t109).bind fun bt110 => (some (bt110.1, bt110.2.1, bt110.2.2.1, bt110.2.2.2.1, bt110.2.2.2.2.1, bt110.2.2.2.2.2.1, bt110.2.2.2.2.2.2.1, bt110.2.2.2.2.2.2.2.1, bt110.2.2.2.2.2.2.2.2.1, bt110.2.2.2.2.2.2.2.2.2.1, bt110.2.2.2.2.2.2.2.2.2.2.1, bt110.2.2.2.2.2.2.2.2.2.2.2.1, (bt110.2.2.2.2.2.2.2.2.2.2.2.2 == 0))))) = some (r1, r2, r3, r4, r5, r6, r7, r8, r9, r10, r11, r12, r13) := h
 clear h
 replace H := Option.bind_eq_some_iff.mp H
 obtain ⟨t109, A20, H⟩ := H
 replace H : ((ostiaryref3_Parse.f k t109).bind fun bt110 => (some (bt110.1, bt110.2.1, bt110.2.2.1, bt110.2.2.2.1, bt110.2.2.2.2.1, bt110.2.2.2.2.2.1, bt110.2.2.2.2.2.2.1, bt110.2.2.2.2.2.2.2.1, bt110.2.2.2.2.2.2.2.2.1, bt110.2.2.2.2.2.2.2.2.2.1, bt110.2.2.2.2.2.2.2.2.2.2.1, bt110.2.2.2.2.2.2.2.2.2.2.2.1, (bt110.2.2.2.2.2.2.2.2.2.2.2.2 == 0)))) = some (r1, r2, r3, r4, r5, r6, r7, r8, r9, r10, r11, r12, r13) := H
 have A2 := Aside0.mk A20
 clear A20
 replace H := Option.bind_eq_some_iff.mp H
 obtain ⟨⟨t110, t111, t112, t113, t114, t115, t116, t117, t120, t121, t122, t123, t124⟩, A30, H⟩ := H
 replace H : (some (t110, t111, t112, t113, t114, t115, t116, t117, t120, t121, t122, t123, (t124 == 0))) = some (r1, r2, r3, r4, r5, r6, r7, r8, r9, r10, r11, r12, r13) := H
 have A3 := Aside0.mk A30
 clear A30
 simp only [Option.some.injEq, Prod.mk.injEq] at H
 obtain ⟨rfl, rfl, rfl, rfl, rfl, rfl, rfl, rfl, rfl, rfl, rfl, rfl, rfl⟩ := H
 go_enter Tryd.func46, Tryd.ntmps46
 go_wp2_with (first | ((with_reducible refine gate_dst (N := 2) rfl ?_); refine box_event ?hg (N := 2) ?hd (cs := #[.string (⟨#[]⟩ : ByteArray), .string (⟨#[]⟩ : ByteArray), .string (⟨#[]⟩ : ByteArray), .string (⟨#[]⟩ : ByteArray), .bool false, .int .i64 0, .bool false, .slice none 0 0, .string (⟨#[]⟩ : ByteArray), .string (⟨#[]⟩ : ByteArray), .bool false, .bool false]) (t := 86) ?hr ?_; (case hd => rfl); (case hg => rfl); (case hr => first | (go_simp; done) | (go_simp; rfl)); intro gb108 hg w4 hbox hb; have n0_ := Aside0.mk (below_step hB hb); have n1_ := Aside0.mk (hbox); have n2_ := Aside0.mk ((by rw [hg]; exact (below_size hB) : w.heap.size ≤ gb108)); have n3_ := Aside0.mk ((by rw [hg]; exact (below_size hB) : w.heap.size ≤ gb108)); clear HB; have HB := n0_; have BK108 := n1_; have GW108 := n2_; have GE108 := n3_; clear n0_ n1_ n2_ n3_; clear hb hbox hg) | ((with_reducible refine gate_callee (f := 15) rfl ?_); refine goesL_ (some 8) rfl rfl Tryd.func15 q2_ rfl #[.string a0, .int .i64 300] rfl tS ?_; (with_reducible refine (ostiarykeep_Few.calls a0 300 t109 _ A2.out).mono ?_); rintro e w' ⟨rfl, ⟨nd, rfl⟩⟩; refine ⟨_, rfl, ?_⟩; (try (rw [drewN_self w4]; generalize hq_ : World.drewN w4 _ = w4; have n0_ : Aside0 (w4.heap[gb108]? = some (.cells #[.string (⟨#[]⟩ : ByteArray), .string (⟨#[]⟩ : ByteArray), .string (⟨#[]⟩ : ByteArray), .string (⟨#[]⟩ : ByteArray), .bool false, .int .i64 0, .bool false, .slice none 0 0, .string (⟨#[]⟩ : ByteArray), .string (⟨#[]⟩ : ByteArray), .bool false, .bool false] 86 (0, 0))) := ⟨by rw [← hq_]; exact (by (with_reducible repeat (first | refine blk_drewN ?_ _ | refine blk_drew ?_ | refine blk_alloc ?_ _)); exact BK108.out)⟩; have n1_ : Aside0 (Below w.heap.size w w4) := ⟨by rw [← hq_]; exact q14_⟩; clear BK108 HB hq_; have BK108 := n0_; have HB := n1_; clear n0_ n1_))) | ((with_reducible refine gate_callee (f := 83) rfl ?_); refine goesL_ (some 9) rfl rfl Tryd.func83 q2_ rfl #[.string t109] rfl tS ?_; (with_reducible refine (ostiaryref3_Parse.calls k t109 t110 t111 t112 t113 t114 t115 t116 t117 t120 t121 t122 t123 t124 _ A3.out).mono ?_); rintro e w5 ⟨v118, rfl, ho0, hb⟩; refine ⟨_, rfl, ?_⟩; have n0_ := Aside0.mk (Kd.R_lower ho0 (below_size q14_)); have n1_ := Aside0.mk (blk_below (g := gb108) (o := .cells #[.string (⟨#[]⟩ : ByteArray), .string (⟨#[]⟩ : ByteArray), .string (⟨#[]⟩ : ByteArray), .string (⟨#[]⟩ : ByteArray), .bool false, .int .i64 0, .bool false, .slice none 0 0, .string (⟨#[]⟩ : ByteArray), .string (⟨#[]⟩ : ByteArray), .bool false, .bool false] 86 (0, 0)) (by (with_reducible repeat (first | refine blk_drewN ?_ _ | refine blk_drew ?_ | refine blk_alloc ?_ _)); exact BK108.out) hb); have n2_ := Aside0.mk (below_step q14_ hb); clear BK108; clear HB; have HO119 := n0_; have BK108 := n1_; have HB := n2_; clear n0_ n1_ n2_; (try clear hb); (try clear hb2); (try clear hk); (try clear hi); (try clear ho0)) | ((with_reducible refine gate_dst (N := 4) rfl ?_); refine box_event ?hg (N := 4) ?hd (cs := #[.string (⟨#[]⟩ : ByteArray), .string (⟨#[]⟩ : ByteArray), .string (⟨#[]⟩ : ByteArray), .string (⟨#[]⟩ : ByteArray), .bool false, .int .i64 0, .bool false, .slice none 0 0, .string (⟨#[]⟩ : ByteArray), .string (⟨#[]⟩ : ByteArray), .bool false, .bool false]) (t := 86) ?hr ?_; (case hd => rfl); (case hg => rfl); (case hr => first | (go_simp; done) | (go_simp; rfl)); intro gb125 hg w6 hbox hb; have n0_ := Aside0.mk (Kd.R_below (by (with_reducible repeat (first | apply Kd.R_alloc | apply Kd.R_drewN | apply Kd.R_drew)); exact HO119.out) hb); have n1_ := Aside0.mk (blk_below (g := gb108) (o := .cells #[.string (⟨#[]⟩ : ByteArray), .string (⟨#[]⟩ : ByteArray), .string (⟨#[]⟩ : ByteArray), .string (⟨#[]⟩ : ByteArray), .bool false, .int .i64 0, .bool false, .slice none 0 0, .string (⟨#[]⟩ : ByteArray), .string (⟨#[]⟩ : ByteArray), .bool false, .bool false] 86 (0, 0)) (by (with_reducible repeat (first | refine blk_drewN ?_ _ | refine blk_drew ?_ | refine blk_alloc ?_ _)); exact BK108.out) hb); have n2_ := Aside0.mk (below_step q14_ hb); have n3_ := Aside0.mk (hbox); have n4_ := Aside0.mk ((by rw [hg]; exact (below_size q14_) : w.heap.size ≤ gb125)); have n5_ := Aside0.mk ((by rw [hg]; exact (below_size q14_) : w.heap.size ≤ gb125)); have n6_ := Aside0.mk ((by rw [hg]; exact Nat.ne_of_lt (blk_lt (g := gb108) (o := .cells #[.string (⟨#[]⟩ : ByteArray), .string (⟨#[]⟩ : ByteArray), .string (⟨#[]⟩ : ByteArray), .string (⟨#[]⟩ : ByteArray), .bool false, .int .i64 0, .bool false, .slice none 0 0, .string (⟨#[]⟩ : ByteArray), .string (⟨#[]⟩ : ByteArray), .bool false, .bool false] 86 (0, 0)) (by (with_reducible repeat (first | refine blk_drewN ?_ _ | refine blk_drew ?_ | refine blk_alloc ?_ _)); exact BK108.out)) : gb108 ≠ gb125)); have n7_ := Aside0.mk ((by rw [hg]; exact Nat.ne_of_gt (blk_lt (g := gb108) (o := .cells #[.string (⟨#[]⟩ : ByteArray), .string (⟨#[]⟩ : ByteArray), .string (⟨#[]⟩ : ByteArray), .string (⟨#[]⟩ : ByteArray), .bool false, .int .i64 0, .bool false, .slice none 0 0, .string (⟨#[]⟩ : ByteArray), .string (⟨#[]⟩ : ByteArray), .bool false, .bool false] 86 (0, 0)) (by (with_reducible repeat (first | refine blk_drewN ?_ _ | refine blk_drew ?_ | refine blk_alloc ?_ _)); exact BK108.out)) : gb125 ≠ gb108)); clear HO119; clear BK108; clear HB; have HO119 := n0_; have BK108 := n1_; have HB := n2_; have BK125 := n3_; have GW125 := n4_; have GE125 := n5_; have NB108_125 := n6_; have NB125_108 := n7_; clear n0_ n1_ n2_ n3_ n4_ n5_ n6_ n7_; clear hb hbox hg; have hnb7 := NB125_108.out; have hnc7 := NB108_125.out; have hcz8_0 : w6.cell? ⟨gb125, 0, none⟩ = some (.string (⟨#[]⟩ : ByteArray)) := (blk_cell BK125.out 0).trans rfl; have hcz8_1 : w6.cell? ⟨gb125, 1, none⟩ = some (.string (⟨#[]⟩ : ByteArray)) := (blk_cell BK125.out 1).trans rfl; have hcz8_2 : w6.cell? ⟨gb125, 2, none⟩ = some (.string (⟨#[]⟩ : ByteArray)) := (blk_cell BK125.out 2).trans rfl; have hcz8_3 : w6.cell? ⟨gb125, 3, none⟩ = some (.string (⟨#[]⟩ : ByteArray)) := (blk_cell BK125.out 3).trans rfl; have hcz8_4 : w6.cell? ⟨gb125, 4, none⟩ = some (.bool false) := (blk_cell BK125.out 4).trans rfl; have hcz8_5 : w6.cell? ⟨gb125, 5, none⟩ = some (.int .i64 0) := (blk_cell BK125.out 5).trans rfl; have hcz8_6 : w6.cell? ⟨gb125, 6, none⟩ = some (.bool false) := (blk_cell BK125.out 6).trans rfl; have hcz8_7 : w6.cell? ⟨gb125, 7, none⟩ = some (.slice none 0 0) := (blk_cell BK125.out 7).trans rfl; have hcz8_8 : w6.cell? ⟨gb125, 8, none⟩ = some (.string (⟨#[]⟩ : ByteArray)) := (blk_cell BK125.out 8).trans rfl; have hcz8_9 : w6.cell? ⟨gb125, 9, none⟩ = some (.string (⟨#[]⟩ : ByteArray)) := (blk_cell BK125.out 9).trans rfl; have hcz8_10 : w6.cell? ⟨gb125, 10, none⟩ = some (.bool false) := (blk_cell BK125.out 10).trans rfl; have hcz8_11 : w6.cell? ⟨gb125, 11, none⟩ = some (.bool false) := (blk_cell BK125.out 11).trans rfl; have hfz8_0 := blk_frozen BK125.out 0; have hfz8_1 := blk_frozen BK125.out 1; have hfz8_2 := blk_frozen BK125.out 2; have hfz8_3 := blk_frozen BK125.out 3; have hfz8_4 := blk_frozen BK125.out 4; have hfz8_5 := blk_frozen BK125.out 5; have hfz8_6 := blk_frozen BK125.out 6; have hfz8_7 := blk_frozen BK125.out 7; have hfz8_8 := blk_frozen BK125.out 8; have hfz8_9 := blk_frozen BK125.out 9; have hfz8_10 := blk_frozen BK125.out 10; have hfz8_11 := blk_frozen BK125.out 11; obtain ⟨Ao9, co9, eo9⟩ := Kd.R_slice HO119.out; subst eo9; have hcz10_0 : w6.cell? ⟨gb108, 0, none⟩ = some (.string (⟨#[]⟩ : ByteArray)) := (blk_cell BK108.out 0).trans rfl; have hcz10_1 : w6.cell? ⟨gb108, 1, none⟩ = some (.string (⟨#[]⟩ : ByteArray)) := (blk_cell BK108.out 1).trans rfl; have hcz10_2 : w6.cell? ⟨gb108, 2, none⟩ = some (.string (⟨#[]⟩ : ByteArray)) := (blk_cell BK108.out 2).trans rfl; have hcz10_3 : w6.cell? ⟨gb108, 3, none⟩ = some (.string (⟨#[]⟩ : ByteArray)) := (blk_cell BK108.out 3).trans rfl; have hcz10_4 : w6.cell? ⟨gb108, 4, none⟩ = some (.bool false) := (blk_cell BK108.out 4).trans rfl; have hcz10_5 : w6.cell? ⟨gb108, 5, none⟩ = some (.int .i64 0) := (blk_cell BK108.out 5).trans rfl; have hcz10_6 : w6.cell? ⟨gb108, 6, none⟩ = some (.bool false) := (blk_cell BK108.out 6).trans rfl; have hcz10_7 : w6.cell? ⟨gb108, 7, none⟩ = some (.slice none 0 0) := (blk_cell BK108.out 7).trans rfl; have hcz10_8 : w6.cell? ⟨gb108, 8, none⟩ = some (.string (⟨#[]⟩ : ByteArray)) := (blk_cell BK108.out 8).trans rfl; have hcz10_9 : w6.cell? ⟨gb108, 9, none⟩ = some (.string (⟨#[]⟩ : ByteArray)) := (blk_cell BK108.out 9).trans rfl; have hcz10_10 : w6.cell? ⟨gb108, 10, none⟩ = some (.bool false) := (blk_cell BK108.out 10).trans rfl; have hcz10_11 : w6.cell? ⟨gb108, 11, none⟩ = some (.bool false) := (blk_cell BK108.out 11).trans rfl; have hfz10_0 := blk_frozen BK108.out 0; have hfz10_1 := blk_frozen BK108.out 1; have hfz10_2 := blk_frozen BK108.out 2; have hfz10_3 := blk_frozen BK108.out 3; have hfz10_4 := blk_frozen BK108.out 4; have hfz10_5 := blk_frozen BK108.out 5; have hfz10_6 := blk_frozen BK108.out 6; have hfz10_7 := blk_frozen BK108.out 7; have hfz10_8 := blk_frozen BK108.out 8; have hfz10_9 := blk_frozen BK108.out 9; have hfz10_10 := blk_frozen BK108.out 10; have hfz10_11 := blk_frozen BK108.out 11))
 refine bodyPost_ret (results_ct rfl _ _ gb108 86 #[.string t110, .string t111, .string t112, .string t113, .bool t114, .int .i64 t115, .bool t116, .slice Ao9 t117.length co9, .string t120, .string t121, .bool t122, .bool t123] (0, 0) _ rfl (by (with_reducible repeat (first | refine blk_drewN ?_ _ | refine blk_drew ?_ | refine blk_alloc ?_ _)); refine blk_put (cs := #[.string t110, .string t111, .string t112, .string t113, .bool t114, .int .i64 t115, .bool t116, .slice Ao9 t117.length co9, .string t120, .string t121, .bool t122, .bool false]) ?_ 11 _ rfl; (with_reducible repeat (first | refine blk_drewN ?_ _ | refine blk_drew ?_ | refine blk_alloc ?_ _)); refine blk_put (cs := #[.string t110, .string t111, .string t112, .string t113, .bool t114, .int .i64 t115, .bool t116, .slice Ao9 t117.length co9, .string t120, .string t121, .bool false, .bool false]) ?_ 10 _ rfl; (with_reducible repeat (first | refine blk_drewN ?_ _ | refine blk_drew ?_ | refine blk_alloc ?_ _)); refine blk_put (cs := #[.string t110, .string t111, .string t112, .string t113, .bool t114, .int .i64 t115, .bool t116, .slice Ao9 t117.length co9, .string t120, .string (⟨#[]⟩ : ByteArray), .bool false, .bool false]) ?_ 9 _ rfl; (with_reducible repeat (first | refine blk_drewN ?_ _ | refine blk_drew ?_ | refine blk_alloc ?_ _)); refine blk_put (cs := #[.string t110, .string t111, .string t112, .string t113, .bool t114, .int .i64 t115, .bool t116, .slice Ao9 t117.length co9, .string (⟨#[]⟩ : ByteArray), .string (⟨#[]⟩ : ByteArray), .bool false, .bool false]) ?_ 8 _ rfl; (with_reducible repeat (first | refine blk_drewN ?_ _ | refine blk_drew ?_ | refine blk_alloc ?_ _)); refine blk_put (cs := #[.string t110, .string t111, .string t112, .string t113, .bool t114, .int .i64 t115, .bool t116, .slice none 0 0, .string (⟨#[]⟩ : ByteArray), .string (⟨#[]⟩ : ByteArray), .bool false, .bool false]) ?_ 7 _ rfl; (with_reducible repeat (first | refine blk_drewN ?_ _ | refine blk_drew ?_ | refine blk_alloc ?_ _)); refine blk_put (cs := #[.string t110, .string t111, .string t112, .string t113, .bool t114, .int .i64 t115, .bool false, .slice none 0 0, .string (⟨#[]⟩ : ByteArray), .string (⟨#[]⟩ : ByteArray), .bool false, .bool false]) ?_ 6 _ rfl; (with_reducible repeat (first | refine blk_drewN ?_ _ | refine blk_drew ?_ | refine blk_alloc ?_ _)); refine blk_put (cs := #[.string t110, .string t111, .string t112, .string t113, .bool t114, .int .i64 0, .bool false, .slice none 0 0, .string (⟨#[]⟩ : ByteArray), .string (⟨#[]⟩ : ByteArray), .bool false, .bool false]) ?_ 5 _ rfl; (with_reducible repeat (first | refine blk_drewN ?_ _ | refine blk_drew ?_ | refine blk_alloc ?_ _)); refine blk_put (cs := #[.string t110, .string t111, .string t112, .string t113, .bool false, .int .i64 0, .bool false, .slice none 0 0, .string (⟨#[]⟩ : ByteArray), .string (⟨#[]⟩ : ByteArray), .bool false, .bool false]) ?_ 4 _ rfl; (with_reducible repeat (first | refine blk_drewN ?_ _ | refine blk_drew ?_ | refine blk_alloc ?_ _)); refine blk_put (cs := #[.string t110, .string t111, .string t112, .string (⟨#[]⟩ : ByteArray), .bool false, .int .i64 0, .bool false, .slice none 0 0, .string (⟨#[]⟩ : ByteArray), .string (⟨#[]⟩ : ByteArray), .bool false, .bool false]) ?_ 3 _ rfl; (with_reducible repeat (first | refine blk_drewN ?_ _ | refine blk_drew ?_ | refine blk_alloc ?_ _)); refine blk_put (cs := #[.string t110, .string t111, .string (⟨#[]⟩ : ByteArray), .string (⟨#[]⟩ : ByteArray), .bool false, .int .i64 0, .bool false, .slice none 0 0, .string (⟨#[]⟩ : ByteArray), .string (⟨#[]⟩ : ByteArray), .bool false, .bool false]) ?_ 2 _ rfl; (with_reducible repeat (first | refine blk_drewN ?_ _ | refine blk_drew ?_ | refine blk_alloc ?_ _)); refine blk_put (cs := #[.string t110, .string (⟨#[]⟩ : ByteArray), .string (⟨#[]⟩ : ByteArray), .string (⟨#[]⟩ : ByteArray), .bool false, .int .i64 0, .bool false, .slice none 0 0, .string (⟨#[]⟩ : ByteArray), .string (⟨#[]⟩ : ByteArray), .bool false, .bool false]) ?_ 1 _ rfl; (with_reducible repeat (first | refine blk_drewN ?_ _ | refine blk_drew ?_ | refine blk_alloc ?_ _)); refine blk_put (cs := #[.string (⟨#[]⟩ : ByteArray), .string (⟨#[]⟩ : ByteArray), .string (⟨#[]⟩ : ByteArray), .string (⟨#[]⟩ : ByteArray), .bool false, .int .i64 0, .bool false, .slice none 0 0, .string (⟨#[]⟩ : ByteArray), .string (⟨#[]⟩ : ByteArray), .bool false, .bool false]) ?_ 0 _ rfl; (with_reducible repeat (first | refine blk_drewN ?_ _ | refine blk_drew ?_ | refine blk_alloc ?_ _)); refine blk_far ?_ NB108_125.out _; (with_reducible repeat (first | refine blk_drewN ?_ _ | refine blk_drew ?_ | refine blk_alloc ?_ _)); refine blk_far ?_ NB108_125.out _; (with_reducible repeat (first | refine blk_drewN ?_ _ | refine blk_drew ?_ | refine blk_alloc ?_ _)); refine blk_far ?_ NB108_125.out _; (with_reducible repeat (first | refine blk_drewN ?_ _ | refine blk_drew ?_ | refine blk_alloc ?_ _)); refine blk_far ?_ NB108_125.out _; (with_reducible repeat (first | refine blk_drewN ?_ _ | refine blk_drew ?_ | refine blk_alloc ?_ _)); refine blk_far ?_ NB108_125.out _; (with_reducible repeat (first | refine blk_drewN ?_ _ | refine blk_drew ?_ | refine blk_alloc ?_ _)); refine blk_far ?_ NB108_125.out _; (with_reducible repeat (first | refine blk_drewN ?_ _ | refine blk_drew ?_ | refine blk_alloc ?_ _)); refine blk_far ?_ NB108_125.out _; (with_reducible repeat (first | refine blk_drewN ?_ _ | refine blk_drew ?_ | refine blk_alloc ?_ _)); refine blk_far ?_ NB108_125.out _; (with_reducible repeat (first | refine blk_drewN ?_ _ | refine blk_drew ?_ | refine blk_alloc ?_ _)); refine blk_far ?_ NB108_125.out _; (with_reducible repeat (first | refine blk_drewN ?_ _ | refine blk_drew ?_ | refine blk_alloc ?_ _)); refine blk_far ?_ NB108_125.out _; (with_reducible repeat (first | refine blk_drewN ?_ _ | refine blk_drew ?_ | refine blk_alloc ?_ _)); refine blk_far ?_ NB108_125.out _; (with_reducible repeat (first | refine blk_drewN ?_ _ | refine blk_drew ?_ | refine blk_alloc ?_ _)); refine blk_far ?_ NB108_125.out _; (with_reducible repeat (first | refine blk_drewN ?_ _ | refine blk_drew ?_ | refine blk_alloc ?_ _)); exact BK108.out) Tryd.underlying86 rfl q2_) rfl ?_
 exact ⟨_, by first | rfl | (simp [errW_none, errW_some] <;> rfl) | (simp [*, errW_none, errW_some] <;> rfl), by (with_reducible repeat (first | apply Kd.R_alloc | apply Kd.R_drewN | apply Kd.R_drew)); exact Kd.R_mono (Kd.R_far (p := ⟨gb108, 11, none⟩) (Kd.R_far (p := ⟨gb108, 10, none⟩) (Kd.R_far (p := ⟨gb108, 9, none⟩) (Kd.R_far (p := ⟨gb108, 8, none⟩) (Kd.R_far (p := ⟨gb108, 7, none⟩) (Kd.R_far (p := ⟨gb108, 6, none⟩) (Kd.R_far (p := ⟨gb108, 5, none⟩) (Kd.R_far (p := ⟨gb108, 4, none⟩) (Kd.R_far (p := ⟨gb108, 3, none⟩) (Kd.R_far (p := ⟨gb108, 2, none⟩) (Kd.R_far (p := ⟨gb108, 1, none⟩) (Kd.R_far (p := ⟨gb108, 0, none⟩) (Kd.R_far (p := ⟨gb125, 11, none⟩) (Kd.R_far (p := ⟨gb125, 10, none⟩) (Kd.R_far (p := ⟨gb125, 9, none⟩) (Kd.R_far (p := ⟨gb125, 8, none⟩) (Kd.R_far (p := ⟨gb125, 7, none⟩) (Kd.R_far (p := ⟨gb125, 6, none⟩) (Kd.R_far (p := ⟨gb125, 5, none⟩) (Kd.R_far (p := ⟨gb125, 4, none⟩) (Kd.R_far (p := ⟨gb125, 3, none⟩) (Kd.R_far (p := ⟨gb125, 2, none⟩) (Kd.R_far (p := ⟨gb125, 1, none⟩) (Kd.R_far (p := ⟨gb125, 0, none⟩) (Kd.R_types (Kd.R_types HO119.out BK125.out (by decide)) BK108.out (by decide)) (fun _ hk => hk.1.2) (.string t110)) (fun _ hk => hk.1.2) (.string t111)) (fun _ hk => hk.1.2) (.string t112)) (fun _ hk => hk.1.2) (.string t113)) (fun _ hk => hk.1.2) (.bool t114)) (fun _ hk => hk.1.2) (.int .i64 t115)) (fun _ hk => hk.1.2) (.bool t116)) (fun _ hk => hk.1.2) (.slice Ao9 t117.length co9)) (fun _ hk => hk.1.2) (.string t120)) (fun _ hk => hk.1.2) (.string t121)) (fun _ hk => hk.1.2) (.bool t122)) (fun _ hk => hk.1.2) (.bool t123)) (fun _ hk => hk.2) (.string t110)) (fun _ hk => hk.2) (.string t111)) (fun _ hk => hk.2) (.string t112)) (fun _ hk => hk.2) (.string t113)) (fun _ hk => hk.2) (.bool t114)) (fun _ hk => hk.2) (.int .i64 t115)) (fun _ hk => hk.2) (.bool t116)) (fun _ hk => hk.2) (.slice Ao9 t117.length co9)) (fun _ hk => hk.2) (.string t120)) (fun _ hk => hk.2) (.string t121)) (fun _ hk => hk.2) (.bool t122)) (fun _ hk => hk.2) (.bool t123)) (fun _ hk => trivial), by repeat (first | (with_reducible first | exact HB.out | apply below_alloc | apply pw_below_drewN | apply below_drew1 | refine below_set ?_ GE108.out | refine below_set ?_ GE125.out) | exact HB.out)⟩
end Go.Proofs.YtifmkgkiipckbaaDoor.P
