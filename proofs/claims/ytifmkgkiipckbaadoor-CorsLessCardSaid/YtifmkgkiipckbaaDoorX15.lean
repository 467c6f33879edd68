/- A part of the proof of CorsLess: texts of walks and plain lemmas. -/
import Derived.Test.YtifmkgkiipckbaaDoorX11
import Derived.Test.YtifmkgkiipckbaaDoorX1
import Derived.Test.YtifmkgkiipckbaaDoorX2
import Derived.Test.YtifmkgkiipckbaaDoorX12
import Derived.Test.YtifmkgkiipckbaaDoorX13
import Derived.Lib.Hide
namespace Go.Proofs.YtifmkgkiipckbaaDoor.P
open Go.RowKit Go.Proofs.YtifmkgkiipckbaaDoorW.PrintWords Go.Proofs.YtifmkgkiipckbaaDoorW.PrintLast
set_option linter.unusedVariables false
set_option linter.unusedSimpArgs false
def UAt (w0 W : World) (g : Nat) (u : S86) : Prop :=
  ∃ v, W.heap[g]? = some (.cells #[.string u.f0, .string u.f1, .string u.f2, .string u.f3, .bool u.f4, .int .i64 u.f5, .bool u.f6, v, .string u.f8, .string u.f9, .bool u.f10, .bool u.f11] 86 (0, 0)) ∧ w0.heap.size ≤ g ∧ Kd.R Kd.string 9 W w0.heap.size (fun k => k ≠ g) v u.f7
abbrev IsU (w0 W : World) (g : Nat) (u : S86) : Prop := IsS86 w0 W g u.f0 u.f1 u.f2 u.f3 u.f4 u.f5 u.f6 u.f7 u.f8 u.f9 u.f10 u.f11
theorem R_strs_new (W : World) (base : Nat) (hb : base ≤ W.heap.size) (x : ByteArray) (g : Nat) (hg : g < W.heap.size) :
    Kd.R Kd.string 9 (W.alloc (.cells #[.string x] 9)) base (fun k => k ≠ g) (.slice (some ⟨W.heap.size, 0, none⟩) 1 1) [x] := by
  refine ⟨fun k hk => ?_, [.string x], ?_, ?_⟩
  · have : W.heap.size = k := by simpa [Value.ownBlock] using hk
    omega
  · have h2 := World.ownsRow_lit (base := base) (e := 9) (size := 1) W #[.string x] 1 hb (by unfold maxLen; omega) (by simp)
    simpa [show Kd.string.sz = 1 from rfl] using h2
  · exact ⟨by simp [Kd.string, Kd.scalar], fun j p hp => by
      match j, hp with
      | 0, hp =>
        have hp' : x = p := by simpa using hp
        subst hp'
        rfl⟩
theorem UAt.put {w0 W : World} {g : Nat} {u : S86} {cs : Array Value} {v : Value}
    (hb : W.heap[g]? = some (.cells cs 86 (0, 0))) (hg : w0.heap.size ≤ g)
    (hcs : cs.setIfInBounds 7 v = #[.string u.f0, .string u.f1, .string u.f2, .string u.f3, .bool u.f4, .int .i64 u.f5, .bool u.f6, v, .string u.f8, .string u.f9, .bool u.f10, .bool u.f11])
    (hr : Kd.R Kd.string 9 W w0.heap.size (fun k => k ≠ g) v u.f7) : UAt w0 (W.setCell ⟨g, 7, none⟩ v) g u :=
  ⟨v, blk_put hb 7 v hcs, hg, Kd.R_far hr (fun k hk => hk) v⟩
abbrev UB (W : World) (g : Nat) (u : S86) (v : Value) : Prop := W.heap[g]? = some (.cells #[.string u.f0, .string u.f1, .string u.f2, .string u.f3, .bool u.f4, .int .i64 u.f5, .bool u.f6, v, .string u.f8, .string u.f9, .bool u.f10, .bool u.f11] 86 (0, 0))
def ostiaryref3_query.f (k : Nat) (u : S86) (s : ByteArray) : Option S86 :=
  (ostiaryref1_Part.f k s 63).bind fun p => if p.2.2 = true then
    (ostiaryref3_Special.f k u.f0).bind fun sp => (ostiaryref1_Percent.f k p.2.1 (if sp = true then 4 else 3)).bind fun q => some { u with f8 := q, f10 := true }
  else some u
set_option maxHeartbeats 1000000 in
set_option maxRecDepth 100000 in
theorem ostiaryref3_query.calls (k : Nat) (g : Nat) (u : S86) (v : Value) (s : ByteArray) (r : S86) (w0 w : World) (hI : UB w g u v) (hg : w0.heap.size ≤ g) (hB : Below w0.heap.size w0 w) (h : ostiaryref3_query.f k u s = some r) :
    Calls Tryd.prog 137 #[.pointer (some ⟨g, 0, none⟩), .string s] w fun e w' => e = .returned (.tuple #[]) ∧ UB w' g r v ∧ Below w0.heap.size w0 w' ∧ KeepBut w w' g none := by
  unfold ostiaryref3_query.f at h
  obtain ⟨⟨p, q, has⟩, h1, h⟩ := Option.bind_eq_some_iff.mp h
  have hu86 := Tryd.underlying86
  have H1 := Lib.hid h1
  have HI := Lib.hid hI
  have HB := Lib.hid hB
  have HG := Lib.hid hg
  have hc0 : w.cell? ⟨g, 0, none⟩ = some (.string u.f0) := (blk_cell hI 0).trans rfl
  have hc8 : w.cell? ⟨g, 8, none⟩ = some (.string u.f8) := (blk_cell hI 8).trans rfl
  have hc10 : w.cell? ⟨g, 10, none⟩ = some (.bool u.f10) := (blk_cell hI 10).trans rfl
  have hf8 : w.frozen? ⟨g, 8, none⟩ = false := blk_frozen hI 8
  have hf10 : w.frozen? ⟨g, 10, none⟩ = false := blk_frozen hI 10
  clear h1 hI hB hg
  cases has with
  | false =>
    injection h with h
    subst h
    go_enter Tryd.func137, Tryd.ntmps137
    go_wp2_with fail
    refine (ostiaryref1_Part.calls k s 63 p q false _ H1.out).mono ?_
    rintro e w1 ⟨rfl, n, rfl⟩
    go_wp2_with fail
    first | go_end0 | refine bodyPost_ret (results_none rfl _ _ _) rfl ?_
    exact ⟨rfl, blk_drewN HI.out n, pw_below_drewN HB.out n, keep_drewN (KeepBut.refl _ _ _) n⟩
  | true =>
    simp only [if_true] at h
    obtain ⟨sp, h2, h⟩ := Option.bind_eq_some_iff.mp h
    obtain ⟨x, h3, h⟩ := Option.bind_eq_some_iff.mp h
    injection h with h
    subst h
    have H2 := Lib.hid h2
    have H3 := Lib.hid h3
    clear h2 h3
    have hq : ∀ n, UB ((w.drewN n).setCell ⟨g, 10, none⟩ (.bool true)) g { u with f10 := true } v := fun n => blk_put (blk_drewN HI.out n) 10 _ rfl
    have hq2 : ∀ n m y, UB ((((w.drewN n).setCell ⟨g, 10, none⟩ (.bool true)).drewN m).setCell ⟨g, 8, none⟩ (.string y)) g { u with f8 := y, f10 := true } v := fun n m y => blk_put (blk_drewN (hq n) m) 8 _ rfl
    have KQ := Lib.hid hq2
    clear hq hq2
    cases sp with
    | true =>
      go_enter Tryd.func137, Tryd.ntmps137
      go_wp2_with fail
      refine (ostiaryref1_Part.calls k s 63 p q true _ H1.out).mono ?_
      rintro e w1 ⟨rfl, n, rfl⟩
      go_wp2_with fail
      refine (ostiaryref3_Special.calls k u.f0 true _ H2.out).mono ?_
      rintro e w1 ⟨rfl, n2, rfl⟩
      go_wp2_with fail
      refine (ostiaryref1_Percent.calls k q 4 x _ H3.out).mono ?_
      rintro e w1 ⟨rfl, n3, rfl⟩
      go_wp2_with fail
      go_end0
      exact ⟨rfl, KQ.out n (n2 + n3) x, below_set (pw_below_drewN (below_set (pw_below_drewN HB.out n) HG.out) _) HG.out, (keep_drewN ((keep_drewN (KeepBut.refl _ _ _) n).set_ _ _) _).set_ _ _⟩
    | false =>
      go_enter Tryd.func137, Tryd.ntmps137
      go_wp2_with fail
      refine (ostiaryref1_Part.calls k s 63 p q true _ H1.out).mono ?_
      rintro e w1 ⟨rfl, n, rfl⟩
      go_wp2_with fail
      refine (ostiaryref3_Special.calls k u.f0 false _ H2.out).mono ?_
      rintro e w1 ⟨rfl, n2, rfl⟩
      go_wp2_with fail
      refine (ostiaryref1_Percent.calls k q 3 x _ H3.out).mono ?_
      rintro e w1 ⟨rfl, n3, rfl⟩
      go_wp2_with fail
      go_end0
      exact ⟨rfl, KQ.out n (n2 + n3) x, below_set (pw_below_drewN (below_set (pw_below_drewN HB.out n) HG.out) _) HG.out, (keep_drewN ((keep_drewN (KeepBut.refl _ _ _) n).set_ _ _) _).set_ _ _⟩
def ostiaryref3_rest.f (k : Nat) (u : S86) (s : ByteArray) : Option S86 :=
  (ostiaryref3_ahead.f k s 63 63).bind fun p =>
  (ostiaryref3_query.f k u s).bind fun r =>
  (if p.1.size = 0 then (ostiaryref3_Special.f k r.f0).bind fun sp => if sp = true then some [⟨#[]⟩] else some []
   else if bt p.1 0 = 47 then ostiaryref3_path.f k [] (p.1.extract 1 p.1.size) else ostiaryref3_path.f k [] p.1).bind fun l =>
  some { r with f7 := l }
set_option maxHeartbeats 1000000 in
set_option maxRecDepth 100000 in
theorem ostiaryref3_rest.calls (k : Nat) (g : Nat) (u : S86) (A7 : Option Addr) (n7 c7 : Nat) (s : ByteArray) (r : S86) (w0 w : World) (hI : UB w g u (.slice A7 n7 c7)) (hg : w0.heap.size ≤ g) (hB : Below w0.heap.size w0 w) (h : ostiaryref3_rest.f k u s = some r) :
    Calls Tryd.prog 135 #[.pointer (some ⟨g, 0, none⟩), .string s] w fun e w' => e = .returned (.tuple #[]) ∧ UAt w0 w' g r ∧ Below w0.heap.size w0 w' ∧ KeepBut w w' g none := by
  unfold ostiaryref3_rest.f at h
  obtain ⟨⟨p, q⟩, h1, h⟩ := Option.bind_eq_some_iff.mp h
  obtain ⟨u2, h2, h⟩ := Option.bind_eq_some_iff.mp h
  obtain ⟨l, h3, h⟩ := Option.bind_eq_some_iff.mp h
  injection h with h
  subst h
  have hu86 := Tryd.underlying86
  have H1 := Lib.hid h1
  have H2 := Lib.hid h2
  have HI := Lib.hid hI
  have HB := Lib.hid hB
  have KG := Lib.hid hg
  clear h1 h2 hI hB hg
  simp only at h3
  go_enter Tryd.func135, Tryd.ntmps135
  go_wp2_with fail
  refine (ostiaryref3_ahead.calls k s 63 63 p q _ H1.out).mono ?_
  rintro e w1 ⟨rfl, n, rfl⟩
  go_wp2_with fail
  refine (ostiaryref3_query.calls k g u (.slice A7 n7 c7) s u2 w0 _ (blk_drewN HI.out n) KG.out (pw_below_drewN HB.out n) H2.out).mono ?_
  rintro e w2 ⟨rfl, hb, hB2, hK2⟩
  have hK3 : KeepBut w w2 g none := hK2
  have hgl : g < w2.heap.size := blk_lt hb
  have hc0 : w2.cell? ⟨g, 0, none⟩ = some (.string u2.f0) := (blk_cell hb 0).trans rfl
  have hf7 : w2.frozen? ⟨g, 7, none⟩ = false := blk_frozen hb 7
  have hc7 : w2.cell? ⟨g, 7, none⟩ = some (.slice A7 n7 c7) := (blk_cell hb 7).trans rfl
  have KB := Lib.hid hb
  have K2 := Lib.hid hB2
  have K3 := Lib.hid hK3
  have hs2 : w0.heap.size ≤ w2.heap.size := hB2.size
  have S2 := Lib.hid hs2
  clear hb hB2 hK2 hK3 hs2
  by_cases hp : p.size = 0
  · obtain rfl : p = ⟨#[]⟩ := by
      apply ByteArray.ext
      exact Array.eq_empty_of_size_eq_zero hp
    rw [if_pos hp] at h3
    obtain ⟨sp, h4, h5⟩ := Option.bind_eq_some_iff.mp h3
    clear h3 hp
    have H4 := Lib.hid h4
    clear h4
    cases sp with
    | true =>
      rw [if_pos rfl] at h5
      injection h5 with h5
      subst h5
      go_wp2_with fail
      refine (ostiaryref3_Special.calls k u2.f0 true _ H4.out).mono ?_
      rintro e w3 ⟨rfl, n3, rfl⟩
      have hca : ∀ o, ((w2.drewN n3).alloc o).cell? ⟨g, 7, none⟩ = some (.slice A7 n7 c7) := fun o => (blk_cell (blk_alloc (blk_drewN KB.out n3) o) 7).trans rfl
      have hfa : ∀ o, ((w2.drewN n3).alloc o).frozen? ⟨g, 7, none⟩ = false := fun o => blk_frozen (blk_alloc (blk_drewN KB.out n3) o) 7
      go_wp2_with fail
      go_end0
      exact ⟨rfl, UAt.put (blk_alloc (blk_drewN KB.out n3) _) KG.out rfl (R_strs_new _ _ S2.out _ _ hgl), below_set (below_alloc (pw_below_drewN K2.out n3) _) KG.out, (keep_alloc (keep_drewN K3.out n3) _).set_ _ _⟩
    | false =>
      rw [if_neg (by simp)] at h5
      injection h5 with h5
      subst h5
      go_wp2_with fail
      refine (ostiaryref3_Special.calls k u2.f0 false _ H4.out).mono ?_
      rintro e w3 ⟨rfl, n3, rfl⟩
      go_wp2_with fail
      go_end0
      exact ⟨rfl, UAt.put (blk_drewN KB.out n3) KG.out rfl (Kd.R_nil _ _ _ _ _), below_set (pw_below_drewN K2.out n3) KG.out, (keep_drewN K3.out n3).set_ _ _⟩
  · rw [if_neg hp] at h3
    have hpos : 0 < p.size := by omega
    have hp3 : ¬ p.toList = ([] : List UInt8) := fun hh => by
      rw [ByteArray.toList_eq] at hh
      have h4 : p.data.toList.length = 0 := by rw [hh]; rfl
      rw [Array.length_toList] at h4
      have h2 : p.size = p.data.size := rfl
      omega
    have hp1 : (p.toList == ([] : List UInt8)) = false := beq_eq_false_iff_ne.2 hp3
    have hp2 : p.toList.isEmpty = false := by simpa using hp3
    have hb0 : ((p[0]'hpos).toNat : Int) = bt p 0 := bt_at p 0 hpos
    by_cases h47 : bt p 0 = 47
    · rw [if_pos h47] at h3
      have ht : (((p[0]'hpos).toNat : Int) == 47) = true := by rw [hb0, h47]; rfl
      have H3 := Lib.hid h3
      clear h3 h47 hb0
      go_wp2_with fail
      refine (ostiaryref3_path.calls k none 0 [] (p.extract 1 p.size) l _ (Kd.C_nil _ _) (by simp) H3.out).mono ?_
      rintro e w3 ⟨v, rfl, ho, hb3⟩
      obtain ⟨Ao, co, rfl⟩ := Kd.R_slice ho
      have hc7' : w3.cell? ⟨g, 7, none⟩ = some (.slice A7 n7 c7) := (hb3.cell (p := ⟨g, 7, none⟩) hgl).trans hc7
      have hf7' : w3.frozen? ⟨g, 7, none⟩ = false := (hb3.frozen (p := ⟨g, 7, none⟩) hgl).trans hf7
      have J1 := Lib.hid ho
      have J2 := Lib.hid hb3
      clear ho hb3
      go_wp2_with fail
      go_end0
      exact ⟨rfl, UAt.put (blk_below KB.out J2.out) KG.out rfl (Kd.R_lower (Kd.R_mono (Kd.R_bound J1.out) (fun k hk => by have := hk.2.1; omega)) S2.out), below_set (below_step K2.out J2.out) KG.out, (K3.out.trans (KeepBut.of_below J2.out g none) (.inl rfl)).set_ _ _⟩
    · rw [if_neg h47] at h3
      have ht : (((p[0]'hpos).toNat : Int) == 47) = false := by rw [hb0]; exact beq_eq_false_iff_ne.2 h47
      have H3 := Lib.hid h3
      clear h3 h47 hb0
      go_wp2_with fail
      refine (ostiaryref3_path.calls k none 0 [] p l _ (Kd.C_nil _ _) (by simp) H3.out).mono ?_
      rintro e w3 ⟨v, rfl, ho, hb3⟩
      obtain ⟨Ao, co, rfl⟩ := Kd.R_slice ho
      have hc7' : w3.cell? ⟨g, 7, none⟩ = some (.slice A7 n7 c7) := (hb3.cell (p := ⟨g, 7, none⟩) hgl).trans hc7
      have hf7' : w3.frozen? ⟨g, 7, none⟩ = false := (hb3.frozen (p := ⟨g, 7, none⟩) hgl).trans hf7
      have J1 := Lib.hid ho
      have J2 := Lib.hid hb3
      clear ho hb3
      go_wp2_with fail
      go_end0
      exact ⟨rfl, UAt.put (blk_below KB.out J2.out) KG.out rfl (Kd.R_lower (Kd.R_mono (Kd.R_bound J1.out) (fun k hk => by have := hk.2.1; omega)) S2.out), below_set (below_step K2.out J2.out) KG.out, (K3.out.trans (KeepBut.of_below J2.out g none) (.inl rfl)).set_ _ _⟩
end Go.Proofs.YtifmkgkiipckbaaDoor.P
namespace Go.Proofs.YtifmkgkiipckbaaDoor.P
open Go.RowKit Go.Proofs.YtifmkgkiipckbaaDoorW.PrintWords Go.Proofs.YtifmkgkiipckbaaDoorW.PrintLast Go.Proofs.YtifmkgkiipckbaaDoorW.PrintMore
set_option linter.unusedVariables false
set_option linter.unusedSimpArgs false
abbrev TA := Int × ByteArray × ByteArray × ByteArray × ByteArray × Bool × Int × Bool × ByteArray × ByteArray × Bool × Bool
def uOf (r : TA) (l : List ByteArray) : S86 := ⟨r.2.1, r.2.2.1, r.2.2.2.1, r.2.2.2.2.1, r.2.2.2.2.2.1, r.2.2.2.2.2.2.1, r.2.2.2.2.2.2.2.1, l, r.2.2.2.2.2.2.2.2.1, r.2.2.2.2.2.2.2.2.2.1, r.2.2.2.2.2.2.2.2.2.2.1, r.2.2.2.2.2.2.2.2.2.2.2⟩
abbrev aj1 (k : Nat) (s : ByteArray) (u : S86) := ostiaryref3_authority.j1 k s u.f0 u.f1 u.f2 u.f3 u.f4 u.f5 u.f6 u.f7 u.f8 u.f9 u.f10 u.f11
abbrev aj4 (k : Nat) (s : ByteArray) (t : Bool) (u : S86) := ostiaryref3_authority.j4 k s t u.f0 u.f1 u.f2 u.f3 u.f4 u.f5 u.f6 u.f7 u.f8 u.f9 u.f10 u.f11
set_option maxHeartbeats 4000000 in
set_option maxRecDepth 100000 in
theorem authority_walk (k g : Nat) (u : S86) (v : Value) (s : ByteArray) (r : TA) (w0 w : World) (hI : UB w g u v) (hg : w0.heap.size ≤ g) (hB : Below w0.heap.size w0 w)
  (h : ostiaryref3_authority.f k u.f0 u.f1 u.f2 u.f3 u.f4 u.f5 u.f6 u.f7 u.f8 u.f9 u.f10 u.f11 s = some r) :
  Calls Tryd.prog 163 #[.pointer (some ⟨g, 0, none⟩), .string s] w fun e w' => e = .returned (.int .i64 r.1) ∧ UB w' g (uOf r u.f7) v ∧ Below w0.heap.size w0 w' ∧ KeepBut w w' g none := by
 have HI := Aside0.mk hI
 have HB := Aside0.mk hB
 have HG := Aside0.mk hg
 have H' := Aside0.mk (show ostiaryref3_authority.l0 k s (-1) 0 u.f0 u.f1 u.f2 u.f3 u.f4 u.f5 u.f6 u.f7 u.f8 u.f9 u.f10 u.f11 = some r from h)
 clear hI hB hg h
 have hu86 := Tryd.underlying86
 go_enter Tryd.func163, Tryd.ntmps163
 go_wp2_with fail
 go_loopg [5, 6] k (fun kq v5 v6 w' => ∃ (x5 x6 : Int), v5 = .int .i64 x5 ∧ v6 = .int .i64 x6 ∧ Aside0 (ostiaryref3_authority.l0 kq s x5 x6 u.f0 u.f1 u.f2 u.f3 u.f4 u.f5 u.f6 u.f7 u.f8 u.f9 u.f10 u.f11 = some r) ∧ Aside0 (kq ≤ k) ∧ Drawn0 w w')
 case atStart => exact ⟨-1, 0, rfl, rfl, H', ⟨Nat.le_refl _⟩, by repeat (first | exact Drawn0.refl _ | apply Drawn0.step)⟩
 case round =>
  clear H'
  obtain ⟨x5, x6, rfl, rfl, HA, HK1, ⟨m1, rfl⟩⟩ := hrel
  cases gk with
  | zero => exact absurd HA.out (by simp [ostiaryref3_authority.l0])
  | succ k1 =>
   have H := HA.out
   clear HA
   simp only [ostiaryref3_authority.l0] at H
   by_cases c1 : x6 < (s.size : Int)
   ·rw [if_pos c1] at H
    by_cases c2 : 0 ≤ x6
    ·rw [if_pos c2] at H
     have hx : ∀ h : x6.toNat < s.size, ((s[x6.toNat]'h).toNat : Int) = bt s x6 := bt_at s x6
     by_cases c3 : bt s x6 = 64
     ·rw [if_pos c3] at H
      have c3b : (bt s x6 == 64) = true := beq_iff_eq.2 c3
      have H' := Aside0.mk H
      clear H c3
      go_wp2_with fail
      go_roundg k1
      case measure => have := HK1.out; omega
      case rel => exact ⟨x6, wrap64 (x6 + 1), rfl, rfl, H', ⟨by have := HK1.out; omega⟩, by repeat (first | exact Drawn0.refl _ | apply Drawn0.step)⟩
     ·rw [if_neg c3] at H
      have c3b : (bt s x6 == 64) = false := beq_eq_false_iff_ne.2 c3
      have H' := Aside0.mk H
      clear H c3
      go_wp2_with fail
      go_roundg k1
      case measure => have := HK1.out; omega
      case rel => exact ⟨x5, wrap64 (x6 + 1), rfl, rfl, H', ⟨by have := HK1.out; omega⟩, by repeat (first | exact Drawn0.refl _ | apply Drawn0.step)⟩
    ·rw [if_neg c2] at H
     cases H
   ·rw [if_neg c1] at H
    have H' := Aside0.mk H
    clear H
    go_upto_if 31 with (fail)
    go_cut [1] (fun v1 wc => ∃ (kq : Nat) (s1 : ByteArray) (u1 : S86), v1 = .string s1 ∧ Aside0 (aj1 kq s1 u1 = some r) ∧ Aside0 (UB wc g u1 v) ∧ Aside0 (u1.f7 = u.f7) ∧ Aside0 (KeepBut w wc g none) ∧ Aside0 (Below w0.heap.size w0 wc))
    case first =>
     have H := H'.out
     clear H'
     by_cases c4 : x5 ≥ 0
     ·rw [if_pos c4, if_pos (show 0 ≤ x5 from c4)] at H
      by_cases c5 : x5 ≤ (s.size : Int)
      ·rw [if_pos c5] at H
       obtain ⟨⟨p, q, b⟩, h1, h⟩ := Option.bind_eq_some_iff.mp H
       obtain ⟨x, h2, h⟩ := Option.bind_eq_some_iff.mp h
       obtain ⟨y, h3, h⟩ := Option.bind_eq_some_iff.mp h
       by_cases c6 : 0 ≤ wrap64 (x5 + 1)
       ·rw [if_pos c6] at h
        by_cases c7 : wrap64 (x5 + 1) ≤ (s.size : Int)
        ·rw [if_pos c7] at h
         have H1 := Lib.hid h1
         have H2 := Lib.hid h2
         have H3 := Lib.hid h3
         have H4 := Lib.hid h
         have hI := HI.out
         have hc1 : w.cell? ⟨g, 1, none⟩ = some (.string u.f1) := (blk_cell hI 1).trans rfl
         have hc2 : w.cell? ⟨g, 2, none⟩ = some (.string u.f2) := (blk_cell hI 2).trans rfl
         have hf1 : w.frozen? ⟨g, 1, none⟩ = false := blk_frozen hI 1
         have hf2 : w.frozen? ⟨g, 2, none⟩ = false := blk_frozen hI 2
         have hq : ∀ n m, UB ((((w.drewN n).setCell ⟨g, 1, none⟩ (.string x)).drewN m).setCell ⟨g, 2, none⟩ (.string y)) g { u with f1 := x, f2 := y } v := fun n m => blk_put (blk_drewN (blk_put (blk_drewN hI n) 1 _ rfl) m) 2 _ rfl
         have KQ := Lib.hid hq
         have hb : ∀ n m, Below w0.heap.size w0 ((((w.drewN n).setCell ⟨g, 1, none⟩ (.string x)).drewN m).setCell ⟨g, 2, none⟩ (.string y)) := fun n m => below_set (pw_below_drewN (below_set (pw_below_drewN HB.out n) HG.out) _) HG.out
         have KB := Lib.hid hb
         have hk : ∀ n m, KeepBut w ((((w.drewN n).setCell ⟨g, 1, none⟩ (.string x)).drewN m).setCell ⟨g, 2, none⟩ (.string y)) g none := fun n m => (keep_drewN ((keep_drewN (KeepBut.refl _ _ _) n).set_ _ _) _).set_ _ _
         have KK := Lib.hid hk
         have c4b : decide (0 ≤ x5) = true := decide_eq_true c4
         clear h1 h2 h3 h H hI hq hb hk
         go_wp2_with fail
         refine (ostiaryref1_Part.calls k1 _ 58 p q b _ H1.out).mono ?_
         rintro e w1 ⟨rfl, n, rfl⟩
         go_wp2_with fail
         refine (ostiaryref1_Percent.calls k1 p 6 x _ H2.out).mono ?_
         rintro e w1 ⟨rfl, n2, rfl⟩
         go_wp2_with fail
         refine (ostiaryref1_Percent.calls k1 q 6 y _ H3.out).mono ?_
         rintro e w1 ⟨rfl, n3, rfl⟩
         go_wp2_with fail
         go_meet
         case rel => exact ⟨k1, _, { u with f1 := x, f2 := y }, rfl, ⟨H4.out⟩, ⟨KQ.out _ _⟩, ⟨rfl⟩, ⟨KK.out _ _⟩, ⟨KB.out _ _⟩⟩
        ·rw [if_neg c7] at h
         cases h
       ·rw [if_neg c6] at h
        cases h
      ·rw [if_neg c5] at H
       cases H
     ·rw [if_neg c4] at H
      have c4b : decide (0 ≤ x5) = false := decide_eq_false c4
      have H4 := Lib.hid H
      clear H
      go_wp2_with fail
      go_meet
      case rel => exact ⟨k1, s, u, rfl, ⟨H4.out⟩, ⟨blk_drewN HI.out _⟩, ⟨rfl⟩, ⟨keep_drewN (KeepBut.refl _ _ _) _⟩, ⟨pw_below_drewN HB.out _⟩⟩
    case rest =>
     clear H'
     obtain ⟨kq, s1, u1, rfl, HA, HI1, HF1, HK, HB1⟩ := hcut
     clear HI HB HK1 c1
     cases kq with
     | zero => exact absurd HA.out (by simp [aj1, ostiaryref3_authority.j1])
     | succ kj =>
     have H' := Aside0.mk (show ostiaryref3_authority.l1 kj s1 (-1) false 0 u1.f0 u1.f1 u1.f2 u1.f3 u1.f4 u1.f5 u1.f6 u1.f7 u1.f8 u1.f9 u1.f10 u1.f11 = some r from HA.out)
     clear HA
     go_wp2_with fail
     go_loopg [10, 11, 12] kj (fun kq v10 v11 v12 w' => ∃ (x10 : Int) (x11 : Bool) (x12 : Int), v10 = .int .i64 x10 ∧ v11 = .bool x11 ∧ v12 = .int .i64 x12 ∧ Aside0 (ostiaryref3_authority.l1 kq s1 x10 x11 x12 u1.f0 u1.f1 u1.f2 u1.f3 u1.f4 u1.f5 u1.f6 u1.f7 u1.f8 u1.f9 u1.f10 u1.f11 = some r) ∧ Aside0 (kq ≤ kj) ∧ Drawn0 wc w')
     case atStart => exact ⟨-1, false, 0, rfl, rfl, rfl, H', ⟨Nat.le_refl _⟩, by repeat (first | exact Drawn0.refl _ | apply Drawn0.step)⟩
     case round =>
      clear H'
      obtain ⟨x10, x11, x12, rfl, rfl, rfl, HA, HK2, ⟨m2, rfl⟩⟩ := hrel
      cases gk with
      | zero => exact absurd HA.out (by simp [ostiaryref3_authority.l1])
      | succ k2 =>
       have H := HA.out
       clear HA
       simp only [ostiaryref3_authority.l1] at H
       by_cases c1 : x12 < (s1.size : Int)
       ·rw [if_pos c1] at H
        by_cases c2 : 0 ≤ x12
        ·rw [if_pos c2] at H
         have hx : ∀ h : x12.toNat < s1.size, ((s1[x12.toNat]'h).toNat : Int) = bt s1 x12 := bt_at s1 x12
         by_cases c3 : bt s1 x12 = 91
         ·rw [if_pos c3] at H
          have c3b : (bt s1 x12 == 91) = true := beq_iff_eq.2 c3
          have H' := Aside0.mk H
          clear H c3
          go_wp2_with fail
          go_roundg k2
          case measure => have := HK2.out; omega
          case rel => exact ⟨x10, true, wrap64 (x12 + 1), rfl, rfl, rfl, H', ⟨by have := HK2.out; omega⟩, by repeat (first | exact Drawn0.refl _ | apply Drawn0.step)⟩
         ·rw [if_neg c3] at H
          have c3b : (bt s1 x12 == 91) = false := beq_eq_false_iff_ne.2 c3
          clear c3
          by_cases c4 : bt s1 x12 = 93
          ·rw [if_pos c4] at H
           have c4b : (bt s1 x12 == 93) = true := beq_iff_eq.2 c4
           have H' := Aside0.mk H
           clear H c4
           go_wp2_with fail
           go_roundg k2
           case measure => have := HK2.out; omega
           case rel => exact ⟨x10, false, wrap64 (x12 + 1), rfl, rfl, rfl, H', ⟨by have := HK2.out; omega⟩, by repeat (first | exact Drawn0.refl _ | apply Drawn0.step)⟩
          ·rw [if_neg c4] at H
           have c4b : (bt s1 x12 == 93) = false := beq_eq_false_iff_ne.2 c4
           clear c4
           by_cases c5 : bt s1 x12 = 58
           ·rw [if_pos c5] at H
            have c5b : (bt s1 x12 == 58) = true := beq_iff_eq.2 c5
            clear c5
            cases x11 with
            | true =>
             rw [if_pos rfl] at H
             have H' := Aside0.mk H
             clear H
             go_wp2_with fail
             go_roundg k2
             case measure => have := HK2.out; omega
             case rel => exact ⟨x10, true, wrap64 (x12 + 1), rfl, rfl, rfl, H', ⟨by have := HK2.out; omega⟩, by repeat (first | exact Drawn0.refl _ | apply Drawn0.step)⟩
            | false =>
             rw [if_neg (by simp)] at H
             have H' := Aside0.mk H
             clear H
             go_wp2_with fail
             go_roundg k2
             case measure => have := HK2.out; omega
             case rel => exact ⟨x12, false, wrap64 (x12 + 1), rfl, rfl, rfl, H', ⟨by have := HK2.out; omega⟩, by repeat (first | exact Drawn0.refl _ | apply Drawn0.step)⟩
           ·rw [if_neg c5] at H
            have c5b : (bt s1 x12 == 58) = false := beq_eq_false_iff_ne.2 c5
            have H' := Aside0.mk H
            clear H c5
            go_wp2_with fail
            go_roundg k2
            case measure => have := HK2.out; omega
            case rel => exact ⟨x10, x11, wrap64 (x12 + 1), rfl, rfl, rfl, H', ⟨by have := HK2.out; omega⟩, by repeat (first | exact Drawn0.refl _ | apply Drawn0.step)⟩
        ·rw [if_neg c2] at H
         cases H
       ·rw [if_neg c1] at H
        have H' := Aside0.mk H
        clear H
        have hI := HI1.out
        have hc5 : wc.cell? ⟨g, 5, none⟩ = some (.int .i64 u1.f5) := (blk_cell hI 5).trans rfl
        have hf5 : wc.frozen? ⟨g, 5, none⟩ = false := blk_frozen hI 5
        have hq : UB ((wc.drewN m2).setCell ⟨g, 5, none⟩ (.int .i64 (-1))) g { u1 with f5 := -1 } v := blk_put (blk_drewN hI m2) 5 _ rfl
        have KQ := Aside0.mk hq
        clear hI hq
        go_upto_if 76 with (fail)
        go_cut [1, 13] (fun v1 v13 wd => ∃ (kq : Nat) (s2 : ByteArray) (told : Bool) (u2 : S86), v1 = .string s2 ∧ v13 = .bool told ∧ Aside0 (aj4 kq s2 told u2 = some r) ∧ Aside0 (UB wd g u2 v) ∧ Aside0 (u2.f7 = u.f7) ∧ Aside0 (KeepBut w wd g none) ∧ Aside0 (Below w0.heap.size w0 wd))
        case first =>
         have H := H'.out
         clear H'
         have kq : ∀ n, UB (((wc.drewN m2).setCell ⟨g, 5, none⟩ (.int .i64 (-1))).drewN n) g { u1 with f5 := -1 } v := fun n => blk_drewN KQ.out n
         have kk : ∀ n, KeepBut w (((wc.drewN m2).setCell ⟨g, 5, none⟩ (.int .i64 (-1))).drewN n) g none := fun n => keep_drewN ((keep_drewN HK.out _).set_ _ _) n
         have kb : ∀ n, Below w0.heap.size w0 (((wc.drewN m2).setCell ⟨g, 5, none⟩ (.int .i64 (-1))).drewN n) := fun n => pw_below_drewN (below_set (pw_below_drewN HB1.out _) HG.out) n
         have K1 := Aside0.mk kq
         have K2 := Aside0.mk kk
         have K3 := Aside0.mk kb
         clear kq kk kb
         by_cases c4 : x10 ≥ 0
         ·rw [if_pos c4] at H
          have c4b : decide (0 ≤ x10) = true := decide_eq_true c4
          by_cases c5 : 0 ≤ wrap64 (x10 + 1)
          ·rw [if_pos c5] at H
           by_cases c6 : wrap64 (x10 + 1) ≤ (s1.size : Int)
           ·rw [if_pos c6, if_pos (show 0 ≤ x10 from c4)] at H
            by_cases c7 : x10 ≤ (s1.size : Int)
            ·rw [if_pos c7] at H
             generalize hport : s1.extract (wrap64 (x10 + 1)).toNat s1.size = port at H
             by_cases c8 : port.toList = ([] : List UInt8)
             ·rw [if_pos c8] at H
              have c8b : (port.toList == ([] : List UInt8)) = true := beq_iff_eq.mpr c8
              have c8c : (port.toList != ([] : List UInt8)) = false := bne_eq_false_iff_eq.mpr c8
              have H4 := Lib.hid H
              clear H c8
              go_wp2_with fail
              go_meet
              case rel => exact ⟨k2, _, false, { u1 with f5 := -1 }, rfl, rfl, ⟨H4.out⟩, ⟨KQ.out⟩, ⟨HF1.out⟩, ⟨(keep_drewN HK.out _).set_ _ _⟩, ⟨below_set (pw_below_drewN HB1.out _) HG.out⟩⟩
             ·rw [if_neg c8] at H
              have c8b : (port.toList == ([] : List UInt8)) = false := beq_eq_false_iff_ne.mpr c8
              have c8c : (port.toList != ([] : List UInt8)) = true := bne_iff_ne.mpr c8
              clear c8
              obtain ⟨⟨n, ok⟩, h1, h⟩ := Option.bind_eq_some_iff.mp H
              have H1 := Lib.hid h1
              clear H h1
              cases k2 with
              | zero => cases ok <;> simp [ostiaryref3_authority.j3] at h
              | succ k3 =>
              cases ok with
              | false =>
               have hr : (11, u1.f0, u1.f1, u1.f2, u1.f3, u1.f4, (-1 : Int), u1.f6, u1.f8, u1.f9, u1.f10, u1.f11) = r := by simpa [ostiaryref3_authority.j3] using h
               clear h
               subst hr
               go_wp2_with fail
               refine (ostiaryref1_Int.calls (k3 + 1) port n false _ H1.out).mono ?_
               rintro e w1 ⟨rfl, n1, rfl⟩
               go_wp2_with fail
               go_ret
               exact ⟨rfl, K1.out _, K3.out _, K2.out _⟩
              | true =>
               rw [if_pos rfl] at h
               by_cases c9 : n > 65535
               ·have c9b : decide (65535 < n) = true := decide_eq_true c9
                rw [decide_eq_true c9] at h
                clear c9
                have hr : (11, u1.f0, u1.f1, u1.f2, u1.f3, u1.f4, (-1 : Int), u1.f6, u1.f8, u1.f9, u1.f10, u1.f11) = r := by simpa [ostiaryref3_authority.j3] using h
                clear h
                subst hr
                go_wp2_with fail
                refine (ostiaryref1_Int.calls (k3 + 1) port n true _ H1.out).mono ?_
                rintro e w1 ⟨rfl, n1, rfl⟩
                go_wp2_with fail
                go_ret
                exact ⟨rfl, K1.out _, K3.out _, K2.out _⟩
               ·have c9b : decide (65535 < n) = false := decide_eq_false c9
                rw [decide_eq_false c9] at h
                simp only [ostiaryref3_authority.j3] at h
                rw [if_neg (by simp)] at h
                obtain ⟨o, h2, h⟩ := Option.bind_eq_some_iff.mp h
                have H2 := Lib.hid h2
                clear h2 c9
                have kc : ∀ m, (((wc.drewN m2).setCell ⟨g, 5, none⟩ (.int .i64 (-1))).drewN m).cell? ⟨g, 5, none⟩ = some (.int .i64 (-1)) := fun m => (blk_cell (K1.out m) 5).trans rfl
                have kd : ∀ m, (((wc.drewN m2).setCell ⟨g, 5, none⟩ (.int .i64 (-1))).drewN m).frozen? ⟨g, 5, none⟩ = false := fun m => blk_frozen (K1.out m) 5
                have kq : ∀ m l, UB ((((((wc.drewN m2).setCell ⟨g, 5, none⟩ (.int .i64 (-1))).drewN m).setCell ⟨g, 5, none⟩ (.int .i64 n))).drewN l) g { u1 with f5 := n } v := fun m l => blk_drewN (blk_put (K1.out m) 5 _ rfl) l
                have L1 := Aside0.mk kq
                have hc0 : wc.cell? ⟨g, 0, none⟩ = some (.string u1.f0) := (blk_cell HI1.out 0).trans rfl
                clear kq
                by_cases c10 : n = o
                ·rw [if_pos c10] at h
                 have c10b : (n == o) = true := beq_iff_eq.2 c10
                 have H4 := Lib.hid h
                 clear h c10
                 go_wp2_with fail
                 refine (ostiaryref1_Int.calls (k3 + 1) port n true _ H1.out).mono ?_
                 rintro e w1 ⟨rfl, n1, rfl⟩
                 go_wp2_with fail
                 go_quiet (first | (go_at_call 50; (with_reducible refine (ostiaryref3_Own.calls k3 u1.f0 o _ H2.out).mono ?_); rintro e w' ⟨rfl, ⟨nd, rfl⟩⟩; (try first | exact ⟨rfl, _, World.drewN_drewN _ _ _⟩ | exact ⟨rfl, _, Eq.trans (World.drewN_drewN _ _ _) (congrArg (World.drewN _) (Nat.add_assoc _ _ _))⟩)))
                 try go_wp2_with fail
                 go_meet
                 case rel => exact ⟨k3, _, true, { u1 with f5 := -1 }, rfl, rfl, ⟨H4.out⟩, ⟨blk_put (L1.out _ _) 5 _ rfl⟩, ⟨HF1.out⟩, ⟨(keep_drewN ((K2.out _).set_ _ _) _).set_ _ _⟩, ⟨below_set (pw_below_drewN (below_set (K3.out _) HG.out) _) HG.out⟩⟩
                ·rw [if_neg c10] at h
                 have c10b : (n == o) = false := beq_eq_false_iff_ne.2 c10
                 have H4 := Lib.hid h
                 clear h c10
                 go_wp2_with fail
                 refine (ostiaryref1_Int.calls (k3 + 1) port n true _ H1.out).mono ?_
                 rintro e w1 ⟨rfl, n1, rfl⟩
                 go_wp2_with fail
                 go_quiet (first | (go_at_call 50; (with_reducible refine (ostiaryref3_Own.calls k3 u1.f0 o _ H2.out).mono ?_); rintro e w' ⟨rfl, ⟨nd, rfl⟩⟩; (try first | exact ⟨rfl, _, World.drewN_drewN _ _ _⟩ | exact ⟨rfl, _, Eq.trans (World.drewN_drewN _ _ _) (congrArg (World.drewN _) (Nat.add_assoc _ _ _))⟩)))
                 try go_wp2_with fail
                 go_meet
                 case rel => exact ⟨k3, _, true, { u1 with f5 := n }, rfl, rfl, ⟨H4.out⟩, ⟨L1.out _ _⟩, ⟨HF1.out⟩, ⟨keep_drewN ((K2.out _).set_ _ _) _⟩, ⟨pw_below_drewN (below_set (K3.out _) HG.out) _⟩⟩
            ·rw [if_neg c7] at H
             cases H
           ·rw [if_neg c6] at H
            cases H
          ·rw [if_neg c5] at H
           cases H
         ·rw [if_neg c4] at H
          have c4b : decide (0 ≤ x10) = false := decide_eq_false c4
          have H4 := Lib.hid H
          clear H
          go_wp2_with fail
          go_meet
          case rel => exact ⟨k2, s1, false, { u1 with f5 := -1 }, rfl, rfl, ⟨H4.out⟩, ⟨KQ.out⟩, ⟨HF1.out⟩, ⟨(keep_drewN HK.out _).set_ _ _⟩, ⟨below_set (pw_below_drewN HB1.out _) HG.out⟩⟩
        case rest =>
         clear H' HI1 HF1 KQ c1
         obtain ⟨kq, s2, told, u2, rfl, rfl, HA, HI2, HF2, HK2', HB2⟩ := hcut
         cases kq with
         | zero => exact absurd HA.out (by simp [aj4, ostiaryref3_authority.j4])
         | succ k4 =>
         have H := HA.out
         simp only [aj4, ostiaryref3_authority.j4] at H
         obtain ⟨sp, h1', h⟩ := Option.bind_eq_some_iff.mp H
         obtain ⟨⟨h1, ok⟩, h2, hx⟩ := Option.bind_eq_some_iff.mp h
         have H1 := Lib.hid h1'
         have H2 := Lib.hid h2
         have HX := Lib.hid hx
         have hc0 : wc.cell? ⟨g, 0, none⟩ = some (.string u2.f0) := (blk_cell HI2.out 0).trans rfl
         clear H h h1' h2 hx HA
         go_wp2_with fail
         refine (ostiaryref3_Special.calls k4 u2.f0 sp _ H1.out).mono ?_
         rintro e w1 ⟨rfl, n1, rfl⟩
         go_wp2_with fail
         refine (ostiaryref2_Parse.calls k4 s2 sp h1 ok _ H2.out).mono ?_
         rintro e w3 ⟨rfl, hb⟩
         have hI := blk_below (blk_drewN HI2.out n1) hb
         have hc1 : w3.cell? ⟨g, 1, none⟩ = some (.string u2.f1) := (blk_cell hI 1).trans rfl
         have hc2 : w3.cell? ⟨g, 2, none⟩ = some (.string u2.f2) := (blk_cell hI 2).trans rfl
         have hc3 : w3.cell? ⟨g, 3, none⟩ = some (.string u2.f3) := (blk_cell hI 3).trans rfl
         have hc4 : w3.cell? ⟨g, 4, none⟩ = some (.bool u2.f4) := (blk_cell hI 4).trans rfl
         have hf3 : w3.frozen? ⟨g, 3, none⟩ = false := blk_frozen hI 3
         have hf4 : w3.frozen? ⟨g, 4, none⟩ = false := blk_frozen hI 4
         have m2 : KeepBut w w3 g none := (keep_drewN HK2'.out n1).trans (KeepBut.of_below hb g none) (.inl rfl)
         have m3 : Below w0.heap.size w0 w3 := below_step (pw_below_drewN HB2.out n1) hb
         have n1' : UB ((w3.setCell ⟨g, 3, none⟩ (.string h1)).setCell ⟨g, 4, none⟩ (.bool true)) g { u2 with f3 := h1, f4 := true } v := blk_put (blk_put hI 3 _ rfl) 4 _ rfl
         have M1 := Lib.hid hI
         have M2 := Lib.hid m2
         have M3 := Lib.hid m3
         have N1 := Lib.hid n1'
         have N2 := Lib.hid ((m2.set_ 3 (.string h1)).set_ 4 (.bool true))
         have N3 := Lib.hid (below_set (j := 4) (v := .bool true) (below_set (j := 3) (v := .string h1) m3 HG.out) HG.out)
         clear hb hI m2 m3 n1' hc0 HI2 HK2' HB2
         cases ok with
         | false =>
          have hr : (10, u2.f0, u2.f1, u2.f2, u2.f3, u2.f4, u2.f5, u2.f6, u2.f8, u2.f9, u2.f10, u2.f11) = r := by simpa [] using HX.out
          subst hr
          go_wp2_with fail
          go_ret
          exact ⟨rfl, M1.out, M3.out, M2.out⟩
         | true =>
          by_cases c1 : h1.toList = ([] : List UInt8)
          ·have c1b : (h1.toList == ([] : List UInt8)) = true := beq_iff_eq.mpr c1
           have c1c : (h1.toList != ([] : List UInt8)) = false := bne_eq_false_iff_eq.mpr c1
           by_cases c2 : u2.f1.toList = ([] : List UInt8)
           ·have c2b : (u2.f1.toList == ([] : List UInt8)) = true := beq_iff_eq.mpr c2
            have c2c : (u2.f1.toList != ([] : List UInt8)) = false := bne_eq_false_iff_eq.mpr c2
            by_cases c3 : u2.f2.toList = ([] : List UInt8)
            ·have c3b : (u2.f2.toList == ([] : List UInt8)) = true := beq_iff_eq.mpr c3
             have c3c : (u2.f2.toList != ([] : List UInt8)) = false := bne_eq_false_iff_eq.mpr c3
             cases told with
             | true =>
              have hr : (10, u2.f0, u2.f1, u2.f2, u2.f3, u2.f4, u2.f5, u2.f6, u2.f8, u2.f9, u2.f10, u2.f11) = r := by simpa [c1, c2, c3] using HX.out
              subst hr
              go_wp2_with fail
              go_ret
              exact ⟨rfl, M1.out, M3.out, M2.out⟩
             | false =>
              have hr : (0, u2.f0, u2.f1, u2.f2, h1, true, u2.f5, u2.f6, u2.f8, u2.f9, u2.f10, u2.f11) = r := by simpa [c1, c2, c3] using HX.out
              subst hr
              go_wp2_with fail
              go_ret
              exact ⟨rfl, N1.out, N3.out, N2.out⟩
            ·have c3b : (u2.f2.toList == ([] : List UInt8)) = false := beq_eq_false_iff_ne.mpr c3
             have c3c : (u2.f2.toList != ([] : List UInt8)) = true := bne_iff_ne.mpr c3
             have hr : (10, u2.f0, u2.f1, u2.f2, u2.f3, u2.f4, u2.f5, u2.f6, u2.f8, u2.f9, u2.f10, u2.f11) = r := by simpa [c1, c2, c3] using HX.out
             subst hr
             go_wp2_with fail
             go_ret
             exact ⟨rfl, M1.out, M3.out, M2.out⟩
           ·have c2b : (u2.f1.toList == ([] : List UInt8)) = false := beq_eq_false_iff_ne.mpr c2
            have c2c : (u2.f1.toList != ([] : List UInt8)) = true := bne_iff_ne.mpr c2
            have hr : (10, u2.f0, u2.f1, u2.f2, u2.f3, u2.f4, u2.f5, u2.f6, u2.f8, u2.f9, u2.f10, u2.f11) = r := by simpa [c1, c2] using HX.out
            subst hr
            go_wp2_with fail
            go_ret
            exact ⟨rfl, M1.out, M3.out, M2.out⟩
          ·have c1b : (h1.toList == ([] : List UInt8)) = false := beq_eq_false_iff_ne.mpr c1
           have c1c : (h1.toList != ([] : List UInt8)) = true := bne_iff_ne.mpr c1
           have hr : (0, u2.f0, u2.f1, u2.f2, h1, true, u2.f5, u2.f6, u2.f8, u2.f9, u2.f10, u2.f11) = r := by simpa [c1] using HX.out
           subst hr
           go_wp2_with fail
           go_ret
           exact ⟨rfl, N1.out, N3.out, N2.out⟩
theorem authority_calls (k g : Nat) (f0 f1 f2 f3 : ByteArray) (f4 : Bool) (f5 : Int) (f6 : Bool) (f7 : List ByteArray) (f8 f9 : ByteArray) (f10 f11 : Bool) (s : ByteArray) (r1 : Int) (r2 r3 r4 r5 : ByteArray) (r6 : Bool) (r7 : Int) (r8 : Bool) (r9 r10 : ByteArray) (r11 r12 : Bool) (w0 w : World)
  (hI : IsS86 w0 w g f0 f1 f2 f3 f4 f5 f6 f7 f8 f9 f10 f11) (hB : Below w0.heap.size w0 w)
  (h : ostiaryref3_authority.f k f0 f1 f2 f3 f4 f5 f6 f7 f8 f9 f10 f11 s = some (r1, r2, r3, r4, r5, r6, r7, r8, r9, r10, r11, r12)) :
  Calls Tryd.prog 163 #[.pointer (some ⟨g, 0, none⟩), .string s] w fun e w' => e = .returned (.int .i64 r1) ∧ IsS86 w0 w' g r2 r3 r4 r5 r6 r7 r8 f7 r9 r10 r11 r12 ∧ Below w0.heap.size w0 w' ∧ KeepBut w w' g none := by
 obtain ⟨A7, c7, h1, h2, h3⟩ := hI
 refine (authority_walk k g ⟨f0, f1, f2, f3, f4, f5, f6, f7, f8, f9, f10, f11⟩ (.slice A7 f7.length c7) s (r1, r2, r3, r4, r5, r6, r7, r8, r9, r10, r11, r12) w0 w h1 h2 hB h).mono ?_
 rintro e w' ⟨he, hu, hb, hk⟩
 exact ⟨he, ⟨A7, c7, hu, h2, h3⟩, hb, hk⟩
end Go.Proofs.YtifmkgkiipckbaaDoor.P
