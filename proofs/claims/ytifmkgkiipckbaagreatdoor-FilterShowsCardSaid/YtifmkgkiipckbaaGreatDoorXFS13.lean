/- A part of the proof of FS: texts of walks and plain lemmas. -/
import Derived.Test.YtifmkgkiipckbaaGreatDoorXFS10
import Derived.Test.YtifmkgkiipckbaaGreatDoorXFS12
import Derived.Test.YtifmkgkiipckbaaGreatDoorXFS1
namespace Go.Proofs.YtifmkgkiipckbaaGreatDoor.P
open Go.RowKit Go.Proofs.YtifmkgkiipckbaaGreatDoorW.PrintWords Go.Proofs.YtifmkgkiipckbaaGreatDoorW.PrintLast Go.Proofs.YtifmkgkiipckbaaGreatDoorW.PrintMore
set_option linter.unusedVariables false
set_option linter.unusedSimpArgs false
abbrev big : Nat := 1002000000
theorem rdOf_at (l : List ByteArray) (i : Nat) (h : i < l.length) : rdOf ByteArray.empty l (i : Int) = l[i] := by
 unfold rdOf
 rw [Int.toNat_natCast, List.getD_eq_getElem?_getD, List.getElem?_eq_getElem h]
 rfl
theorem low_mem (ps : List ByteArray) (T : ByteArray → Bool) (names : List ByteArray) (h : ∀ y, y ∈ names ↔ ∃ p ∈ ps, T p = true ∧ y = lowS p) (n : ByteArray) : n ∈ names ↔ (ps.any fun p => T p && ((lowS p).data.toList == n.data.toList)) = true := by
 rw [h n, List.any_eq_true]
 constructor
 ·rintro ⟨p, hp, ht, rfl⟩
  exact ⟨p, hp, by rw [ht]; simp⟩
 ·rintro ⟨p, hp, ht⟩
  rw [Bool.and_eq_true, beq_iff_eq] at ht
  exact ⟨p, hp, ht.1, (WideShapes.bytes_inj ht.2).symm⟩
theorem Exp_run (c : Bool) (ps : List ByteArray) (hp : FewP ps) : ∀ (d k i : Nat) (out : List ByteArray), ps.length - i = d → i ≤ ps.length → out.length ≤ i → (∀ y, y ∈ out ↔ ∃ p ∈ ps.take i, tokB 100000 p = true ∧ y = lowS p) → (c = false → ⟨#[42]⟩ ∉ ps.take i) → 2 * d + big ≤ k →
  ∃ names all, ostiaryref18_Exposed.l0 k c ps out (i : Int) = some (names, all) ∧ names.length ≤ 10010 ∧ all = (!c && Lib.containsS ps ⟨#[42]⟩) ∧ (all = false → ∀ y, y ∈ names ↔ ∃ p ∈ ps, tokB 100000 p = true ∧ y = lowS p)
 | 0, k, i, out, hd, hi, hq, hm, hs, hk => by
  unfold big at hk
  obtain ⟨k, rfl⟩ : ∃ j, k = j + 1 := ⟨k - 1, by omega⟩
  have hpl := hp.1
  have ho : out.length ≤ 10010 := by omega
  have ht : ps.take i = ps := List.take_of_length_le (by omega)
  rw [ht] at hm hs
  unfold ostiaryref18_Exposed.l0
  rw [if_neg (by omega)]
  obtain ⟨r, hr, hrl, hrm⟩ := (Sorted_run out (by omega) k).1 0 [] (Nat.zero_le _) (Nat.le_refl _) (by simp) (by omega)
  have hr' : ostiaryref1_Sorted.f k out = some r := hr
  rw [hr']
  refine ⟨r, false, rfl, by omega, ?_, fun _ y => by rw [hrm y, hm y]⟩
  cases c with
  | true => rfl
  | false =>
   symm
   rw [Bool.not_false, Bool.true_and, Bool.eq_false_iff]
   exact fun h => hs rfl ((Lib.containsS_iff _ _).1 h)
 | d + 1, k, i, out, hd, hi, hq, hm, hs, hk => by
  unfold big at hk
  obtain ⟨k, rfl⟩ : ∃ j, k = j + 2 := ⟨k - 2, by omega⟩
  have hpl := hp.1
  have hlt : i < ps.length := by omega
  have hsz := hp.2 _ (List.getElem_mem hlt)
  have hw : wrap64 ((i : Int) + 1) = ((i + 1 : Nat) : Int) := by unfold wrap64; omega
  have hsnoc := take_snoc_at ps i hlt
  unfold ostiaryref18_Exposed.l0
  rw [if_pos (by omega), if_pos (by omega), rdOf_at ps i hlt]
  have hstar : ps[i].toList = [42] ↔ ps[i] = ⟨#[42]⟩ := ⟨fun h => str_eq h (ByteArray.toList_eq _), fun h => by rw [h]; exact ByteArray.toList_eq _⟩
  have J : (c = false → ps[i] ≠ ⟨#[42]⟩) → ∃ names all, ostiaryref18_Exposed.j1 (k + 1) c ps out (i : Int) false = some (names, all) ∧ names.length ≤ 10010 ∧ all = (!c && Lib.containsS ps ⟨#[42]⟩) ∧ (all = false → ∀ y, y ∈ names ↔ ∃ p ∈ ps, tokB 100000 p = true ∧ y = lowS p) := by
   intro hns
   have hs' : c = false → ⟨#[42]⟩ ∉ ps.take (i + 1) := fun hc hmem => by
    rw [hsnoc] at hmem
    rcases List.mem_append.1 hmem with h | h
    ·exact hs hc h
    ·exact hns hc (List.mem_singleton.1 h).symm
   unfold ostiaryref18_Exposed.j1
   rw [if_neg (by decide), if_pos (by omega), if_pos (by omega), rdOf_at ps i hlt, hw]
   obtain ⟨b, hb, _⟩ := Token_tot 100000 ps[i] (by omega) (by omega)
   have htb : tokB 100000 ps[i] = b := by
    unfold tokB
    rw [hb]
    cases b <;> rfl
   rw [rToken_eq ps[i] hsz k 100000 (by omega) (by omega), hb]
   simp only [Option.bind_some]
   cases b with
   | true =>
    rw [if_pos rfl, rlow_is _ (by omega)]
    simp only [Option.bind_some]
    rw [if_pos (by omega)]
    refine Exp_run c ps hp d k (i + 1) (out ++ [lowS ps[i]]) (by omega) (by omega) (by simp; omega) (fun y => ?_) hs' (by unfold big; omega)
    rw [List.mem_append, hm y, hsnoc, List.mem_singleton]
    constructor
    ·rintro (⟨p, h1, h2⟩ | rfl)
     ·exact ⟨p, List.mem_append_left _ h1, h2⟩
     ·exact ⟨_, List.mem_append_right _ (List.mem_singleton.2 rfl), htb, rfl⟩
    ·rintro ⟨p, h1, h2⟩
     rcases List.mem_append.1 h1 with h | h
     ·exact .inl ⟨p, h, h2⟩
     ·obtain rfl := List.mem_singleton.1 h
      exact .inr h2.2
   | false =>
    rw [if_neg (by decide)]
    refine Exp_run c ps hp d k (i + 1) out (by omega) (by omega) (by omega) (fun y => ?_) hs' (by unfold big; omega)
    rw [hm y, hsnoc]
    constructor
    ·rintro ⟨p, h1, h2⟩
     exact ⟨p, List.mem_append_left _ h1, h2⟩
    ·rintro ⟨p, h1, h2⟩
     rcases List.mem_append.1 h1 with h | h
     ·exact ⟨p, h, h2⟩
     ·obtain rfl := List.mem_singleton.1 h
      rw [htb] at h2
      exact absurd h2.1 (by decide)
  by_cases hst : ps[i].toList = [42]
  ·rw [if_pos hst]
   cases c with
   | true => exact J (fun h => Bool.noConfusion h)
   | false =>
    unfold ostiaryref18_Exposed.j1
    rw [if_pos (show (!false) = true from rfl)]
    refine ⟨[], true, rfl, by simp, ?_, fun h => Bool.noConfusion h⟩
    symm
    rw [Bool.not_false, Bool.true_and, Lib.containsS_iff]
    exact hstar.1 hst ▸ List.getElem_mem hlt
  ·rw [if_neg hst]
   exact J (fun _ h => hst (hstar.2 h))
theorem rExp_is (l : List S30) (hl : FewH l) (c : Bool) (ps : List ByteArray) (bq : Bool) (hs : headers_Split.f 100000 l nmExpose = some (ps, bq)) (hp : FewP ps) (k : Nat) (hk : big + 30000 ≤ k) :
  ∃ names all, ostiaryref18_Exposed.f k l c = some (names, all) ∧ names.length ≤ 10010 ∧ all = (!c && Lib.containsS ps ⟨#[42]⟩) ∧ (all = false → ∀ y, y ∈ names ↔ ∃ p ∈ ps, tokB 100000 p = true ∧ y = lowS p) := by
 have hpl := hp.1
 unfold big at hk
 unfold ostiaryref18_Exposed.f
 rw [show (⟨#[97, 99, 99, 101, 115, 115, 45, 99, 111, 110, 116, 114, 111, 108, 45, 101, 120, 112, 111, 115, 101, 45, 104, 101, 97, 100, 101, 114, 115]⟩ : ByteArray) = nmExpose from rfl, rSplit_eq nmExpose (by decide) l hl k 100000 (by omega) (by omega), hs]
 simp only [Option.bind_some]
 exact Exp_run c ps hp ps.length k 0 [] (by omega) (by omega) (by simp) (by simp) (by simp) (by unfold big; omega)
theorem rcookie_is (a b : ByteArray) (h : a.size ≤ 1000000) : ostiaryref20_cookies.f a b = some (cookieB (lowS a)) := by
 unfold ostiaryref20_cookies.f cookieB
 rw [rlow_is a h]
 simp only [Option.bind_some]
 by_cases h1 : (lowS a).toList = ([115, 101, 116, 45, 99, 111, 111, 107, 105, 101] : List UInt8)
 ·rw [if_pos h1, h1]
  rfl
 ·rw [if_neg h1, beq_eq_false_iff_ne.2 h1, Bool.false_or]
theorem rOwn_loop (l : List S30) (hz : ∀ x ∈ l, x.f0.size ≤ 1000000) (hl : l.length ≤ 1000000) (a0 : Int) (b0 b : List Int) (c1 c2 : Int) (u : ByteArray) :
  ∀ (k : Nat) (i : Nat) (q : List S30), i ≤ l.length → q.length ≤ i → l.length - i + 2 ≤ k → ostiaryref20_Own.l0 k (i : Int) a0 l b0 c1 c2 q b u = some (c1, c2, q ++ (l.drop i).filter (shB fun _ => true), b, u) := by
 intro k
 induction k with
 | zero => intro i q _ _ h; omega
 | succ k ih =>
  intro i q hi hq hk
  unfold ostiaryref20_Own.l0
  by_cases hlt : i < l.length
  ·obtain ⟨h1, h2⟩ := rd_T_at l (i : Int) (by omega) (by omega)
   simp only [Int.toNat_natCast] at h1 h2
   rw [if_pos (by omega), if_pos (by omega), h2]
   have hsz := hz _ (List.getElem_mem h1)
   have hw : wrap64 ((i : Int) + 1) = ((i + 1 : Nat) : Int) := by unfold wrap64; omega
   rw [rcookie_is _ _ hsz, hw]
   simp only [Option.bind_some]
   rw [List.drop_eq_getElem_cons h1, List.filter_cons]
   cases hc : cookieB (lowS l[i].f0) with
   | true =>
    rw [if_pos rfl, if_neg (by simp [shB, hc])]
    exact ih (i + 1) q (by omega) (by omega) (by omega)
   | false =>
    rw [if_neg (by decide), if_pos (by omega), if_pos (by simp [shB, hc])]
    have I2 := ih (i + 1) (q ++ [l[i]]) (by omega) (by simp; omega) (by omega)
    rw [show (⟨l[i].f0, l[i].f1⟩ : S30) = l[i] from rfl, I2]
    simp
  ·rw [if_neg (by omega), List.drop_of_length_le (by omega)]
   simp
theorem rOwn_is (k : Nat) (a0 : Int) (l : List S30) (hz : ∀ x ∈ l, x.f0.size ≤ 1000000) (hl : l.length ≤ 1000000) (b : List Int) (hb : b.length ≤ 1000000) (u : ByteArray) (hk : l.length + 2 ≤ k) : ostiaryref20_Own.f k a0 l b u = some (2, a0, l.filter (shB fun _ => true), b, u) := by
 unfold ostiaryref20_Own.f
 simp only [Option.bind_some]
 rw [if_pos (by simp; omega), List.nil_append]
 have := rOwn_loop l hz hl a0 b b 2 a0 u k 0 [] (Nat.zero_le _) (Nat.le_refl _) (by omega)
 simpa using this
theorem Has_is (v : List ByteArray) (hv : v.length ≤ 1000000) (x : ByteArray) : ∀ (d k i : Nat), v.length - i = d → i ≤ v.length → d + 1 ≤ k → ostiaryref1_Has.l0 k v x (i : Int) = some ((v.drop i).any fun y => y.toList == x.toList)
 | 0, k, i, hd, hi, hk => by
  obtain ⟨k, rfl⟩ : ∃ j, k = j + 1 := ⟨k - 1, by omega⟩
  unfold ostiaryref1_Has.l0
  rw [if_neg (by omega), List.drop_of_length_le (by omega)]
  rfl
 | d + 1, k, i, hd, hi, hk => by
  obtain ⟨k, rfl⟩ : ∃ j, k = j + 1 := ⟨k - 1, by omega⟩
  have hlt : i < v.length := by omega
  have hw : wrap64 ((i : Int) + 1) = ((i + 1 : Nat) : Int) := by unfold wrap64; omega
  unfold ostiaryref1_Has.l0
  rw [if_pos (by omega), if_pos (by omega), rdOf_at v i hlt, hw, List.drop_eq_getElem_cons hlt, List.any_cons]
  by_cases h : v[i].toList = x.toList
  ·rw [if_pos h, h]
   simp
  ·rw [if_neg h, beq_eq_false_iff_ne.2 h, Bool.false_or]
   exact Has_is v hv x d k (i + 1) (by omega) (by omega) (by omega)
def hasB (v : List ByteArray) (all : Bool) (h : S30) : Bool := all || v.any fun y => y.toList == (lowS h.f0).toList
theorem rShare_loop (l : List S30) (hz : ∀ x ∈ l, x.f0.size ≤ 1000000) (hl : l.length ≤ 1000000) (v : List ByteArray) (hv : v.length ≤ 100000) (all : Bool) (b : List Int) (c1 c2 : Int) (u : ByteArray) :
  ∀ (k : Nat) (i : Nat) (q : List S30), i ≤ l.length → q.length ≤ i → l.length - i + 200000 ≤ k → ostiaryref20_Share.l0 k l v all (i : Int) c1 c2 q b u = some (c1, c2, q ++ (l.drop i).filter (hasB v all), b, u) := by
 intro k
 induction k with
 | zero => intro i q _ _ h; omega
 | succ k ih =>
  intro i q hi hq hk
  unfold ostiaryref20_Share.l0
  by_cases hlt : i < l.length
  ·obtain ⟨h1, h2⟩ := rd_T_at l (i : Int) (by omega) (by omega)
   simp only [Int.toNat_natCast] at h1 h2
   have hsz := hz _ (List.getElem_mem h1)
   have hw : wrap64 ((i : Int) + 1) = ((i + 1 : Nat) : Int) := by unfold wrap64; omega
   rw [if_pos (by omega), h2, hw, List.drop_eq_getElem_cons h1, List.filter_cons]
   have I := ih (i + 1) q (by omega) (by omega) (by omega)
   have I2 := ih (i + 1) (q ++ [l[i]]) (by omega) (by simp; omega) (by omega)
   cases all with
   | true =>
    rw [if_pos rfl, if_pos (by omega), if_pos (by omega), if_pos (by simp [hasB]), show (⟨l[i].f0, l[i].f1⟩ : S30) = l[i] from rfl, I2]
    simp
   | false =>
    have hh : ostiaryref1_Has.f k v (lowS l[i].f0) = some (v.any fun y => y.toList == (lowS l[i].f0).toList) := Has_is v (by omega) (lowS l[i].f0) v.length k 0 (by omega) (by omega) (by omega)
    rw [if_neg (by decide), if_pos (by omega), rlow_is _ hsz]
    simp only [Option.bind_some]
    rw [hh]
    simp only [Option.bind_some]
    cases hb : v.any fun y => y.toList == (lowS l[i].f0).toList with
    | true =>
     rw [if_pos rfl, if_pos (by omega), if_pos (by simp [hasB, hb]), show (⟨l[i].f0, l[i].f1⟩ : S30) = l[i] from rfl, I2]
     simp
    | false => rw [if_neg (by decide), I, if_neg (by simp [hasB, hb])]
  ·rw [if_neg (by omega), List.drop_of_length_le (by omega)]
   simp
end Go.Proofs.YtifmkgkiipckbaaGreatDoor.P
namespace Go.Proofs.YtifmkgkiipckbaaGreatDoor.P
open Go.RowKit Go.Proofs.YtifmkgkiipckbaaGreatDoorW.PrintWords Go.Proofs.YtifmkgkiipckbaaGreatDoorW.PrintLast Go.Proofs.YtifmkgkiipckbaaGreatDoorW.PrintMore
attribute [local go_sem] max2_int min2_int max_two min_two max_three min_three max_four min_four
set_option linter.unusedVariables false
set_option linter.unusedSimpArgs false
def ostiarykeep_CopyReply.f (a0_0 : Int) (l0_1 : List (S30)) (l0_2 : List Int) : Option (Int × (List (S30)) × List Int) := (some (([] : List (S30)) : List (S30))).bind fun y103 => (if y103.length + l0_1.length < 4398046511104 then ((some (([] : List Int) : List Int)).bind fun y109 => (if y109.length + l0_2.length < 140737488355328 then (some (a0_0, (y103 ++ l0_1), (y109 ++ l0_2))) else (none))) else (none))
set_option maxHeartbeats 8000000 in
set_option maxRecDepth 100000 in
theorem ostiarykeep_CopyReply.calls (a0_0 : Int) (A0_1 : Option Addr) (c0_1 : Nat) (l0_1 : List (S30)) (A0_2 : Option Addr) (c0_2 : Nat) (l0_2 : List Int) (r1 : Int) (r2 : List (S30)) (r3 : List Int) (w : World) (hr0_1 : Kd.C k30 w A0_1 l0_1.length l0_1) (hc0_1 : l0_1.length ≤ c0_1) (hr0_2 : Kd.C (Kd.int .u8) w A0_2 l0_2.length l0_2) (hc0_2 : l0_2.length ≤ c0_2) (h : ostiarykeep_CopyReply.f a0_0 l0_1 l0_2 = some (r1, r2, r3)) :
  Calls Tryz.prog 39 #[.agg #[.int .i64 a0_0, .slice A0_1 l0_1.length c0_1, .slice A0_2 l0_2.length c0_2]] w fun e w' => ∃ v1_ v2_ : Value, e = .returned (.agg #[.int .i64 r1, v1_, v2_]) ∧ Kd.R k30 30 w' w.heap.size (fun _ => True) v1_ r2 ∧ Kd.R (Kd.int .u8) 5 w' w.heap.size (fun _ => True) v2_ r3 ∧ Below w.heap.size w w' := by
 have hu28 := Tryz.underlying28
 have HR0_1 := Aside0.mk hr0_1
 have HC0_1 := Aside0.mk hc0_1
 clear hr0_1 hc0_1
 have HR0_2 := Aside0.mk hr0_2
 have HC0_2 := Aside0.mk hc0_2
 clear hr0_2 hc0_2
 have HB := Aside0.mk (Below.refl w.heap.size w)
 have H : ((some (([] : List (S30)) : List (S30))).bind fun y103 => (if y103.length + l0_1.length < 4398046511104 then ((some (([] : List Int) : List Int)).bind fun y109 => (if y109.length + l0_2.length < 140737488355328 then (some (a0_0, (y103 ++ l0_1), (y109 ++ l0_2))) else (none))) else (none))) = some (r1, r2, r3) := h
 clear h
 obtain ⟨y103, hy103⟩ : ∃ y_ : List (S30), y_ = (([] : List (S30))) := ⟨_, rfl⟩
 replace H : (if y103.length + l0_1.length < 4398046511104 then ((some (([] : List Int) : List Int)).bind fun y109 => (if y109.length + l0_2.length < 140737488355328 then (some (a0_0, (y103 ++ l0_1), (y109 ++ l0_2))) else (none))) else (none)) = some (r1, r2, r3) := by first | (rw [hy103]; with_reducible exact H) | (have H2_ := (Option.bind_some _ _).symm.trans H; rw [hy103]; with_reducible exact H2_) | (have H2_ := (Option.bind_some _ _).symm.trans H; with_reducible exact H2_) | with_reducible exact H | (rw [hy103]; exact H) | exact H
 have Ny103 := Aside0.mk hy103
 clear hy103
 by_cases c2 : y103.length + l0_1.length < 4398046511104
 ·rw [if_pos c2] at H
  have LMc2 := Aside0.mk c2
  clear c2
  obtain ⟨y106, hy106⟩ : ∃ y_ : List (S30), y_ = (y103 ++ l0_1) := ⟨_, rfl⟩
  replace H : ((some (([] : List Int) : List Int)).bind fun y109 => (if y109.length + l0_2.length < 140737488355328 then (some (a0_0, y106, (y109 ++ l0_2))) else (none))) = some (r1, r2, r3) := by first | (rw [hy106]; with_reducible exact H) | (have H2_ := (Option.bind_some _ _).symm.trans H; rw [hy106]; with_reducible exact H2_) | (have H2_ := (Option.bind_some _ _).symm.trans H; with_reducible exact H2_) | with_reducible exact H | (rw [hy106]; exact H) | exact H
  have Ny106 := Aside0.mk hy106
  clear hy106
  obtain ⟨y109, hy109⟩ : ∃ y_ : List Int, y_ = (([] : List Int)) := ⟨_, rfl⟩
  replace H : (if y109.length + l0_2.length < 140737488355328 then (some (a0_0, y106, (y109 ++ l0_2))) else (none)) = some (r1, r2, r3) := by first | (rw [hy109]; with_reducible exact H) | (have H2_ := (Option.bind_some _ _).symm.trans H; rw [hy109]; with_reducible exact H2_) | (have H2_ := (Option.bind_some _ _).symm.trans H; with_reducible exact H2_) | with_reducible exact H | (rw [hy109]; exact H) | exact H
  have Ny109 := Aside0.mk hy109
  clear hy109
  by_cases c3 : y109.length + l0_2.length < 140737488355328
  ·rw [if_pos c3] at H
   have LMc3 := Aside0.mk c3
   clear c3
   obtain ⟨y112, hy112⟩ : ∃ y_ : List Int, y_ = (y109 ++ l0_2) := ⟨_, rfl⟩
   replace H : (some (a0_0, y106, y112)) = some (r1, r2, r3) := by first | (rw [hy112]; with_reducible exact H) | (have H2_ := (Option.bind_some _ _).symm.trans H; rw [hy112]; with_reducible exact H2_) | (have H2_ := (Option.bind_some _ _).symm.trans H; with_reducible exact H2_) | with_reducible exact H | (rw [hy112]; exact H) | exact H
   have Ny112 := Aside0.mk hy112
   clear hy112
   simp only [Option.some.injEq, Prod.mk.injEq] at H
   obtain ⟨rfl, rfl, rfl⟩ := H
   go_enter Tryz.func39, Tryz.ntmps39
   go_wp2_with (first | ((with_reducible refine gate_dst (N := 1) rfl ?_); refine box_event ?hg (N := 1) ?hd (cs := #[.int .i64 a0_0, .slice A0_1 l0_1.length c0_1, .slice A0_2 l0_2.length c0_2]) (t := 28) ?hr ?_; (case hd => rfl); (case hg => rfl); (case hr => first | (go_simp; done) | (go_simp; rfl)); intro gb101 hg w4 hbox hb; have n0_ := Aside0.mk (below_step hB hb); have n1_ := Aside0.mk (hbox); have n2_ := Aside0.mk ((by rw [hg]; exact (below_size hB) : w.heap.size ≤ gb101)); have n3_ := Aside0.mk ((by rw [hg]; exact (below_size hB) : w.heap.size ≤ gb101)); clear HB; have HB := n0_; have BK101 := n1_; have GW101 := n2_; have GE101 := n3_; clear n0_ n1_ n2_ n3_; clear hb hbox hg) | ((with_reducible refine gate_dst (N := 2) rfl ?_); refine box_event ?hg (N := 2) ?hd (cs := #[.int .i64 0, .slice none 0 0, .slice none 0 0]) (t := 28) ?hr ?_; (case hd => rfl); (case hg => rfl); (case hr => first | (go_simp; done) | (go_simp; rfl)); intro gb102 hg w5 hbox hb; have n0_ := Aside0.mk (blk_below (g := gb101) (o := .cells #[.int .i64 a0_0, .slice A0_1 l0_1.length c0_1, .slice A0_2 l0_2.length c0_2] 28 (0, 0)) q0_ hb); have n1_ := Aside0.mk (below_step q34_ hb); have n2_ := Aside0.mk (hbox); have n3_ := Aside0.mk ((by rw [hg]; exact (below_size q34_) : w.heap.size ≤ gb102)); have n4_ := Aside0.mk ((by rw [hg]; exact (below_size q34_) : w.heap.size ≤ gb102)); have n5_ := Aside0.mk ((by rw [hg]; exact Nat.ne_of_lt (blk_lt (g := gb101) (o := .cells #[.int .i64 a0_0, .slice A0_1 l0_1.length c0_1, .slice A0_2 l0_2.length c0_2] 28 (0, 0)) q0_) : gb101 ≠ gb102)); have n6_ := Aside0.mk ((by rw [hg]; exact Nat.ne_of_gt (blk_lt (g := gb101) (o := .cells #[.int .i64 a0_0, .slice A0_1 l0_1.length c0_1, .slice A0_2 l0_2.length c0_2] 28 (0, 0)) q0_) : gb102 ≠ gb101)); clear BK101; clear HB; have BK101 := n0_; have HB := n1_; have BK102 := n2_; have GW102 := n3_; have GE102 := n4_; have NB101_102 := n5_; have NB102_101 := n6_; clear n0_ n1_ n2_ n3_ n4_ n5_ n6_; clear hb hbox hg) | ((with_reducible refine gate_dst (N := 3) rfl ?_); refine Kd.R_lit k30 _ 30 ?hg (N := 3) ?hd (xs := ([] : List (S30))) (inner := []) (ok := fun _ => True) (okp := fun _ => True) ?hr ?hp (fun _ hk => hk) trivial (Below.refl _ _) (Nat.le_refl _) (by simp) ?_; (case hd => rfl); (case hg => rfl); (case hr => first | (go_simp; done) | (go_simp; rfl)); (case hp => exact (Reps.none _ _)); intro v104 w6 ho7 hb hg_ hnew_; clear hg_ hnew_; (first | rw [← Ny103.out] at ho7 | (simp only [Int.reduceToNat] at ho7; rw [← Ny103.out] at ho7)); have n0_ := Aside0.mk (Kd.R_lower ho7 (below_size q4_)); have n1_ := Aside0.mk (blk_below (g := gb101) (o := .cells #[.int .i64 a0_0, .slice A0_1 l0_1.length c0_1, .slice A0_2 l0_2.length c0_2] 28 (0, 0)) q0_ hb); have n2_ := Aside0.mk (blk_below (g := gb102) (o := .cells #[.int .i64 0, .slice none 0 0, .slice none 0 0] 28 (0, 0)) q2_ hb); have n3_ := Aside0.mk (below_step q4_ hb); clear BK101; clear BK102; clear HB; have HO105 := n0_; have BK101 := n1_; have BK102 := n2_; have HB := n3_; clear n0_ n1_ n2_ n3_; clear hb ho7; have hnb8 := NB101_102.out; have hnc8 := NB102_101.out; have hcz9_0 : w6.cell? ⟨gb101, 0, none⟩ = some (.int .i64 a0_0) := (blk_cell BK101.out 0).trans rfl; have hcz9_1 : w6.cell? ⟨gb101, 1, none⟩ = some (.slice A0_1 l0_1.length c0_1) := (blk_cell BK101.out 1).trans rfl; have hcz9_2 : w6.cell? ⟨gb101, 2, none⟩ = some (.slice A0_2 l0_2.length c0_2) := (blk_cell BK101.out 2).trans rfl; have hfz9_0 := blk_frozen BK101.out 0; have hfz9_1 := blk_frozen BK101.out 1; have hfz9_2 := blk_frozen BK101.out 2) | ((with_reducible refine gate_builtin (b := .append) (xs := #[.tmp 3, .tmp 5]) rfl ?_); at_builtin; refine Kd.R_append_rows k30 (w0 := w) w.heap.size rfl (.tmp 3) (.tmp 5) 25 30 (.agg #[(.string ⟨#[]⟩), (.string ⟨#[]⟩)]) 32 rfl Tryz.underlying25 info30 rfl (by decide) (by omega) v104 y103 l0_1 _ _ _ (fun _ => True) (fun _ => False) rfl rfl ?aO ?aR (fun _ _ h => h) (fun _ h => h.elim) ?aF ?aB ?aS ?aL ?_; (case aR => repeat (first | exact (Kd.C_below HR0_1.out HB.out) | (with_reducible refine Kd.C_alloc ?_ _) | (with_reducible refine Kd.C_drewN ?_ _) | (with_reducible refine Kd.C_drew ?_))); (case aB => exact q4_); (case aF => exact (fun _ _ => trivial)); (case aO => exact (by (with_reducible repeat (first | apply Kd.R_alloc | apply Kd.R_drewN | apply Kd.R_drew)); exact HO105.out)); (case aS => exact (below_size q4_)); (case aL => have := LMc2.out; omega); intro v107 w10 ho hb hg hat; rw [← Ny106.out] at ho; have n0_ := Aside0.mk (blk_grown (g := gb101) (o := .cells #[.int .i64 a0_0, .slice A0_1 l0_1.length c0_1, .slice A0_2 l0_2.length c0_2] 28 (0, 0)) q0_ hg (Kd.R_ne HO105.out BK101.out (by decide))); have n1_ := Aside0.mk (blk_grown (g := gb102) (o := .cells #[.int .i64 0, .slice none 0 0, .slice none 0 0] 28 (0, 0)) q2_ hg (Kd.R_ne HO105.out BK102.out (by decide))); have n2_ := Aside0.mk (hb); have n3_ := Aside0.mk (ho); clear BK101; clear BK102; clear HB; clear HO105; have BK101 := n0_; have BK102 := n1_; have HB := n2_; have HO108 := n3_; clear n0_ n1_ n2_ n3_; clear ho hb hg hat; obtain ⟨Ao11, co11, eo11⟩ := Kd.R_slice HO108.out; subst eo11; have hcz12_0 : w10.cell? ⟨gb101, 0, none⟩ = some (.int .i64 a0_0) := (blk_cell BK101.out 0).trans rfl; have hcz12_1 : w10.cell? ⟨gb101, 1, none⟩ = some (.slice A0_1 l0_1.length c0_1) := (blk_cell BK101.out 1).trans rfl; have hcz12_2 : w10.cell? ⟨gb101, 2, none⟩ = some (.slice A0_2 l0_2.length c0_2) := (blk_cell BK101.out 2).trans rfl; have hfz12_0 := blk_frozen BK101.out 0; have hfz12_1 := blk_frozen BK101.out 1; have hfz12_2 := blk_frozen BK101.out 2) | ((with_reducible refine gate_dst (N := 8) rfl ?_); refine Kd.R_lit (Kd.int .u8) _ 5 ?hg (N := 8) ?hd (xs := ([] : List Int)) (inner := []) (ok := fun _ => True) (okp := fun _ => True) ?hr ?hp (fun _ hk => hk) trivial (Below.refl _ _) (Nat.le_refl _) (by simp) ?_; (case hd => rfl); (case hg => rfl); (case hr => first | (go_simp; done) | (go_simp; rfl)); (case hp => exact (Reps.none _ _)); intro v110 w13 ho14 hb hg_ hnew_; clear hg_ hnew_; (first | rw [← Ny109.out] at ho14 | (simp only [Int.reduceToNat] at ho14; rw [← Ny109.out] at ho14)); have n0_ := Aside0.mk (Kd.R_below (by (with_reducible repeat (first | apply Kd.R_alloc | apply Kd.R_drewN | apply Kd.R_drew)); exact (Kd.R_mono (Kd.R_far (p := ⟨gb101, 1, none⟩) (Kd.R_types HO108.out BK101.out (by decide)) (fun _ hk => hk.2) (.slice Ao11 y106.length co11)) (fun _ h_ => h_.1))) hb); have n1_ := Aside0.mk (Kd.R_lower ho14 (below_size q4_)); have n2_ := Aside0.mk (blk_below (g := gb101) (o := .cells #[.int .i64 a0_0, .slice Ao11 y106.length co11, .slice A0_2 l0_2.length c0_2] 28 (0, 0)) (by (with_reducible repeat (first | refine blk_drewN ?_ _ | refine blk_drew ?_ | refine blk_alloc ?_ _)); refine blk_put (cs := #[.int .i64 a0_0, .slice A0_1 l0_1.length c0_1, .slice A0_2 l0_2.length c0_2]) ?_ 1 _ rfl; (with_reducible repeat (first | refine blk_drewN ?_ _ | refine blk_drew ?_ | refine blk_alloc ?_ _)); exact BK101.out) hb); have n3_ := Aside0.mk (blk_below (g := gb102) (o := .cells #[.int .i64 0, .slice none 0 0, .slice none 0 0] 28 (0, 0)) (by (with_reducible repeat (first | refine blk_drewN ?_ _ | refine blk_drew ?_ | refine blk_alloc ?_ _)); refine blk_far ?_ NB102_101.out _; (with_reducible repeat (first | refine blk_drewN ?_ _ | refine blk_drew ?_ | refine blk_alloc ?_ _)); exact BK102.out) hb); have n4_ := Aside0.mk (below_step q4_ hb); clear HO108; clear BK101; clear BK102; clear HB; have HO108 := n0_; have HO111 := n1_; have BK101 := n2_; have BK102 := n3_; have HB := n4_; clear n0_ n1_ n2_ n3_ n4_; clear hb ho14; have hcz15_0 : w13.cell? ⟨gb101, 0, none⟩ = some (.int .i64 a0_0) := (blk_cell BK101.out 0).trans rfl; have hcz15_1 : w13.cell? ⟨gb101, 1, none⟩ = some (.slice Ao11 y106.length co11) := (blk_cell BK101.out 1).trans rfl; have hcz15_2 : w13.cell? ⟨gb101, 2, none⟩ = some (.slice A0_2 l0_2.length c0_2) := (blk_cell BK101.out 2).trans rfl; have hfz15_0 := blk_frozen BK101.out 0; have hfz15_1 := blk_frozen BK101.out 1; have hfz15_2 := blk_frozen BK101.out 2) | ((with_reducible refine gate_builtin (b := .append) (xs := #[.tmp 8, .tmp 10]) rfl ?_); at_builtin; refine Kd.R_append_rows (Kd.int .u8) (w0 := w) w.heap.size rfl (.tmp 8) (.tmp 10) 26 5 (.int .u8 0) 1 rfl Tryz.underlying26 info5 rfl (by decide) (by omega) v110 y109 l0_2 _ _ _ (fun _ => True) (fun _ => False) rfl rfl ?aO ?aR (fun _ _ h => h) (fun _ h => h.elim) ?aF ?aB ?aS ?aL ?_; (case aR => repeat (first | exact (Kd.C_below HR0_2.out HB.out) | (with_reducible refine Kd.C_alloc ?_ _) | (with_reducible refine Kd.C_drewN ?_ _) | (with_reducible refine Kd.C_drew ?_))); (case aB => exact q4_); (case aF => exact (fun _ _ => trivial)); (case aO => exact (by (with_reducible repeat (first | apply Kd.R_alloc | apply Kd.R_drewN | apply Kd.R_drew)); exact HO111.out)); (case aS => exact (below_size q4_)); (case aL => have := LMc3.out; omega); intro v113 w16 ho hb hg hat; rw [← Ny112.out] at ho; have n0_ := Aside0.mk (blk_grown (g := gb101) (o := .cells #[.int .i64 a0_0, .slice Ao11 y106.length co11, .slice A0_2 l0_2.length c0_2] 28 (0, 0)) q0_ hg (Kd.R_ne HO111.out BK101.out (by decide))); have n1_ := Aside0.mk (blk_grown (g := gb102) (o := .cells #[.int .i64 0, .slice none 0 0, .slice none 0 0] 28 (0, 0)) q2_ hg (Kd.R_ne HO111.out BK102.out (by decide))); have n2_ := Aside0.mk (Kd.R_over' (by (with_reducible repeat (first | apply Kd.R_alloc | apply Kd.R_drewN | apply Kd.R_drew)); exact HO108.out) (Kd.R_typed (by (with_reducible repeat (first | apply Kd.R_alloc | apply Kd.R_drewN | apply Kd.R_drew)); exact HO111.out)) (by decide) hg); have n3_ := Aside0.mk (hb); have n4_ := Aside0.mk (ho); clear BK101; clear BK102; clear HO108; clear HB; clear HO111; have BK101 := n0_; have BK102 := n1_; have HO108 := n2_; have HB := n3_; have HO114 := n4_; clear n0_ n1_ n2_ n3_ n4_; clear ho hb hg hat; obtain ⟨Ao17, co17, eo17⟩ := Kd.R_slice HO114.out; subst eo17; have hcz18_0 : w16.cell? ⟨gb101, 0, none⟩ = some (.int .i64 a0_0) := (blk_cell BK101.out 0).trans rfl; have hcz18_1 : w16.cell? ⟨gb101, 1, none⟩ = some (.slice Ao11 y106.length co11) := (blk_cell BK101.out 1).trans rfl; have hcz18_2 : w16.cell? ⟨gb101, 2, none⟩ = some (.slice A0_2 l0_2.length c0_2) := (blk_cell BK101.out 2).trans rfl; have hfz18_0 := blk_frozen BK101.out 0; have hfz18_1 := blk_frozen BK101.out 1; have hfz18_2 := blk_frozen BK101.out 2; have hcz19_0 : w16.cell? ⟨gb102, 0, none⟩ = some (.int .i64 0) := (blk_cell BK102.out 0).trans rfl; have hcz19_1 : w16.cell? ⟨gb102, 1, none⟩ = some (.slice none 0 0) := (blk_cell BK102.out 1).trans rfl; have hcz19_2 : w16.cell? ⟨gb102, 2, none⟩ = some (.slice none 0 0) := (blk_cell BK102.out 2).trans rfl; have hfz19_0 := blk_frozen BK102.out 0; have hfz19_1 := blk_frozen BK102.out 1; have hfz19_2 := blk_frozen BK102.out 2))
   refine bodyPost_ret (results_cell_row rfl _ _ gb102 28 #[.int .i64 a0_0, .slice Ao11 y106.length co11, .slice Ao17 y112.length co17] (0, 0) _ rfl (by (with_reducible repeat (first | refine blk_drewN ?_ _ | refine blk_drew ?_ | refine blk_alloc ?_ _)); refine blk_put (cs := #[.int .i64 a0_0, .slice Ao11 y106.length co11, .slice none 0 0]) ?_ 2 _ rfl; (with_reducible repeat (first | refine blk_drewN ?_ _ | refine blk_drew ?_ | refine blk_alloc ?_ _)); refine blk_put (cs := #[.int .i64 a0_0, .slice none 0 0, .slice none 0 0]) ?_ 1 _ rfl; (with_reducible repeat (first | refine blk_drewN ?_ _ | refine blk_drew ?_ | refine blk_alloc ?_ _)); refine blk_put (cs := #[.int .i64 0, .slice none 0 0, .slice none 0 0]) ?_ 0 _ rfl; (with_reducible repeat (first | refine blk_drewN ?_ _ | refine blk_drew ?_ | refine blk_alloc ?_ _)); refine blk_far ?_ NB102_101.out _; (with_reducible repeat (first | refine blk_drewN ?_ _ | refine blk_drew ?_ | refine blk_alloc ?_ _)); exact BK102.out) Tryz.underlying28 rfl q9_) rfl ?_
   exact ⟨_, _, by first | rfl | (simp [errW_none, errW_some] <;> rfl) | (simp [*, errW_none, errW_some] <;> rfl), by (with_reducible repeat (first | apply Kd.R_alloc | apply Kd.R_drewN | apply Kd.R_drew)); exact Kd.R_mono (Kd.R_far (p := ⟨gb102, 2, none⟩) (Kd.R_far (p := ⟨gb102, 1, none⟩) (Kd.R_far (p := ⟨gb102, 0, none⟩) (Kd.R_far (p := ⟨gb101, 2, none⟩) (Kd.R_types (Kd.R_types HO108.out BK101.out (by decide)) BK102.out (by decide)) (fun _ hk => hk.1.2) (.slice Ao17 y112.length co17)) (fun _ hk => hk.2) (.int .i64 a0_0)) (fun _ hk => hk.2) (.slice Ao11 y106.length co11)) (fun _ hk => hk.2) (.slice Ao17 y112.length co17)) (fun _ hk => trivial), by (with_reducible repeat (first | apply Kd.R_alloc | apply Kd.R_drewN | apply Kd.R_drew)); exact Kd.R_mono (Kd.R_far (p := ⟨gb102, 2, none⟩) (Kd.R_far (p := ⟨gb102, 1, none⟩) (Kd.R_far (p := ⟨gb102, 0, none⟩) (Kd.R_far (p := ⟨gb101, 2, none⟩) (Kd.R_types (Kd.R_types HO114.out BK101.out (by decide)) BK102.out (by decide)) (fun _ hk => hk.1.2) (.slice Ao17 y112.length co17)) (fun _ hk => hk.2) (.int .i64 a0_0)) (fun _ hk => hk.2) (.slice Ao11 y106.length co11)) (fun _ hk => hk.2) (.slice Ao17 y112.length co17)) (fun _ hk => trivial), by repeat (first | (with_reducible first | exact HB.out | apply below_alloc | apply pw_below_drewN | apply below_drew1 | refine below_set ?_ GE101.out | refine below_set ?_ GE102.out) | exact HB.out)⟩
  ·rw [if_neg c3] at H
   exact absurd H (by simp)
 ·rw [if_neg c2] at H
  exact absurd H (by simp)
end Go.Proofs.YtifmkgkiipckbaaGreatDoor.P
namespace Go.Proofs.YtifmkgkiipckbaaGreatDoor.P
open Go.RowKit Go.Proofs.YtifmkgkiipckbaaGreatDoorW.PrintWords Go.Proofs.YtifmkgkiipckbaaGreatDoorW.PrintLast Go.Proofs.YtifmkgkiipckbaaGreatDoorW.PrintMore
attribute [local go_sem] max2_int min2_int max_two min_two max_three min_three max_four min_four
set_option linter.unusedVariables false
set_option linter.unusedSimpArgs false
theorem eqA30 (d : Nat) (w : World) (x0 y0 : ByteArray) (x1 y1 : ByteArray) :
  (Op.equalIn (d + 2) 30 (.agg #[.string x0, .string x1]) (.agg #[.string y0, .string y1])).run Tryz.prog w = .ok (x0.toList == y0.toList && (x1.toList == y1.toList)) w := by
 refine eqA_of Tryz.underlying30 q9_ ?_
 refine eqf_cons (by rfl) (by go_simp; rfl) (by go_simp; rfl) (by go_simp) ?_
 exact eqf_last (by rfl) (by go_simp; rfl) (by go_simp; rfl) (by go_simp)
end Go.Proofs.YtifmkgkiipckbaaGreatDoor.P
namespace Go.Proofs.YtifmkgkiipckbaaGreatDoor.P
open Go.RowKit Go.Proofs.YtifmkgkiipckbaaGreatDoorW.PrintWords Go.Proofs.YtifmkgkiipckbaaGreatDoorW.PrintLast Go.Proofs.YtifmkgkiipckbaaGreatDoorW.PrintMore
attribute [local go_sem] max2_int min2_int max_two min_two max_three min_three max_four min_four
set_option linter.unusedVariables false
set_option linter.unusedSimpArgs false
attribute [local go_sem high] eqA30
def api_Header.l0 : Nat → List (S30) → List (S30) → Int → Option (Bool)
 | 0, _, _, _ => none
 | k + 1, x0, x1, x5 => if x5 < (x0.length : Int) then (if 0 ≤ x5 then (if x5 < (x1.length : Int) then (if (!((((rd_T30 x0 x5).f0).toList) == (((rd_T30 x1 x5).f0).toList)) || (!((((rd_T30 x0 x5).f1).toList) == (((rd_T30 x1 x5).f1).toList)))) = true then (some false) else (api_Header.l0 k x0 x1 (wrap64 (x5 + 1)))) else (none)) else (none)) else (some true)
def api_Header.f (k : Nat) (l0 : List (S30)) (l1 : List (S30)) : Option (Bool) := if (l0.length : Int) = (l1.length : Int) then (api_Header.l0 k l0 l1 0) else (some false)
theorem api_Header.mono_l : ∀ k, (∀ y0 y1 y2, LeO (api_Header.l0 k y0 y1 y2) (api_Header.l0 (k + 1) y0 y1 y2))
 | 0 => fun _ _ _ r h => by simp [api_Header.l0] at h
 | k + 1 => by
  have ih0 := api_Header.mono_l k
  ·intro y0 y1 y2
   unfold api_Header.l0
   exact lO
theorem api_Header.mono : ∀ a0 a1 k, LeO (api_Header.f k a0 a1) (api_Header.f (k + 1) a0 a1) := by
 intro a0 a1 k
 have ih0 := api_Header.mono_l k
 unfold api_Header.f
 exact lO
set_option maxHeartbeats 8000000 in
set_option maxRecDepth 100000 in
theorem api_Header.calls (k : Nat) (A0 : Option Addr) (c0 : Nat) (l0 : List (S30)) (A1 : Option Addr) (c1 : Nat) (l1 : List (S30)) (r : Bool) (w : World) (hr0 : Kd.C k30 w A0 l0.length l0) (hc0 : l0.length ≤ c0) (hr1 : Kd.C k30 w A1 l1.length l1) (hc1 : l1.length ≤ c1) (h : api_Header.f k l0 l1 = some r) :
  Calls Tryz.prog 16 #[.slice A0 l0.length c0, .slice A1 l1.length c1] w fun e w' => e = .returned (.bool r) ∧ Drawn0 w w' := by
 have hu30 := Tryz.underlying30
 have HR0 := Aside0.mk hr0
 have HC0 := Aside0.mk hc0
 clear hr0 hc0
 have HR1 := Aside0.mk hr1
 have HC1 := Aside0.mk hc1
 clear hr1 hc1
 have H : (if (l0.length : Int) = (l1.length : Int) then (api_Header.l0 k l0 l1 0) else (some false)) = some r := h
 clear h
 by_cases c3 : (l0.length : Int) = (l1.length : Int)
 ·rw [if_pos c3] at H
  have c3b0 : ((l0.length : Int) == (l1.length : Int)) = true := beq_iff_eq.mpr c3
  have c3b1 : ((l0.length : Int) != (l1.length : Int)) = false := bne_eq_false_iff_eq.mpr c3
  have c3b2 : (l0.length == l1.length) = true := by first | simpa using c3 | (simp at c3 ⊢; omega)
  clear c3
  have H' := Aside0.mk H
  clear H
  go_enter Tryz.func16, Tryz.ntmps16
  go_wp2
  repeat (go_quiet (fail); try go_wp2)
  go_loopg [5] k (fun kq v5 w' => ∃ (x5_1 : Int), v5 = .int .i64 x5_1 ∧ Aside0 (api_Header.l0 kq l0 l1 x5_1 = some r) ∧ Aside0 (kq ≤ k) ∧ Drawn0 w w')
  case atStart => exact ⟨(0), rS, H', ⟨Nat.le_refl _⟩, by repeat (first | exact Drawn0.refl _ | apply Drawn0.step)⟩
  case round =>
   clear H'
   try clear c1
   try clear p2
   try clear c3
   try clear c3b0
   try clear c3b1
   try clear c3b2
   obtain ⟨x5_1, rfl, HA, HK1, ⟨m1, rfl⟩⟩ := hrel
   cases gk with
   | zero => exact absurd HA.out (by simp [api_Header.l0])
   | succ k1 =>
    have H := HA.out
    clear HA
    simp only [api_Header.l0] at H
    by_cases c4 : x5_1 < (l0.length : Int)
    ·rw [if_pos c4] at H
     have c4b0 : decide (x5_1 < (l0.length : Int)) = true := decide_eq_true c4
     clear c4
     by_cases c5 : 0 ≤ x5_1
     ·rw [if_pos c5] at H
      have c5b0 : decide (0 ≤ x5_1) = true := decide_eq_true c5
      clear c5
      by_cases c6 : x5_1 < (l1.length : Int)
      ·rw [if_pos c6] at H
       have c6b0 : decide (x5_1 < (l1.length : Int)) = true := decide_eq_true c6
       clear c6
       by_cases c7 : (!((((rd_T30 l0 x5_1).f0).toList) == (((rd_T30 l1 x5_1).f0).toList)) || (!((((rd_T30 l0 x5_1).f1).toList) == (((rd_T30 l1 x5_1).f1).toList)))) = true
       ·rw [if_pos c7] at H
        have c7b0 : (!((((rd_T30 l0 x5_1).f0).toList) == (((rd_T30 l1 x5_1).f0).toList)) || (!((((rd_T30 l0 x5_1).f1).toList) == (((rd_T30 l1 x5_1).f1).toList)))) = true := c7
        clear c7
        obtain rfl := Option.some.inj H
        have p382 : 0 ≤ (x5_1 : Int) := of_decide_eq_true aS
        have q382 : x5_1 < (l0.length : Int) := of_decide_eq_true aS
        obtain ⟨ad382, e382, hx382_0, hx382_1⟩ := at_T30 HR0.out x5_1 p382 q382
        cases e382
        replace p382 := eq_true p382
        replace q382 := eq_true q382
        have p383 : 0 ≤ (x5_1 : Int) := of_decide_eq_true aS
        have q383 : x5_1 < (l1.length : Int) := of_decide_eq_true aS
        obtain ⟨ad383, e383, hx383_0, hx383_1⟩ := at_T30 HR1.out x5_1 p383 q383
        cases e383
        replace p383 := eq_true p383
        replace q383 := eq_true q383
        go_wp2
        repeat (go_quiet (fail); try go_wp2)
        go_ret
        exact ⟨rS, by repeat (first | exact Drawn0.refl _ | apply Drawn0.step)⟩
       ·rw [if_neg c7] at H
        have c7b0 : (!((((rd_T30 l0 x5_1).f0).toList) == (((rd_T30 l1 x5_1).f0).toList)) || (!((((rd_T30 l0 x5_1).f1).toList) == (((rd_T30 l1 x5_1).f1).toList)))) = false := by simpa using c7
        clear c7
        have H' := Aside0.mk H
        clear H
        have p382 : 0 ≤ (x5_1 : Int) := of_decide_eq_true aS
        have q382 : x5_1 < (l0.length : Int) := of_decide_eq_true aS
        obtain ⟨ad382, e382, hx382_0, hx382_1⟩ := at_T30 HR0.out x5_1 p382 q382
        cases e382
        replace p382 := eq_true p382
        replace q382 := eq_true q382
        have p383 : 0 ≤ (x5_1 : Int) := of_decide_eq_true aS
        have q383 : x5_1 < (l1.length : Int) := of_decide_eq_true aS
        obtain ⟨ad383, e383, hx383_0, hx383_1⟩ := at_T30 HR1.out x5_1 p383 q383
        cases e383
        replace p383 := eq_true p383
        replace q383 := eq_true q383
        go_wp2
        repeat (go_quiet (fail); try go_wp2)
        go_roundg k1
        case measure => have := HK1.out; omega
        case rel => exact ⟨(wrap64 (x5_1 + 1)), rS, H', ⟨by have := HK1.out; omega⟩, by repeat (first | exact Drawn0.refl _ | apply Drawn0.step)⟩
      ·rw [if_neg c6] at H
       exact absurd H (by simp)
     ·rw [if_neg c5] at H
      exact absurd H (by simp)
    ·rw [if_neg c4] at H
     have c4b0 : decide (x5_1 < (l0.length : Int)) = false := decide_eq_false c4
     clear c4
     obtain rfl := Option.some.inj H
     go_wp2
     repeat (go_quiet (fail); try go_wp2)
     go_ret
     exact ⟨rS, by repeat (first | exact Drawn0.refl _ | apply Drawn0.step)⟩
 ·rw [if_neg c3] at H
  have c3b0 : ((l0.length : Int) == (l1.length : Int)) = false := beq_eq_false_iff_ne.mpr c3
  have c3b1 : ((l0.length : Int) != (l1.length : Int)) = true := bne_iff_ne.mpr c3
  have c3b2 : (l0.length == l1.length) = false := by first | simpa using c3 | (simp at c3 ⊢; omega)
  obtain rfl := Option.some.inj H
  go_enter Tryz.func16, Tryz.ntmps16
  go_wp2
  repeat (go_quiet (fail); try go_wp2)
  go_ret
  exact ⟨rS, by repeat (first | exact Drawn0.refl _ | apply Drawn0.step)⟩
end Go.Proofs.YtifmkgkiipckbaaGreatDoor.P
namespace Go.Proofs.YtifmkgkiipckbaaGreatDoor.P
open Go.RowKit Go.Proofs.YtifmkgkiipckbaaGreatDoorW.PrintWords Go.Proofs.YtifmkgkiipckbaaGreatDoorW.PrintLast Go.Proofs.YtifmkgkiipckbaaGreatDoorW.PrintMore
attribute [local go_sem] max2_int min2_int max_two min_two max_three min_three max_four min_four
set_option linter.unusedVariables false
set_option linter.unusedSimpArgs false
def ostiarybook_Same_byte.l0 : Nat → List Int → List Int → Int → Option (Bool)
 | 0, _, _, _ => none
 | k + 1, x0, x1, x5 => if x5 < (x0.length : Int) then (if 0 ≤ x5 then (if x5 < (x1.length : Int) then (if (rd x0 x5) = (rd x1 x5) then (ostiarybook_Same_byte.l0 k x0 x1 (wrap64 (x5 + 1))) else (some false)) else (none)) else (none)) else (some true)
def ostiarybook_Same_byte.f (k : Nat) (l0 : List Int) (l1 : List Int) : Option (Bool) := if (l0.length : Int) = (l1.length : Int) then (ostiarybook_Same_byte.l0 k l0 l1 0) else (some false)
theorem ostiarybook_Same_byte.mono_l : ∀ k, (∀ y0 y1 y2, LeO (ostiarybook_Same_byte.l0 k y0 y1 y2) (ostiarybook_Same_byte.l0 (k + 1) y0 y1 y2))
 | 0 => fun _ _ _ r h => by simp [ostiarybook_Same_byte.l0] at h
 | k + 1 => by
  have ih0 := ostiarybook_Same_byte.mono_l k
  ·intro y0 y1 y2
   unfold ostiarybook_Same_byte.l0
   exact lO
theorem ostiarybook_Same_byte.mono : ∀ a0 a1 k, LeO (ostiarybook_Same_byte.f k a0 a1) (ostiarybook_Same_byte.f (k + 1) a0 a1) := by
 intro a0 a1 k
 have ih0 := ostiarybook_Same_byte.mono_l k
 unfold ostiarybook_Same_byte.f
 exact lO
set_option maxHeartbeats 8000000 in
set_option maxRecDepth 100000 in
theorem ostiarybook_Same_byte.calls (k : Nat) (A0 : Option Addr) (c0 : Nat) (l0 : List Int) (A1 : Option Addr) (c1 : Nat) (l1 : List Int) (r : Bool) (w : World) (hr0 : Kd.C (Kd.int .u8) w A0 l0.length l0) (hc0 : l0.length ≤ c0) (hr1 : Kd.C (Kd.int .u8) w A1 l1.length l1) (hc1 : l1.length ≤ c1) (h : ostiarybook_Same_byte.f k l0 l1 = some r) :
  Calls Tryz.prog 87 #[.slice A0 l0.length c0, .slice A1 l1.length c1] w fun e w' => e = .returned (.bool r) ∧ Drawn0 w w' := by
 have HR0 := Aside0.mk hr0
 have HC0 := Aside0.mk hc0
 clear hr0 hc0
 have HR1 := Aside0.mk hr1
 have HC1 := Aside0.mk hc1
 clear hr1 hc1
 have H : (if (l0.length : Int) = (l1.length : Int) then (ostiarybook_Same_byte.l0 k l0 l1 0) else (some false)) = some r := h
 clear h
 by_cases c3 : (l0.length : Int) = (l1.length : Int)
 ·rw [if_pos c3] at H
  have c3b0 : ((l0.length : Int) == (l1.length : Int)) = true := beq_iff_eq.mpr c3
  have c3b1 : ((l0.length : Int) != (l1.length : Int)) = false := bne_eq_false_iff_eq.mpr c3
  have c3b2 : (l0.length == l1.length) = true := by first | simpa using c3 | (simp at c3 ⊢; omega)
  clear c3
  have H' := Aside0.mk H
  clear H
  go_enter Tryz.func87, Tryz.ntmps87
  go_wp2
  repeat (go_quiet (fail); try go_wp2)
  go_loopg [5] k (fun kq v5 w' => ∃ (x5_1 : Int), v5 = .int .i64 x5_1 ∧ Aside0 (ostiarybook_Same_byte.l0 kq l0 l1 x5_1 = some r) ∧ Aside0 (kq ≤ k) ∧ Drawn0 w w')
  case atStart => exact ⟨(0), rS, H', ⟨Nat.le_refl _⟩, by repeat (first | exact Drawn0.refl _ | apply Drawn0.step)⟩
  case round =>
   clear H'
   try clear c1
   try clear p2
   try clear c3
   try clear c3b0
   try clear c3b1
   try clear c3b2
   obtain ⟨x5_1, rfl, HA, HK1, ⟨m1, rfl⟩⟩ := hrel
   cases gk with
   | zero => exact absurd HA.out (by simp [ostiarybook_Same_byte.l0])
   | succ k1 =>
    have H := HA.out
    clear HA
    simp only [ostiarybook_Same_byte.l0] at H
    by_cases c4 : x5_1 < (l0.length : Int)
    ·rw [if_pos c4] at H
     have c4b0 : decide (x5_1 < (l0.length : Int)) = true := decide_eq_true c4
     clear c4
     by_cases c5 : 0 ≤ x5_1
     ·rw [if_pos c5] at H
      have c5b0 : decide (0 ≤ x5_1) = true := decide_eq_true c5
      clear c5
      by_cases c6 : x5_1 < (l1.length : Int)
      ·rw [if_pos c6] at H
       have c6b0 : decide (x5_1 < (l1.length : Int)) = true := decide_eq_true c6
       clear c6
       by_cases c7 : (rd l0 x5_1) = (rd l1 x5_1)
       ·rw [if_pos c7] at H
        have c7b0 : ((rd l0 x5_1) == (rd l1 x5_1)) = true := beq_iff_eq.mpr c7
        have c7b1 : ((rd l0 x5_1) != (rd l1 x5_1)) = false := bne_eq_false_iff_eq.mpr c7
        clear c7
        have H' := Aside0.mk H
        clear H
        have p384 : 0 ≤ (x5_1 : Int) := of_decide_eq_true aS
        have q384 : x5_1 < (l0.length : Int) := of_decide_eq_true aS
        obtain ⟨ad384, e384, hx384_0⟩ := Kd.at_int HR0.out x5_1 p384 q384
        cases e384
        replace p384 := eq_true p384
        replace q384 := eq_true q384
        have p385 : 0 ≤ (x5_1 : Int) := of_decide_eq_true aS
        have q385 : x5_1 < (l1.length : Int) := of_decide_eq_true aS
        obtain ⟨ad385, e385, hx385_0⟩ := Kd.at_int HR1.out x5_1 p385 q385
        cases e385
        replace p385 := eq_true p385
        replace q385 := eq_true q385
        go_wp2
        repeat (go_quiet (fail); try go_wp2)
        go_roundg k1
        case measure => have := HK1.out; omega
        case rel => exact ⟨(wrap64 (x5_1 + 1)), rS, H', ⟨by have := HK1.out; omega⟩, by repeat (first | exact Drawn0.refl _ | apply Drawn0.step)⟩
       ·rw [if_neg c7] at H
        have c7b0 : ((rd l0 x5_1) == (rd l1 x5_1)) = false := beq_eq_false_iff_ne.mpr c7
        have c7b1 : ((rd l0 x5_1) != (rd l1 x5_1)) = true := bne_iff_ne.mpr c7
        obtain rfl := Option.some.inj H
        have p384 : 0 ≤ (x5_1 : Int) := of_decide_eq_true aS
        have q384 : x5_1 < (l0.length : Int) := of_decide_eq_true aS
        obtain ⟨ad384, e384, hx384_0⟩ := Kd.at_int HR0.out x5_1 p384 q384
        cases e384
        replace p384 := eq_true p384
        replace q384 := eq_true q384
        have p385 : 0 ≤ (x5_1 : Int) := of_decide_eq_true aS
        have q385 : x5_1 < (l1.length : Int) := of_decide_eq_true aS
        obtain ⟨ad385, e385, hx385_0⟩ := Kd.at_int HR1.out x5_1 p385 q385
        cases e385
        replace p385 := eq_true p385
        replace q385 := eq_true q385
        go_wp2
        repeat (go_quiet (fail); try go_wp2)
        go_ret
        exact ⟨rS, by repeat (first | exact Drawn0.refl _ | apply Drawn0.step)⟩
      ·rw [if_neg c6] at H
       exact absurd H (by simp)
     ·rw [if_neg c5] at H
      exact absurd H (by simp)
    ·rw [if_neg c4] at H
     have c4b0 : decide (x5_1 < (l0.length : Int)) = false := decide_eq_false c4
     clear c4
     obtain rfl := Option.some.inj H
     go_wp2
     repeat (go_quiet (fail); try go_wp2)
     go_ret
     exact ⟨rS, by repeat (first | exact Drawn0.refl _ | apply Drawn0.step)⟩
 ·rw [if_neg c3] at H
  have c3b0 : ((l0.length : Int) == (l1.length : Int)) = false := beq_eq_false_iff_ne.mpr c3
  have c3b1 : ((l0.length : Int) != (l1.length : Int)) = true := bne_iff_ne.mpr c3
  have c3b2 : (l0.length == l1.length) = false := by first | simpa using c3 | (simp at c3 ⊢; omega)
  obtain rfl := Option.some.inj H
  go_enter Tryz.func87, Tryz.ntmps87
  go_wp2
  repeat (go_quiet (fail); try go_wp2)
  go_ret
  exact ⟨rS, by repeat (first | exact Drawn0.refl _ | apply Drawn0.step)⟩
end Go.Proofs.YtifmkgkiipckbaaGreatDoor.P
