/- A part of the proof of FS: texts of walks and plain lemmas. -/
import Derived.Test.YtifmkgkiipckbaaGreatDoorXFS7
import Derived.Test.YtifmkgkiipckbaaGreatDoorXFS8
import Derived.Test.YtifmkgkiipckbaaGreatDoorXFS1
import Derived.Lib.Hide
import Derived.Laws.CopyOwn
import Derived.StillTailTactics
import Derived.IntWalk
namespace Go.Proofs.YtifmkgkiipckbaaGreatDoor.P
open Go.RowKit Go.Proofs.YtifmkgkiipckbaaGreatDoorW.PrintWords Go.Proofs.YtifmkgkiipckbaaGreatDoorW.PrintLast Go.Proofs.YtifmkgkiipckbaaGreatDoorW.PrintMore
set_option linter.unusedVariables false
set_option linter.unusedSimpArgs false
def ofL (l : List UInt8) : ByteArray := ⟨l.toArray⟩
theorem ofL_data (s : ByteArray) : ofL s.data.toList = s := by
 cases s
 simp [ofL]
theorem data_ofL (l : List UInt8) : (ofL l).data.toList = l := by simp [ofL]
theorem ofL_size (l : List UInt8) : (ofL l).size = l.length := by
 show l.toArray.size = _
 simp
theorem ofL_extract (l : List UInt8) (a b : Nat) : (ofL l).extract a b = ofL ((l.drop a).take (b - a)) := by
 apply WideShapes.bytes_inj
 rw [data_ofL, ByteArray.data_extract, Array.toList_extract, List.extract_eq_take_drop]
 simp [ofL]
theorem ofL_bt (l : List UInt8) (i : Nat) (h : i < l.length) : bt (ofL l) (i : Int) = (l[i].toNat : Int) := by
 have hs : i < (ofL l).size := by rw [ofL_size]; exact h
 unfold bt
 rw [Int.toNat_natCast, dif_pos hs]
 have : (ofL l)[i]'hs = l[i] := by
  have h2 : l.toArray[i]'(by simpa using h) = l[i] := List.getElem_toArray ..
  exact h2
 exact congrArg (fun c : UInt8 => (c.toNat : Int)) this
theorem ofL_append (a b : List UInt8) : ofL a ++ ofL b = ofL (a ++ b) := by
 apply WideShapes.bytes_inj
 rw [data_ofL, ByteArray.data_append, Array.toList_append]
 simp [ofL]
theorem trim_swap (p : UInt8 → Bool) (l : List UInt8) : ((l.reverse.dropWhile p).reverse).dropWhile p = ((l.dropWhile p).reverse.dropWhile p).reverse := by
 induction l with
 | nil => rfl
 | cons x t ih =>
  by_cases hx : p x = true
  ·rw [List.dropWhile_cons_of_pos hx, ← ih, List.reverse_cons]
   by_cases ht : (t.reverse.dropWhile p) = []
   ·have : (t.reverse ++ [x]).dropWhile p = [] := by
     rw [List.dropWhile_append, ht]
     simp [hx]
    rw [this, ht]
   ·rw [List.dropWhile_append]
    have : (t.reverse.dropWhile p).isEmpty = false := by
     cases h : t.reverse.dropWhile p with
     | nil => exact absurd h ht
     | cons _ _ => rfl
    rw [this]
    simp only [Bool.false_eq_true, if_false, List.reverse_append, List.reverse_cons, List.reverse_nil, List.nil_append, List.cons_append]
    rw [List.dropWhile_cons_of_pos hx]
  ·rw [List.dropWhile_cons_of_neg hx]
   have : ((x :: t).reverse.dropWhile p).reverse = x :: (t.reverse.dropWhile p).reverse := by
    rw [List.reverse_cons, List.dropWhile_append]
    by_cases ht : (t.reverse.dropWhile p).isEmpty = true
    ·rw [if_pos ht, List.isEmpty_iff.1 ht, List.dropWhile_cons_of_neg hx]
     rfl
    ·rw [if_neg ht]
     simp
   rw [this, List.dropWhile_cons_of_neg hx]
abbrev blk (c : UInt8) : Bool := [(9 : UInt8), 32].contains c
theorem ends_is (c : UInt8) : ostiaryref1_ends.f (c.toNat : Int) true = some (blk c) := by
 revert c
 have : (List.range 256).all (fun n => ostiaryref1_ends.f ((UInt8.ofNat n).toNat : Int) true == some (blk (UInt8.ofNat n))) = true := by decide +kernel
 intro c
 have h := List.all_eq_true.1 this c.toNat (List.mem_range.2 c.toNat_lt)
 simpa using h
theorem trimBack : ∀ (n : Nat) (l : List UInt8) (k : Nat), l.length = n → n ≤ 1000000 → n + 2 ≤ k → ostiaryref1_Trim.l1 k (ofL l) true = some (ofL (l.reverse.dropWhile blk).reverse)
 | 0, l, k, hl, _, hk => by
  obtain rfl : l = [] := List.eq_nil_of_length_eq_zero hl
  obtain ⟨k, rfl⟩ : ∃ j, k = j + 1 := ⟨k - 1, by omega⟩
  unfold ostiaryref1_Trim.l1
  rw [ofL_size, if_neg (by simp)]
  rfl
 | n + 1, l, k, hl, hn, hk => by
  obtain ⟨k, rfl⟩ : ∃ j, k = j + 1 := ⟨k - 1, by omega⟩
  have hne : l ≠ [] := fun h => by rw [h] at hl; simp at hl
  obtain ⟨m, c, rfl⟩ : ∃ m c, l = m ++ [c] := ⟨_, _, (List.dropLast_concat_getLast hne).symm⟩
  have hm : m.length = n := by simpa using hl
  unfold ostiaryref1_Trim.l1
  have hs : ((ofL (m ++ [c])).size : Int) = n + 1 := by rw [ofL_size, hl]; rfl
  have hw : wrap64 ((n : Int) + 1 - 1) = (n : Int) := by unfold wrap64; omega
  rw [hs, hw, if_pos (by omega), if_pos (by omega), if_pos (by omega), ofL_bt _ n (by omega)]
  have hc : (m ++ [c])[n]'(by omega) = c := by simp [← hm]
  rw [hc, ends_is]
  simp only [Option.bind_some]
  rw [List.reverse_append, List.reverse_cons, List.reverse_nil, List.nil_append, List.cons_append, List.nil_append]
  by_cases hb : blk c = true
  ·rw [if_pos hb, if_pos (by omega), Int.toNat_natCast, ofL_extract]
   have : ((m ++ [c]).drop 0).take (n - 0) = m := by simp [← hm]
   rw [this, trimBack n m k hm (by omega) (by omega), List.dropWhile_cons_of_pos hb]
  ·rw [if_neg hb, List.dropWhile_cons_of_neg hb]
   simp
theorem Trim_is (l : List UInt8) (k : Nat) (hl : l.length ≤ 1000000) (hk : 2 * l.length + 10 ≤ k) : ostiaryref1_Trim.f k (ofL l) true = some (ofL (Lib.trimS l [9, 32])) := by
 unfold ostiaryref1_Trim.f Lib.trimS Lib.trimLeftS Lib.trimRightS
 rw [trim_swap]
 induction l generalizing k with
 | nil =>
  obtain ⟨k, rfl⟩ : ∃ j, k = j + 2 := ⟨k - 2, by omega⟩
  unfold ostiaryref1_Trim.l0
  rw [ofL_size, if_neg (by simp)]
  unfold ostiaryref1_Trim.j1
  exact trimBack 0 [] k rfl (by omega) (by simp at hk; omega)
 | cons c t ih =>
  simp only [List.length_cons] at hl hk
  obtain ⟨k, rfl⟩ : ∃ j, k = j + 1 := ⟨k - 1, by omega⟩
  unfold ostiaryref1_Trim.l0
  have hs : ((ofL (c :: t)).size : Int) = t.length + 1 := by rw [ofL_size]; rfl
  have hb0 := ofL_bt (c :: t) 0 (by simp)
  simp only [Int.natCast_zero, List.getElem_cons_zero] at hb0
  rw [hs, if_pos (by omega), if_pos (by omega), hb0, ends_is]
  simp only [Option.bind_some]
  by_cases hb : blk c = true
  ·rw [if_pos hb, if_pos (by omega), ofL_size, ofL_extract]
   have : ((c :: t).drop 1).take ((c :: t).length - 1) = t := by simp
   rw [this, ih k (by omega) (by omega), List.dropWhile_cons_of_pos hb]
  ·rw [if_neg hb, List.dropWhile_cons_of_neg hb]
   obtain ⟨k, rfl⟩ : ∃ j, k = j + 1 := ⟨k - 1, by omega⟩
   unfold ostiaryref1_Trim.j1
   exact trimBack (t.length + 1) (c :: t) k rfl (by omega) (by omega)
def nameB (n : ByteArray) (h : S30) : Bool := (lowS h.f0).toList == (lowS n).toList
def vals (n : ByteArray) (l : List S30) : List ByteArray := (l.filter (nameB n)).map (·.f1)
theorem low_is (s : ByteArray) (h : s.size ≤ 1000000) : infra_Lower.f s = some (lowS s) := by
 unfold infra_Lower.f
 rw [if_pos (by omega)]
theorem rlow_is (s : ByteArray) (h : s.size ≤ 1000000) : ostiaryref1_Lower.f s = some (lowS s) := by
 unfold ostiaryref1_Lower.f
 rw [if_pos (by omega)]
theorem vals_snoc (n : ByteArray) (l : List S30) (i : Nat) (h : i < l.length) : vals n (l.take (i + 1)) = vals n (l.take i) ++ (if nameB n l[i] = true then [l[i].f1] else []) := by
 unfold vals
 rw [List.take_succ_eq_append_getElem h, List.filter_append, List.map_append]
 congr 1
 by_cases hb : nameB n l[i] = true
 ·rw [if_pos hb, List.filter_cons_of_pos hb]
  rfl
 ·rw [if_neg hb, List.filter_cons_of_neg hb]
  rfl
theorem Get_spec (n : ByteArray) (hn : n.size ≤ 1000000) (l : List S30) (hl : FewH l) : ∀ (d k : Nat) (i : Nat), i ≤ l.length → l.length - i = d → d + 1 ≤ k →
  headers_Get.l0 k n (vals n (l.take i)) l (l.length : Int) (i : Int) = (strings_Join.f (vals n l) ⟨#[44, 32]⟩).bind fun t => some (t, decide (((vals n l).length : Int) > 0))
 | 0, k, i, hi, hd, hk => by
  obtain ⟨k, rfl⟩ : ∃ j, k = j + 1 := ⟨k - 1, by omega⟩
  unfold headers_Get.l0
  rw [if_neg (by omega), List.take_of_length_le (by omega)]
 | d + 1, k, i, hi, hd, hk => by
  obtain ⟨k, rfl⟩ : ∃ j, k = j + 1 := ⟨k - 1, by omega⟩
  have h20 := hl.1
  unfold headers_Get.l0
  obtain ⟨p1, p2⟩ := rd_T_at l (i : Int) (by omega) (by omega)
  simp only [Int.toNat_natCast] at p1 p2
  rw [if_pos (by omega), if_pos (by omega), if_pos (by omega), p2]
  have hz := hl.2 _ (List.getElem_mem p1)
  unfold headers_is.f
  rw [low_is _ (by omega), low_is _ hn]
  simp only [Option.bind_some]
  have hw : wrap64 ((i : Int) + 1) = ((i + 1 : Nat) : Int) := by unfold wrap64; omega
  rw [hw]
  have I := Get_spec n hn l hl d k (i + 1) (by omega) (by omega) (by omega)
  rw [vals_snoc n l i p1] at I
  have hlen : (vals n (l.take i)).length ≤ 20 := by
   unfold vals
   rw [List.length_map]
   exact Nat.le_trans (List.length_filter_le _ _) (by rw [List.length_take]; omega)
  by_cases hb : nameB n l[i] = true
  ·rw [if_pos hb] at I
   rw [if_pos (by exact hb), if_pos (by omega)]
   exact I
  ·rw [if_neg hb, List.append_nil] at I
   rw [if_neg (by exact hb)]
   exact I
theorem Get_eq (n : ByteArray) (hn : n.size ≤ 1000000) (l : List S30) (hl : FewH l) (k : Nat) (hk : 30 ≤ k) : headers_Get.f k l n = (strings_Join.f (vals n l) ⟨#[44, 32]⟩).bind fun t => some (t, decide (((vals n l).length : Int) > 0)) := by
 have h20 := hl.1
 have := Get_spec n hn l hl l.length k 0 (Nat.zero_le _) (by omega) (by omega)
 exact this
def gath (v : List ByteArray) : ByteArray := ofL (Lib.join (v.map (·.data.toList)) [44, 32])
theorem gath_snoc (v : List ByteArray) (x : ByteArray) (h : v ≠ []) : gath (v ++ [x]) = (gath v ++ ⟨#[44, 32]⟩) ++ x := by
 unfold gath
 cases v with
 | nil => exact absurd rfl h
 | cons a r =>
  rw [List.cons_append, List.map_cons, List.map_cons, Lib.join_cons, Lib.join_cons, List.map_append]
  unfold Lib.joinTail
  rw [List.map_append, List.flatten_append, ← List.append_assoc]
  rw [← ofL_append]
  simp only [List.map_cons, List.map_nil, List.flatten_cons, List.flatten_nil, List.append_nil]
  rw [← ofL_append, ← ofL_append, ofL_data x, ofL_data a, show (⟨#[44, 32]⟩ : ByteArray) = ofL [44, 32] from rfl]
  simp only [ByteArray.append_assoc]
theorem gath_one (x : ByteArray) : gath [x] = x := by
 unfold gath
 rw [List.map_cons, List.map_nil, Lib.join_cons]
 simp [Lib.joinTail, ofL_data]
theorem gath_len (v : List ByteArray) (hv : v.length ≤ 20) (hm : ∀ x ∈ v, x.size ≤ 200) : (gath v).size ≤ 10000 := by
 obtain ⟨r, hr, h⟩ := Join_tot v hv hm
 unfold strings_Join.f at hr
 split at hr
 ·split at hr
  ·injection hr with hr
   rw [← hr] at h
   exact h
  ·cases hr
 ·cases hr
theorem Join_is (v : List ByteArray) (hv : v.length ≤ 20) (hm : ∀ x ∈ v, x.size ≤ 200) : strings_Join.f v ⟨#[44, 32]⟩ = some (gath v) := by
 obtain ⟨r, hr, h⟩ := Join_tot v hv hm
 rw [hr]
 unfold strings_Join.f at hr
 split at hr
 ·split at hr
  ·injection hr with hr
   rw [← hr]
   rfl
  ·cases hr
 ·cases hr
theorem vals_few (n : ByteArray) (l : List S30) (hl : FewH l) (i : Nat) : (vals n (l.take i)).length ≤ 20 ∧ ∀ x ∈ vals n (l.take i), x.size ≤ 200 := by
 have h20 := hl.1
 constructor
 ·unfold vals
  rw [List.length_map]
  exact Nat.le_trans (List.length_filter_le _ _) (by rw [List.length_take]; omega)
 ·intro x hx
  obtain ⟨h, hh, rfl⟩ := List.mem_map.1 hx
  exact (hl.2 h (List.mem_of_mem_take (List.mem_filter.1 hh).1)).2
theorem rGet_spec (n : ByteArray) (hn : n.size ≤ 1000000) (l : List S30) (hl : FewH l) : ∀ (d k : Nat) (i : Nat), i ≤ l.length → l.length - i = d → d + 1 ≤ k →
  ostiaryref5_Get.l0 k l n (gath (vals n (l.take i))) (decide (((vals n (l.take i)).length : Int) > 0)) (i : Int) = some (gath (vals n l), decide (((vals n l).length : Int) > 0))
 | 0, k, i, hi, hd, hk => by
  obtain ⟨k, rfl⟩ : ∃ j, k = j + 1 := ⟨k - 1, by omega⟩
  unfold ostiaryref5_Get.l0
  rw [if_neg (by omega), List.take_of_length_le (by omega)]
 | d + 1, k, i, hi, hd, hk => by
  obtain ⟨k, rfl⟩ : ∃ j, k = j + 1 := ⟨k - 1, by omega⟩
  have h20 := hl.1
  unfold ostiaryref5_Get.l0
  obtain ⟨p1, p2⟩ := rd_T_at l (i : Int) (by omega) (by omega)
  simp only [Int.toNat_natCast] at p1 p2
  rw [if_pos (by omega), if_pos (by omega), p2]
  have hz := hl.2 _ (List.getElem_mem p1)
  unfold ostiaryref5_Named.f
  rw [rlow_is _ (by omega), rlow_is _ hn]
  simp only [Option.bind_some]
  have hw : wrap64 ((i : Int) + 1) = ((i + 1 : Nat) : Int) := by unfold wrap64; omega
  rw [hw]
  have I := rGet_spec n hn l hl d k (i + 1) (by omega) (by omega) (by omega)
  rw [vals_snoc n l i p1] at I
  obtain ⟨f1, f2⟩ := vals_few n l hl i
  have hg := gath_len _ f1 f2
  by_cases hb : nameB n l[i] = true
  ·rw [if_pos hb] at I
   rw [if_pos (by exact hb)]
   by_cases he : vals n (l.take i) = []
   ·rw [he, List.nil_append, gath_one] at I
    rw [he, if_neg (by simp)]
    have : (gath []).size = 0 := rfl
    rw [if_pos (by omega), show gath [] ++ l[i].f1 = l[i].f1 by rw [show gath [] = ofL [] from rfl, ← ofL_data l[i].f1, ofL_append, List.nil_append]]
    exact I
   ·rw [gath_snoc _ _ he] at I
    have hp : 0 < (vals n (l.take i)).length := List.length_pos_iff.2 he
    have hd1 : decide (((vals n (l.take i)).length : Int) > 0) = true := decide_eq_true (by omega)
    rw [if_pos hd1, if_pos (by omega), if_pos (by rw [ByteArray.size_append]; show _ + 2 + _ ≤ _; omega)]
    have hd2 : decide ((((vals n (l.take i) ++ [l[i].f1]).length : Nat) : Int) > 0) = true := decide_eq_true (by simp)
    rw [hd2] at I
    exact I
  ·rw [if_neg hb, List.append_nil] at I
   rw [if_neg (by exact hb)]
   exact I
theorem rGet_eq (n : ByteArray) (hn : n.size ≤ 1000000) (l : List S30) (hl : FewH l) (k j : Nat) (hk : 30 ≤ k) (hj : 30 ≤ j) : ostiaryref5_Get.f k l n = headers_Get.f j l n := by
 have h20 := hl.1
 rw [Get_eq n hn l hl j hj]
 obtain ⟨f1, f2⟩ := vals_few n l hl l.length
 rw [List.take_of_length_le (Nat.le_refl _)] at f1 f2
 rw [Join_is _ f1 f2]
 exact rGet_spec n hn l hl l.length k 0 (Nat.zero_le _) (by omega) (by omega)
end Go.Proofs.YtifmkgkiipckbaaGreatDoor.P
namespace Go.Proofs.YtifmkgkiipckbaaGreatDoor.P
open Go.RowKit Go.Proofs.YtifmkgkiipckbaaGreatDoorW.PrintWords Go.Proofs.YtifmkgkiipckbaaGreatDoorW.PrintLast Go.Proofs.YtifmkgkiipckbaaGreatDoorW.PrintMore
set_option linter.unusedVariables false
set_option linter.unusedSimpArgs false
theorem Trim_same (s : ByteArray) (h : s.size ≤ 100000) (k : Nat) (hk : 2 * s.size + 10 ≤ k) : ostiaryref1_Trim.f k s true = strings_Trim.f s ⟨#[9, 32]⟩ := by
 have hl : s.data.toList.length = s.size := Array.length_toList
 have := Trim_is s.data.toList k (by omega) (by omega)
 rw [ofL_data] at this
 rw [this]
 unfold strings_Trim.f
 rw [if_pos (by omega), if_pos (by decide), if_pos (by decide)]
 rfl
theorem Split_fin (s : ByteArray) (hs : s.size ≤ 10000) (q : List ByteArray) (b : Bool) (x y : Int) (h0 : 0 ≤ x) (hx : x ≤ s.size) (hy : s.size ≤ y) (hq : q.length ≤ x.toNat) (k j : Nat) (hk : 1 ≤ k) (hj : 30000 ≤ j) :
  headers_Split.l0 k s q b x y = ostiaryref5_Split.l0 j s q x b (s.size : Int) := by
 obtain ⟨k, rfl⟩ : ∃ m, k = m + 1 := ⟨k - 1, by omega⟩
 obtain ⟨j, rfl⟩ : ∃ m, j = m + 3 := ⟨j - 3, by omega⟩
 unfold headers_Split.l0
 rw [if_neg (by omega), if_pos h0, if_pos hx]
 unfold ostiaryref5_Split.l0
 rw [if_pos (by omega), if_pos rfl]
 unfold ostiaryref5_Split.j1
 rw [if_pos rfl, if_pos h0, if_pos hx, if_pos (by omega), Int.toNat_natCast]
 rw [Trim_same _ (by rw [ByteArray.size_extract]; omega) _ (by rw [ByteArray.size_extract]; omega)]
 congr 1
 funext t
 have hw : wrap64 ((s.size : Int) + 1) = (s.size : Int) + 1 := by unfold wrap64; omega
 rw [if_pos (by omega), if_pos (by omega), hw]
 unfold ostiaryref5_Split.l0
 rw [if_neg (by omega)]
theorem Split_sim (s : ByteArray) (hs : s.size ≤ 10000) : ∀ (d k j : Nat) (q : List ByteArray) (b : Bool) (x y : Int), 0 ≤ x → x ≤ y → y ≤ s.size → q.length ≤ x.toNat → ((s.size : Int) - y).toNat ≤ d → 2 * d + 5 ≤ k → 4 * d + 30000 ≤ j → headers_Split.l0 k s q b x y = ostiaryref5_Split.l0 j s q x b y := by
 intro d
 induction d with
 | zero =>
  intro k j q b x y h0 hxy hy hq hd hk hj
  obtain rfl : y = s.size := by omega
  exact Split_fin s hs q b x _ h0 (by omega) (by omega) hq k j (by omega) (by omega)
 | succ d ih =>
  intro k j q b x y h0 hxy hy hq hd hk hj
  by_cases he : y = s.size
  ·subst he
   exact Split_fin s hs q b x _ h0 (by omega) (by omega) hq k j (by omega) (by omega)
  have hlt : y < s.size := by omega
  obtain ⟨k, rfl⟩ : ∃ m, k = m + 2 := ⟨k - 2, by omega⟩
  obtain ⟨j, rfl⟩ : ∃ m, j = m + 3 := ⟨j - 3, by omega⟩
  have w1 : wrap64 (y + 1) = y + 1 := by unfold wrap64; omega
  have w2 : wrap64 (y + 1 + 1) = y + 1 + 1 := by unfold wrap64; omega
  have w3 : wrap64 ((s.size : Int) - 1) = (s.size : Int) - 1 := by unfold wrap64; omega
  have w4 : wrap64 ((s.size : Int) - 1 + 1) = (s.size : Int) := by unfold wrap64; omega
  have n1 : ∀ (q : List ByteArray) (b : Bool) (k' j' : Nat), q.length ≤ x.toNat → k ≤ k' → j ≤ j' → headers_Split.l0 k' s q b x (y + 1) = ostiaryref5_Split.l0 j' s q x b (y + 1) := fun q b k' j' hq h1 h2 => ih k' j' q b x (y + 1) h0 (by omega) (by omega) hq (by omega) (by omega) (by omega)
  have h0y : 0 ≤ y := by omega
  unfold headers_Split.l0 ostiaryref5_Split.l0
  rw [if_pos hlt, if_pos h0y, if_pos hy, if_neg he, if_pos h0y, if_pos hlt]
  unfold headers_Split.j1 ostiaryref5_Split.j1
  unfold ostiaryref5_Split.j2
  rw [w1, w2, w3, w4]
  by_cases h34 : bt s y = 34
  ·rw [if_pos h34, if_neg (show ¬ bt s y = 44 by omega), if_neg (by decide), if_pos h0y, if_pos hlt, if_neg (show ¬ bt s y = 92 by omega), if_neg (by decide), if_pos h0y, if_pos hlt, if_pos h34]
   exact n1 q (!b) _ _ hq (by omega) (by omega)
  rw [if_neg h34]
  by_cases h44 : bt s y = 44
  ·cases b with
   | true =>
    rw [if_pos rfl, if_neg (by rw [h44]; decide), if_pos rfl, if_pos h44, if_neg (by decide), if_pos h0y, if_pos hlt, if_neg (show ¬ bt s y = 92 by omega), if_neg (by decide), if_pos h0y, if_pos hlt, if_neg h34]
    exact n1 q true _ _ hq (by omega) (by omega)
   | false =>
    rw [if_neg (by decide), if_neg (by decide), if_neg (by decide), if_pos h0y, if_pos hlt, if_pos h44, if_pos h0, if_pos hxy, if_pos hy, if_pos h44, if_pos (by decide), if_pos h0, if_pos hxy, if_pos hy]
    rw [Trim_same _ (by rw [ByteArray.size_extract]; omega) _ (by rw [ByteArray.size_extract]; omega)]
    congr 1
    funext t
    rw [if_pos (by omega), if_pos (by omega)]
    exact ih _ _ (q ++ [t]) false (y + 1) (y + 1) (by omega) (by omega) (by omega) (by simp; omega) (by omega) (by omega) (by omega)
  by_cases h92 : bt s y = 92
  ·cases b with
   | true =>
    rw [if_pos rfl, if_pos (by rw [h92]; decide), if_neg h44, if_neg (by decide), if_pos h0y, if_pos hlt, if_pos h92, if_pos rfl]
    by_cases hend : y + 1 ≥ s.size
    ·rw [if_pos hend]
     exact Split_fin s hs q true x _ h0 (by omega) (by omega) hq _ _ (by omega) (by omega)
    ·rw [if_neg hend]
     exact ih _ _ q true x (y + 1 + 1) h0 (by omega) (by omega) hq (by omega) (by omega) (by omega)
   | false =>
    rw [if_neg (by decide), if_neg (by decide), if_neg (by decide), if_pos h0y, if_pos hlt, if_neg h44, if_neg h44, if_neg (by decide), if_pos h0y, if_pos hlt, if_pos h92, if_neg (by decide), if_pos h0y, if_pos hlt, if_neg h34]
    exact n1 q false _ _ hq (by omega) (by omega)
  ·have hb : (bt s y == 92) = false := beq_eq_false_iff_ne.2 h92
   cases b with
   | true =>
    rw [if_pos rfl, hb, if_neg (by decide), if_pos rfl, if_neg h44, if_neg (by decide), if_pos h0y, if_pos hlt, if_neg h92, if_neg (by decide), if_pos h0y, if_pos hlt, if_neg h34]
    exact n1 q true _ _ hq (by omega) (by omega)
   | false =>
    rw [if_neg (by decide), if_neg (by decide), if_neg (by decide), if_pos h0y, if_pos hlt, if_neg h44, if_neg h44, if_neg (by decide), if_pos h0y, if_pos hlt, if_neg h92, if_neg (by decide), if_pos h0y, if_pos hlt, if_neg h34]
    exact n1 q false _ _ hq (by omega) (by omega)
theorem rSplit_eq (n : ByteArray) (hn : n.size ≤ 1000000) (l : List S30) (hl : FewH l) (k j : Nat) (hk : 100000 ≤ k) (hj : 100000 ≤ j) : ostiaryref5_Split.f k l n = headers_Split.f j l n := by
 unfold ostiaryref5_Split.f headers_Split.f
 rw [rGet_eq n hn l hl k j (by omega) (by omega)]
 obtain ⟨r, hr, hs⟩ := Get_tot j l n hl hn (by omega)
 rw [hr]
 simp only [Option.bind_some]
 by_cases hb : r.2 = true
 ·rw [if_pos hb, if_pos hb]
  exact (Split_sim r.1 hs r.1.size j k [] false 0 0 (by omega) (by omega) (by omega) (by simp) (by omega) (by omega) (by omega)).symm
 ·rw [if_neg hb, if_neg hb]
end Go.Proofs.YtifmkgkiipckbaaGreatDoor.P
namespace Go.Proofs.YtifmkgkiipckbaaGreatDoor.P
open Go.RowKit Go.Proofs.YtifmkgkiipckbaaGreatDoorW.PrintWords Go.Proofs.YtifmkgkiipckbaaGreatDoorW.PrintLast Go.Proofs.YtifmkgkiipckbaaGreatDoorW.PrintMore
set_option linter.unusedVariables false
set_option linter.unusedSimpArgs false
def shiftL (k : Int) (y : List ByteArray) : List ByteArray := y.take (k.toNat + 1) ++ (y.drop k.toNat).take (y.length - k.toNat - 1)
theorem shiftL_len (k : Int) (y : List ByteArray) (h : k.toNat < y.length) : (shiftL k y).length = y.length := by
 unfold shiftL
 rw [List.length_append, List.length_take, List.length_take, List.length_drop]
 omega
theorem shift_in {k : Int} {y : List ByteArray} (h0 : 0 ≤ k) (h : k < ((shiftL k y).length : Int)) : k.toNat < y.length := by
 unfold shiftL at h
 rw [List.length_append, List.length_take, List.length_take, List.length_drop] at h
 omega
theorem shift_law {w : World} {base e : Nat} {ok : Nat → Prop} {v : Value} {y : List ByteArray} (HO : Kd.R Kd.string e w base ok v y) (hy : 0 < y.length) :
  ∃ (g cap : Nat) (cur : List Value), v = .slice (some ⟨g, 0, none⟩) y.length cap ∧ base ≤ g ∧ w.heap[g]? = some (.cells cur.toArray e (0, 0)) ∧ cur.length = cap ∧ y.length ≤ cap ∧ cap ≤ maxLen ∧ (∀ (j : Nat) x, y[j]? = some x → w.cell? ⟨g, j, none⟩ = some (.string x)) ∧
   ∀ (k : Int) w', k.toNat < y.length → w'.heap[g]? = some (.cells (splice cur (k.toNat + 1) (((y.drop k.toNat).take (y.length - k.toNat - 1)).map Value.string)).toArray e (0, 0)) → Kd.R Kd.string e w' base ok (.slice (some ⟨g, 0, none⟩) y.length cap) (shiftL k y) := by
 have ho := Kd.own_of_R HO
 have hok := HO.1
 obtain ⟨hl, ⟨rfl, h0⟩ | ⟨g, cap, cur, rfl, hb, hh, hn, hc, hs, ht⟩⟩ := ho
 ·omega
 ·rw [Nat.mul_one] at hs ht
  have hcur : ∀ (j : Nat) x, y[j]? = some x → cur.toList[j]? = some (.string x) := by
   intro j x hj
   have hlt : j < y.length := by
    rcases Nat.lt_or_ge j y.length with q | q
    ·exact q
    ·rw [List.getElem?_eq_none q] at hj
     cases hj
   have : (cur.toList.take y.length)[j]? = some (.string x) := by
    rw [ht]
    unfold encs
    rw [List.getElem?_map, hj]
    rfl
   rw [List.getElem?_take, if_pos hlt] at this
   exact this
  refine ⟨g, cap, cur.toList, rfl, hb, by simpa using hh, by simpa using hs, hn, hc, fun j x hj => ?_, fun k w' hk hh' => ?_⟩
  ·rw [cell_of_row w g j cur e (0, 0) hh]
   simpa using hcur j x hj
  ·have hlen := shiftL_len k y hk
   have hR : Kd.R Kd.string e w' base ok (.slice (some ⟨g, 0, none⟩) (shiftL k y).length cap) (shiftL k y) := by
    refine Kd.R_of_own ?_ (fun q hq => hok q hq)
    refine ⟨by simp [encs], .inr ⟨g, cap, _, rfl, hb, hh', by rw [hlen]; exact hn, hc, ?_, ?_⟩⟩
    ·rw [List.size_toArray, length_splice _ _ _ (by simp; omega)]
     simpa using hs
    ·rw [hlen, Nat.mul_one, List.toList_toArray]
     unfold splice encs shiftL
     rw [List.map_append, ← List.append_assoc]
     rw [List.take_append_of_le_length (by simp; omega), List.take_of_length_le (by simp; omega)]
     congr 1
     have : cur.toList.take (k.toNat + 1) = (cur.toList.take y.length).take (k.toNat + 1) := by rw [List.take_take, Nat.min_eq_left (by omega)]
     rw [this, ht]
     unfold encs
     rw [List.map_take]
   rw [hlen] at hR
   exact hR
theorem shift_pos {W : World} {g cS : Nat} {k : Int} {Y : List ByteArray} (h0 : 0 ≤ k) (hn : Y.length ≤ cS) (cellS : ∀ (j : Nat) x, Y[j]? = some x → W.cell? ⟨g, j, none⟩ = some (.string x)) (hp : 0 < (((Y.drop k.toNat).take (Y.length - k.toNat - 1)).map Value.string).length) :
  (if cS = (k + 1).toNat then some (⟨g, 0, none⟩ : Addr) else some ⟨g, (k + 1).toNat, none⟩) = some ⟨g, k.toNat + 1, none⟩ ∧ ∃ ad, some (⟨g, k.toNat, none⟩ : Addr) = some ad ∧ ∀ (j : Nat) v, (((Y.drop k.toNat).take (Y.length - k.toNat - 1)).map Value.string)[j]? = some v → W.drew.cell? (ad.add j) = some v := by
 simp only [List.length_map, List.length_take, List.length_drop] at hp
 refine ⟨by rw [if_neg (by omega), show (k + 1).toNat = k.toNat + 1 by omega], _, rfl, fun j v hj => ?_⟩
 rw [List.getElem?_map] at hj
 obtain ⟨x, hx, rfl⟩ := Option.map_eq_some_iff.1 hj
 rw [List.getElem?_take] at hx
 split at hx
 ·rw [List.getElem?_drop] at hx
  have := cellS _ x hx
  rw [show (⟨g, k.toNat, none⟩ : Addr).add j = ⟨g, k.toNat + j, none⟩ by unfold Addr.add; split <;> simp_all]
  exact this
 ·cases hx
end Go.Proofs.YtifmkgkiipckbaaGreatDoor.P
namespace Go.Proofs.YtifmkgkiipckbaaGreatDoor.P
open Go.RowKit Go.Proofs.YtifmkgkiipckbaaGreatDoorW.PrintWords Go.Proofs.YtifmkgkiipckbaaGreatDoorW.PrintLast Go.Proofs.YtifmkgkiipckbaaGreatDoorW.PrintMore
attribute [local go_sem] max2_int min2_int max_two min_two max_three min_three max_four min_four
set_option linter.unusedVariables false
set_option linter.unusedSimpArgs false
mutual
def ostiaryref1_Sorted.l0 : Nat → List ByteArray → List ByteArray → Int → Option (List ByteArray)
 | 0, _, _, _ => none
 | k + 1, x0, x3, x4 => if x4 < (x0.length : Int) then (ostiaryref1_Sorted.l1 k x0 x3 x4 0) else (some x3)
def ostiaryref1_Sorted.l1 : Nat → List ByteArray → List ByteArray → Int → Int → Option (List ByteArray)
 | 0, _, _, _, _ => none
 | k + 1, x0, x3, x4, x5 => if x5 < (x3.length : Int) then (if 0 ≤ x5 then (if 0 ≤ x4 then (if x4 < (x0.length : Int) then (if (Op.bytesLess ((rdOf ByteArray.empty x3 x5).toList) ((rdOf ByteArray.empty x0 x4).toList)) = true then (ostiaryref1_Sorted.l1 k x0 x3 x4 (wrap64 (x5 + 1))) else (if (rdOf ByteArray.empty x3 x5).toList = (rdOf ByteArray.empty x0 x4).toList then (ostiaryref1_Sorted.l0 k x0 x3 (wrap64 (x4 + 1))) else (if x3.length < 8796093022208 then ((some (shiftL x5 (x3 ++ [(⟨#[]⟩ : ByteArray)]) : List ByteArray)).bind fun y105 => (if x5 < (y105.length : Int) then (ostiaryref1_Sorted.l0 k x0 (y105.set (x5 : Int).toNat (rdOf ByteArray.empty x0 x4)) (wrap64 (x4 + 1))) else (none))) else (none)))) else (none)) else (none)) else (none)) else (if x3.length < 8796093022208 then ((some (shiftL x5 (x3 ++ [(⟨#[]⟩ : ByteArray)]) : List ByteArray)).bind fun y110 => (if 0 ≤ x4 then (if x4 < (x0.length : Int) then (if 0 ≤ x5 then (if x5 < (y110.length : Int) then (ostiaryref1_Sorted.l0 k x0 (y110.set (x5 : Int).toNat (rdOf ByteArray.empty x0 x4)) (wrap64 (x4 + 1))) else (none)) else (none)) else (none)) else (none))) else (none))
end
def ostiaryref1_Sorted.f (k : Nat) (l0 : List ByteArray) : Option (List ByteArray) := ostiaryref1_Sorted.l0 k l0 ([] : List ByteArray) 0
theorem ostiaryref1_Sorted.mono_l : ∀ k, (∀ y0 y1 y2, LeO (ostiaryref1_Sorted.l0 k y0 y1 y2) (ostiaryref1_Sorted.l0 (k + 1) y0 y1 y2)) ∧ (∀ y0 y1 y2 y3, LeO (ostiaryref1_Sorted.l1 k y0 y1 y2 y3) (ostiaryref1_Sorted.l1 (k + 1) y0 y1 y2 y3))
 | 0 => ⟨fun _ _ _ r h => by simp [ostiaryref1_Sorted.l0] at h, fun _ _ _ _ r h => by simp [ostiaryref1_Sorted.l1] at h⟩
 | k + 1 => by
  obtain ⟨ih0, ih1⟩ := ostiaryref1_Sorted.mono_l k
  refine ⟨?_, ?_⟩
  ·intro y0 y1 y2
   unfold ostiaryref1_Sorted.l0
   exact lO
  ·intro y0 y1 y2 y3
   unfold ostiaryref1_Sorted.l1
   exact lO
theorem ostiaryref1_Sorted.mono : ∀ a0 k, LeO (ostiaryref1_Sorted.f k a0) (ostiaryref1_Sorted.f (k + 1) a0) := by
 intro a0 k
 obtain ⟨ih0, ih1⟩ := ostiaryref1_Sorted.mono_l k
 unfold ostiaryref1_Sorted.f
 exact lO
set_option maxHeartbeats 8000000 in
set_option maxRecDepth 100000 in
theorem ostiaryref1_Sorted.calls (k : Nat) (A0 : Option Addr) (c0 : Nat) (l0 : List ByteArray) (r : List ByteArray) (w : World) (hr0 : Kd.C Kd.string w A0 l0.length l0) (hc0 : l0.length ≤ c0) (h : ostiaryref1_Sorted.f k l0 = some r) :
  Calls Tryz.prog 149 #[.slice A0 l0.length c0] w fun e w' => ∃ v0_ : Value, e = .returned (v0_) ∧ Kd.R Kd.string 9 w' w.heap.size (fun _ => True) v0_ r ∧ Below w.heap.size w w' := by
 have HR0 := Aside0.mk hr0
 have HC0 := Aside0.mk hc0
 clear hr0 hc0
 have HB := Aside0.mk (Below.refl w.heap.size w)
 have H : (ostiaryref1_Sorted.l0 k l0 ([] : List ByteArray) 0) = some r := h
 clear h
 have H' := Aside0.mk H
 clear H
 go_enter Tryz.func149, Tryz.ntmps149
 go_wp2
 repeat (go_quiet (fail); try go_wp2)
 go_loopg [3, 4] k (fun kq v3 v4 w' => ∃ (x3_1 : List ByteArray) (x4_1 : Int), v4 = .int .i64 x4_1 ∧ Aside0 (ostiaryref1_Sorted.l0 kq l0 x3_1 x4_1 = some r) ∧ Aside0 (kq ≤ k) ∧ Aside0 (Kd.R Kd.string 9 w' w.heap.size (fun _ => True) v3 x3_1) ∧ Aside0 (Below w.heap.size w w'))
 case atStart => exact ⟨(([] : List ByteArray)), (0), rS, H', ⟨Nat.le_refl _⟩, ⟨by first | exact Kd.R_nil _ _ _ _ _ | exact Kd.N_nil _ _ _ _ _ | exact Kd.V_nil _ _ _ _ _ | exact Kd.Q_nil _ _ _ _ _ | exact Kd.S_nil _ _ _ _ _⟩, ⟨by repeat (first | (with_reducible first | exact HB.out | apply below_alloc | apply pw_below_drewN | apply below_drew1) | exact HB.out)⟩⟩
 case round =>
  clear H'
  try clear c1
  obtain ⟨x3_1, x4_1, rfl, HA, HK1, HO_3, HB⟩ := hrel
  cases gk with
  | zero => exact absurd HA.out (by simp [ostiaryref1_Sorted.l0])
  | succ k1 =>
   have H := HA.out
   clear HA
   simp only [ostiaryref1_Sorted.l0] at H
   by_cases c2 : x4_1 < (l0.length : Int)
   ·rw [if_pos c2] at H
    have c2b0 : decide (x4_1 < (l0.length : Int)) = true := decide_eq_true c2
    clear c2
    have H' := Aside0.mk H
    clear H
    go_wp2
    repeat (go_quiet (fail); try go_wp2)
    go_loopg [5] k1 (fun kq v5 w' => ∃ (x5_2 : Int), v5 = .int .i64 x5_2 ∧ Aside0 (ostiaryref1_Sorted.l1 kq l0 x3_1 x4_1 x5_2 = some r) ∧ Aside0 (kq ≤ k1) ∧ Aside0 (Kd.R Kd.string 9 w' w.heap.size (fun _ => True) u3 x3_1) ∧ Aside0 (Below w.heap.size w w'))
    case atStart => exact ⟨(0), rS, H', ⟨Nat.le_refl _⟩, ⟨by (with_reducible repeat (first | apply Kd.R_alloc | apply Kd.R_drewN | apply Kd.R_drew)); exact HO_3.out⟩, ⟨by repeat (first | (with_reducible first | exact HB.out | apply below_alloc | apply pw_below_drewN | apply below_drew1) | exact HB.out)⟩⟩
    case round =>
     clear H'
     try clear c1
     try clear c2
     try clear c2b0
     try clear p2
     obtain ⟨x5_2, rfl, HA, HK2, HO_3, HB⟩ := hrel
     cases gk with
     | zero => exact absurd HA.out (by simp [ostiaryref1_Sorted.l1])
     | succ k2 =>
      have H := HA.out
      clear HA
      simp only [ostiaryref1_Sorted.l1] at H
      by_cases c3 : x5_2 < (x3_1.length : Int)
      ·rw [if_pos c3] at H
       have c3b0 : decide (x5_2 < (x3_1.length : Int)) = true := decide_eq_true c3
       clear c3
       by_cases c4 : 0 ≤ x5_2
       ·rw [if_pos c4] at H
        have c4b0 : decide (0 ≤ x5_2) = true := decide_eq_true c4
        clear c4
        by_cases c5 : 0 ≤ x4_1
        ·rw [if_pos c5] at H
         have c5b0 : decide (0 ≤ x4_1) = true := decide_eq_true c5
         clear c5
         by_cases c6 : x4_1 < (l0.length : Int)
         ·rw [if_pos c6] at H
          have c6b0 : decide (x4_1 < (l0.length : Int)) = true := decide_eq_true c6
          clear c6
          by_cases c7 : (Op.bytesLess ((rdOf ByteArray.empty x3_1 x5_2).toList) ((rdOf ByteArray.empty l0 x4_1).toList)) = true
          ·rw [if_pos c7] at H
           have c7b0 : (Op.bytesLess ((rdOf ByteArray.empty x3_1 x5_2).toList) ((rdOf ByteArray.empty l0 x4_1).toList)) = true := c7
           clear c7
           have H' := Aside0.mk H
           clear H
           obtain ⟨Ao8, co8, eo8⟩ := Kd.R_slice HO_3.out
           subst eo8
           have p101 : 0 ≤ (x5_2 : Int) := of_decide_eq_true aS
           have q101 : x5_2 < (x3_1.length : Int) := of_decide_eq_true aS
           obtain ⟨ad101, e101, hx101_0⟩ := Kd.at_string (Kd.R_reads' HO_3.out).2.2 x5_2 p101 q101
           cases e101
           replace p101 := eq_true p101
           replace q101 := eq_true q101
           have p102 : 0 ≤ (x4_1 : Int) := of_decide_eq_true aS
           have q102 : x4_1 < (l0.length : Int) := of_decide_eq_true aS
           obtain ⟨ad102, e102, hx102_0⟩ := Kd.at_string HR0.out x4_1 p102 q102
           cases e102
           replace hx102_0 := (HB.out.cell (World.block_lt_of_cell? w _ hx102_0)).trans hx102_0
           replace p102 := eq_true p102
           replace q102 := eq_true q102
           go_wp2
           repeat (go_quiet (fail); try go_wp2)
           go_roundg k2
           case measure => have := HK1.out; have := HK2.out; omega
           case rel => exact ⟨(wrap64 (x5_2 + 1)), rS, H', ⟨by have := HK1.out; have := HK2.out; omega⟩, ⟨by (with_reducible repeat (first | apply Kd.R_alloc | apply Kd.R_drewN | apply Kd.R_drew)); exact HO_3.out⟩, ⟨by repeat (first | (with_reducible first | exact HB.out | apply below_alloc | apply pw_below_drewN | apply below_drew1) | exact HB.out)⟩⟩
          ·rw [if_neg c7] at H
           have c7b0 : (Op.bytesLess ((rdOf ByteArray.empty x3_1 x5_2).toList) ((rdOf ByteArray.empty l0 x4_1).toList)) = false := by simpa using c7
           clear c7
           by_cases c9 : (rdOf ByteArray.empty x3_1 x5_2).toList = (rdOf ByteArray.empty l0 x4_1).toList
           ·rw [if_pos c9] at H
            have c9b0 : ((rdOf ByteArray.empty x3_1 x5_2).toList == (rdOf ByteArray.empty l0 x4_1).toList) = true := beq_iff_eq.mpr c9
            have c9b1 : ((rdOf ByteArray.empty x3_1 x5_2).toList != (rdOf ByteArray.empty l0 x4_1).toList) = false := bne_eq_false_iff_eq.mpr c9
            clear c9
            have H' := Aside0.mk H
            clear H
            obtain ⟨Ao10, co10, eo10⟩ := Kd.R_slice HO_3.out
            subst eo10
            have p101 : 0 ≤ (x5_2 : Int) := of_decide_eq_true aS
            have q101 : x5_2 < (x3_1.length : Int) := of_decide_eq_true aS
            obtain ⟨ad101, e101, hx101_0⟩ := Kd.at_string (Kd.R_reads' HO_3.out).2.2 x5_2 p101 q101
            cases e101
            replace p101 := eq_true p101
            replace q101 := eq_true q101
            have p102 : 0 ≤ (x4_1 : Int) := of_decide_eq_true aS
            have q102 : x4_1 < (l0.length : Int) := of_decide_eq_true aS
            obtain ⟨ad102, e102, hx102_0⟩ := Kd.at_string HR0.out x4_1 p102 q102
            cases e102
            replace hx102_0 := (HB.out.cell (World.block_lt_of_cell? w _ hx102_0)).trans hx102_0
            replace p102 := eq_true p102
            replace q102 := eq_true q102
            have p103 : 0 ≤ (x5_2 : Int) := of_decide_eq_true aS
            have q103 : x5_2 < (x3_1.length : Int) := of_decide_eq_true aS
            obtain ⟨ad103, e103, hx103_0⟩ := Kd.at_string (Kd.R_reads' HO_3.out).2.2 x5_2 p103 q103
            obtain rfl : ad101 = ad103 := (by injection e103)
            replace p103 := eq_true p103
            replace q103 := eq_true q103
            have p104 : 0 ≤ (x4_1 : Int) := of_decide_eq_true aS
            have q104 : x4_1 < (l0.length : Int) := of_decide_eq_true aS
            obtain ⟨ad104, e104, hx104_0⟩ := Kd.at_string HR0.out x4_1 p104 q104
            obtain rfl : ad102 = ad104 := (by injection e104)
            replace hx104_0 := (HB.out.cell (World.block_lt_of_cell? w _ hx104_0)).trans hx104_0
            replace p104 := eq_true p104
            replace q104 := eq_true q104
            go_wp2
            repeat (go_quiet (fail); try go_wp2)
            go_roundg k2
            case measure => have := HK1.out; have := HK2.out; omega
            case rel => exact ⟨(x3_1), (wrap64 (x4_1 + 1)), rS, H', ⟨by have := HK1.out; have := HK2.out; omega⟩, ⟨by (with_reducible repeat (first | apply Kd.R_alloc | apply Kd.R_drewN | apply Kd.R_drew)); exact HO_3.out⟩, ⟨by repeat (first | (with_reducible first | exact HB.out | apply below_alloc | apply pw_below_drewN | apply below_drew1) | exact HB.out)⟩⟩
           ·rw [if_neg c9] at H
            have c9b0 : ((rdOf ByteArray.empty x3_1 x5_2).toList == (rdOf ByteArray.empty l0 x4_1).toList) = false := beq_eq_false_iff_ne.mpr c9
            have c9b1 : ((rdOf ByteArray.empty x3_1 x5_2).toList != (rdOf ByteArray.empty l0 x4_1).toList) = true := bne_iff_ne.mpr c9
            by_cases c11 : x3_1.length < 8796093022208
            ·rw [if_pos c11] at H
             have LMc11 := Aside0.mk c11
             clear c11
             obtain ⟨y105, hy105⟩ : ∃ y_ : List ByteArray, y_ = shiftL x5_2 (x3_1 ++ [(⟨#[]⟩ : ByteArray)]) := ⟨_, rfl⟩
             replace H : (if x5_2 < (y105.length : Int) then (ostiaryref1_Sorted.l0 k2 l0 (y105.set (x5_2 : Int).toNat (rdOf ByteArray.empty l0 x4_1)) (wrap64 (x4_1 + 1))) else (none)) = some r := by first | (rw [hy105]; with_reducible exact H) | (have H2_ := (Option.bind_some _ _).symm.trans H; rw [hy105]; with_reducible exact H2_) | (have H2_ := (Option.bind_some _ _).symm.trans H; with_reducible exact H2_) | with_reducible exact H | (rw [hy105]; exact H) | exact H
             have Ny105 := Aside0.mk hy105
             clear hy105
             by_cases c12 : x5_2 < (y105.length : Int)
             ·rw [if_pos c12] at H
              have c12b0 : decide (x5_2 < (y105.length : Int)) = true := decide_eq_true c12
              clear c12
              obtain ⟨y109, hy109⟩ : ∃ y_ : List ByteArray, y_ = (y105.set (x5_2 : Int).toNat (rdOf ByteArray.empty l0 x4_1)) := ⟨_, rfl⟩
              replace H : (ostiaryref1_Sorted.l0 k2 l0 y109 (wrap64 (x4_1 + 1))) = some r := by first | (rw [hy109]; with_reducible exact H) | (have H2_ := (Option.bind_some _ _).symm.trans H; rw [hy109]; with_reducible exact H2_) | (have H2_ := (Option.bind_some _ _).symm.trans H; with_reducible exact H2_) | with_reducible exact H | (rw [hy109]; exact H) | exact H
              have Ny109 := Aside0.mk hy109
              clear hy109
              have H' := Aside0.mk H
              clear H
              obtain ⟨Ao14, co14, eo14⟩ := Kd.R_slice HO_3.out
              subst eo14
              have p101 : 0 ≤ (x5_2 : Int) := of_decide_eq_true aS
              have q101 : x5_2 < (x3_1.length : Int) := of_decide_eq_true aS
              obtain ⟨ad101, e101, hx101_0⟩ := Kd.at_string (Kd.R_reads' HO_3.out).2.2 x5_2 p101 q101
              cases e101
              replace p101 := eq_true p101
              replace q101 := eq_true q101
              have p102 : 0 ≤ (x4_1 : Int) := of_decide_eq_true aS
              have q102 : x4_1 < (l0.length : Int) := of_decide_eq_true aS
              obtain ⟨ad102, e102, hx102_0⟩ := Kd.at_string HR0.out x4_1 p102 q102
              cases e102
              replace hx102_0 := (HB.out.cell (World.block_lt_of_cell? w _ hx102_0)).trans hx102_0
              replace p102 := eq_true p102
              replace q102 := eq_true q102
              have p103 : 0 ≤ (x5_2 : Int) := of_decide_eq_true aS
              have q103 : x5_2 < (x3_1.length : Int) := of_decide_eq_true aS
              obtain ⟨ad103, e103, hx103_0⟩ := Kd.at_string (Kd.R_reads' HO_3.out).2.2 x5_2 p103 q103
              obtain rfl : ad101 = ad103 := (by injection e103)
              replace p103 := eq_true p103
              replace q103 := eq_true q103
              have p104 : 0 ≤ (x4_1 : Int) := of_decide_eq_true aS
              have q104 : x4_1 < (l0.length : Int) := of_decide_eq_true aS
              obtain ⟨ad104, e104, hx104_0⟩ := Kd.at_string HR0.out x4_1 p104 q104
              obtain rfl : ad102 = ad104 := (by injection e104)
              replace hx104_0 := (HB.out.cell (World.block_lt_of_cell? w _ hx104_0)).trans hx104_0
              replace p104 := eq_true p104
              replace q104 := eq_true q104
              go_wp2_with ((with_reducible refine gate_builtin (b := .append) (xs := #[.tmp 44, .tmp 45]) rfl ?_); at_builtin; refine Kd.R_append Kd.string (w0 := w) w.heap.size rfl (.tmp 44) (.tmp 45) 39 9 (.string ⟨#[]⟩) 16 rfl Tryz.underlying39 info9 rfl (by decide) (by omega) (.slice (some ad101) x3_1.length co14) x3_1 (⟨#[]⟩ : ByteArray) [.string (⟨#[]⟩ : ByteArray)] (fun _ => True) (fun _ => False) rfl rfl ?aP (fun _ hk => hk.elim) ?aF ?aO ?aB ?aS ?aL ?_; (case aP => exact rfl); (case aB => exact hB); (case aF => exact (fun _ _ => trivial)); (case aO => exact (by (with_reducible repeat (first | apply Kd.R_alloc | apply Kd.R_drewN | apply Kd.R_drew)); exact HO_3.out)); (case aS => exact (below_size hB)); (case aL => have := LMc11.out; omega); intro v106 w15 ho hb hg hat; have n0_ := Aside0.mk (hb); have n1_ := Aside0.mk (ho); clear HB; clear HO_3; have HB := n0_; have HO107 := n1_; clear n0_ n1_; clear ho hb hg hat)
              repeat (go_quiet (fail); try go_wp2_with ((with_reducible refine gate_builtin (b := .append) (xs := #[.tmp 44, .tmp 45]) rfl ?_); at_builtin; refine Kd.R_append Kd.string (w0 := w) w.heap.size rfl (.tmp 44) (.tmp 45) 39 9 (.string ⟨#[]⟩) 16 rfl Tryz.underlying39 info9 rfl (by decide) (by omega) (.slice (some ad101) x3_1.length co14) x3_1 (⟨#[]⟩ : ByteArray) [.string (⟨#[]⟩ : ByteArray)] (fun _ => True) (fun _ => False) rfl rfl ?aP (fun _ hk => hk.elim) ?aF ?aO ?aB ?aS ?aL ?_; (case aP => exact rfl); (case aB => exact hB); (case aF => exact (fun _ _ => trivial)); (case aO => exact (by (with_reducible repeat (first | apply Kd.R_alloc | apply Kd.R_drewN | apply Kd.R_drew)); exact HO_3.out)); (case aS => exact (below_size hB)); (case aL => have := LMc11.out; omega); intro v106 w15 ho hb hg hat; have n0_ := Aside0.mk (hb); have n1_ := Aside0.mk (ho); clear HB; clear HO_3; have HB := n0_; have HO107 := n1_; clear n0_ n1_; clear ho hb hg hat))
              have kp : 0 ≤ x5_2 := of_decide_eq_true aS
              have kq : x5_2 < (y105.length : Int) := of_decide_eq_true aS
              have kr : x5_2.toNat < (x3_1 ++ [(⟨#[]⟩ : ByteArray)]).length := shift_in kp (by rw [← Ny105.out]; exact kq)
              have kl : (x3_1 ++ [(⟨#[]⟩ : ByteArray)]).length = y105.length := by rw [Ny105.out]; exact (shiftL_len _ _ kr).symm
              obtain ⟨gS, cS, curS, eS, bS, hS, nS, lS, mS, cellS, putS⟩ := shift_law HO107.out (by simp)
              generalize hY : x3_1 ++ [(⟨#[]⟩ : ByteArray)] = Y at *
              rw [kl] at eS
              subst eS
              have kw : IntKind.i64.wrap (x5_2 + 1) = x5_2 + 1 := by have := mS; unfold maxLen at this; exact IntWalk.i64_in _ (by omega)
              have k1 : 0 ≤ x5_2 + 1 := by omega
              have k2 : x5_2 + 1 ≤ (y105.length : Int) := by omega
              have k3 : x5_2 ≤ (y105.length : Int) := by omega
              have hc2 : (cS = x5_2.toNat) = False := eq_false (by omega)
              go_still_tail 7, q9_
              change wpList _ _ _ _ _ w15.drew
              refine wpList_copy_splice rfl (.tmp 50) (.tmp 53) 39 39 rfl 9 Tryz.underlying39 q9_ _ _ _ _ _ _ rfl rfl gS (x5_2.toNat + 1) curS 9 hS (((Y.drop x5_2.toNat).take (Y.length - x5_2.toNat - 1)).map Value.string) ?hn ?hpos ?hfit ?h1 w.heap.size w (below_drew1 HB.out) bS ?_
              (case hn => simp only [List.length_map, List.length_take, List.length_drop]; show _ = min _ _; omega)
              (case hpos => exact shift_pos kp lS cellS)
              (case hfit => simp; omega)
              (case h1 => intro v hv; obtain ⟨x, _, rfl⟩ := List.mem_map.1 hv; rfl)
              intro wS hH hbS
              generalize (if cS = (x5_2 + 1).toNat then (some ⟨gS, 0, none⟩ : Option Addr) else some ⟨gS, (x5_2 + 1).toNat, none⟩) = adS
              have ho := putS x5_2 wS kr hH.out
              rw [← Ny105.out, kl] at ho
              have n0_ := Aside0.mk hbS
              have n1_ := Aside0.mk ho
              clear HO107 HB putS cellS hS ho hbS hH kw k1 k2 k3 hc2 kq kr kl lS mS nS
              have HO107 := n1_
              have HB := n0_
              clear n0_ n1_
              have p108 : 0 ≤ (x4_1 : Int) := of_decide_eq_true aS
              have q108 : x4_1 < (l0.length : Int) := of_decide_eq_true aS
              obtain ⟨ad108, e108, hx108_0⟩ := Kd.at_string HR0.out x4_1 p108 q108
              obtain rfl : ad102 = ad108 := (by injection e108)
              replace hx108_0 := (HB.out.cell (World.block_lt_of_cell? w _ hx108_0)).trans hx108_0
              replace p108 := eq_true p108
              replace q108 := eq_true q108
              have p13 : 0 ≤ (x5_2 : Int) := of_decide_eq_true aS
              have q13 : (x5_2 : Int) < ((y105.length : Int) : Int) := of_decide_eq_true aS
              obtain ⟨go13, co13, eo13, gb13, gl13, cl13, HG13⟩ := Kd.R_form HO107.out (by omega)
              (first | cases eo13 | (injection eo13 with ea_ en_ ec_; (first | subst ea_ | (injection ea_ with ea_; subst ea_)); subst ec_; clear en_))
              have GB13 := Aside0.mk gb13
              have GG13 := Aside0.mk HG13
              clear gb13 gl13 HG13
              obtain ⟨hx13_0, hf13_0⟩ := Kd.R_celln (⟨#[]⟩ : ByteArray) HO107.out (x5_2 : Int) p13 q13
              replace p13 := eq_true p13
              replace q13 := eq_true q13
              obtain ⟨hy16_, hz16_⟩ := Kd.R_celln (⟨#[]⟩ : ByteArray) HO107.out (x5_2 : Int) (of_decide_eq_true aS) (of_decide_eq_true aS)
              have HP16 := Kd.R_putg HO107.out (x5_2 : Int) (rdOf ByteArray.empty l0 x4_1)
              go_wp2_with (first | ((with_reducible refine gate_store (t := 9) (p := 61) rfl ?_); (try (rw [drewN_self wS]; generalize hq_ : World.drewN wS _ = wS; have n0_ := Aside0.mk (Kd.R_at hq_ HO107.out); have n1_ := Aside0.mk (below_at hq_ HB.out); clear hq_ HO107 HB; have HO107 := n0_; have HB := n1_; clear n0_ n1_; (try (obtain ⟨hy16_, hz16_⟩ := Kd.R_celln (⟨#[]⟩ : ByteArray) HO107.out (x5_2 : Int) (of_decide_eq_true aS) (of_decide_eq_true aS))); (try (have HP16 := Kd.R_putg HO107.out (x5_2 : Int) (rdOf ByteArray.empty l0 x4_1))))); refine store_event (t := 9) (p := 61) (v := ?vo_w17) (w1 := (wS.setCell ⟨gS, (x5_2 : Int).toNat, none⟩ (.string (rdOf ByteArray.empty l0 x4_1)))) ?hg ?ho ?hn ?hr ?_; (case ho => rfl); (case hg => rfl); (case hn => rfl); (case hr => first | (go_simp; done) | (go_simp; rfl)); intro w17 hw; have hg : wS.grownBy w17 (some gS) := (by rw [hw]; exact HP16.2); have hp_ : Kd.R Kd.string 9 w17 w.heap.size (fun _ => True) (.slice (some ⟨gS, 0, none⟩) y105.length cS) y109 := (by rw [hw, Ny109.out]; exact HP16.1); clear HP16; have n0_ := Aside0.mk (hp_); have n1_ := Aside0.mk ((by rw [hw]; exact below_set (HB.out) GB13.out : Below w.heap.size w w17)); clear HO107; clear HB; have HO107 := n0_; have HB := n1_; clear n0_ n1_; clear hg hw hp_))
              go_roundg k2
              case measure => have := HK1.out; have := HK2.out; omega
              case rel => exact ⟨(y109), (wrap64 (x4_1 + 1)), rS, H', ⟨by have := HK1.out; have := HK2.out; omega⟩, ⟨by (with_reducible repeat (first | apply Kd.R_alloc | apply Kd.R_drewN | apply Kd.R_drew)); exact HO107.out⟩, ⟨by repeat (first | (with_reducible first | exact HB.out | apply below_alloc | apply pw_below_drewN | apply below_drew1) | exact HB.out)⟩⟩
             ·rw [if_neg c12] at H
              exact absurd H (by simp)
            ·rw [if_neg c11] at H
             exact absurd H (by simp)
         ·rw [if_neg c6] at H
          exact absurd H (by simp)
        ·rw [if_neg c5] at H
         exact absurd H (by simp)
       ·rw [if_neg c4] at H
        exact absurd H (by simp)
      ·rw [if_neg c3] at H
       have c3b0 : decide (x5_2 < (x3_1.length : Int)) = false := decide_eq_false c3
       clear c3
       by_cases c18 : x3_1.length < 8796093022208
       ·rw [if_pos c18] at H
        have LMc18 := Aside0.mk c18
        clear c18
        obtain ⟨y110, hy110⟩ : ∃ y_ : List ByteArray, y_ = shiftL x5_2 (x3_1 ++ [(⟨#[]⟩ : ByteArray)]) := ⟨_, rfl⟩
        replace H : (if 0 ≤ x4_1 then (if x4_1 < (l0.length : Int) then (if 0 ≤ x5_2 then (if x5_2 < (y110.length : Int) then (ostiaryref1_Sorted.l0 k2 l0 (y110.set (x5_2 : Int).toNat (rdOf ByteArray.empty l0 x4_1)) (wrap64 (x4_1 + 1))) else (none)) else (none)) else (none)) else (none)) = some r := by first | (rw [hy110]; with_reducible exact H) | (have H2_ := (Option.bind_some _ _).symm.trans H; rw [hy110]; with_reducible exact H2_) | (have H2_ := (Option.bind_some _ _).symm.trans H; with_reducible exact H2_) | with_reducible exact H | (rw [hy110]; exact H) | exact H
        have Ny110 := Aside0.mk hy110
        clear hy110
        by_cases c19 : 0 ≤ x4_1
        ·rw [if_pos c19] at H
         have c19b0 : decide (0 ≤ x4_1) = true := decide_eq_true c19
         clear c19
         by_cases c20 : x4_1 < (l0.length : Int)
         ·rw [if_pos c20] at H
          have c20b0 : decide (x4_1 < (l0.length : Int)) = true := decide_eq_true c20
          clear c20
          by_cases c21 : 0 ≤ x5_2
          ·rw [if_pos c21] at H
           have c21b0 : decide (0 ≤ x5_2) = true := decide_eq_true c21
           clear c21
           by_cases c22 : x5_2 < (y110.length : Int)
           ·rw [if_pos c22] at H
            have c22b0 : decide (x5_2 < (y110.length : Int)) = true := decide_eq_true c22
            clear c22
            obtain ⟨y114, hy114⟩ : ∃ y_ : List ByteArray, y_ = (y110.set (x5_2 : Int).toNat (rdOf ByteArray.empty l0 x4_1)) := ⟨_, rfl⟩
            replace H : (ostiaryref1_Sorted.l0 k2 l0 y114 (wrap64 (x4_1 + 1))) = some r := by first | (rw [hy114]; with_reducible exact H) | (have H2_ := (Option.bind_some _ _).symm.trans H; rw [hy114]; with_reducible exact H2_) | (have H2_ := (Option.bind_some _ _).symm.trans H; with_reducible exact H2_) | with_reducible exact H | (rw [hy114]; exact H) | exact H
            have Ny114 := Aside0.mk hy114
            clear hy114
            have H' := Aside0.mk H
            clear H
            obtain ⟨Ao24, co24, eo24⟩ := Kd.R_slice HO_3.out
            subst eo24
            go_wp2_with ((with_reducible refine gate_builtin (b := .append) (xs := #[.tmp 44, .tmp 45]) rfl ?_); at_builtin; refine Kd.R_append Kd.string (w0 := w) w.heap.size rfl (.tmp 44) (.tmp 45) 39 9 (.string ⟨#[]⟩) 16 rfl Tryz.underlying39 info9 rfl (by decide) (by omega) (.slice Ao24 x3_1.length co24) x3_1 (⟨#[]⟩ : ByteArray) [.string (⟨#[]⟩ : ByteArray)] (fun _ => True) (fun _ => False) rfl rfl ?aP (fun _ hk => hk.elim) ?aF ?aO ?aB ?aS ?aL ?_; (case aP => exact rfl); (case aB => exact hB); (case aF => exact (fun _ _ => trivial)); (case aO => exact (by (with_reducible repeat (first | apply Kd.R_alloc | apply Kd.R_drewN | apply Kd.R_drew)); exact HO_3.out)); (case aS => exact (below_size hB)); (case aL => have := LMc18.out; omega); intro v111 w25 ho hb hg hat; have n0_ := Aside0.mk (hb); have n1_ := Aside0.mk (ho); clear HB; clear HO_3; have HB := n0_; have HO112 := n1_; clear n0_ n1_; clear ho hb hg hat)
            repeat (go_quiet (fail); try go_wp2_with ((with_reducible refine gate_builtin (b := .append) (xs := #[.tmp 44, .tmp 45]) rfl ?_); at_builtin; refine Kd.R_append Kd.string (w0 := w) w.heap.size rfl (.tmp 44) (.tmp 45) 39 9 (.string ⟨#[]⟩) 16 rfl Tryz.underlying39 info9 rfl (by decide) (by omega) (.slice Ao24 x3_1.length co24) x3_1 (⟨#[]⟩ : ByteArray) [.string (⟨#[]⟩ : ByteArray)] (fun _ => True) (fun _ => False) rfl rfl ?aP (fun _ hk => hk.elim) ?aF ?aO ?aB ?aS ?aL ?_; (case aP => exact rfl); (case aB => exact hB); (case aF => exact (fun _ _ => trivial)); (case aO => exact (by (with_reducible repeat (first | apply Kd.R_alloc | apply Kd.R_drewN | apply Kd.R_drew)); exact HO_3.out)); (case aS => exact (below_size hB)); (case aL => have := LMc18.out; omega); intro v111 w25 ho hb hg hat; have n0_ := Aside0.mk (hb); have n1_ := Aside0.mk (ho); clear HB; clear HO_3; have HB := n0_; have HO112 := n1_; clear n0_ n1_; clear ho hb hg hat))
            have kp : 0 ≤ x5_2 := of_decide_eq_true aS
            have kq : x5_2 < (y110.length : Int) := of_decide_eq_true aS
            have kr : x5_2.toNat < (x3_1 ++ [(⟨#[]⟩ : ByteArray)]).length := shift_in kp (by rw [← Ny110.out]; exact kq)
            have kl : (x3_1 ++ [(⟨#[]⟩ : ByteArray)]).length = y110.length := by rw [Ny110.out]; exact (shiftL_len _ _ kr).symm
            obtain ⟨gS, cS, curS, eS, bS, hS, nS, lS, mS, cellS, putS⟩ := shift_law HO112.out (by simp)
            generalize hY : x3_1 ++ [(⟨#[]⟩ : ByteArray)] = Y at *
            rw [kl] at eS
            subst eS
            have kw : IntKind.i64.wrap (x5_2 + 1) = x5_2 + 1 := by have := mS; unfold maxLen at this; exact IntWalk.i64_in _ (by omega)
            have k1 : 0 ≤ x5_2 + 1 := by omega
            have k2 : x5_2 + 1 ≤ (y110.length : Int) := by omega
            have k3 : x5_2 ≤ (y110.length : Int) := by omega
            have hc2 : (cS = x5_2.toNat) = False := eq_false (by omega)
            go_still_tail 7, q9_
            change wpList _ _ _ _ _ w25.drew
            refine wpList_copy_splice rfl (.tmp 50) (.tmp 53) 39 39 rfl 9 Tryz.underlying39 q9_ _ _ _ _ _ _ rfl rfl gS (x5_2.toNat + 1) curS 9 hS (((Y.drop x5_2.toNat).take (Y.length - x5_2.toNat - 1)).map Value.string) ?hn ?hpos ?hfit ?h1 w.heap.size w (below_drew1 HB.out) bS ?_
            (case hn => simp only [List.length_map, List.length_take, List.length_drop]; show _ = min _ _; omega)
            (case hpos => exact shift_pos kp lS cellS)
            (case hfit => simp; omega)
            (case h1 => intro v hv; obtain ⟨x, _, rfl⟩ := List.mem_map.1 hv; rfl)
            intro wS hH hbS
            generalize (if cS = (x5_2 + 1).toNat then (some ⟨gS, 0, none⟩ : Option Addr) else some ⟨gS, (x5_2 + 1).toNat, none⟩) = adS
            have ho := putS x5_2 wS kr hH.out
            rw [← Ny110.out, kl] at ho
            have n0_ := Aside0.mk hbS
            have n1_ := Aside0.mk ho
            clear HO112 HB putS cellS hS ho hbS hH kw k1 k2 k3 hc2 kq kr kl lS mS nS
            have HO112 := n1_
            have HB := n0_
            clear n0_ n1_
            have p113 : 0 ≤ (x4_1 : Int) := of_decide_eq_true aS
            have q113 : x4_1 < (l0.length : Int) := of_decide_eq_true aS
            obtain ⟨ad113, e113, hx113_0⟩ := Kd.at_string HR0.out x4_1 p113 q113
            cases e113
            replace hx113_0 := (HB.out.cell (World.block_lt_of_cell? w _ hx113_0)).trans hx113_0
            replace p113 := eq_true p113
            replace q113 := eq_true q113
            have p23 : 0 ≤ (x5_2 : Int) := of_decide_eq_true aS
            have q23 : (x5_2 : Int) < ((y110.length : Int) : Int) := of_decide_eq_true aS
            obtain ⟨go23, co23, eo23, gb23, gl23, cl23, HG23⟩ := Kd.R_form HO112.out (by omega)
            (first | cases eo23 | (injection eo23 with ea_ en_ ec_; (first | subst ea_ | (injection ea_ with ea_; subst ea_)); subst ec_; clear en_))
            have GB23 := Aside0.mk gb23
            have GG23 := Aside0.mk HG23
            clear gb23 gl23 HG23
            obtain ⟨hx23_0, hf23_0⟩ := Kd.R_celln (⟨#[]⟩ : ByteArray) HO112.out (x5_2 : Int) p23 q23
            replace p23 := eq_true p23
            replace q23 := eq_true q23
            obtain ⟨hy26_, hz26_⟩ := Kd.R_celln (⟨#[]⟩ : ByteArray) HO112.out (x5_2 : Int) (of_decide_eq_true aS) (of_decide_eq_true aS)
            have HP26 := Kd.R_putg HO112.out (x5_2 : Int) (rdOf ByteArray.empty l0 x4_1)
            go_wp2_with (first | ((with_reducible refine gate_store (t := 9) (p := 61) rfl ?_); (try (rw [drewN_self wS]; generalize hq_ : World.drewN wS _ = wS; have n0_ := Aside0.mk (Kd.R_at hq_ HO112.out); have n1_ := Aside0.mk (below_at hq_ HB.out); clear hq_ HO112 HB; have HO112 := n0_; have HB := n1_; clear n0_ n1_; (try (obtain ⟨hy26_, hz26_⟩ := Kd.R_celln (⟨#[]⟩ : ByteArray) HO112.out (x5_2 : Int) (of_decide_eq_true aS) (of_decide_eq_true aS))); (try (have HP26 := Kd.R_putg HO112.out (x5_2 : Int) (rdOf ByteArray.empty l0 x4_1))))); refine store_event (t := 9) (p := 61) (v := ?vo_w27) (w1 := (wS.setCell ⟨gS, (x5_2 : Int).toNat, none⟩ (.string (rdOf ByteArray.empty l0 x4_1)))) ?hg ?ho ?hn ?hr ?_; (case ho => rfl); (case hg => rfl); (case hn => rfl); (case hr => first | (go_simp; done) | (go_simp; rfl)); intro w27 hw; have hg : wS.grownBy w27 (some gS) := (by rw [hw]; exact HP26.2); have hp_ : Kd.R Kd.string 9 w27 w.heap.size (fun _ => True) (.slice (some ⟨gS, 0, none⟩) y110.length cS) y114 := (by rw [hw, Ny114.out]; exact HP26.1); clear HP26; have n0_ := Aside0.mk (hp_); have n1_ := Aside0.mk ((by rw [hw]; exact below_set (HB.out) GB23.out : Below w.heap.size w w27)); clear HO112; clear HB; have HO112 := n0_; have HB := n1_; clear n0_ n1_; clear hg hw hp_))
            go_roundg k2
            case measure => have := HK1.out; have := HK2.out; omega
            case rel => exact ⟨(y114), (wrap64 (x4_1 + 1)), rS, H', ⟨by have := HK1.out; have := HK2.out; omega⟩, ⟨by (with_reducible repeat (first | apply Kd.R_alloc | apply Kd.R_drewN | apply Kd.R_drew)); exact HO112.out⟩, ⟨by repeat (first | (with_reducible first | exact HB.out | apply below_alloc | apply pw_below_drewN | apply below_drew1) | exact HB.out)⟩⟩
           ·rw [if_neg c22] at H
            exact absurd H (by simp)
          ·rw [if_neg c21] at H
           exact absurd H (by simp)
         ·rw [if_neg c20] at H
          exact absurd H (by simp)
        ·rw [if_neg c19] at H
         exact absurd H (by simp)
       ·rw [if_neg c18] at H
        exact absurd H (by simp)
   ·rw [if_neg c2] at H
    have c2b0 : decide (x4_1 < (l0.length : Int)) = false := decide_eq_false c2
    clear c2
    obtain rfl := Option.some.inj H
    go_wp2
    repeat (go_quiet (fail); try go_wp2)
    go_ret
    exact ⟨_, by first | rfl | (simp [errW_none, errW_some] <;> rfl) | (simp [*, errW_none, errW_some] <;> rfl), by (with_reducible repeat (first | apply Kd.R_alloc | apply Kd.R_drewN | apply Kd.R_drew)); exact HO_3.out, by repeat (first | (with_reducible first | exact HB.out | apply below_alloc | apply pw_below_drewN | apply below_drew1) | exact HB.out)⟩
end Go.Proofs.YtifmkgkiipckbaaGreatDoor.P
