/- A part of the proof of FS: texts of walks and plain lemmas. -/
import Derived.Test.YtifmkgkiipckbaaGreatDoorXFS9
import Derived.Test.YtifmkgkiipckbaaGreatDoorXFS1
import Derived.Test.YtifmkgkiipckbaaGreatDoorXFS8
namespace Go.Proofs.YtifmkgkiipckbaaGreatDoor.P
open Go.RowKit Go.Proofs.YtifmkgkiipckbaaGreatDoorW.PrintWords Go.Proofs.YtifmkgkiipckbaaGreatDoorW.PrintLast Go.Proofs.YtifmkgkiipckbaaGreatDoorW.PrintMore
set_option linter.unusedVariables false
set_option linter.unusedSimpArgs false
abbrev tokSet : List UInt8 := [33, 35, 36, 37, 38, 39, 42, 43, 45, 46, 94, 95, 96, 124, 126]
def idxC (c : Int) : Int := Lib.indexByte tokSet c.toNat.toUInt8
def tokZ (c : Int) : Bool := (decide (97 ≤ c) && decide (c ≤ 122)) || (decide (65 ≤ c) && decide (c ≤ 90)) || (decide (48 ≤ c) && decide (c ≤ 57)) || !decide (idxC c < 0)
theorem iTok_step (k : Nat) (s : ByteArray) (i : Nat) (h : i < s.size) (hs : s.size ≤ 1000000) :
  infra_Token.l0 (k + 1) s (s.size : Int) (i : Int) = if tokZ (bt s i) = true then infra_Token.l0 k s (s.size : Int) ((i + 1 : Nat) : Int) else some false := by
 conv => lhs; unfold infra_Token.l0
 have hw : wrap64 ((i : Int) + 1) = ((i + 1 : Nat) : Int) := by unfold wrap64; omega
 rw [if_pos (by omega), if_pos (by omega), if_pos (by omega), hw]
 generalize infra_Token.l0 k s (s.size : Int) ((i + 1 : Nat) : Int) = R
 generalize bt s (i : Int) = c
 have hi : strings_IndexByte.f (⟨#[33, 35, 36, 37, 38, 39, 42, 43, 45, 46, 94, 95, 96, 124, 126]⟩ : ByteArray) c = some (idxC c) := rfl
 rw [hi]
 simp only [Option.bind_some, ge_iff_le]
 unfold tokZ
 by_cases a1 : 97 ≤ c <;> by_cases a2 : c ≤ 122 <;> by_cases a3 : 65 ≤ c <;> by_cases a4 : c ≤ 90 <;> by_cases a5 : 48 ≤ c <;> by_cases a6 : c ≤ 57 <;> by_cases a7 : idxC c < 0 <;> simp [a1, a2, a3, a4, a5, a6, a7]
def tokFrom (s : ByteArray) (i : Nat) : Bool := (s.data.toList.drop i).all fun c => tokZ c.toNat
theorem tokFrom_step (s : ByteArray) (i : Nat) (h : i < s.size) : tokFrom s i = (tokZ (bt s i) && tokFrom s (i + 1)) := by
 have hl : i < s.data.toList.length := by rw [Array.length_toList]; exact h
 unfold tokFrom
 rw [List.drop_eq_getElem_cons hl, List.all_cons]
 congr 2
 have := ofL_bt s.data.toList i hl
 rw [ofL_data] at this
 exact this.symm
theorem iTok_is (s : ByteArray) (hs : s.size ≤ 1000000) : ∀ (d k i : Nat), s.size - i = d → i ≤ s.size → d + 1 ≤ k → infra_Token.l0 k s (s.size : Int) (i : Int) = some (tokFrom s i && !s.toList.isEmpty)
 | 0, k, i, hd, hi, hk => by
  obtain ⟨k, rfl⟩ : ∃ j, k = j + 1 := ⟨k - 1, by omega⟩
  have ht : tokFrom s i = true := by
   unfold tokFrom
   rw [List.drop_of_length_le (by rw [Array.length_toList]; show s.size ≤ i; omega)]
   rfl
  rw [ht]
  unfold infra_Token.l0
  rw [if_neg (by omega)]
  cases h : s.toList <;> rfl
 | d + 1, k, i, hd, hi, hk => by
  obtain ⟨k, rfl⟩ : ∃ j, k = j + 1 := ⟨k - 1, by omega⟩
  rw [iTok_step k s i (by omega) hs, tokFrom_step s i (by omega)]
  have I := iTok_is s hs d k (i + 1) (by omega) (by omega) (by omega)
  by_cases h : tokZ (bt s i) = true
  ·rw [if_pos h, I, h, Bool.true_and]
  ·rw [if_neg h]
   rw [Bool.not_eq_true] at h
   rw [h]
   rfl
theorem setAt (m : Nat) (h : m < 15) : bt (⟨#[33, 35, 36, 37, 38, 39, 42, 43, 45, 46, 94, 95, 96, 124, 126]⟩ : ByteArray) (m : Int) = ((tokSet[m]'h).toNat : Int) := ofL_bt tokSet m h
theorem rTok_set (s : ByteArray) (y c : Int) (hy : wrap64 (y + 1) = y + 1) (k : Nat) : ∀ (d m : Nat) (b : Bool), 15 - m = d → m ≤ 15 →
  ostiaryref1_Token.l1 (k + d + 1) s y c b (m : Int) = if (b || (tokSet.drop m).any (fun x => c == (x.toNat : Int))) = true then ostiaryref1_Token.l0 k s (y + 1) else some false
 | 0, m, b, hd, hm => by
  obtain rfl : m = 15 := by omega
  unfold ostiaryref1_Token.l1
  rw [if_neg (by decide), hy]
  simp
 | d + 1, m, b, hd, hm => by
  have hlt : m < tokSet.length := by simp only [List.length_cons, List.length_nil]; omega
  have hw : wrap64 ((m : Int) + 1) = ((m + 1 : Nat) : Int) := by unfold wrap64; omega
  unfold ostiaryref1_Token.l1
  rw [if_pos (by omega), hw, List.drop_eq_getElem_cons hlt, List.any_cons]
  cases b with
  | true =>
   rw [if_pos rfl, show k + (d + 1) = k + d + 1 by omega, rTok_set s y c hy k d (m + 1) true (by omega) (by omega)]
   simp
  | false =>
   rw [if_neg (by decide), if_pos (by omega), setAt m (by omega), show k + (d + 1) = k + d + 1 by omega, rTok_set s y c hy k d (m + 1) _ (by omega) (by omega)]
   simp
theorem tokZ_is (c : UInt8) : ∃ a b, ostiaryref1_Letter.f (c.toNat : Int) = some a ∧ ostiaryref1_Digit.f (c.toNat : Int) = some b ∧ (if a = true then true else b || tokSet.any (fun x => (c.toNat : Int) == (x.toNat : Int))) = tokZ c.toNat := by
 have : (List.range 256).all (fun n => match ostiaryref1_Letter.f ((UInt8.ofNat n).toNat : Int), ostiaryref1_Digit.f ((UInt8.ofNat n).toNat : Int) with | some a, some b => (if a = true then true else b || tokSet.any (fun x => ((UInt8.ofNat n).toNat : Int) == (x.toNat : Int))) == tokZ (UInt8.ofNat n).toNat | _, _ => false) = true := by decide +kernel
 have h := List.all_eq_true.1 this c.toNat (List.mem_range.2 c.toNat_lt)
 simp only [UInt8.ofNat_toNat] at h
 cases ha : ostiaryref1_Letter.f (c.toNat : Int) with
 | none => simp [ha] at h
 | some a =>
  cases hb : ostiaryref1_Digit.f (c.toNat : Int) with
  | none => simp [ha, hb] at h
  | some b =>
   simp only [ha, hb] at h
   exact ⟨a, b, rfl, rfl, by simpa using h⟩
theorem rTok_is (s : ByteArray) (hs : s.size ≤ 100000) : ∀ (d k i : Nat), s.size - i = d → i ≤ s.size → 18 * d + 1 ≤ k → ostiaryref1_Token.l0 k s (i : Int) = some (tokFrom s i && !s.toList.isEmpty)
 | 0, k, i, hd, hi, hk => by
  obtain ⟨k, rfl⟩ : ∃ j, k = j + 1 := ⟨k - 1, by omega⟩
  have ht : tokFrom s i = true := by
   unfold tokFrom
   rw [List.drop_of_length_le (by rw [Array.length_toList]; show s.size ≤ i; omega)]
   rfl
  rw [ht]
  unfold ostiaryref1_Token.l0
  rw [if_neg (by omega), Bool.true_and]
  have hl : s.toList.length = s.size := by rw [ByteArray.toList_eq, Array.length_toList]; rfl
  cases h : s.toList with
  | nil =>
   rw [h] at hl
   simp at hl
   rw [← hl]
   rfl
  | cons a r =>
   rw [h] at hl
   simp only [List.length_cons] at hl
   congr 1
   exact decide_eq_true (by omega)
 | d + 1, k, i, hd, hi, hk => by
  obtain ⟨k, rfl⟩ : ∃ j, k = (j + 15 + 1) + 1 + 1 := ⟨k - 18, by omega⟩
  have hl : i < s.data.toList.length := by rw [Array.length_toList]; show i < s.size; omega
  have hbt := ofL_bt s.data.toList i hl
  rw [ofL_data] at hbt
  rw [tokFrom_step s i (by omega)]
  have I := rTok_is s hs d k (i + 1) (by omega) (by omega) (by omega)
  have hw : wrap64 ((i : Int) + 1) = (i : Int) + 1 := by unfold wrap64; omega
  obtain ⟨a, b, ha, hb, hab⟩ := tokZ_is s.data.toList[i]
  have R := fun (c : Int) (f : Bool) => rTok_set s i c hw k 15 0 f rfl (by omega)
  unfold ostiaryref1_Token.l0
  rw [if_pos (by omega), if_pos (by omega), hbt, ha]
  simp only [Option.bind_some]
  have J : ∀ f : Bool, (f || tokSet.any (fun x => (s.data.toList[i].toNat : Int) == (x.toNat : Int))) = tokZ s.data.toList[i].toNat → ostiaryref1_Token.j1 (k + 15 + 1 + 1) s i s.data.toList[i].toNat f = some (tokZ s.data.toList[i].toNat && tokFrom s (i + 1) && !s.toList.isEmpty) := by
   intro f hf
   unfold ostiaryref1_Token.j1
   have := R (s.data.toList[i].toNat : Int) f
   rw [show ((0 : Nat) : Int) = 0 from rfl, List.drop_zero] at this
   rw [this, hf]
   have I' : ostiaryref1_Token.l0 k s ((i : Int) + 1) = some (tokFrom s (i + 1) && !s.toList.isEmpty) := I
   rw [I']
   cases tokZ s.data.toList[i].toNat <;> rfl
  by_cases h : a = true
  ·rw [if_pos h] at hab ⊢
   exact J true (by rw [Bool.true_or]; exact hab)
  ·rw [if_neg h] at hab ⊢
   rw [hb]
   simp only [Option.bind_some]
   exact J b hab
theorem rToken_eq (s : ByteArray) (hs : s.size ≤ 10000) (k j : Nat) (hk : 200000 ≤ k) (hj : 20000 ≤ j) : ostiaryref1_Token.f k s = infra_Token.f j s := by
 unfold ostiaryref1_Token.f infra_Token.f
 have h1 := rTok_is s (by omega) s.size k 0 (by omega) (by omega) (by omega)
 have h2 := iTok_is s (by omega) s.size j 0 (by omega) (by omega) (by omega)
 exact h1.trans h2.symm
theorem shiftL_put (A B : List ByteArray) (e x : ByteArray) : (shiftL (A.length : Int) ((A ++ B) ++ [e])).set A.length x = A ++ x :: B := by
 unfold shiftL
 rw [Int.toNat_natCast, List.append_assoc, List.take_append, List.take_of_length_le (by omega), List.drop_append, List.drop_of_length_le (Nat.le_refl _), List.nil_append, Nat.sub_self, List.drop_zero, show A.length + 1 - A.length = 1 by omega]
 have : (B ++ [e]).take ((A ++ (B ++ [e])).length - A.length - 1) = B := by
  rw [show (A ++ (B ++ [e])).length - A.length - 1 = B.length by simp only [List.length_append, List.length_cons, List.length_nil]; omega]
  simp
 rw [this, List.append_assoc, List.set_append_right _ _ (Nat.le_refl _), Nat.sub_self]
 cases B <;> rfl
theorem shiftL_mem (k : Nat) (q : List ByteArray) (x y : ByteArray) (hk : k ≤ q.length) : y ∈ (shiftL (k : Int) (q ++ [⟨#[]⟩])).set k x ↔ y = x ∨ y ∈ q := by
 have h : (shiftL (k : Int) (q ++ [⟨#[]⟩])).set k x = q.take k ++ x :: q.drop k := by
  have := shiftL_put (q.take k) (q.drop k) ⟨#[]⟩ x
  rw [List.take_append_drop, List.length_take, Nat.min_eq_left hk] at this
  exact this
 rw [h, List.mem_append, List.mem_cons]
 have : y ∈ q ↔ y ∈ q.take k ∨ y ∈ q.drop k := by
  conv => lhs; rw [← List.take_append_drop k q]
  exact List.mem_append
 rw [this]
 constructor
 ·rintro (h | h | h)
  ·exact .inr (.inl h)
  ·exact .inl h
  ·exact .inr (.inr h)
 ·rintro (h | h | h)
  ·exact .inr (.inl h)
  ·exact .inl h
  ·exact .inr (.inr h)
theorem Sorted_run (l : List ByteArray) (hl : l.length ≤ 100000) : ∀ k,
  (∀ (i : Nat) (q : List ByteArray), i ≤ l.length → q.length ≤ i → (∀ y, y ∈ q ↔ y ∈ l.take i) → 100010 * (l.length - i) + 2 ≤ k → ∃ r, ostiaryref1_Sorted.l0 k l q (i : Int) = some r ∧ r.length ≤ l.length ∧ ∀ y, y ∈ r ↔ y ∈ l) ∧
  (∀ (i m : Nat) (q : List ByteArray), i < l.length → q.length ≤ i → m ≤ q.length → (∀ y, y ∈ q ↔ y ∈ l.take i) → 100010 * (l.length - i - 1) + (q.length - m) + 4 ≤ k → ∃ r, ostiaryref1_Sorted.l1 k l q (i : Int) (m : Int) = some r ∧ r.length ≤ l.length ∧ ∀ y, y ∈ r ↔ y ∈ l) := by
 intro k
 induction k using Nat.strongRecOn with
 | _ k ih =>
 refine ⟨fun i q hi hq hm hk => ?_, fun i m q hi hq hmq hm hk => ?_⟩
 ·obtain ⟨k, rfl⟩ : ∃ j, k = j + 1 := ⟨k - 1, by omega⟩
  unfold ostiaryref1_Sorted.l0
  by_cases hlt : i < l.length
  ·rw [if_pos (by omega)]
   exact (ih k (by omega)).2 i 0 q hlt hq (Nat.zero_le _) hm (by omega)
  ·rw [if_neg (by omega)]
   exact ⟨q, rfl, by omega, fun y => by rw [hm y, List.take_of_length_le (by omega)]⟩
 ·obtain ⟨k, rfl⟩ : ∃ j, k = j + 1 := ⟨k - 1, by omega⟩
  have hxi : rdOf ByteArray.empty l (i : Int) = l[i] := by
   unfold rdOf
   rw [Int.toNat_natCast, List.getD_eq_getElem?_getD, List.getElem?_eq_getElem hi]
   rfl
  have hw : wrap64 ((i : Int) + 1) = ((i + 1 : Nat) : Int) := by unfold wrap64; omega
  have hw2 : wrap64 ((m : Int) + 1) = ((m + 1 : Nat) : Int) := by unfold wrap64; omega
  have hsnoc := take_snoc_at l i hi
  have INS : ∃ r, ostiaryref1_Sorted.l0 k l ((shiftL (m : Int) (q ++ [⟨#[]⟩])).set m l[i]) ((i + 1 : Nat) : Int) = some r ∧ r.length ≤ l.length ∧ ∀ y, y ∈ r ↔ y ∈ l := by
   refine (ih k (by omega)).1 (i + 1) _ (by omega) ?_ (fun y => ?_) (by omega)
   ·rw [List.length_set, shiftL_len _ _ (by simp; omega), List.length_append, List.length_cons, List.length_nil]
    omega
   ·rw [shiftL_mem m q _ y hmq, hm y, hsnoc, List.mem_append, List.mem_singleton]
    exact Or.comm
  have hlen : ((shiftL (m : Int) (q ++ [⟨#[]⟩])).length : Int) = q.length + 1 := by rw [shiftL_len _ _ (by simp; omega), List.length_append]; rfl
  unfold ostiaryref1_Sorted.l1
  rw [hw, hw2, hxi]
  by_cases hlt : m < q.length
  ·rw [if_pos (by omega), if_pos (by omega), if_pos (by omega), if_pos (by omega)]
   have hqm : rdOf ByteArray.empty q (m : Int) = q[m] := by
    unfold rdOf
    rw [Int.toNat_natCast, List.getD_eq_getElem?_getD, List.getElem?_eq_getElem hlt]
    rfl
   rw [hqm]
   by_cases hless : Op.bytesLess q[m].toList l[i].toList = true
   ·rw [if_pos hless]
    exact (ih k (by omega)).2 i (m + 1) q hi hq (by omega) hm (by omega)
   ·rw [if_neg hless]
    by_cases heq : q[m].toList = l[i].toList
    ·rw [if_pos heq]
     refine (ih k (by omega)).1 (i + 1) q (by omega) (by omega) (fun y => ?_) (by omega)
     have he := str_inj heq
     have hin : l[i] ∈ q := he ▸ List.getElem_mem hlt
     rw [hsnoc, List.mem_append, List.mem_singleton, ← hm y]
     constructor
     ·exact .inl
     ·rintro (h | rfl)
      ·exact h
      ·exact hin
    ·rw [if_neg heq, if_pos (by omega)]
     simp only [Option.bind_some]
     rw [if_pos (by rw [hlen]; omega), Int.toNat_natCast]
     exact INS
  ·rw [if_neg (by omega), if_pos (by omega)]
   simp only [Option.bind_some]
   rw [if_pos (by omega), if_pos (by omega), if_pos (by omega), if_pos (by rw [hlen]; omega), Int.toNat_natCast]
   exact INS
end Go.Proofs.YtifmkgkiipckbaaGreatDoor.P
namespace Go.Proofs.YtifmkgkiipckbaaGreatDoor.P
open Go.RowKit Go.Proofs.YtifmkgkiipckbaaGreatDoorW.PrintWords Go.Proofs.YtifmkgkiipckbaaGreatDoorW.PrintLast Go.Proofs.YtifmkgkiipckbaaGreatDoorW.PrintMore
attribute [local go_sem] max2_int min2_int max_two min_two max_three min_three max_four min_four
set_option linter.unusedVariables false
set_option linter.unusedSimpArgs false
def ostiaryref1_Has.l0 : Nat → List ByteArray → ByteArray → Int → Option (Bool)
 | 0, _, _, _ => none
 | k + 1, x0, x1, x5 => if x5 < (x0.length : Int) then (if 0 ≤ x5 then (if (rdOf ByteArray.empty x0 x5).toList = x1.toList then (some true) else (ostiaryref1_Has.l0 k x0 x1 (wrap64 (x5 + 1)))) else (none)) else (some false)
def ostiaryref1_Has.f (k : Nat) (l0 : List ByteArray) (a1 : ByteArray) : Option (Bool) := ostiaryref1_Has.l0 k l0 a1 0
theorem ostiaryref1_Has.mono_l : ∀ k, (∀ y0 y1 y2, LeO (ostiaryref1_Has.l0 k y0 y1 y2) (ostiaryref1_Has.l0 (k + 1) y0 y1 y2))
 | 0 => fun _ _ _ r h => by simp [ostiaryref1_Has.l0] at h
 | k + 1 => by
  have ih0 := ostiaryref1_Has.mono_l k
  ·intro y0 y1 y2
   unfold ostiaryref1_Has.l0
   exact lO
theorem ostiaryref1_Has.mono : ∀ a0 a1 k, LeO (ostiaryref1_Has.f k a0 a1) (ostiaryref1_Has.f (k + 1) a0 a1) := by
 intro a0 a1 k
 have ih0 := ostiaryref1_Has.mono_l k
 unfold ostiaryref1_Has.f
 exact lO
set_option maxHeartbeats 8000000 in
set_option maxRecDepth 100000 in
theorem ostiaryref1_Has.calls (k : Nat) (A0 : Option Addr) (c0 : Nat) (l0 : List ByteArray) (a1 : ByteArray) (r : Bool) (w : World) (hr0 : Kd.C Kd.string w A0 l0.length l0) (hc0 : l0.length ≤ c0) (h : ostiaryref1_Has.f k l0 a1 = some r) :
  Calls Tryz.prog 101 #[.slice A0 l0.length c0, .string a1] w fun e w' => e = .returned (.bool r) ∧ Drawn0 w w' := by
 have HR0 := Aside0.mk hr0
 have HC0 := Aside0.mk hc0
 clear hr0 hc0
 have H : (ostiaryref1_Has.l0 k l0 a1 0) = some r := h
 clear h
 have H' := Aside0.mk H
 clear H
 go_enter Tryz.func101, Tryz.ntmps101
 go_wp2
 go_loopg [5] k (fun kq v5 w' => ∃ (x5_1 : Int), v5 = .int .i64 x5_1 ∧ Aside0 (ostiaryref1_Has.l0 kq l0 a1 x5_1 = some r) ∧ Aside0 (kq ≤ k) ∧ Drawn0 w w')
 case atStart => exact ⟨(0), rS, H', ⟨Nat.le_refl _⟩, by repeat (first | exact Drawn0.refl _ | apply Drawn0.step)⟩
 case round =>
  clear H'
  try clear c1
  try clear p2
  obtain ⟨x5_1, rfl, HA, HK1, ⟨m1, rfl⟩⟩ := hrel
  cases gk with
  | zero => exact absurd HA.out (by simp [ostiaryref1_Has.l0])
  | succ k1 =>
   have H := HA.out
   clear HA
   simp only [ostiaryref1_Has.l0] at H
   by_cases c3 : x5_1 < (l0.length : Int)
   ·rw [if_pos c3] at H
    have c3b0 : decide (x5_1 < (l0.length : Int)) = true := decide_eq_true c3
    clear c3
    by_cases c4 : 0 ≤ x5_1
    ·rw [if_pos c4] at H
     have c4b0 : decide (0 ≤ x5_1) = true := decide_eq_true c4
     clear c4
     by_cases c5 : (rdOf ByteArray.empty l0 x5_1).toList = a1.toList
     ·rw [if_pos c5] at H
      have c5b0 : ((rdOf ByteArray.empty l0 x5_1).toList == a1.toList) = true := beq_iff_eq.mpr c5
      have c5b1 : ((rdOf ByteArray.empty l0 x5_1).toList != a1.toList) = false := bne_eq_false_iff_eq.mpr c5
      clear c5
      obtain rfl := Option.some.inj H
      have p144 : 0 ≤ (x5_1 : Int) := of_decide_eq_true aS
      have q144 : x5_1 < (l0.length : Int) := of_decide_eq_true aS
      obtain ⟨ad144, e144, hx144_0⟩ := Kd.at_string HR0.out x5_1 p144 q144
      cases e144
      replace p144 := eq_true p144
      replace q144 := eq_true q144
      go_wp2
      go_ret
      exact ⟨rS, by repeat (first | exact Drawn0.refl _ | apply Drawn0.step)⟩
     ·rw [if_neg c5] at H
      have c5b0 : ((rdOf ByteArray.empty l0 x5_1).toList == a1.toList) = false := beq_eq_false_iff_ne.mpr c5
      have c5b1 : ((rdOf ByteArray.empty l0 x5_1).toList != a1.toList) = true := bne_iff_ne.mpr c5
      have H' := Aside0.mk H
      clear H
      have p144 : 0 ≤ (x5_1 : Int) := of_decide_eq_true aS
      have q144 : x5_1 < (l0.length : Int) := of_decide_eq_true aS
      obtain ⟨ad144, e144, hx144_0⟩ := Kd.at_string HR0.out x5_1 p144 q144
      cases e144
      replace p144 := eq_true p144
      replace q144 := eq_true q144
      go_wp2
      go_roundg k1
      case measure => have := HK1.out; omega
      case rel => exact ⟨(wrap64 (x5_1 + 1)), rS, H', ⟨by have := HK1.out; omega⟩, by repeat (first | exact Drawn0.refl _ | apply Drawn0.step)⟩
    ·rw [if_neg c4] at H
     exact absurd H (by simp)
   ·rw [if_neg c3] at H
    have c3b0 : decide (x5_1 < (l0.length : Int)) = false := decide_eq_false c3
    clear c3
    obtain rfl := Option.some.inj H
    go_wp2
    go_ret
    exact ⟨rS, by repeat (first | exact Drawn0.refl _ | apply Drawn0.step)⟩
end Go.Proofs.YtifmkgkiipckbaaGreatDoor.P
namespace Go.Proofs.YtifmkgkiipckbaaGreatDoor.P
open Go.RowKit Go.Proofs.YtifmkgkiipckbaaGreatDoorW.PrintWords Go.Proofs.YtifmkgkiipckbaaGreatDoorW.PrintLast Go.Proofs.YtifmkgkiipckbaaGreatDoorW.PrintMore
attribute [local go_sem] max2_int min2_int max_two min_two max_three min_three max_four min_four
set_option linter.unusedVariables false
set_option linter.unusedSimpArgs false
mutual
def ostiaryref18_Exposed.l0 : Nat → Bool → List ByteArray → List ByteArray → Int → Option (List ByteArray × Bool)
 | 0, _, _, _, _ => none
 | k + 1, x1, x6, x8, x9 => if x9 < (x6.length : Int) then (if 0 ≤ x9 then (if (rdOf ByteArray.empty x6 x9).toList = ([42] : List UInt8) then (ostiaryref18_Exposed.j1 k x1 x6 x8 x9 (!x1)) else (ostiaryref18_Exposed.j1 k x1 x6 x8 x9 false)) else (none)) else ((ostiaryref1_Sorted.f k x8).bind fun t166 => (some (t166, false)))
def ostiaryref18_Exposed.j1 : Nat → Bool → List ByteArray → List ByteArray → Int → Bool → Option (List ByteArray × Bool)
 | 0, _, _, _, _, _ => none
 | k + 1, x1, x6, x8, x9, x29 => if x29 = true then (some (([] : List ByteArray), true)) else (if 0 ≤ x9 then (if x9 < (x6.length : Int) then ((ostiaryref1_Token.f k (rdOf ByteArray.empty x6 x9)).bind fun t171 => (if t171 = true then ((ostiaryref1_Lower.f (rdOf ByteArray.empty x6 x9)).bind fun t173 => (if x8.length < 8796093022208 then (ostiaryref18_Exposed.l0 k x1 x6 (x8 ++ [t173]) (wrap64 (x9 + 1))) else (none))) else (ostiaryref18_Exposed.l0 k x1 x6 x8 (wrap64 (x9 + 1))))) else (none)) else (none))
end
def ostiaryref18_Exposed.f (k : Nat) (l0 : List (S30)) (a1 : Bool) : Option (List ByteArray × Bool) := (ostiaryref5_Split.f k l0 (⟨#[97, 99, 99, 101, 115, 115, 45, 99, 111, 110, 116, 114, 111, 108, 45, 101, 120, 112, 111, 115, 101, 45, 104, 101, 97, 100, 101, 114, 115]⟩ : ByteArray)).bind fun bt162 => (ostiaryref18_Exposed.l0 k a1 bt162.1 ([] : List ByteArray) 0)
theorem ostiaryref18_Exposed.mono_l : ∀ k, (∀ y0 y1 y2 y3, LeO (ostiaryref18_Exposed.l0 k y0 y1 y2 y3) (ostiaryref18_Exposed.l0 (k + 1) y0 y1 y2 y3)) ∧ (∀ y0 y1 y2 y3 y4, LeO (ostiaryref18_Exposed.j1 k y0 y1 y2 y3 y4) (ostiaryref18_Exposed.j1 (k + 1) y0 y1 y2 y3 y4))
 | 0 => ⟨fun _ _ _ _ r h => by simp [ostiaryref18_Exposed.l0] at h, fun _ _ _ _ _ r h => by simp [ostiaryref18_Exposed.j1] at h⟩
 | k + 1 => by
  obtain ⟨ih0, ih1⟩ := ostiaryref18_Exposed.mono_l k
  refine ⟨?_, ?_⟩
  ·intro y0 y1 y2 y3
   unfold ostiaryref18_Exposed.l0
   repeat' first
   | (with_reducible exact ih0 _ _ _ _)
   | (with_reducible exact ih1 _ _ _ _ _)
   | (with_reducible exact ostiaryref1_Sorted.mono _ _)
   | (with_reducible exact ostiaryref1_Token.mono _ _)
   | (with_reducible exact ostiaryref5_Split.mono _ _ _)
   | (with_reducible exact LeO.refl _)
   | (with_reducible exact LeO.none _)
   | (with_reducible refine LeO.ite ?_ ?_)
   | (with_reducible refine LeO.bind ?_ (fun _ => ?_))
   | exact ih0 _ _ _ _
   | exact ih1 _ _ _ _ _
   | exact ostiaryref1_Sorted.mono _ _
   | exact ostiaryref1_Token.mono _ _
   | exact ostiaryref5_Split.mono _ _ _
   | exact LeO.none _
   | refine LeO.ite ?_ ?_
   | refine LeO.bind ?_ (fun _ => ?_)
  ·intro y0 y1 y2 y3 y4
   unfold ostiaryref18_Exposed.j1
   repeat' first
   | (with_reducible exact ih0 _ _ _ _)
   | (with_reducible exact ih1 _ _ _ _ _)
   | (with_reducible exact ostiaryref1_Sorted.mono _ _)
   | (with_reducible exact ostiaryref1_Token.mono _ _)
   | (with_reducible exact ostiaryref5_Split.mono _ _ _)
   | (with_reducible exact LeO.refl _)
   | (with_reducible exact LeO.none _)
   | (with_reducible refine LeO.ite ?_ ?_)
   | (with_reducible refine LeO.bind ?_ (fun _ => ?_))
   | exact ih0 _ _ _ _
   | exact ih1 _ _ _ _ _
   | exact ostiaryref1_Sorted.mono _ _
   | exact ostiaryref1_Token.mono _ _
   | exact ostiaryref5_Split.mono _ _ _
   | exact LeO.none _
   | refine LeO.ite ?_ ?_
   | refine LeO.bind ?_ (fun _ => ?_)
theorem ostiaryref18_Exposed.mono : ∀ a0 a1 k, LeO (ostiaryref18_Exposed.f k a0 a1) (ostiaryref18_Exposed.f (k + 1) a0 a1) := by
 intro a0 a1 k
 obtain ⟨ih0, ih1⟩ := ostiaryref18_Exposed.mono_l k
 unfold ostiaryref18_Exposed.f
 repeat' first
   | (with_reducible exact ih0 _ _ _ _)
   | (with_reducible exact ih1 _ _ _ _ _)
   | (with_reducible exact ostiaryref1_Sorted.mono _ _)
   | (with_reducible exact ostiaryref1_Token.mono _ _)
   | (with_reducible exact ostiaryref5_Split.mono _ _ _)
   | (with_reducible exact LeO.refl _)
   | (with_reducible exact LeO.none _)
   | (with_reducible refine LeO.ite ?_ ?_)
   | (with_reducible refine LeO.bind ?_ (fun _ => ?_))
   | exact ih0 _ _ _ _
   | exact ih1 _ _ _ _ _
   | exact ostiaryref1_Sorted.mono _ _
   | exact ostiaryref1_Token.mono _ _
   | exact ostiaryref5_Split.mono _ _ _
   | exact LeO.none _
   | refine LeO.ite ?_ ?_
   | refine LeO.bind ?_ (fun _ => ?_)
set_option maxHeartbeats 8000000 in
set_option maxRecDepth 100000 in
theorem ostiaryref18_Exposed.calls (k : Nat) (A0 : Option Addr) (c0 : Nat) (l0 : List (S30)) (a1 : Bool) (r1 : List ByteArray) (r2 : Bool) (w : World) (hr0 : Kd.C k30 w A0 l0.length l0) (hc0 : l0.length ≤ c0) (h : ostiaryref18_Exposed.f k l0 a1 = some (r1, r2)) :
  Calls Tryz.prog 115 #[.slice A0 l0.length c0, .bool a1] w fun e w' => ∃ v0_ : Value, e = .returned (.tuple #[v0_, .bool r2]) ∧ Kd.R Kd.string 9 w' w.heap.size (fun _ => True) v0_ r1 ∧ Below w.heap.size w w' := by
 have HR0 := Aside0.mk hr0
 have HC0 := Aside0.mk hc0
 clear hr0 hc0
 have HB := Aside0.mk (Below.refl w.heap.size w)
 have H : ((ostiaryref5_Split.f k l0 (⟨#[97, 99, 99, 101, 115, 115, 45, 99, 111, 110, 116, 114, 111, 108, 45, 101, 120, 112, 111, 115, 101, 45, 104, 101, 97, 100, 101, 114, 115]⟩ : ByteArray)).bind fun bt162 => (ostiaryref18_Exposed.l0 k a1 bt162.1 ([] : List ByteArray) 0)) = some (r1, r2) := h
 clear h
 replace H := Option.bind_eq_some_iff.mp H
 obtain ⟨⟨t162, t163⟩, A30, H⟩ := H
 replace H : (ostiaryref18_Exposed.l0 k a1 t162 ([] : List ByteArray) 0) = some (r1, r2) := H
 have A3 := Aside0.mk A30
 clear A30
 have H' := Aside0.mk H
 clear H
 go_enter Tryz.func115, Tryz.ntmps115
 go_wp2_with (first | ((with_reducible refine gate_callee (f := 148) rfl ?_); refine goesL_ (some 12) rfl rfl Tryz.func148 q9_ rfl #[.slice A0 l0.length c0, .string (⟨#[97, 99, 99, 101, 115, 115, 45, 99, 111, 110, 116, 114, 111, 108, 45, 101, 120, 112, 111, 115, 101, 45, 104, 101, 97, 100, 101, 114, 115]⟩ : ByteArray)] rfl tS ?_; (with_reducible refine (ostiaryref5_Split.calls k _ _ l0 (⟨#[97, 99, 99, 101, 115, 115, 45, 99, 111, 110, 116, 114, 111, 108, 45, 101, 120, 112, 111, 115, 101, 45, 104, 101, 97, 100, 101, 114, 115]⟩ : ByteArray) t162 t163 _ ?side1 ?side2 A3.out).mono ?_); (case side1 => repeat (first | exact HR0.out | (with_reducible refine Kd.C_alloc ?_ _) | (with_reducible refine Kd.C_drewN ?_ _) | (with_reducible refine Kd.C_drew ?_))); (case side2 => exact HC0.out); rintro e w4 ⟨v164, rfl, ho0, hb⟩; refine ⟨_, rfl, ?_⟩; have n0_ := Aside0.mk (Kd.R_lower ho0 (below_size hB)); have n1_ := Aside0.mk (below_step hB hb); clear HB; have HO165 := n0_; have HB := n1_; clear n0_ n1_; (try clear hb); (try clear hb2); (try clear hk); (try clear hi); (try clear ho0)))
 go_loopg [8, 9] k (fun kq v8 v9 w' => ∃ (x8_1 : List ByteArray) (x9_1 : Int), v9 = .int .i64 x9_1 ∧ Aside0 (ostiaryref18_Exposed.l0 kq a1 t162 x8_1 x9_1 = some (r1, r2)) ∧ Aside0 (kq ≤ k) ∧ Aside0 (Kd.R Kd.string 9 w' w.heap.size (fun k_ => some k_ ≠ (v8 : Value).ownBlock) v164 t162) ∧ Aside0 (Kd.R Kd.string 9 w' w.heap.size (fun k_ => some k_ ≠ (v164 : Value).ownBlock) v8 x8_1) ∧ Aside0 (Below w.heap.size w w'))
 case atStart => exact ⟨(([] : List ByteArray)), (0), rS, H', ⟨Nat.le_refl _⟩, ⟨by (with_reducible repeat (first | apply Kd.R_alloc | apply Kd.R_drewN | apply Kd.R_drew)); exact Kd.R_mono HO165.out (fun _ hk => (by simp [Value.ownBlock]))⟩, ⟨by first | exact Kd.R_nil _ _ _ _ _ | exact Kd.N_nil _ _ _ _ _ | exact Kd.V_nil _ _ _ _ _ | exact Kd.Q_nil _ _ _ _ _ | exact Kd.S_nil _ _ _ _ _⟩, ⟨by repeat (first | (with_reducible first | exact HB.out | apply below_alloc | apply pw_below_drewN | apply below_drew1) | exact HB.out)⟩⟩
 case round =>
  clear H'
  try clear c1
  try clear p2
  obtain ⟨x8_1, x9_1, rfl, HA, HK1, HO_6, HO_8, HB⟩ := hrel
  cases gk with
  | zero => exact absurd HA.out (by simp [ostiaryref18_Exposed.l0])
  | succ k1 =>
   have H := HA.out
   clear HA
   simp only [ostiaryref18_Exposed.l0] at H
   by_cases c5 : x9_1 < (t162.length : Int)
   ·rw [if_pos c5] at H
    have c5b0 : decide (x9_1 < (t162.length : Int)) = true := decide_eq_true c5
    clear c5
    have HC6 := Aside0.mk H
    clear H
    obtain ⟨Ao7, co7, eo7⟩ := Kd.R_slice HO_6.out
    subst eo7
    go_upto_region 6 with (fail)
    go_cut [29] (fun v29 wc => ∃ (kq : Nat) (x29_5 : Bool), v29 = .bool x29_5 ∧ Aside0 (ostiaryref18_Exposed.j1 kq a1 t162 x8_1 x9_1 x29_5 = some (r1, r2)) ∧ Aside0 (kq ≤ k1) ∧ Aside0 (Kd.R Kd.string 9 wc w.heap.size (fun k_ => some k_ ≠ (u8 : Value).ownBlock) (.slice Ao7 t162.length co7) t162) ∧ Aside0 (Kd.R Kd.string 9 wc w.heap.size (fun k_ => some k_ ≠ ((.slice Ao7 t162.length co7) : Value).ownBlock) u8 x8_1) ∧ Aside0 (Below w.heap.size w wc))
    case first =>
     have H := HC6.out
     clear HC6
     by_cases c8 : 0 ≤ x9_1
     ·rw [if_pos c8] at H
      have c8b0 : decide (0 ≤ x9_1) = true := decide_eq_true c8
      clear c8
      (first | rw [c8b0] | (simp only [i64_w, i32_w]; rw [c8b0]) | skip)
      by_cases c9 : (rdOf ByteArray.empty t162 x9_1).toList = ([42] : List UInt8)
      ·rw [if_pos c9] at H
       have c9b0 : ((rdOf ByteArray.empty t162 x9_1).toList == ([42] : List UInt8)) = true := beq_iff_eq.mpr c9
       have c9b1 : ((rdOf ByteArray.empty t162 x9_1).toList != ([42] : List UInt8)) = false := bne_eq_false_iff_eq.mpr c9
       clear c9
       have H' := Aside0.mk H
       clear H
       have p169 : 0 ≤ (x9_1 : Int) := of_decide_eq_true aS
       have q169 : x9_1 < (t162.length : Int) := of_decide_eq_true aS
       obtain ⟨ad169, e169, hx169_0⟩ := Kd.at_string (Kd.R_reads' HO_6.out).2.2 x9_1 p169 q169
       cases e169
       replace p169 := eq_true p169
       replace q169 := eq_true q169
       go_wp2
       go_meet
       case rel => exact ⟨_, (!a1), rS, H', ⟨by have := HK1.out; first | omega | exact Nat.le_refl _⟩, ⟨by (with_reducible repeat (first | apply Kd.R_alloc | apply Kd.R_drewN | apply Kd.R_drew)); exact HO_6.out⟩, ⟨by (with_reducible repeat (first | apply Kd.R_alloc | apply Kd.R_drewN | apply Kd.R_drew)); exact HO_8.out⟩, ⟨by repeat (first | (with_reducible first | exact HB.out | apply below_alloc | apply pw_below_drewN | apply below_drew1) | exact HB.out)⟩⟩
      ·rw [if_neg c9] at H
       have c9b0 : ((rdOf ByteArray.empty t162 x9_1).toList == ([42] : List UInt8)) = false := beq_eq_false_iff_ne.mpr c9
       have c9b1 : ((rdOf ByteArray.empty t162 x9_1).toList != ([42] : List UInt8)) = true := bne_iff_ne.mpr c9
       have H' := Aside0.mk H
       clear H
       have p169 : 0 ≤ (x9_1 : Int) := of_decide_eq_true aS
       have q169 : x9_1 < (t162.length : Int) := of_decide_eq_true aS
       obtain ⟨ad169, e169, hx169_0⟩ := Kd.at_string (Kd.R_reads' HO_6.out).2.2 x9_1 p169 q169
       cases e169
       replace p169 := eq_true p169
       replace q169 := eq_true q169
       go_wp2
       go_meet
       case rel => exact ⟨_, (false), rS, H', ⟨by have := HK1.out; first | omega | exact Nat.le_refl _⟩, ⟨by (with_reducible repeat (first | apply Kd.R_alloc | apply Kd.R_drewN | apply Kd.R_drew)); exact HO_6.out⟩, ⟨by (with_reducible repeat (first | apply Kd.R_alloc | apply Kd.R_drewN | apply Kd.R_drew)); exact HO_8.out⟩, ⟨by repeat (first | (with_reducible first | exact HB.out | apply below_alloc | apply pw_below_drewN | apply below_drew1) | exact HB.out)⟩⟩
     ·rw [if_neg c8] at H
      exact absurd H (by simp)
    case rest =>
     clear HC6
     try clear c1
     try clear p1
     try clear q1
     try clear hx1
     try clear p2
     try clear c5
     try clear c5b0
     try clear c8
     try clear c8b0
     try clear c9
     try clear c9b0
     try clear c9b1
     try clear hx169_0
     try clear p169
     try clear p2
     try clear q169
     obtain ⟨kq, x29_5, rfl, HA, HJ5, HO_6, HO_8, HB⟩ := hcut
     cases kq with
     | zero => exact absurd HA.out (by simp [ostiaryref18_Exposed.j1])
     | succ kj5 =>
      have H := HA.out
      clear HA
      simp only [ostiaryref18_Exposed.j1] at H
      by_cases c10 : x29_5 = true
      ·subst c10
       have H1 : (some (([] : List ByteArray), true)) = some (r1, r2) := by rw [if_pos rfl] at H; exact H
       clear H
       have H := H1
       clear H1
       simp only [Option.some.injEq, Prod.mk.injEq] at H
       obtain ⟨rfl, rfl⟩ := H
       go_wp2
       go_ret2
       exact ⟨_, by first | rfl | (simp [errW_none, errW_some] <;> rfl) | (simp [*, errW_none, errW_some] <;> rfl), by first | exact Kd.R_nil _ _ _ _ _ | exact Kd.N_nil _ _ _ _ _ | exact Kd.V_nil _ _ _ _ _ | exact Kd.Q_nil _ _ _ _ _ | exact Kd.S_nil _ _ _ _ _, by repeat (first | (with_reducible first | exact HB.out | apply below_alloc | apply pw_below_drewN | apply below_drew1) | exact HB.out)⟩
      ·replace c10 := Bool.eq_false_iff.mpr c10
       subst c10
       have H1 : (if 0 ≤ x9_1 then (if x9_1 < (t162.length : Int) then ((ostiaryref1_Token.f kj5 (rdOf ByteArray.empty t162 x9_1)).bind fun t171 => (if t171 = true then ((ostiaryref1_Lower.f (rdOf ByteArray.empty t162 x9_1)).bind fun t173 => (if x8_1.length < 8796093022208 then (ostiaryref18_Exposed.l0 kj5 a1 t162 (x8_1 ++ [t173]) (wrap64 (x9_1 + 1))) else (none))) else (ostiaryref18_Exposed.l0 kj5 a1 t162 x8_1 (wrap64 (x9_1 + 1))))) else (none)) else (none)) = some (r1, r2) := by rw [if_neg (show ¬ (false = true) by decide)] at H; exact H
       clear H
       have H := H1
       clear H1
       by_cases c11 : 0 ≤ x9_1
       ·rw [if_pos c11] at H
        have c11b0 : decide (0 ≤ x9_1) = true := decide_eq_true c11
        clear c11
        by_cases c12 : x9_1 < (t162.length : Int)
        ·rw [if_pos c12] at H
         have c12b0 : decide (x9_1 < (t162.length : Int)) = true := decide_eq_true c12
         clear c12
         replace H := Option.bind_eq_some_iff.mp H
         obtain ⟨t171, A130, H⟩ := H
         replace H : (if t171 = true then ((ostiaryref1_Lower.f (rdOf ByteArray.empty t162 x9_1)).bind fun t173 => (if x8_1.length < 8796093022208 then (ostiaryref18_Exposed.l0 kj5 a1 t162 (x8_1 ++ [t173]) (wrap64 (x9_1 + 1))) else (none))) else (ostiaryref18_Exposed.l0 kj5 a1 t162 x8_1 (wrap64 (x9_1 + 1)))) = some (r1, r2) := H
         have A13 := Aside0.mk A130
         clear A130
         by_cases c14 : t171 = true
         ·subst c14
          have H1 : ((ostiaryref1_Lower.f (rdOf ByteArray.empty t162 x9_1)).bind fun t173 => (if x8_1.length < 8796093022208 then (ostiaryref18_Exposed.l0 kj5 a1 t162 (x8_1 ++ [t173]) (wrap64 (x9_1 + 1))) else (none))) = some (r1, r2) := by rw [if_pos rfl] at H; exact H
          clear H
          have H := H1
          clear H1
          replace H := Option.bind_eq_some_iff.mp H
          obtain ⟨t173, A150, H⟩ := H
          replace H : (if x8_1.length < 8796093022208 then (ostiaryref18_Exposed.l0 kj5 a1 t162 (x8_1 ++ [t173]) (wrap64 (x9_1 + 1))) else (none)) = some (r1, r2) := H
          have A15 := Aside0.mk A150
          clear A150
          by_cases c16 : x8_1.length < 8796093022208
          ·rw [if_pos c16] at H
           have LMc16 := Aside0.mk c16
           clear c16
           obtain ⟨y174, hy174⟩ : ∃ y_ : List ByteArray, y_ = (x8_1 ++ [t173]) := ⟨_, rfl⟩
           replace H : (ostiaryref18_Exposed.l0 kj5 a1 t162 y174 (wrap64 (x9_1 + 1))) = some (r1, r2) := by first | (rw [hy174]; with_reducible exact H) | (have H2_ := (Option.bind_some _ _).symm.trans H; rw [hy174]; with_reducible exact H2_) | (have H2_ := (Option.bind_some _ _).symm.trans H; with_reducible exact H2_) | with_reducible exact H | (rw [hy174]; exact H) | exact H
           have Ny174 := Aside0.mk hy174
           clear hy174
           have H' := Aside0.mk H
           clear H
           have p170 : 0 ≤ (x9_1 : Int) := of_decide_eq_true aS
           have q170 : x9_1 < (t162.length : Int) := of_decide_eq_true aS
           obtain ⟨ad170, e170, hx170_0⟩ := Kd.at_string (Kd.R_reads' HO_6.out).2.2 x9_1 p170 q170
           cases e170
           replace p170 := eq_true p170
           replace q170 := eq_true q170
           go_wp2_with (first | ((with_reducible refine gate_callee (f := 162) rfl ?_); refine goesL_ (some 34) rfl rfl Tryz.func162 q9_ rfl #[.string (rdOf ByteArray.empty t162 x9_1)] rfl tS ?_; (with_reducible refine (ostiaryref1_Token.calls kj5 (rdOf ByteArray.empty t162 x9_1) true _ A13.out).mono ?_); rintro e w' ⟨rfl, ⟨nd, rfl⟩⟩; refine ⟨_, rfl, ?_⟩; have p172 : 0 ≤ (x9_1 : Int) := of_decide_eq_true aS; have q172 : x9_1 < (t162.length : Int) := of_decide_eq_true aS; obtain ⟨ad172, e172, hx172_0⟩ := Kd.at_string (Kd.R_reads' HO_6.out).2.2 x9_1 p172 q172; obtain rfl : ad170 = ad172 := (by injection e172); replace p172 := eq_true p172; replace q172 := eq_true q172) | ((with_reducible refine gate_callee (f := 102) rfl ?_); refine goesL_ (some 40) rfl rfl Tryz.func102 q9_ rfl #[.string (rdOf ByteArray.empty t162 x9_1)] rfl tS ?_; (with_reducible refine (ostiaryref1_Lower.calls (rdOf ByteArray.empty t162 x9_1) t173 _ A15.out).mono ?_); rintro e w17 ⟨rfl, hb⟩; refine ⟨_, rfl, ?_⟩; have n0_ := Aside0.mk (Kd.R_below (by (with_reducible repeat (first | apply Kd.R_alloc | apply Kd.R_drewN | apply Kd.R_drew)); exact HO_6.out) hb); have n1_ := Aside0.mk (Kd.R_below q33_ hb); have n2_ := Aside0.mk (below_step hB hb); clear HO_6; clear HO_8; clear HB; have HO_6 := n0_; have HO_8 := n1_; have HB := n2_; clear n0_ n1_ n2_; (try clear hb); (try clear hb2); (try clear hk); (try clear hi)) | ((with_reducible refine gate_builtin (b := .append) (xs := #[.tmp 35, .tmp 41]) rfl ?_); at_builtin; refine Kd.R_append Kd.string (w0 := w) w.heap.size rfl (.tmp 35) (.tmp 41) 39 9 (.string ⟨#[]⟩) 16 rfl Tryz.underlying39 info9 rfl (by decide) (by omega) u8 x8_1 t173 [.string t173] (fun k_ => some k_ ≠ (.slice (some ad170) t162.length co7 : Value).ownBlock) (fun _ => False) rfl rfl ?aP (fun _ hk => hk.elim) ?aF ?aO ?aB ?aS ?aL ?_; (case aP => exact rfl); (case aB => exact hB); (case aF => exact (fun k_ hk => Kd.fresh' (Kd.R_lt (by (with_reducible repeat (first | apply Kd.R_alloc | apply Kd.R_drewN | apply Kd.R_drew)); exact HO_6.out)) k_ hk)); (case aO => exact q33_); (case aS => exact (below_size hB)); (case aL => have := LMc16.out; omega); intro v175 w18 ho hb hg hat; rw [← Ny174.out] at ho; have n0_ := Aside0.mk (Kd.R_after (ok := (fun _ => True)) (by (with_reducible repeat (first | apply Kd.R_alloc | apply Kd.R_drewN | apply Kd.R_drew)); exact Kd.R_mono HO_6.out (fun _ hk => ⟨trivial, hk⟩)) hg hat); have n1_ := Aside0.mk (hb); have n2_ := Aside0.mk (ho); clear HO_6; clear HB; clear HO_8; have HO_6 := n0_; have HB := n1_; have HO176 := n2_; clear n0_ n1_ n2_; clear ho hb hg hat))
           go_roundg kj5
           case measure => have := HK1.out; have := HJ5.out; omega
           case rel => exact ⟨(y174), (wrap64 (x9_1 + 1)), rS, H', ⟨by have := HK1.out; have := HJ5.out; omega⟩, ⟨by (with_reducible repeat (first | apply Kd.R_alloc | apply Kd.R_drewN | apply Kd.R_drew)); exact Kd.R_mono HO_6.out (fun _ hk => hk.2)⟩, ⟨by (with_reducible repeat (first | apply Kd.R_alloc | apply Kd.R_drewN | apply Kd.R_drew)); exact HO176.out⟩, ⟨by repeat (first | (with_reducible first | exact HB.out | apply below_alloc | apply pw_below_drewN | apply below_drew1) | exact HB.out)⟩⟩
          ·rw [if_neg c16] at H
           exact absurd H (by simp)
         ·replace c14 := Bool.eq_false_iff.mpr c14
          subst c14
          have H1 : (ostiaryref18_Exposed.l0 kj5 a1 t162 x8_1 (wrap64 (x9_1 + 1))) = some (r1, r2) := by rw [if_neg (show ¬ (false = true) by decide)] at H; exact H
          clear H
          have H := H1
          clear H1
          have H' := Aside0.mk H
          clear H
          have p170 : 0 ≤ (x9_1 : Int) := of_decide_eq_true aS
          have q170 : x9_1 < (t162.length : Int) := of_decide_eq_true aS
          obtain ⟨ad170, e170, hx170_0⟩ := Kd.at_string (Kd.R_reads' HO_6.out).2.2 x9_1 p170 q170
          cases e170
          replace p170 := eq_true p170
          replace q170 := eq_true q170
          go_wp2_with (first | ((with_reducible refine gate_callee (f := 162) rfl ?_); refine goesL_ (some 34) rfl rfl Tryz.func162 q9_ rfl #[.string (rdOf ByteArray.empty t162 x9_1)] rfl tS ?_; (with_reducible refine (ostiaryref1_Token.calls kj5 (rdOf ByteArray.empty t162 x9_1) false _ A13.out).mono ?_); rintro e w' ⟨rfl, ⟨nd, rfl⟩⟩; refine ⟨_, rfl, ?_⟩))
          go_roundg kj5
          case measure => have := HK1.out; have := HJ5.out; omega
          case rel => exact ⟨(x8_1), (wrap64 (x9_1 + 1)), rS, H', ⟨by have := HK1.out; have := HJ5.out; omega⟩, ⟨by (with_reducible repeat (first | apply Kd.R_alloc | apply Kd.R_drewN | apply Kd.R_drew)); exact HO_6.out⟩, ⟨by (with_reducible repeat (first | apply Kd.R_alloc | apply Kd.R_drewN | apply Kd.R_drew)); exact HO_8.out⟩, ⟨by repeat (first | (with_reducible first | exact HB.out | apply below_alloc | apply pw_below_drewN | apply below_drew1) | exact HB.out)⟩⟩
        ·rw [if_neg c12] at H
         exact absurd H (by simp)
       ·rw [if_neg c11] at H
        exact absurd H (by simp)
   ·rw [if_neg c5] at H
    have c5b0 : decide (x9_1 < (t162.length : Int)) = false := decide_eq_false c5
    clear c5
    replace H := Option.bind_eq_some_iff.mp H
    obtain ⟨t166, A190, H⟩ := H
    replace H : (some (t166, false)) = some (r1, r2) := H
    have A19 := Aside0.mk A190
    clear A190
    simp only [Option.some.injEq, Prod.mk.injEq] at H
    obtain ⟨rfl, rfl⟩ := H
    obtain ⟨Ao20, co20, eo20⟩ := Kd.R_slice HO_6.out
    subst eo20
    obtain ⟨Ao21, co21, eo21⟩ := Kd.R_slice HO_8.out
    subst eo21
    go_wp2_with (first | ((with_reducible refine gate_callee (f := 149) rfl ?_); refine goesL_ (some 44) rfl rfl Tryz.func149 q9_ rfl #[.slice Ao21 x8_1.length co21] rfl tS ?_; (with_reducible refine (ostiaryref1_Sorted.calls k1 _ _ x8_1 t166 _ ?side1 ?side2 A19.out).mono ?_); (case side1 => repeat (first | exact (Kd.R_reads' HO_8.out).2.2 | (with_reducible refine Kd.C_alloc ?_ _) | (with_reducible refine Kd.C_drewN ?_ _) | (with_reducible refine Kd.C_drew ?_))); (case side2 => exact (Kd.R_reads' HO_8.out).2.1); rintro e w22 ⟨v167, rfl, ho0, hb⟩; refine ⟨_, rfl, ?_⟩; have n0_ := Aside0.mk (Kd.R_elder' (by (with_reducible repeat (first | apply Kd.R_alloc | apply Kd.R_drewN | apply Kd.R_drew)); exact HO_6.out) (Kd.R_base ho0) hb); have n1_ := Aside0.mk (Kd.R_elder' q33_ (Kd.R_base ho0) hb); have n2_ := Aside0.mk (Kd.R_lower (Kd.R_new' (Kd.R_new' ho0 (Kd.R_lt (by (with_reducible repeat (first | apply Kd.R_alloc | apply Kd.R_drewN | apply Kd.R_drew)); exact HO_6.out))) (Kd.R_lt q33_)) (below_size hB)); have n3_ := Aside0.mk (below_step hB hb); clear HO_6; clear HO_8; clear HB; have HO_6 := n0_; have HO_8 := n1_; have HO168 := n2_; have HB := n3_; clear n0_ n1_ n2_ n3_; (try clear hb); (try clear hb2); (try clear hk); (try clear hi); (try clear ho0)))
    go_ret2
    exact ⟨_, by first | rfl | (simp [errW_none, errW_some] <;> rfl) | (simp [*, errW_none, errW_some] <;> rfl), by (with_reducible repeat (first | apply Kd.R_alloc | apply Kd.R_drewN | apply Kd.R_drew)); exact Kd.R_mono HO168.out (fun _ hk => trivial), by repeat (first | (with_reducible first | exact HB.out | apply below_alloc | apply pw_below_drewN | apply below_drew1) | exact HB.out)⟩
end Go.Proofs.YtifmkgkiipckbaaGreatDoor.P
namespace Go.Proofs.YtifmkgkiipckbaaGreatDoor.P
open Go.RowKit Go.Proofs.YtifmkgkiipckbaaGreatDoorW.PrintWords Go.Proofs.YtifmkgkiipckbaaGreatDoorW.PrintLast Go.Proofs.YtifmkgkiipckbaaGreatDoorW.PrintMore
attribute [local go_sem] max2_int min2_int max_two min_two max_three min_three max_four min_four
set_option linter.unusedVariables false
set_option linter.unusedSimpArgs false
def ostiaryref20_cookies.f (a0_0 : ByteArray) (a0_1 : ByteArray) : Option (Bool) := (ostiaryref1_Lower.f a0_0).bind fun t128 => (if t128.toList = ([115, 101, 116, 45, 99, 111, 111, 107, 105, 101] : List UInt8) then (some true) else (some (t128.toList == ([115, 101, 116, 45, 99, 111, 111, 107, 105, 101, 50] : List UInt8))))
set_option maxHeartbeats 8000000 in
set_option maxRecDepth 100000 in
theorem ostiaryref20_cookies.calls (a0_0 : ByteArray) (a0_1 : ByteArray) (r : Bool) (w : World) (h : ostiaryref20_cookies.f a0_0 a0_1 = some r) :
  Calls Tryz.prog 111 #[.agg #[.string a0_0, .string a0_1]] w fun e w' => e = .returned (.bool r) ∧ Below w.heap.size w w' := by
 have hu30 := Tryz.underlying30
 have HB := Aside0.mk (Below.refl w.heap.size w)
 have H : ((ostiaryref1_Lower.f a0_0).bind fun t128 => (if t128.toList = ([115, 101, 116, 45, 99, 111, 111, 107, 105, 101] : List UInt8) then (some true) else (some (t128.toList == ([115, 101, 116, 45, 99, 111, 111, 107, 105, 101, 50] : List UInt8))))) = some r := h
 clear h
 replace H := Option.bind_eq_some_iff.mp H
 obtain ⟨t128, A20, H⟩ := H
 replace H : (if t128.toList = ([115, 101, 116, 45, 99, 111, 111, 107, 105, 101] : List UInt8) then (some true) else (some (t128.toList == ([115, 101, 116, 45, 99, 111, 111, 107, 105, 101, 50] : List UInt8)))) = some r := H
 have A2 := Aside0.mk A20
 clear A20
 by_cases c3 : t128.toList = ([115, 101, 116, 45, 99, 111, 111, 107, 105, 101] : List UInt8)
 ·rw [if_pos c3] at H
  have c3b0 : (t128.toList == ([115, 101, 116, 45, 99, 111, 111, 107, 105, 101] : List UInt8)) = true := beq_iff_eq.mpr c3
  have c3b1 : (t128.toList != ([115, 101, 116, 45, 99, 111, 111, 107, 105, 101] : List UInt8)) = false := bne_eq_false_iff_eq.mpr c3
  clear c3
  obtain rfl := Option.some.inj H
  go_enter Tryz.func111, Tryz.ntmps111
  go_wp2_with (first | ((with_reducible refine gate_dst (N := 1) rfl ?_); refine box_event ?hg (N := 1) ?hd (cs := #[.string a0_0, .string a0_1]) (t := 30) ?hr ?_; (case hd => rfl); (case hg => rfl); (case hr => first | (go_simp; done) | (go_simp; rfl)); intro gb127 hg w4 hbox hb; have n0_ := Aside0.mk (below_step hB hb); have n1_ := Aside0.mk (hbox); have n2_ := Aside0.mk ((by rw [hg]; exact (below_size hB) : w.heap.size ≤ gb127)); have n3_ := Aside0.mk ((by rw [hg]; exact (below_size hB) : w.heap.size ≤ gb127)); clear HB; have HB := n0_; have BK127 := n1_; have GW127 := n2_; have GE127 := n3_; clear n0_ n1_ n2_ n3_; clear hb hbox hg; have hcz5_0 : w4.cell? ⟨gb127, 0, none⟩ = some (.string a0_0) := (blk_cell BK127.out 0).trans rfl; have hcz5_1 : w4.cell? ⟨gb127, 1, none⟩ = some (.string a0_1) := (blk_cell BK127.out 1).trans rfl; have hfz5_0 := blk_frozen BK127.out 0; have hfz5_1 := blk_frozen BK127.out 1) | ((with_reducible refine gate_callee (f := 102) rfl ?_); refine goesL_ (some 6) rfl rfl Tryz.func102 q9_ rfl #[.string a0_0] rfl tS ?_; (with_reducible refine (ostiaryref1_Lower.calls a0_0 t128 _ A2.out).mono ?_); rintro e w6 ⟨rfl, hb⟩; refine ⟨_, rfl, ?_⟩; have n0_ := Aside0.mk (blk_below (g := gb127) (o := .cells #[.string a0_0, .string a0_1] 30 (0, 0)) (by (with_reducible repeat (first | refine blk_drewN ?_ _ | refine blk_drew ?_ | refine blk_alloc ?_ _)); exact BK127.out) hb); have n1_ := Aside0.mk (below_step (by repeat (first | (with_reducible first | exact HB.out | apply below_alloc | apply pw_below_drewN | apply below_drew1 | refine below_set ?_ GE127.out) | exact HB.out)) hb); clear BK127; clear HB; have BK127 := n0_; have HB := n1_; clear n0_ n1_; (try clear hb); (try clear hb2); (try clear hk); (try clear hi)))
  go_ret
  exact ⟨by first | rfl | (simp [errW_none, errW_some] <;> rfl) | (simp [*, errW_none, errW_some] <;> rfl), by repeat (first | (with_reducible first | exact HB.out | apply below_alloc | apply pw_below_drewN | apply below_drew1 | refine below_set ?_ GE127.out) | exact HB.out)⟩
 ·rw [if_neg c3] at H
  have c3b0 : (t128.toList == ([115, 101, 116, 45, 99, 111, 111, 107, 105, 101] : List UInt8)) = false := beq_eq_false_iff_ne.mpr c3
  have c3b1 : (t128.toList != ([115, 101, 116, 45, 99, 111, 111, 107, 105, 101] : List UInt8)) = true := bne_iff_ne.mpr c3
  obtain rfl := Option.some.inj H
  go_enter Tryz.func111, Tryz.ntmps111
  go_wp2_with (first | ((with_reducible refine gate_dst (N := 1) rfl ?_); refine box_event ?hg (N := 1) ?hd (cs := #[.string a0_0, .string a0_1]) (t := 30) ?hr ?_; (case hd => rfl); (case hg => rfl); (case hr => first | (go_simp; done) | (go_simp; rfl)); intro gb127 hg w7 hbox hb; have n0_ := Aside0.mk (below_step hB hb); have n1_ := Aside0.mk (hbox); have n2_ := Aside0.mk ((by rw [hg]; exact (below_size hB) : w.heap.size ≤ gb127)); have n3_ := Aside0.mk ((by rw [hg]; exact (below_size hB) : w.heap.size ≤ gb127)); clear HB; have HB := n0_; have BK127 := n1_; have GW127 := n2_; have GE127 := n3_; clear n0_ n1_ n2_ n3_; clear hb hbox hg; have hcz8_0 : w7.cell? ⟨gb127, 0, none⟩ = some (.string a0_0) := (blk_cell BK127.out 0).trans rfl; have hcz8_1 : w7.cell? ⟨gb127, 1, none⟩ = some (.string a0_1) := (blk_cell BK127.out 1).trans rfl; have hfz8_0 := blk_frozen BK127.out 0; have hfz8_1 := blk_frozen BK127.out 1) | ((with_reducible refine gate_callee (f := 102) rfl ?_); refine goesL_ (some 6) rfl rfl Tryz.func102 q9_ rfl #[.string a0_0] rfl tS ?_; (with_reducible refine (ostiaryref1_Lower.calls a0_0 t128 _ A2.out).mono ?_); rintro e w9 ⟨rfl, hb⟩; refine ⟨_, rfl, ?_⟩; have n0_ := Aside0.mk (blk_below (g := gb127) (o := .cells #[.string a0_0, .string a0_1] 30 (0, 0)) (by (with_reducible repeat (first | refine blk_drewN ?_ _ | refine blk_drew ?_ | refine blk_alloc ?_ _)); exact BK127.out) hb); have n1_ := Aside0.mk (below_step (by repeat (first | (with_reducible first | exact HB.out | apply below_alloc | apply pw_below_drewN | apply below_drew1 | refine below_set ?_ GE127.out) | exact HB.out)) hb); clear BK127; clear HB; have BK127 := n0_; have HB := n1_; clear n0_ n1_; (try clear hb); (try clear hb2); (try clear hk); (try clear hi)))
  go_ret
  exact ⟨by first | rfl | (simp [errW_none, errW_some] <;> rfl) | (simp [*, errW_none, errW_some] <;> rfl), by repeat (first | (with_reducible first | exact HB.out | apply below_alloc | apply pw_below_drewN | apply below_drew1 | refine below_set ?_ GE127.out) | exact HB.out)⟩
end Go.Proofs.YtifmkgkiipckbaaGreatDoor.P
