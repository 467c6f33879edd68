/- A part of the proof of CorsLess: texts of walks and plain lemmas. -/
import Derived.Test.YtifmkgkiipckbaaDoorX11
import Derived.Test.YtifmkgkiipckbaaDoorX2
import Derived.Test.YtifmkgkiipckbaaDoorX12
import Derived.Test.YtifmkgkiipckbaaDoorX13
import Derived.Test.YtifmkgkiipckbaaDoorX9
import Derived.Laws.BitsAllLaws
import Derived.Test.YtifmkgkiipckbaaDoorX10
import Derived.Test.YtifmkgkiipckbaaDoorX1
namespace Go.Proofs.YtifmkgkiipckbaaDoor.P
open Go.RowKit Go.Proofs.YtifmkgkiipckbaaDoorW.PrintWords Go.Proofs.YtifmkgkiipckbaaDoorW.PrintLast
set_option linter.unusedVariables false
set_option linter.unusedSimpArgs false
def Tot {α : Type} (o : Option α) (P : α → Prop) : Prop := ∃ r, o = some r ∧ P r
theorem Tot.pure {α : Type} {a : α} {P : α → Prop} (h : P a) : Tot (some a) P := ⟨a, rfl, h⟩
theorem Tot.guard {α : Type} {c : Prop} [Decidable c] {a : Option α} {P : α → Prop} (h : c) (k : Tot a P) : Tot (if c then a else none) P := by rw [if_pos h]; exact k
theorem Tot.ite {α : Type} {c : Prop} [Decidable c] {a b : Option α} {P : α → Prop} (h : c → Tot a P) (k : ¬ c → Tot b P) : Tot (if c then a else b) P := by
 split
 ·exact h (by assumption)
 ·exact k (by assumption)
theorem Tot.bind {α β : Type} {o : Option α} {f : α → Option β} {Q : α → Prop} {P : β → Prop} (h : Tot o Q) (k : ∀ r, Q r → Tot (f r) P) : Tot (o.bind f) P := by
 obtain ⟨r, hr, hq⟩ := h
 rw [hr]
 exact k r hq
theorem wr (x : Int) (h : -9223372036854775808 ≤ x) (k : x ≤ 9223372036854775807) : wrap64 x = x := by unfold wrap64; omega
theorem lit_size (a : Array UInt8) : (⟨a⟩ : ByteArray).size = a.size := rfl
theorem rdOf_mem {α : Type} (d : α) (xs : List α) (P : α → Prop) (h : ∀ x ∈ xs, P x) (hd : P d) (i : Int) : P (rdOf d xs i) := by
 unfold rdOf
 rw [List.getD_eq_getElem?_getD]
 cases hq : xs[i.toNat]? with
 | none => exact hd
 | some x => exact h x (List.mem_of_getElem? hq)
theorem Letter_tot (a : Int) : Tot (ostiaryref1_Letter.f a) (fun _ => True) := by
 unfold ostiaryref1_Letter.f
 (repeat' (first | (with_reducible refine Tot.guard oK ?_) | (with_reducible refine Tot.pure ?_) | (with_reducible refine Tot.bind (by fail) ?_; intro _ _) | (with_reducible refine Tot.ite ?_ ?_ <;> intro _))) <;> trivial
theorem Digit_tot (a : Int) : Tot (ostiaryref1_Digit.f a) (fun r => r = true → 48 ≤ a ∧ a ≤ 57) := by
 unfold ostiaryref1_Digit.f
 (repeat' (first | (with_reducible refine Tot.guard oK ?_) | (with_reducible refine Tot.pure ?_) | (with_reducible refine Tot.bind (by first | exact Letter_tot _) ?_; intro _ _) | (with_reducible refine Tot.ite ?_ ?_ <;> intro _)))
 ·intro h
  simp at h
  omega
 ·simp
theorem Begins_tot (a b : ByteArray) : Tot (ostiaryref1_Begins.f a b) (fun r => r = true → b.size ≤ a.size) := by
 unfold ostiaryref1_Begins.f
 (repeat' (first | (with_reducible refine Tot.guard oK ?_) | (with_reducible refine Tot.pure ?_) | (with_reducible refine Tot.bind (by first | exact Letter_tot _ | exact Digit_tot _) ?_; intro _ _) | (with_reducible refine Tot.ite ?_ ?_ <;> intro _)))
 ·intro _
  omega
 ·simp
theorem Ends_tot (a b : ByteArray) (ha : a.size ≤ 1000000) : Tot (ostiaryref1_Ends.f a b) (fun r => r = true → b.size ≤ a.size) := by
 unfold ostiaryref1_Ends.f
 (repeat' (first | (with_reducible refine Tot.guard oK ?_) | (with_reducible refine Tot.pure ?_) | (with_reducible refine Tot.bind (by first | exact Letter_tot _ | exact Digit_tot _ | exact Begins_tot _ _) ?_; intro _ _) | (with_reducible refine Tot.ite ?_ ?_ <;> intro _)))
 ·intro _
  omega
 ·simp
theorem Hex_tot (k : Nat) (a : Int) (hk : 2 ≤ k) : Tot (ostiaryref1_Hex.f k a) (fun r => -1 ≤ r ∧ r ≤ 300) := by
 obtain ⟨k, rfl⟩ : ∃ j, k = j + 1 := ⟨k - 1, by omega⟩
 unfold ostiaryref1_Hex.f
 simp only [ostiaryref1_Hex.j0]
 (repeat' (first | (with_reducible refine Tot.guard oK ?_) | (with_reducible refine Tot.pure ?_) | (with_reducible refine Tot.bind (by first | exact Letter_tot _ | exact Digit_tot _ | exact Begins_tot _ _ | exact Ends_tot _ _ oK) ?_; intro _ _) | (with_reducible refine Tot.ite ?_ ?_ <;> intro _))) <;> omega
theorem bad_tot (k : Nat) (a : Int) (hk : 20 ≤ k) : Tot (ostiaryref2_bad.f k a) (fun _ => True) := by
 have H : ∀ (k : Nat) (x : Int), 0 ≤ x → (18 - x.toNat) + 1 ≤ k → Tot (ostiaryref2_bad.l0 k a x) (fun _ => True) := by
  intro k
  induction k with
  | zero => intro x h0 h1; omega
  | succ k ih =>
   intro x h0 h1
   unfold ostiaryref2_bad.l0
   (repeat' (first | (with_reducible refine Tot.guard oK ?_) | (with_reducible refine Tot.pure ?_) | (with_reducible refine Tot.bind (by first | exact Letter_tot _ | exact Digit_tot _ | exact Begins_tot _ _ | exact Ends_tot _ _ oK | exact Hex_tot _ _ oK) ?_; intro _ _) | (with_reducible refine Tot.ite ?_ ?_ <;> intro _))) <;> first | trivial | exact ih _ oK oK
 exact H k 0 (by omega) (by omega)
theorem Own_tot (k : Nat) (a : ByteArray) (hk : 3 ≤ k) : Tot (ostiaryref3_Own.f k a) (fun r => -1 ≤ r ∧ r ≤ 443) := by
 obtain ⟨k, rfl⟩ : ∃ j, k = j + 2 := ⟨k - 2, by omega⟩
 unfold ostiaryref3_Own.f
 simp only [ostiaryref3_Own.j0, ostiaryref3_Own.j1]
 (repeat' (first | (with_reducible refine Tot.guard oK ?_) | (with_reducible refine Tot.pure ?_) | (with_reducible refine Tot.bind (by first | exact Letter_tot _ | exact Digit_tot _ | exact Begins_tot _ _ | exact Ends_tot _ _ oK | exact Hex_tot _ _ oK | exact bad_tot _ _ oK) ?_; intro _ _) | (with_reducible refine Tot.ite ?_ ?_ <;> intro _))) <;> omega
theorem Special_tot (k : Nat) (a : ByteArray) (hk : 3 ≤ k) : Tot (ostiaryref3_Special.f k a) (fun _ => True) := by
 unfold ostiaryref3_Special.f
 (repeat' (first | (with_reducible refine Tot.guard oK ?_) | (with_reducible refine Tot.pure ?_) | (with_reducible refine Tot.bind (by first | exact Letter_tot _ | exact Digit_tot _ | exact Begins_tot _ _ | exact Ends_tot _ _ oK | exact Hex_tot _ _ oK | exact bad_tot _ _ oK | exact Own_tot _ _ oK) ?_; intro _ _) | (with_reducible refine Tot.ite ?_ ?_ <;> intro _))) <;> trivial
theorem In_tot (k : Nat) (a b : Int) (hk : 40 ≤ k) : Tot (ostiaryref1_In.f k a b) (fun _ => True) := by
 have H : ∀ (k : Nat) (s : ByteArray) (x : Int) (q : Bool), s.size ≤ 30 → 0 ≤ x → (31 - x.toNat) + 1 ≤ k → Tot (ostiaryref1_In.l0 k a q s x) (fun _ => True) := by
  intro k s
  induction k with
  | zero => intro x q _ h0 h1; omega
  | succ k ih =>
   intro x q hs h0 h1
   unfold ostiaryref1_In.l0
   (repeat' (first | (with_reducible refine Tot.guard oK ?_) | (with_reducible refine Tot.pure ?_) | (with_reducible refine Tot.bind (by first | exact Letter_tot _ | exact Digit_tot _ | exact Begins_tot _ _ | exact Ends_tot _ _ oK | exact Hex_tot _ _ oK | exact bad_tot _ _ oK | exact Own_tot _ _ oK | exact Special_tot _ _ oK) ?_; intro _ _) | (with_reducible refine Tot.ite ?_ ?_ <;> intro _))) <;> first | trivial | exact ih _ _ hs oK oK
 obtain ⟨k, rfl⟩ : ∃ j, k = j + 2 := ⟨k - 2, by omega⟩
 unfold ostiaryref1_In.f
 simp only [ostiaryref1_In.j0, ostiaryref1_In.j1]
 (repeat' (first | (with_reducible refine Tot.guard oK ?_) | (with_reducible refine Tot.pure ?_) | (with_reducible refine Tot.bind (by first | exact Letter_tot _ | exact Digit_tot _ | exact Begins_tot _ _ | exact Ends_tot _ _ oK | exact Hex_tot _ _ oK | exact bad_tot _ _ oK | exact Own_tot _ _ oK | exact Special_tot _ _ oK) ?_; intro _ _) | (with_reducible refine Tot.ite ?_ ?_ <;> intro _))) <;> first | trivial | exact H _ _ _ _ (by decide) (by omega) (by omega)
theorem bits_and15 (a : Int) (h0 : 0 ≤ a) (h1 : a ≤ 255) : 0 ≤ Go.bits .and .u8 a 15 ∧ Go.bits .and .u8 a 15 ≤ 15 := by
 have H : ∀ n : Fin 256, 0 ≤ Go.bits .and .u8 (n.val : Int) 15 ∧ Go.bits .and .u8 (n.val : Int) 15 ≤ 15 := by decide +kernel
 have := H ⟨a.toNat, by omega⟩
 rwa [show ((⟨a.toNat, by omega⟩ : Fin 256).val : Int) = a by simp; omega] at this
theorem Escape_tot (a : Int) (h0 : 0 ≤ a) (h1 : a ≤ 255) : Tot (ostiaryref1_Escape.f a) (fun r => r.size ≤ 3) := by
 have hb := bits_and15 a h0 h1
 unfold ostiaryref1_Escape.f
 generalize Go.bits .and .u8 a 15 = b at hb
 (repeat' (first | (with_reducible refine Tot.guard oK ?_) | (with_reducible refine Tot.pure ?_) | (with_reducible refine Tot.bind (by first | exact Letter_tot _ | exact Digit_tot _ | exact Begins_tot _ _ | exact Ends_tot _ _ oK | exact Hex_tot _ _ oK | exact bad_tot _ _ oK | exact Own_tot _ _ oK | exact Special_tot _ _ oK | exact In_tot _ _ _ oK) ?_; intro _ _) | (with_reducible refine Tot.ite ?_ ?_ <;> intro _)))
 first | exact True.intro | assumption | omega | (simp only [wrap64, ByteArray.size_append, ByteArray.size_extract, lit_size, List.length_append, List.length_cons, List.length_nil, List.size_toArray]; omega)
theorem Percent_tot (k : Nat) (s : ByteArray) (n : Int) (hs : s.size ≤ 1000000) (hk : s.size + 100 ≤ k) : Tot (ostiaryref1_Percent.f k s n) (fun r => r.size ≤ 3 * s.size) := by
 have H : ∀ (k : Nat) (x : Int) (q : ByteArray), 0 ≤ x → x ≤ s.size → (s.size - x.toNat) + 50 ≤ k → q.size ≤ 3 * x.toNat → Tot (ostiaryref1_Percent.l0 k s n q x) (fun r => r.size ≤ 3 * s.size) := by
  intro k
  induction k with
  | zero => intro x q _ _ h1; omega
  | succ k ih =>
   intro x q h0 h2 h1 hq
   unfold ostiaryref1_Percent.l0
   (repeat' (first | (with_reducible refine Tot.guard oK ?_) | (with_reducible refine Tot.pure ?_) | (with_reducible refine Tot.bind (by first | exact Letter_tot _ | exact Digit_tot _ | exact Begins_tot _ _ | exact Ends_tot _ _ oK | exact Hex_tot _ _ oK | exact bad_tot _ _ oK | exact Own_tot _ _ oK | exact Special_tot _ _ oK | exact In_tot _ _ _ oK | exact Escape_tot _ (bt_range _ _).1 (bt_range _ _).2) ?_; intro _ _) | (with_reducible refine Tot.ite ?_ ?_ <;> intro _)))
   ·exact ih _ _ oK oK oK oK
   ·exact ih _ _ oK oK oK oK
   ·omega
 exact H k 0 _ (by omega) (by omega) (by omega) (by decide)
theorem Int_tot (k : Nat) (s : ByteArray) (hs : s.size ≤ 1000000) (hk : s.size + 100 ≤ k) : Tot (ostiaryref1_Int.f k s) (fun r => 0 ≤ r.1) := by
 have H : ∀ (k : Nat) (x q : Int), 0 ≤ x → x ≤ s.size → (s.size - x.toNat) + 50 ≤ k → 0 ≤ q → q ≤ 9223372036854775807 → Tot (ostiaryref1_Int.l0 k s q x) (fun r => 0 ≤ r.1) := by
  intro k
  induction k with
  | zero => intro x q _ _ h1; omega
  | succ k ih =>
   intro x q h0 h2 h1 hq hm
   unfold ostiaryref1_Int.l0
   (repeat' (first | (with_reducible refine Tot.guard oK ?_) | (with_reducible refine Tot.pure ?_) | (with_reducible refine Tot.bind (by first | exact Letter_tot _ | exact Digit_tot _ | exact Begins_tot _ _ | exact Ends_tot _ _ oK | exact Hex_tot _ _ oK | exact bad_tot _ _ oK | exact Own_tot _ _ oK | exact Special_tot _ _ oK | exact In_tot _ _ _ oK | exact Escape_tot _ (bt_range _ _).1 (bt_range _ _).2 | exact Percent_tot _ _ _ oK oK) ?_; intro _ _) | (with_reducible refine Tot.ite ?_ ?_ <;> intro _)))
   ·exact ih _ _ oK oK oK (by omega) (by omega)
   ·have hd : 48 ≤ bt s x ∧ bt s x ≤ 57 := by solve_by_elim
    have e1 : (bt s x - 48) % 256 = bt s x - 48 := by omega
    have e2 : q * 10 + (bt s x - 48) ≤ 9223372036854775807 := by omega
    have e3 : wrap64 (wrap64 (q * 10) + (bt s x - 48) % 256) = q * 10 + (bt s x - 48) := by rw [e1, wr (q * 10) (by omega) (by omega), wr _ (by omega) (by omega)]
    exact ih _ _ oK oK oK (by rw [e3]; omega) (by rw [e3]; omega)
   ·omega
   ·exact hq
 exact H k 0 0 (by omega) (by omega) (by omega) (by omega) (by omega)
theorem Cut_tot (k : Nat) (s : ByteArray) (c : Int) (hs : s.size ≤ 1000000) (hk : s.size + 100 ≤ k) : Tot (ostiaryref1_Cut.f k s c) (fun r => 1 ≤ r.length ∧ r.length ≤ s.size + 1 ∧ ∀ x ∈ r, x.size ≤ s.size) := by
 have H : ∀ (k : Nat) (x b : Int) (l : List ByteArray), 0 ≤ x → x ≤ s.size + 1 → 0 ≤ b → b ≤ x → (x = s.size + 1 → 1 ≤ l.length) → l.length ≤ x.toNat → (∀ q ∈ l, q.size ≤ s.size) → (s.size + 1 - x.toNat) + 50 ≤ k → Tot (ostiaryref1_Cut.l0 k s c l b x) (fun r => 1 ≤ r.length ∧ r.length ≤ s.size + 1 ∧ ∀ x ∈ r, x.size ≤ s.size) := by
  intro k
  induction k with
  | zero => intro x b l _ _ _ _ _ _ _ h1; omega
  | succ k ih =>
   intro x b l h0 h1 h2 h3 h4 h5 h6 h7
   have hm : ∀ q ∈ l ++ [s.extract b.toNat x.toNat], q.size ≤ s.size := by
    intro q hq
    rcases List.mem_append.1 hq with h | h
    ·exact h6 q h
    ·obtain rfl := List.mem_singleton.1 h
     simp only [ByteArray.size_extract]
     omega
   unfold ostiaryref1_Cut.l0
   (repeat' (first | (with_reducible refine Tot.guard oK ?_) | (with_reducible refine Tot.pure ?_) | (with_reducible refine Tot.bind (by first | exact Letter_tot _ | exact Digit_tot _ | exact Begins_tot _ _ | exact Ends_tot _ _ oK | exact Hex_tot _ _ oK | exact bad_tot _ _ oK | exact Own_tot _ _ oK | exact Special_tot _ _ oK | exact In_tot _ _ _ oK | exact Escape_tot _ (bt_range _ _).1 (bt_range _ _).2 | exact Percent_tot _ _ _ oK oK | exact Int_tot _ _ oK oK) ?_; intro _ _) | (with_reducible refine Tot.ite ?_ ?_ <;> intro _)))
   ·exact ih _ _ _ oK oK oK oK (by simp) oK hm oK
   ·exact ih _ _ _ oK oK oK oK (by simp) oK hm oK
   ·exact ih _ _ _ oK oK oK oK (by intro q; exfalso; revert q; unfold wrap64; omega) oK h6 oK
   ·exact ⟨h4 (by omega), by omega, h6⟩
 exact H k 0 0 [] (by omega) (by omega) (by omega) (by omega) (by omega) (by simp) (by simp) (by omega)
theorem labels_tot (k : Nat) (s : ByteArray) (hs : s.size ≤ 1000000) (hk : s.size + 100 ≤ k) : Tot (ostiaryref2_labels.f k s) (fun r => 1 ≤ r.length ∧ r.length ≤ s.size + 1 ∧ ∀ x ∈ r, x.size ≤ s.size) := by
 unfold ostiaryref2_labels.f
 refine Tot.bind (Cut_tot k s 46 hs hk) (fun r hr => ?_)
 obtain ⟨h1, h2, h3⟩ := hr
 (repeat' (first | (with_reducible refine Tot.guard oK ?_) | (with_reducible refine Tot.pure ?_) | (with_reducible refine Tot.bind (by first | exact Letter_tot _ | exact Digit_tot _ | exact Begins_tot _ _ | exact Ends_tot _ _ oK | exact Hex_tot _ _ oK | exact bad_tot _ _ oK | exact Own_tot _ _ oK | exact Special_tot _ _ oK | exact In_tot _ _ _ oK | exact Escape_tot _ (bt_range _ _).1 (bt_range _ _).2 | exact Percent_tot _ _ _ oK oK | exact Int_tot _ _ oK oK | exact Cut_tot _ _ _ oK oK) ?_; intro _ _) | (with_reducible refine Tot.ite ?_ ?_ <;> intro _)))
 ·refine ⟨?_, ?_, fun x hx => h3 x (List.mem_of_mem_take hx)⟩
  ·rw [List.length_take, wr _ (by omega) (by omega)]
   omega
  ·rw [List.length_take]
   omega
 ·exact ⟨h1, h2, h3⟩
 ·exact ⟨h1, h2, h3⟩
theorem u64_nonneg (n : Int) : 0 ≤ IntKind.u64.wrap n := by
 simp only [IntKind.wrap, IntKind.signed, IntKind.bits]
 simp
 omega
theorem number_tot (k : Nat) (s : ByteArray) (hs : s.size ≤ 1000000) (hk : 2 * s.size + 100 ≤ k) : Tot (ostiaryref2_number.f k s) (fun r => 0 ≤ r.1 ∧ r.1 ≤ 1099511627776) := by
 have H : ∀ (k : Nat) (s : ByteArray) (b x q : Int), s.size ≤ 1000000 → 0 ≤ x → x ≤ s.size → 2 * (s.size - x.toNat) + 50 ≤ k → 0 ≤ q → q ≤ 1099511627776 → Tot (ostiaryref2_number.l0 k s b q x) (fun r => 0 ≤ r.1 ∧ r.1 ≤ 1099511627776) := by
  intro k
  induction k using Nat.strongRecOn with
  | _ k ih =>
  intro s b x q hs h0 h2 h1 hq hm
  obtain ⟨k, rfl⟩ : ∃ j, k = j + 2 := ⟨k - 2, by omega⟩
  unfold ostiaryref2_number.l0
  have J : ∀ t f, x < s.size → Tot (ostiaryref2_number.j3 (k + 1) s b q x t f) (fun r => 0 ≤ r.1 ∧ r.1 ≤ 1099511627776) := by
   intro t f hx
   unfold ostiaryref2_number.j3
   have hn := u64_nonneg (IntKind.u64.wrap (q * b) + IntKind.u64.wrap t)
   (repeat' (first | (with_reducible refine Tot.guard oK ?_) | (with_reducible refine Tot.pure ?_) | (with_reducible refine Tot.bind q9_ ?_; intro _ _) | (with_reducible refine Tot.ite ?_ ?_ <;> intro _)))
   ·omega
   ·exact ih k (by omega) _ _ _ _ hs oK oK oK (by omega) (by omega)
   ·exact ih k (by omega) _ _ _ _ hs oK oK oK (by omega) (by omega)
  (repeat' (first | (with_reducible refine Tot.guard oK ?_) | (with_reducible refine Tot.pure ?_) | (with_reducible refine Tot.bind q9_ ?_; intro _ _) | (with_reducible refine Tot.ite ?_ ?_ <;> intro _)))
  ·exact J _ _ (by assumption)
  ·exact J _ _ (by assumption)
  ·exact ⟨hq, hm⟩
 have J : ∀ (k : Nat) (s : ByteArray) (b : Int) (f : Bool), s.size ≤ 1000000 → 2 * s.size + 60 ≤ k → (f = true → 2 ≤ s.size) → Tot (ostiaryref2_number.j0 k s b f) (fun r => 0 ≤ r.1 ∧ r.1 ≤ 1099511627776) := by
  intro k s b f hs hk hf
  obtain ⟨k, rfl⟩ : ∃ j, k = j + 2 := ⟨k - 2, by omega⟩
  simp only [ostiaryref2_number.j0, ostiaryref2_number.j1]
  refine Tot.ite (fun hft => ?_) (fun _ => ?_)
  ·have := hf hft
   (repeat' (first | (with_reducible refine Tot.guard oK ?_) | (with_reducible refine Tot.pure ?_) | (with_reducible refine Tot.bind q9_ ?_; intro _ _) | (with_reducible refine Tot.ite ?_ ?_ <;> intro _)))
   ·omega
   ·exact H _ _ _ _ _ oK (by omega) (by omega) oK (by omega) (by omega)
  ·(repeat' (first | (with_reducible refine Tot.guard oK ?_) | (with_reducible refine Tot.pure ?_) | (with_reducible refine Tot.bind q9_ ?_; intro _ _) | (with_reducible refine Tot.ite ?_ ?_ <;> intro _)))
   ·exact H _ _ _ _ _ oK (by omega) (by omega) oK (by omega) (by omega)
   ·exact H _ _ _ _ _ oK (by omega) (by omega) oK (by omega) (by omega)
   ·exact H _ _ _ _ _ oK (by omega) (by omega) oK (by omega) (by omega)
 unfold ostiaryref2_number.f
 refine Tot.bind (Begins_tot _ _) (fun r hr => ?_)
 refine Tot.ite (fun h => J _ _ _ _ hs (by omega) (fun _ => hr h)) (fun _ => ?_)
 refine Tot.bind (Begins_tot _ _) (fun r hr => J _ _ _ _ hs (by omega) (fun h => hr h))
theorem Four_tot (k : Nat) (s : ByteArray) (hs : s.size ≤ 1000000) (hk : 2 * s.size + 200 ≤ k) : Tot (ostiaryref2_Four.f k s) (fun r => 0 ≤ r.1 ∧ r.1 ≤ 4294967295) := by
 have L : ∀ (k : Nat) (l : List Int) (q x : Int), 1 ≤ l.length → l.length ≤ 4 → 0 ≤ x → (4 - x.toNat) + 1 ≤ k → Tot (ostiaryref2_Four.l1 k l q x) (fun r => 0 ≤ r.1 ∧ r.1 ≤ 4294967295) := by
  intro k
  induction k with
  | zero => intro l q x _ _ _ h; omega
  | succ k ih =>
   intro l q x h1 h4 h0 hk
   unfold ostiaryref2_Four.l1
   refine Tot.ite (fun hlt => ?_) (fun hge => ?_)
   ·rw [wr _ (by omega) (by omega)] at hlt
    refine Tot.guard h0 (Tot.guard (by omega) (Tot.ite (fun _ => Tot.pure (by simp)) (fun _ => Tot.guard (u64_nonneg _) (ih _ _ _ h1 h4 oK oK))))
   ·refine Tot.guard oK (Tot.guard oK (Tot.guard (u64_nonneg _) (Tot.ite (fun _ => Tot.pure (by simp)) (fun _ => Tot.pure ?_))))
    simp only
    omega
 have H : ∀ (k : Nat) (ls : List ByteArray) (l : List Int) (x : Int), 1 ≤ ls.length → ls.length ≤ 4 → (∀ q ∈ ls, q.size ≤ s.size) → 0 ≤ x → x ≤ ls.length → l.length = x.toNat → 2 * s.size + 110 + (4 - x.toNat) ≤ k → Tot (ostiaryref2_Four.l0 k ls l x) (fun r => 0 ≤ r.1 ∧ r.1 ≤ 4294967295) := by
  intro k
  induction k with
  | zero => intro ls l x _ _ _ _ _ _ h; omega
  | succ k ih =>
   intro ls l x h1 h4 hm h0 hx hl hk
   have hz : (rdOf ByteArray.empty ls x).size ≤ s.size := rdOf_mem _ _ (fun q : ByteArray => q.size ≤ s.size) hm (Nat.zero_le _) _
   unfold ostiaryref2_Four.l0
   (repeat' (first | (with_reducible refine Tot.guard oK ?_) | (with_reducible refine Tot.pure ?_) | (with_reducible refine Tot.bind (by first | exact Letter_tot _ | exact Digit_tot _ | exact Begins_tot _ _ | exact Ends_tot _ _ oK | exact Hex_tot _ _ oK | exact bad_tot _ _ oK | exact Own_tot _ _ oK | exact Special_tot _ _ oK | exact In_tot _ _ _ oK | exact Escape_tot _ (bt_range _ _).1 (bt_range _ _).2 | exact Percent_tot _ _ _ oK oK | exact Int_tot _ _ oK oK | exact Cut_tot _ _ _ oK oK | exact labels_tot _ _ oK oK | exact number_tot _ _ oK oK) ?_; intro _ _) | (with_reducible refine Tot.ite ?_ ?_ <;> intro _)))
   ·exact ih _ _ _ h1 h4 hm oK oK q16_ oK
   ·simp
   ·exact L _ _ _ _ (by omega) (by omega) (by omega) (by omega)
 unfold ostiaryref2_Four.f
 refine Tot.bind (labels_tot _ _ hs (by omega)) (fun r hr => ?_)
 obtain ⟨h1, h2, h3⟩ := hr
 refine Tot.ite (fun _ => Tot.pure (by simp)) (fun _ => H _ _ _ _ h1 (by omega) h3 (by omega) (by omega) rfl (by omega))
end Go.Proofs.YtifmkgkiipckbaaDoor.P
namespace Go.Proofs.YtifmkgkiipckbaaDoor.P
open Go.RowKit Go.Proofs.YtifmkgkiipckbaaDoorW.PrintWords Go.Proofs.YtifmkgkiipckbaaDoorW.PrintLast
set_option linter.unusedVariables false
set_option linter.unusedSimpArgs false
theorem tmod10 (x : Int) (h : 0 ≤ x) : 0 ≤ Int.tmod x 10 ∧ Int.tmod x 10 ≤ 9 ∧ Int.tdiv x 10 = x / 10 := by
 rw [Int.tmod_eq_emod_of_nonneg h, Int.tdiv_eq_ediv_of_nonneg h]
 omega
theorem tmod16 (x : Int) (h : 0 ≤ x) : 0 ≤ Int.tmod x 16 ∧ Int.tmod x 16 ≤ 15 ∧ Int.tdiv x 16 = x / 16 := by
 rw [Int.tmod_eq_emod_of_nonneg h, Int.tdiv_eq_ediv_of_nonneg h]
 omega
theorem u16_in (x : Int) (h : 0 ≤ x) (k : x ≤ 65535) : IntKind.u16.wrap x = x := by
 simp only [IntKind.wrap, IntKind.signed, IntKind.bits]
 simp
 omega
theorem u16_range (x : Int) : 0 ≤ IntKind.u16.wrap x ∧ IntKind.u16.wrap x ≤ 65535 := by
 simp only [IntKind.wrap, IntKind.signed, IntKind.bits]
 simp
 omega
theorem toList_nil {s : ByteArray} (h : s.toList = []) : s.size = 0 := by
 rw [ByteArray.toList_eq] at h
 have := congrArg List.length h
 simpa using this
theorem toList_nil' {s : ByteArray} (h : s.size = 0) : s.toList = [] := by
 rw [ByteArray.toList_eq]
 exact List.eq_nil_of_length_eq_zero (by simpa using h)
theorem Numeral_tot (k : Nat) (a : Int) (h0 : 0 ≤ a) (h1 : a ≤ 9223372036854775807) (hk : 25 ≤ k) : Tot (ostiaryref1_Numeral.f k a) (fun r => 1 ≤ r.size ∧ r.size ≤ 30) := by
 have H : ∀ (n k : Nat) (x : Int) (q : ByteArray), 0 ≤ x → x < 10 ^ n → x ≤ 9223372036854775807 → n + 2 ≤ k → q.size + n ≤ 20 → (0 < x ∨ 1 ≤ n ∨ 1 ≤ q.size) → Tot (ostiaryref1_Numeral.l0 k x q) (fun r => 1 ≤ r.size ∧ r.size ≤ 30) := by
  intro n
  induction n with
  | zero =>
   intro k x q h0 h1 _ hk hq hp
   simp at h1
   obtain rfl : x = 0 := by omega
   obtain ⟨k, rfl⟩ : ∃ j, k = j + 1 := ⟨k - 1, by omega⟩
   unfold ostiaryref1_Numeral.l0
   rw [if_neg (by omega), if_neg (fun h => by have := toList_nil h; omega)]
   exact Tot.pure (by omega)
  | succ n ih =>
   intro k x q h0 h1 hm hk hq hp
   obtain ⟨k, rfl⟩ : ∃ j, k = j + 1 := ⟨k - 1, by omega⟩
   obtain ⟨t0, t1, t2⟩ := tmod10 x h0
   have hx : x / 10 < 10 ^ n := by
    rw [Int.pow_succ] at h1
    omega
   unfold ostiaryref1_Numeral.l0
   have hw : wrap64 (Int.tmod x 10 + 1) = Int.tmod x 10 + 1 := wr _ (by omega) (by omega)
   have hd : wrap64 (Int.tdiv x 10) = x / 10 := by rw [t2]; exact wr _ (by omega) (by omega)
   rw [hw, hd]
   refine Tot.ite (fun _ => ?_) (fun _ => Tot.ite (fun _ => ?_) (fun hz => Tot.pure ?_))
   ·refine Tot.guard (by omega) (Tot.guard (by omega) (Tot.guard (by omega) (Tot.guard oK (ih _ _ _ (by omega) hx (by omega) (by omega) ?_ ?_))))
    ·simp only [ByteArray.size_append, ByteArray.size_extract, lit_size, List.size_toArray, List.length_cons, List.length_nil]; omega
    ·right; right
     simp only [ByteArray.size_append, ByteArray.size_extract, lit_size, List.size_toArray, List.length_cons, List.length_nil]; omega
   ·refine Tot.guard (by omega) (Tot.guard (by omega) (Tot.guard (by omega) (Tot.guard oK (ih _ _ _ (by omega) hx (by omega) (by omega) ?_ ?_))))
    ·simp only [ByteArray.size_append, ByteArray.size_extract, lit_size, List.size_toArray, List.length_cons, List.length_nil]; omega
    ·right; right
     simp only [ByteArray.size_append, ByteArray.size_extract, lit_size, List.size_toArray, List.length_cons, List.length_nil]; omega
   ·refine ⟨?_, by omega⟩
    apply Nat.pos_of_ne_zero
    intro q0
    exact hz (toList_nil' q0)
 obtain ⟨k, rfl⟩ : ∃ j, k = j + 1 := ⟨k - 1, by omega⟩
 unfold ostiaryref1_Numeral.f
 rw [if_neg (by omega), if_neg (by omega)]
 exact H 19 k a _ h0 (by omega) h1 (by omega) (by decide) (by omega)
theorem digits_tot (k : Nat) (a : Int) (h0 : 0 ≤ a) (h1 : a ≤ 65535) (hk : 25 ≤ k) : Tot (ostiaryref2_digits.f k a) (fun r => 1 ≤ r.size ∧ r.size ≤ 4) := by
 have H : ∀ (n k : Nat) (x : Int) (q : ByteArray), 0 ≤ x → x < 16 ^ n → x ≤ 65535 → n + 2 ≤ k → q.size + n ≤ 4 → (0 < x ∨ 1 ≤ n ∨ 1 ≤ q.size) → Tot (ostiaryref2_digits.l0 k x q) (fun r => 1 ≤ r.size ∧ r.size ≤ 4) := by
  intro n
  induction n with
  | zero =>
   intro k x q h0 h1 _ hk hq hp
   simp at h1
   obtain rfl : x = 0 := by omega
   obtain ⟨k, rfl⟩ : ∃ j, k = j + 1 := ⟨k - 1, by omega⟩
   unfold ostiaryref2_digits.l0
   rw [if_neg (by omega), if_neg (fun h => by have := toList_nil h; omega)]
   exact Tot.pure (by omega)
  | succ n ih =>
   intro k x q h0 h1 hm hk hq hp
   obtain ⟨k, rfl⟩ : ∃ j, k = j + 1 := ⟨k - 1, by omega⟩
   obtain ⟨t0, t1, t2⟩ := tmod16 x h0
   have hx : x / 16 < 16 ^ n := by
    rw [Int.pow_succ] at h1
    omega
   unfold ostiaryref2_digits.l0
   have hw : IntKind.u16.wrap (Int.tmod x 16 + 1) = Int.tmod x 16 + 1 := u16_in _ (by omega) (by omega)
   have hd : IntKind.u16.wrap (Int.tdiv x 16) = x / 16 := by rw [t2]; exact u16_in _ (by omega) (by omega)
   rw [hw, hd]
   refine Tot.ite (fun _ => ?_) (fun _ => Tot.ite (fun _ => ?_) (fun hz => Tot.pure ?_))
   ·refine Tot.guard (by omega) (Tot.guard (by omega) (Tot.guard (by omega) (Tot.guard oK (ih _ _ _ (by omega) hx (by omega) (by omega) ?_ ?_))))
    ·simp only [ByteArray.size_append, ByteArray.size_extract, lit_size, List.size_toArray, List.length_cons, List.length_nil]; omega
    ·right; right
     simp only [ByteArray.size_append, ByteArray.size_extract, lit_size, List.size_toArray, List.length_cons, List.length_nil]; omega
   ·refine Tot.guard (by omega) (Tot.guard (by omega) (Tot.guard (by omega) (Tot.guard oK (ih _ _ _ (by omega) hx (by omega) (by omega) ?_ ?_))))
    ·simp only [ByteArray.size_append, ByteArray.size_extract, lit_size, List.size_toArray, List.length_cons, List.length_nil]; omega
    ·right; right
     simp only [ByteArray.size_append, ByteArray.size_extract, lit_size, List.size_toArray, List.length_cons, List.length_nil]; omega
   ·refine ⟨?_, by omega⟩
    apply Nat.pos_of_ne_zero
    intro q0
    exact hz (toList_nil' q0)
 exact H 4 k a _ h0 (by omega) h1 (by omega) (by decide) (by omega)
end Go.Proofs.YtifmkgkiipckbaaDoor.P
namespace Go.Proofs.YtifmkgkiipckbaaDoor.P
open Go.RowKit Go.Proofs.YtifmkgkiipckbaaDoorW.PrintWords Go.Proofs.YtifmkgkiipckbaaDoorW.PrintLast Go.Proofs.YtifmkgkiipckbaaDoorW.PrintMore
set_option linter.unusedVariables false
set_option linter.unusedSimpArgs false
theorem and255 (x y : Int) (h0 : 0 ≤ x) (h1 : x ≤ 4294967295) : 0 ≤ Go.bits .and .u32 (shr .u32 x y) 255 ∧ Go.bits .and .u32 (shr .u32 x y) 255 ≤ 255 := by
 have hp : (0 : Int) < 2 ^ min y.toNat (IntKind.u32).bits := Int.pow_pos (by omega)
 have a0 : 0 ≤ shr .u32 x y := Int.ediv_nonneg h0 (Int.le_of_lt hp)
 have a1 : shr .u32 x y ≤ x := Int.ediv_le_self _ h0
 rw [u32_and _ _ a0 (by omega) (by omega) (by omega)]
 have := Nat.and_le_right (n := (shr .u32 x y).toNat) (m := (255 : Int).toNat)
 have e : (255 : Int).toNat = 255 := rfl
 omega
theorem Text4_tot (k : Nat) (a : Int) (h0 : 0 ≤ a) (h1 : a ≤ 4294967295) (hk : 40 ≤ k) : Tot (ostiaryref2_Text4.f k a) (fun r => 1 ≤ r.size ∧ r.size ≤ 200) := by
 have H : ∀ (k : Nat) (q : ByteArray) (x : Int), -8 ≤ x → x ≤ 24 → q.size ≤ 35 * (24 - x).toNat / 8 → (x < 24 → 1 ≤ q.size) → (x + 8).toNat + 2 ≤ k * 8 → 30 + (x + 8).toNat / 8 ≤ k → Tot (ostiaryref2_Text4.l0 k a q x) (fun r => 1 ≤ r.size ∧ r.size ≤ 200) := by
  intro k
  induction k with
  | zero => intro q x _ _ _ _ _ h; omega
  | succ k ih =>
   intro q x hx0 hx1 hq hp hk hk2
   have hb := and255 a (IntKind.u64.wrap x) h0 h1
   unfold ostiaryref2_Text4.l0
   generalize Go.bits .and .u32 (shr .u32 a (IntKind.u64.wrap x)) 255 = b at hb
   have hw := wr b (by omega) (by omega)
   refine Tot.ite (fun hge => ?_) (fun hlt => Tot.pure ⟨hp (by omega), by omega⟩)
   refine Tot.ite (fun _ => ?_) (fun _ => ?_)
   ·refine Tot.guard (u64_nonneg _) (Tot.bind (by rw [hw]; exact Numeral_tot k b hb.1 (by omega) (by omega)) (fun r hr => ?_))
    refine Tot.guard (by omega) (ih _ _ ?_ ?_ ?_ ?_ ?_ ?_)
    ·unfold wrap64; omega
    ·unfold wrap64; omega
    ·rw [ByteArray.size_append, wr _ (by omega) (by omega)]; omega
    ·intro _; rw [ByteArray.size_append]; omega
    ·rw [wr _ (by omega) (by omega)]; omega
    ·rw [wr _ (by omega) (by omega)]; omega
   ·refine Tot.guard (by omega) (Tot.guard (u64_nonneg _) (Tot.bind (by rw [hw]; exact Numeral_tot k b hb.1 (by omega) (by omega)) (fun r hr => ?_)))
    refine Tot.guard oK (ih _ _ ?_ ?_ ?_ ?_ ?_ ?_)
    ·unfold wrap64; omega
    ·unfold wrap64; omega
    ·rw [ByteArray.size_append, ByteArray.size_append, wr _ (by omega) (by omega)]; show q.size + 1 + r.size ≤ _; omega
    ·intro _; rw [ByteArray.size_append]; omega
    ·rw [wr _ (by omega) (by omega)]; omega
    ·rw [wr _ (by omega) (by omega)]; omega
 exact H k _ 24 (by omega) (by omega) (by decide) (by omega) (by omega) (by omega)
theorem Numbered_tot (k : Nat) (s : ByteArray) (hs : s.size ≤ 1000000) (hk : 2 * s.size + 200 ≤ k) : Tot (ostiaryref2_Numbered.f k s) (fun _ => True) := by
 have L : ∀ (k : Nat) (s : ByteArray) (x : Int), s.size ≤ 1000000 → 0 ≤ x → (s.size - x.toNat) + 20 ≤ k → Tot (ostiaryref2_Numbered.l1 k s x) (fun _ => True) := by
  intro k s
  induction k with
  | zero => intro x _ _ h; omega
  | succ k ih =>
   intro x hs h0 hk
   unfold ostiaryref2_Numbered.l1
   (repeat' (first | (with_reducible refine Tot.guard oK ?_) | (with_reducible refine Tot.pure ?_) | (with_reducible refine Tot.bind q11_ ?_; intro _ _) | (with_reducible refine Tot.ite ?_ ?_ <;> intro _))) <;> first | trivial | exact ih _ hs oK oK
 have J : ∀ (k : Nat) (s : ByteArray) (f : Bool), s.size ≤ 1000000 → s.size + 30 ≤ k → Tot (ostiaryref2_Numbered.j1 k s f) (fun _ => True) := by
  intro k s f hs hk
  obtain ⟨k, rfl⟩ : ∃ j, k = j + 1 := ⟨k - 1, by omega⟩
  unfold ostiaryref2_Numbered.j1
  (repeat' (first | (with_reducible refine Tot.guard oK ?_) | (with_reducible refine Tot.pure ?_) | (with_reducible refine Tot.bind q11_ ?_; intro _ _) | (with_reducible refine Tot.ite ?_ ?_ <;> intro _))) <;> first | trivial | exact L _ _ _ hs (by omega) (by omega)
 have H : ∀ (k : Nat) (s : ByteArray) (f : Bool) (x : Int), s.size ≤ 1000000 → 0 ≤ x → (s.size - x.toNat) + s.size + 50 ≤ k → Tot (ostiaryref2_Numbered.l0 k s f x) (fun _ => True) := by
  intro k s
  induction k with
  | zero => intro f x _ _ h; omega
  | succ k ih =>
   intro f x hs h0 hk
   unfold ostiaryref2_Numbered.l0
   (repeat' (first | (with_reducible refine Tot.guard oK ?_) | (with_reducible refine Tot.pure ?_) | (with_reducible refine Tot.bind q11_ ?_; intro _ _) | (with_reducible refine Tot.ite ?_ ?_ <;> intro _))) <;> first | trivial | exact ih _ _ hs oK oK | exact J _ _ _ hs (by omega)
 unfold ostiaryref2_Numbered.f
 refine Tot.bind (labels_tot _ _ hs (by omega)) (fun r hr => ?_)
 obtain ⟨h1, h2, h3⟩ := hr
 have hz := rdOf_mem ByteArray.empty r (fun q : ByteArray => q.size ≤ s.size) h3 (Nat.zero_le _) (wrap64 ((r.length : Int) - 1))
 refine Tot.guard oK (Tot.guard oK (H _ _ _ _ (by omega) (by omega) (by omega)))
theorem mono_le {α : Type} {F : Nat → Option α} (h : ∀ k, LeO (F k) (F (k + 1))) : ∀ {k j : Nat}, k ≤ j → LeO (F k) (F j) := by
 intro k j hkj
 induction hkj with
 | refl => exact LeO.refl _
 | step _ ih => exact LeO.trans ih (h _)
theorem mono_det {α : Type} {F : Nat → Option α} (h : ∀ k, LeO (F k) (F (k + 1))) {k j : Nat} {a b : α} (ha : F k = some a) (hb : F j = some b) : a = b := by
 rcases Nat.le_total k j with q | q
 ·have := mono_le h q _ ha
  rw [this] at hb
  injection hb
 ·have := mono_le h q _ hb
  rw [ha] at this
  injection this
theorem Tot.bind' {α β : Type} {o : Option α} {f : α → Option β} {Q : α → Prop} {P : β → Prop} (h : Tot o Q) (k : ∀ r, o = some r → Q r → Tot (f r) P) : Tot (o.bind f) P := by
 obtain ⟨r, hr, hq⟩ := h
 have := k r hr hq
 rw [hr]
 exact this
def InU16 (l : List Int) : Prop := ∀ x ∈ l, 0 ≤ x ∧ x ≤ 65535
theorem decimals_tot (k : Nat) (s : ByteArray) (hs : s.size ≤ 1000000) (hk : 2 * s.size + 300 ≤ k) (h4 : ∃ j l, ostiaryref1_Cut.f j s 46 = some l ∧ l.length = 4) : Tot (ostiaryref2_decimals.f k s) (fun r => r.1.length ≤ 2 ∧ InU16 r.1) := by
 have H : ∀ (k : Nat) (ls : List ByteArray) (l : List Int) (x : Int), ls.length = 4 → (∀ q ∈ ls, q.size ≤ s.size) → 0 ≤ x → x ≤ ls.length → l.length = x.toNat → s.size + 110 + (4 - x.toNat) ≤ k → Tot (ostiaryref2_decimals.l0 k ls l x) (fun r => r.1.length ≤ 2 ∧ InU16 r.1) := by
  intro k
  induction k with
  | zero => intro ls l x _ _ _ _ _ h; omega
  | succ k ih =>
   intro ls l x h4 hm h0 hx hl hk
   have hz : (rdOf ByteArray.empty ls x).size ≤ s.size := rdOf_mem _ _ (fun q : ByteArray => q.size ≤ s.size) hm (Nat.zero_le _) _
   have e0 : InU16 [] := fun x hx => by cases hx
   unfold ostiaryref2_decimals.l0
   (repeat' (first | (with_reducible refine Tot.guard oK ?_) | (with_reducible refine Tot.pure ?_) | (with_reducible refine Tot.bind (by first | exact Letter_tot _ | exact Digit_tot _ | exact Begins_tot _ _ | exact Ends_tot _ _ oK | exact Hex_tot _ _ oK | exact bad_tot _ _ oK | exact Own_tot _ _ oK | exact Special_tot _ _ oK | exact In_tot _ _ _ oK | exact Escape_tot _ (bt_range _ _).1 (bt_range _ _).2 | exact Percent_tot _ _ _ oK oK | exact Int_tot _ _ oK oK | exact Cut_tot _ _ _ oK oK | exact labels_tot _ _ oK oK | exact number_tot _ _ oK oK | exact Four_tot _ _ oK oK | exact Numeral_tot _ _ oK oK oK | exact digits_tot _ _ oK oK oK | exact Text4_tot _ _ oK oK oK | exact Numbered_tot _ _ oK oK) ?_; intro _ _) | (with_reducible refine Tot.ite ?_ ?_ <;> intro _)))
   ·exact ⟨by simp, e0⟩
   ·exact ⟨by simp, e0⟩
   ·exact ih _ _ _ h4 hm oK oK q16_ oK
   ·exact ih _ _ _ h4 hm oK oK q16_ oK
   ·exact ⟨by simp, e0⟩
   ·refine ⟨by simp, fun x hx => ?_⟩
    simp only [List.mem_cons, List.not_mem_nil, or_false] at hx
    rcases hx with rfl | rfl <;> exact u16_range _
 unfold ostiaryref2_decimals.f
 refine Tot.bind' (Cut_tot k s 46 hs (by omega)) (fun r he hr => ?_)
 obtain ⟨h1, h2, h3⟩ := hr
 obtain ⟨j, l, hj, hl⟩ := h4
 have : r = l := mono_det (F := fun k => ostiaryref1_Cut.f k s 46) (fun k => ostiaryref1_Cut.mono _ _ k) he hj
 subst this
 exact H _ _ _ _ hl h3 (by omega) (by omega) rfl (by omega)
end Go.Proofs.YtifmkgkiipckbaaDoor.P
namespace Go.Proofs.YtifmkgkiipckbaaDoor.P
open Go.RowKit Go.Proofs.YtifmkgkiipckbaaDoorW.PrintWords Go.Proofs.YtifmkgkiipckbaaDoorW.PrintLast Go.Proofs.YtifmkgkiipckbaaDoorW.PrintMore
set_option linter.unusedVariables false
set_option linter.unusedSimpArgs false
theorem InU16.snoc {l : List Int} (h : InU16 l) (n : Int) : InU16 (l ++ [IntKind.u16.wrap n]) := by
 intro x hx
 rcases List.mem_append.1 hx with q | q
 ·exact h x q
 ·obtain rfl := List.mem_singleton.1 q
  exact u16_range _
theorem InU16.append {l m : List Int} (h : InU16 l) (k : InU16 m) : InU16 (l ++ m) := by
 intro x hx
 rcases List.mem_append.1 hx with q | q
 ·exact h x q
 ·exact k x q
theorem InU16.nil : InU16 [] := fun x hx => by cases hx
theorem pieces_tot (k : Nat) (s : ByteArray) (last : Bool) (hs : s.size ≤ 1000000) (hk : 13 * s.size + 500 ≤ k) : Tot (ostiaryref2_pieces.f k s last) (fun r => r.1.length ≤ s.size + 3 ∧ InU16 r.1) := by
 have H : ∀ (k : Nat) (ls : List ByteArray), ls.length ≤ s.size + 1 → (∀ q ∈ ls, q.size ≤ s.size) →
   (∀ (l : List Int) (x : Int), 0 ≤ x → x ≤ ls.length → l.length ≤ x.toNat → InU16 l → 10 * (ls.length - x.toNat) + 2 * s.size + 400 ≤ k → Tot (ostiaryref2_pieces.l0 k last l ls x) (fun r => r.1.length ≤ s.size + 3 ∧ InU16 r.1)) ∧
   (∀ (l : List Int) (x n y : Int), 0 ≤ x → x < ls.length → l.length ≤ x.toNat → InU16 l → (rdOf ByteArray.empty ls x).size ≤ 4 → 0 ≤ y → y ≤ 4 → y ≤ (rdOf ByteArray.empty ls x).size → 10 * (ls.length - 1 - x.toNat) + (6 - y.toNat) + 2 * s.size + 400 ≤ k → Tot (ostiaryref2_pieces.l1 k last l ls x n y) (fun r => r.1.length ≤ s.size + 3 ∧ InU16 r.1)) := by
  intro k ls hlen hm
  induction k using Nat.strongRecOn with
  | _ k ih =>
  refine ⟨fun l x h0 h1 hl hu hk => ?_, fun l x n y h0 h1 hl hu hp hy0 hy1 hy2 hk => ?_⟩
  ·obtain ⟨k, rfl⟩ : ∃ j, k = j + 3 := ⟨k - 3, by omega⟩
   have hz : (rdOf ByteArray.empty ls x).size ≤ s.size := rdOf_mem _ _ (fun q : ByteArray => q.size ≤ s.size) hm (Nat.zero_le _) _
   have J2 : ∀ f, x < ls.length → (f = false → (rdOf ByteArray.empty ls x).size ≤ 4) → Tot (ostiaryref2_pieces.j2 (k + 1) last l ls x f) (fun r => r.1.length ≤ s.size + 3 ∧ InU16 r.1) := by
    intro f hx hf
    unfold ostiaryref2_pieces.j2
    refine Tot.ite (fun _ => Tot.pure ⟨by simp, InU16.nil⟩) (fun hn => ?_)
    exact (ih k (by omega)).2 _ _ _ _ h0 hx hl hu (hf (by simpa using hn)) (by omega) (by omega) (by omega) (by omega)
   have J1 : ∀ f, x < ls.length → (f = true → ∃ j l, ostiaryref1_Cut.f j (rdOf ByteArray.empty ls x) 46 = some l ∧ l.length = 4) → Tot (ostiaryref2_pieces.j1 (k + 2) last l ls x f) (fun r => r.1.length ≤ s.size + 3 ∧ InU16 r.1) := by
    intro f hx hf
    unfold ostiaryref2_pieces.j1
    refine Tot.ite (fun hft => Tot.guard h0 (Tot.guard hx (Tot.bind (decimals_tot _ _ (by omega) (by omega) (hf hft)) (fun r hr => ?_)))) (fun hn => Tot.guard h0 (Tot.guard hx ?_))
    ·refine Tot.ite (fun _ => Tot.guard (by omega) (Tot.pure ⟨?_, hu.append hr.2⟩)) (fun _ => Tot.pure ⟨by simp, InU16.nil⟩)
     simp only [List.length_append]
     omega
    ·refine Tot.ite (fun _ => J2 _ hx (by simp)) (fun _ => J2 _ hx (fun h => ?_))
     simp at h
     omega
   unfold ostiaryref2_pieces.l0
   refine Tot.ite (fun hx => ?_) (fun hx => Tot.pure ⟨by simp only; omega, hu⟩)
   refine Tot.ite (fun _ => Tot.ite (fun _ => Tot.guard h0 ?_) (fun _ => J1 _ hx (by simp))) (fun _ => J1 _ hx (by simp))
   refine Tot.bind' (Cut_tot _ _ _ (by omega) (by omega)) (fun r he hr => J1 _ hx (fun h => ⟨_, _, he, ?_⟩))
   have := beq_iff_eq.1 h
   omega
  ·obtain ⟨k, rfl⟩ : ∃ j, k = j + 1 := ⟨k - 1, by omega⟩
   unfold ostiaryref2_pieces.l1
   refine Tot.guard h0 (Tot.guard h1 (Tot.ite (fun hlt => Tot.guard hy0 (Tot.bind (Hex_tot _ _ (by omega)) (fun r hr => Tot.ite (fun _ => Tot.pure ⟨by simp, InU16.nil⟩) (fun _ => ?_)))) (fun hge => Tot.guard (by omega) ?_)))
   ·exact (ih k (by omega)).2 _ _ _ _ h0 h1 hl hu hp oK oK oK oK
   ·exact (ih k (by omega)).1 _ _ oK oK q16_ (hu.snoc _) oK
 unfold ostiaryref2_pieces.f
 refine Tot.ite (fun _ => Tot.pure ⟨by simp, InU16.nil⟩) (fun _ => ?_)
 refine Tot.bind (Cut_tot _ _ _ hs (by omega)) (fun r hr => ?_)
 exact (H k r hr.2.1 hr.2.2).1 _ _ (by omega) (by omega) (by simp) InU16.nil (by have := hr.2.1; simp only [Int.toNat_zero]; omega)
def InSix (r : Int × Int × Int × Int × Int × Int × Int × Int × Bool) : Prop := (0 ≤ r.1 ∧ r.1 ≤ 65535) ∧ (0 ≤ r.2.1 ∧ r.2.1 ≤ 65535) ∧ (0 ≤ r.2.2.1 ∧ r.2.2.1 ≤ 65535) ∧ (0 ≤ r.2.2.2.1 ∧ r.2.2.2.1 ≤ 65535) ∧ (0 ≤ r.2.2.2.2.1 ∧ r.2.2.2.2.1 ≤ 65535) ∧ (0 ≤ r.2.2.2.2.2.1 ∧ r.2.2.2.2.2.1 ≤ 65535) ∧ (0 ≤ r.2.2.2.2.2.2.1 ∧ r.2.2.2.2.2.2.1 ≤ 65535) ∧ (0 ≤ r.2.2.2.2.2.2.2.1 ∧ r.2.2.2.2.2.2.2.1 ≤ 65535)
theorem getD_in {l : List Int} (h : InU16 l) (i : Nat) : 0 ≤ l.getD i 0 ∧ l.getD i 0 ≤ 65535 := by
 rw [List.getD_eq_getElem?_getD]
 cases hq : l[i]? with
 | none => simp
 | some x => exact h x (List.mem_of_getElem? hq)
theorem tup8_in {l : List Int} (h : InU16 l) (b : Bool) : InSix (tup8 l b) :=
 ⟨getD_in h _, getD_in h _, getD_in h _, getD_in h _, getD_in h _, getD_in h _, getD_in h _, getD_in h _⟩
theorem fill8_in {a b : List Int} (ha : InU16 a) (hb : InU16 b) : InU16 (fill8 a b) := by
 refine InU16.append (InU16.append ha ?_) hb
 intro x hx
 obtain ⟨_, rfl⟩ := List.mem_replicate.1 hx
 omega
theorem Six_tot (s : ByteArray) (hs : s.size ≤ 1000000) : Tot (ostiaryref2_Six.f s) InSix := by
 unfold ostiaryref2_Six.f
 rw [if_pos (by omega)]
 unfold ostiaryref2_Six.g
 refine Tot.ite (fun _ => ?_) (fun _ => ?_)
 ·refine Tot.bind (pieces_tot _ _ _ hs (by unfold fuel6; omega)) (fun r hr => ?_)
  refine Tot.ite (fun _ => Tot.ite (fun _ => Tot.pure (tup8_in hr.2 _)) (fun _ => Tot.pure (tup8_in InU16.nil _))) (fun _ => Tot.pure (tup8_in InU16.nil _))
 ·have e1 : (s.extract 0 (six_at s s.size 0).toNat).size ≤ s.size := by simp only [ByteArray.size_extract]; omega
  have e2 : (s.extract ((six_at s s.size 0).toNat + 2) s.size).size ≤ s.size := by simp only [ByteArray.size_extract]; omega
  refine Tot.bind (pieces_tot _ _ _ (by omega) (by unfold fuel6; omega)) (fun a ha => ?_)
  refine Tot.bind (pieces_tot _ _ _ (by omega) (by unfold fuel6; omega)) (fun b hb => ?_)
  rw [if_neg (by omega)]
  refine Tot.ite (fun _ => Tot.ite (fun _ => Tot.ite (fun _ => Tot.pure (tup8_in (fill8_in ha.2 hb.2) _)) (fun _ => Tot.pure (tup8_in InU16.nil _))) (fun _ => Tot.pure (tup8_in InU16.nil _))) (fun _ => Tot.pure (tup8_in InU16.nil _))
theorem Text6_tot (a0 a1 a2 a3 a4 a5 a6 a7 : Int) (h0 : 0 ≤ a0 ∧ a0 ≤ 65535) (h1 : 0 ≤ a1 ∧ a1 ≤ 65535) (h2 : 0 ≤ a2 ∧ a2 ≤ 65535) (h3 : 0 ≤ a3 ∧ a3 ≤ 65535) (h4 : 0 ≤ a4 ∧ a4 ≤ 65535) (h5 : 0 ≤ a5 ∧ a5 ≤ 65535) (h6 : 0 ≤ a6 ∧ a6 ≤ 65535) (h7 : 0 ≤ a7 ∧ a7 ≤ 65535) :
  Tot (ostiaryref2_Text6.f a0 a1 a2 a3 a4 a5 a6 a7) (fun r => r.size ≤ 1100) := by
 unfold ostiaryref2_Text6.f
 generalize hl : [a0, a1, a2, a3, a4, a5, a6, a7] = l
 have hu : InU16 l := by
  subst hl
  intro x hx
  simp only [List.mem_cons, List.not_mem_nil, or_false] at hx
  rcases hx with rfl | rfl | rfl | rfl | rfl | rfl | rfl | rfl <;> assumption
 have hp := pick6_ok l (by subst hl; rfl) 8 (by omega)
 generalize pick6 l 8 = fl at hp
 have H : ∀ (k : Nat) (x : Int) (q : ByteArray), 0 ≤ x → q.size ≤ 6 * x.toNat → (8 - x.toNat) + 1 ≤ k → x ≤ 16 → Tot (ostiaryref2_Text6.l l fl.1 fl.2 k x q) (fun r => r.size ≤ 1100) := by
  intro k
  induction k with
  | zero => intro x q _ _ h; omega
  | succ k ih =>
   intro x q h0 hq hk hx
   unfold ostiaryref2_Text6.l
   refine Tot.ite (fun _ => ?_) (fun _ => Tot.pure (by omega))
   refine Tot.ite (fun _ => Tot.guard (by omega) (ih _ _ (by omega) ?_ (by omega) (by omega))) (fun _ => ?_)
   ·rw [ByteArray.size_append]
    show q.size + 2 ≤ _
    omega
   ·refine Tot.bind (digits_tot 40 _ (getD_in hu _).1 (getD_in hu _).2 (by omega)) (fun d hd => Tot.guard (by omega) ?_)
    refine Tot.ite (fun _ => ih _ _ (by omega) ?_ (by omega) (by omega)) (fun _ => Tot.ite (fun _ => ih _ _ (by omega) ?_ (by omega) (by omega)) (fun _ => ih _ _ (by omega) ?_ (by omega) (by omega)))
    ·rw [ByteArray.size_append]; omega
    ·rw [ByteArray.size_append]; omega
    ·rw [ByteArray.size_append, ByteArray.size_append]
     show q.size + 1 + d.size ≤ _
     omega
 exact H 9 0 _ (by omega) (by decide) (by omega) (by omega)
end Go.Proofs.YtifmkgkiipckbaaDoor.P
namespace Go.Proofs.YtifmkgkiipckbaaDoor.P
open Go.RowKit Go.Proofs.YtifmkgkiipckbaaDoorW.PrintWords Go.Proofs.YtifmkgkiipckbaaDoorW.PrintLast Go.Proofs.YtifmkgkiipckbaaDoorW.PrintMore
set_option linter.unusedVariables false
set_option linter.unusedSimpArgs false
theorem rLower_tot (s : ByteArray) (hs : s.size ≤ 1000000) : Tot (ostiaryref1_Lower.f s) (fun r => r = lowS s) := by
 unfold ostiaryref1_Lower.f
 rw [if_pos (by omega)]
 exact Tot.pure rfl
theorem iLower_tot (s : ByteArray) (hs : s.size ≤ 1000000) : Tot (infra_Lower.f s) (fun r => r = lowS s) := by
 unfold infra_Lower.f
 rw [if_pos (by omega)]
 exact Tot.pure rfl
theorem scheme_tot (k : Nat) (s : ByteArray) (hs : s.size ≤ 1000000) (hk : 2 * s.size + 100 ≤ k) : Tot (ostiaryref3_scheme.f k s) (fun r => r.1.size ≤ s.size ∧ r.2.1.size ≤ s.size) := by
 have H : ∀ (k : Nat) (x : Int), 0 ≤ x → 2 * (s.size - x.toNat) + 10 ≤ k → Tot (ostiaryref3_scheme.l0 k s x) (fun r => r.1.size ≤ s.size ∧ r.2.1.size ≤ s.size) := by
  intro k
  induction k using Nat.strongRecOn with
  | _ k ih =>
  intro x h0 hk
  obtain ⟨k, rfl⟩ : ∃ j, k = j + 2 := ⟨k - 2, by omega⟩
  have J : ∀ c f, x < s.size → Tot (ostiaryref3_scheme.j1 (k + 1) s x c f) (fun r => r.1.size ≤ s.size ∧ r.2.1.size ≤ s.size) := by
   intro c f hx
   have hr : Tot (ostiaryref3_scheme.l0 k s (wrap64 (x + 1))) (fun r => r.1.size ≤ s.size ∧ r.2.1.size ≤ s.size) := ih k (by omega) _ oK oK
   have e0 : (⟨#[]⟩ : ByteArray).size ≤ s.size := Nat.zero_le _
   unfold ostiaryref3_scheme.j1
   refine Tot.ite (fun _ => Tot.guard h0 (Tot.guard (by omega) (Tot.bind (rLower_tot _ oK) (fun r hr => ?_)))) (fun _ => ?_)
   ·subst hr
    refine Tot.guard oK (Tot.guard oK (Tot.pure ⟨?_, ?_⟩))
    ·simp only [lowS_size, ByteArray.size_extract]
     omega
    ·simp only [ByteArray.size_extract]
     omega
   ·(repeat' (first | (with_reducible refine Tot.guard oK ?_) | (with_reducible refine Tot.pure ?_) | (with_reducible refine Tot.bind q1_ ?_; intro _ _) | (with_reducible refine Tot.ite ?_ ?_ <;> intro _))) <;> first | exact hr | exact ⟨e0, e0⟩
  have e0 : (⟨#[]⟩ : ByteArray).size ≤ s.size := Nat.zero_le _
  unfold ostiaryref3_scheme.l0
  (repeat' (first | (with_reducible refine Tot.guard oK ?_) | (with_reducible refine Tot.pure ?_) | (with_reducible refine Tot.bind q1_ ?_; intro _ _) | (with_reducible refine Tot.ite ?_ ?_ <;> intro _))) <;> first | exact J _ _ (by omega) | exact ⟨e0, e0⟩
 exact H k 0 (by omega) (by omega)
theorem dots_tot (k : Nat) (s : ByteArray) (hs : s.size ≤ 1000000) (hk : s.size + 10 ≤ k) : Tot (ostiaryref3_dots.f k s) (fun _ => True) := by
 have H : ∀ (k : Nat) (s : ByteArray) (x : Int), s.size ≤ 1000000 → s.size + 5 ≤ k → Tot (ostiaryref3_dots.l0 k s x) (fun _ => True) := by
  intro k
  induction k with
  | zero => intro s x _ h; omega
  | succ k ih =>
   intro s x hs hk
   unfold ostiaryref3_dots.l0
   refine Tot.ite (fun _ => Tot.pure trivial) (fun hne => ?_)
   have hp : 0 < s.size := Nat.pos_of_ne_zero (fun q => hne (toList_nil' q))
   refine Tot.guard (by omega) (Tot.ite (fun _ => Tot.guard (by omega) (ih _ _ oK oK)) (fun _ => ?_))
   refine Tot.bind (rLower_tot _ hs) (fun r hr => Tot.bind (Begins_tot _ _) (fun b hb => Tot.ite (fun h => ?_) (fun _ => Tot.pure trivial)))
   have := hb h
   rw [hr, lowS_size] at this
   have h3 : 3 ≤ s.size := this
   exact Tot.guard (by omega) (ih _ _ oK oK)
 exact H _ _ _ hs (by omega)
theorem path_tot (k : Nat) (s : ByteArray) (hs : s.size ≤ 1000000) (hk : 6 * s.size + 1000 ≤ k) : Tot (ostiaryref3_path.f k [] s) (fun _ => True) := by
 have H : ∀ (k : Nat) (ls : List ByteArray), ls.length ≤ s.size + 1 → (∀ q ∈ ls, q.size ≤ s.size) → ∀ (l : List ByteArray) (x : Int), 0 ≤ x → x ≤ ls.length → l.length ≤ x.toNat → 5 * (ls.length - x.toNat) + s.size + 500 ≤ k → Tot (ostiaryref3_path.l0 k l ls x) (fun _ => True) := by
  intro k ls hlen hm
  induction k using Nat.strongRecOn with
  | _ k ih =>
  intro l x h0 hx hl hk
  obtain ⟨k, rfl⟩ : ∃ j, k = j + 4 := ⟨k - 4, by omega⟩
  have hz : (rdOf ByteArray.empty ls x).size ≤ s.size := rdOf_mem _ _ (fun q : ByteArray => q.size ≤ s.size) hm (Nat.zero_le _) _
  have J3 : ∀ (l : List ByteArray) (f : Bool), x < ls.length → l.length ≤ x.toNat → Tot (ostiaryref3_path.j3 (k + 1) l ls x f) (fun _ => True) := by
   intro l f hx hl
   unfold ostiaryref3_path.j3
   refine Tot.ite (fun _ => Tot.ite (fun _ => Tot.guard (by omega) ?_) (fun _ => ?_)) (fun _ => Tot.guard h0 (Tot.guard hx (Tot.bind (Percent_tot _ _ _ (by omega) (by omega)) (fun r hr => Tot.guard (by omega) ?_))))
   ·exact ih k (by omega) _ _ oK oK q16_ oK
   ·exact ih k (by omega) _ _ oK oK (by unfold wrap64; omega) oK
   ·exact ih k (by omega) _ _ oK oK q16_ oK
  have J2 : ∀ (l : List ByteArray) (n : Int), x < ls.length → l.length ≤ x.toNat → Tot (ostiaryref3_path.j2 (k + 2) l ls x n) (fun _ => True) := by
   intro l n hx hl
   unfold ostiaryref3_path.j2
   exact Tot.ite (fun _ => J3 _ _ hx hl) (fun _ => J3 _ _ hx hl)
  have J1 : ∀ (n : Int) (f : Bool), x < ls.length → (f = true → 1 ≤ l.length) → Tot (ostiaryref3_path.j1 (k + 3) l ls x n f) (fun _ => True) := by
   intro n f hx hf
   unfold ostiaryref3_path.j1
   refine Tot.ite (fun h => ?_) (fun _ => J2 _ _ hx hl)
   have := hf h
   refine Tot.guard oK (Tot.guard oK (J2 _ _ hx ?_))
   rw [List.length_take]
   omega
  unfold ostiaryref3_path.l0
  refine Tot.ite (fun hx => Tot.guard h0 (Tot.bind (dots_tot _ _ (by omega) (by omega)) (fun n _ => Tot.ite (fun _ => J1 _ _ hx (fun h => ?_)) (fun _ => J1 _ _ hx (by simp))))) (fun _ => Tot.pure trivial)
  simp at h
  omega
 unfold ostiaryref3_path.f
 refine Tot.bind (Tot.pure (P := fun r => r = []) rfl) (fun r hr => ?_)
 subst hr
 refine Tot.guard (by simp) (Tot.bind (Cut_tot _ _ _ hs (by omega)) (fun r hr => H k r hr.2.1 hr.2.2 _ _ (by omega) (by omega) (by simp) ?_))
 have := hr.2.1
 simp only [Int.toNat_zero]
 omega
theorem over_tot (k : Nat) (s : ByteArray) (hk : s.size + 2 ≤ k) : Tot (ostiaryref3_over.f k s) (fun r => r.size ≤ s.size) := by
 have H : ∀ (k : Nat) (t : ByteArray), t.size ≤ s.size → t.size + 1 ≤ k → Tot (ostiaryref3_over.l0 k t) (fun r => r.size ≤ s.size) := by
  intro k
  induction k with
  | zero => intro t _ h; omega
  | succ k ih =>
   intro t ht hk
   unfold ostiaryref3_over.l0
   (repeat' (first | (with_reducible refine Tot.guard oK ?_) | (with_reducible refine Tot.pure ?_) | (with_reducible refine Tot.bind q1_ ?_; intro _ _) | (with_reducible refine Tot.ite ?_ ?_ <;> intro _)))
   ·exact ih _ oK oK
   ·exact ht
   ·exact ht
 exact H k s (Nat.le_refl _) (by omega)
theorem ahead_tot (k : Nat) (s : ByteArray) (a b : Int) (hs : s.size ≤ 1000000) (hk : s.size + 2 ≤ k) : Tot (ostiaryref3_ahead.f k s a b) (fun r => r.1.size ≤ s.size ∧ r.2.size ≤ s.size) := by
 have H : ∀ (k : Nat) (x : Int), 0 ≤ x → (s.size - x.toNat) + 1 ≤ k → Tot (ostiaryref3_ahead.l0 k s a b x) (fun r => r.1.size ≤ s.size ∧ r.2.size ≤ s.size) := by
  intro k
  induction k with
  | zero => intro t _ h; omega
  | succ k ih =>
   intro x h0 hk
   unfold ostiaryref3_ahead.l0
   (repeat' (first | (with_reducible refine Tot.guard oK ?_) | (with_reducible refine Tot.pure ?_) | (with_reducible refine Tot.bind q1_ ?_; intro _ _) | (with_reducible refine Tot.ite ?_ ?_ <;> intro _)))
   ·simp only [ByteArray.size_extract]; omega
   ·simp only [ByteArray.size_extract]; omega
   ·exact ih _ oK oK
   ·exact ⟨Nat.le_refl _, Nat.zero_le _⟩
 exact H k 0 (by omega) (by omega)
theorem Part_tot (k : Nat) (s : ByteArray) (a : Int) (hs : s.size ≤ 1000000) (hk : s.size + 2 ≤ k) : Tot (ostiaryref1_Part.f k s a) (fun r => r.1.size ≤ s.size ∧ r.2.1.size ≤ s.size) := by
 have H : ∀ (k : Nat) (x : Int), 0 ≤ x → (s.size - x.toNat) + 1 ≤ k → Tot (ostiaryref1_Part.l0 k s a x) (fun r => r.1.size ≤ s.size ∧ r.2.1.size ≤ s.size) := by
  intro k
  induction k with
  | zero => intro t _ h; omega
  | succ k ih =>
   intro x h0 hk
   unfold ostiaryref1_Part.l0
   (repeat' (first | (with_reducible refine Tot.guard oK ?_) | (with_reducible refine Tot.pure ?_) | (with_reducible refine Tot.bind q1_ ?_; intro _ _) | (with_reducible refine Tot.ite ?_ ?_ <;> intro _)))
   ·simp only [ByteArray.size_extract]; omega
   ·exact ih _ oK oK
   ·exact ⟨Nat.le_refl _, Nat.zero_le _⟩
 exact H k 0 (by omega) (by omega)
theorem clean_tot (k : Nat) (s : ByteArray) (hs : s.size ≤ 1000000) (hk : 3 * s.size + 20 ≤ k) : Tot (ostiaryref3_clean.f k s) (fun r => r.size ≤ s.size) := by
 have L2 : ∀ (k : Nat) (t q : ByteArray) (x : Int), t.size ≤ s.size → 0 ≤ x → x ≤ t.size → q.size ≤ x.toNat → (t.size - x.toNat) + 1 ≤ k → Tot (ostiaryref3_clean.l2 k t q x) (fun r => r.size ≤ s.size) := by
  intro k
  induction k with
  | zero => intro t q x _ _ _ _ h; omega
  | succ k ih =>
   intro t q x ht h0 hx hq hk
   unfold ostiaryref3_clean.l2
   (repeat' (first | (with_reducible refine Tot.guard oK ?_) | (with_reducible refine Tot.pure ?_) | (with_reducible refine Tot.bind q1_ ?_; intro _ _) | (with_reducible refine Tot.ite ?_ ?_ <;> intro _)))
   ·exact ih _ _ _ ht oK oK oK oK
   ·exact ih _ _ _ ht oK oK oK oK
   ·exact ih _ _ _ ht oK oK oK oK
   ·exact ih _ _ _ ht oK oK oK oK
   ·omega
 have J3 : ∀ (k : Nat) (t : ByteArray), t.size ≤ s.size → t.size + 3 ≤ k → Tot (ostiaryref3_clean.j3 k t) (fun r => r.size ≤ s.size) := by
  intro k t ht hk
  obtain ⟨k, rfl⟩ : ∃ j, k = j + 1 := ⟨k - 1, by omega⟩
  unfold ostiaryref3_clean.j3
  exact L2 _ _ _ _ ht (by omega) (by omega) (Nat.zero_le _) (by omega)
 have L1 : ∀ (k : Nat) (t : ByteArray), t.size ≤ s.size → 2 * t.size + 5 ≤ k → Tot (ostiaryref3_clean.l1 k t) (fun r => r.size ≤ s.size) := by
  intro k
  induction k with
  | zero => intro t _ h; omega
  | succ k ih =>
   intro t ht hk
   unfold ostiaryref3_clean.l1
   (repeat' (first | (with_reducible refine Tot.guard oK ?_) | (with_reducible refine Tot.pure ?_) | (with_reducible refine Tot.bind q1_ ?_; intro _ _) | (with_reducible refine Tot.ite ?_ ?_ <;> intro _)))
   ·exact ih _ oK oK
   ·exact J3 _ _ ht (by omega)
   ·exact J3 _ _ ht (by omega)
 have J1 : ∀ (k : Nat) (t : ByteArray), t.size ≤ s.size → 2 * t.size + 6 ≤ k → Tot (ostiaryref3_clean.j1 k t) (fun r => r.size ≤ s.size) := by
  intro k t ht hk
  obtain ⟨k, rfl⟩ : ∃ j, k = j + 1 := ⟨k - 1, by omega⟩
  unfold ostiaryref3_clean.j1
  exact L1 _ _ ht (by omega)
 have L0 : ∀ (k : Nat) (t : ByteArray), t.size ≤ s.size → 3 * t.size + 8 ≤ k → Tot (ostiaryref3_clean.l0 k t) (fun r => r.size ≤ s.size) := by
  intro k
  induction k with
  | zero => intro t _ h; omega
  | succ k ih =>
   intro t ht hk
   unfold ostiaryref3_clean.l0
   (repeat' (first | (with_reducible refine Tot.guard oK ?_) | (with_reducible refine Tot.pure ?_) | (with_reducible refine Tot.bind q1_ ?_; intro _ _) | (with_reducible refine Tot.ite ?_ ?_ <;> intro _)))
   ·exact ih _ oK oK
   ·exact J1 _ _ ht (by omega)
   ·exact J1 _ _ ht (by omega)
 exact L0 k s (Nat.le_refl _) (by omega)
theorem strOfNums_size (l : List Int) : (strOfNums l).size = l.length := by
 unfold strOfNums
 rw [lit_size]
 simp
theorem Unpercent_tot (k : Nat) (s : ByteArray) (hs : s.size ≤ 1000000) (hk : 2 * s.size + 50 ≤ k) : Tot (ostiaryref1_Unpercent.f k s) (fun r => r.size ≤ s.size) := by
 have H : ∀ (k : Nat) (l : List Int) (x : Int), 0 ≤ x → x ≤ s.size → l.length ≤ x.toNat → 2 * (s.size - x.toNat) + 10 ≤ k → Tot (ostiaryref1_Unpercent.l0 k s l x) (fun r => r.size ≤ s.size) := by
  intro k
  induction k using Nat.strongRecOn with
  | _ k ih =>
  intro l x h0 hx hl hk
  obtain ⟨k, rfl⟩ : ∃ j, k = j + 2 := ⟨k - 2, by omega⟩
  have J : ∀ f, x < s.size → (f = true → x + 2 < s.size) → Tot (ostiaryref1_Unpercent.j1 (k + 1) s l x f) (fun r => r.size ≤ s.size) := by
   intro f hx hf
   unfold ostiaryref1_Unpercent.j1
   refine Tot.ite (fun h => ?_) (fun _ => ?_)
   ·have := hf h
    rw [wr (x + 1) (by omega) (by omega), wr (x + 2) (by omega) (by omega)]
    refine Tot.guard (by omega) (Tot.guard (by omega) (Tot.bind (Hex_tot _ _ (by omega)) (fun _ _ => Tot.guard (by omega) (Tot.guard (by omega) (Tot.bind (Hex_tot _ _ (by omega)) (fun _ _ => Tot.guard (by omega) ?_))))))
    exact ih k (by omega) _ _ oK oK q16_ oK
   ·refine Tot.guard h0 (Tot.guard hx (Tot.guard (by omega) ?_))
    exact ih k (by omega) _ _ oK oK q16_ oK
  unfold ostiaryref1_Unpercent.l0
  refine Tot.ite (fun hlt => Tot.guard h0 (Tot.ite (fun _ => Tot.ite (fun h2 => ?_) (fun _ => J _ hlt (by simp))) (fun _ => J _ hlt (by simp)))) (fun _ => Tot.pure (by rw [strOfNums_size]; omega))
  rw [wr (x + 2) (by omega) (by omega)] at h2 ⊢
  refine Tot.guard oK (Tot.guard oK (Tot.bind (Hex_tot _ _ (by omega)) (fun _ _ => Tot.ite (fun _ => Tot.guard (by omega) (Tot.bind (Hex_tot _ _ (by omega)) (fun _ _ => J _ hlt (fun _ => h2)))) (fun _ => J _ hlt (by simp)))))
 exact H k _ 0 (by omega) (by omega) (by simp) (by omega)
end Go.Proofs.YtifmkgkiipckbaaDoor.P
namespace Go.Proofs.YtifmkgkiipckbaaDoor.P
open Go.RowKit Go.Proofs.YtifmkgkiipckbaaDoorW.PrintWords Go.Proofs.YtifmkgkiipckbaaDoorW.PrintLast Go.Proofs.YtifmkgkiipckbaaDoorW.PrintMore
attribute [local go_sem] max2_int min2_int max_two min_two max_three min_three max_four min_four
set_option linter.unusedVariables false
set_option linter.unusedSimpArgs false
def ostiarykeep_Few.f (a0 : ByteArray) (a1 : Int) : Option (ByteArray) := if (a0.size : Int) > a1 then (if 0 ≤ a1 then (if a1 ≤ (a0.size : Int) then (some (a0.extract 0 (a1 : Int).toNat)) else (none)) else (none)) else (some a0)
set_option maxHeartbeats 8000000 in
set_option maxRecDepth 100000 in
theorem ostiarykeep_Few.calls (a0 : ByteArray) (a1 : Int) (r : ByteArray) (w : World) (h : ostiarykeep_Few.f a0 a1 = some r) :
  Calls Tryd.prog 15 #[.string a0, .int .i64 a1] w fun e w' => e = .returned (.string r) ∧ Drawn0 w w' := by
 have H : (if (a0.size : Int) > a1 then (if 0 ≤ a1 then (if a1 ≤ (a0.size : Int) then (some (a0.extract 0 (a1 : Int).toNat)) else (none)) else (none)) else (some a0)) = some r := h
 clear h
 by_cases c3 : (a0.size : Int) > a1
 ·rw [if_pos c3] at H
  have c3b0 : decide (a1 < (a0.size : Int)) = true := decide_eq_true c3
  clear c3
  by_cases c4 : 0 ≤ a1
  ·rw [if_pos c4] at H
   have c4b0 := eq_true c4
   have c4b1 : decide (0 ≤ a1) = true := decide_eq_true c4
   clear c4
   by_cases c5 : a1 ≤ (a0.size : Int)
   ·rw [if_pos c5] at H
    have c5b0 := eq_true c5
    have c5b1 : decide (a1 ≤ (a0.size : Int)) = true := decide_eq_true c5
    clear c5
    obtain rfl := Option.some.inj H
    go_enter Tryd.func15, Tryd.ntmps15
    go_wp2
    go_ret
    exact ⟨rS, by repeat (first | exact Drawn0.refl _ | apply Drawn0.step)⟩
   ·rw [if_neg c5] at H
    exact absurd H (by simp)
  ·rw [if_neg c4] at H
   exact absurd H (by simp)
 ·rw [if_neg c3] at H
  have c3b0 : decide (a1 < (a0.size : Int)) = false := decide_eq_false c3
  clear c3
  obtain rfl := Option.some.inj H
  go_enter Tryd.func15, Tryd.ntmps15
  go_wp2
  go_ret
  exact ⟨rS, by repeat (first | exact Drawn0.refl _ | apply Drawn0.step)⟩
end Go.Proofs.YtifmkgkiipckbaaDoor.P
