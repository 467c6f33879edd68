/- A part of the proof of FS: texts of walks and plain lemmas. -/
import Derived.Test.YtifmkgkiipckbaaGreatDoorXFS6
import Derived.Test.YtifmkgkiipckbaaGreatDoorXFS1
namespace Go.Proofs.YtifmkgkiipckbaaGreatDoor.P
open Go.RowKit Go.Proofs.YtifmkgkiipckbaaGreatDoorW.PrintWords Go.Proofs.YtifmkgkiipckbaaGreatDoorW.PrintLast Go.Proofs.YtifmkgkiipckbaaGreatDoorW.PrintMore
set_option linter.unusedVariables false
set_option linter.unusedSimpArgs false
theorem trimS_len (l cs : List UInt8) : (Lib.trimS l cs).length ≤ l.length := by
 unfold Lib.trimS Lib.trimLeftS Lib.trimRightS
 refine Nat.le_trans (List.dropWhile_sublist _).length_le ?_
 rw [List.length_reverse]
 refine Nat.le_trans (List.dropWhile_sublist _).length_le ?_
 rw [List.length_reverse]
 exact Nat.le_refl _
theorem Trim_tot (a : ByteArray) (h : a.size ≤ 1000000) : Tot (strings_Trim.f a ⟨#[9, 32]⟩) (fun r => r.size ≤ a.size) := by
 unfold strings_Trim.f
 rw [if_pos (by omega), if_pos (by decide), if_pos (by decide)]
 refine Tot.pure ?_
 have := trimS_len a.data.toList [9, 32]
 rw [Array.length_toList] at this
 show (Lib.trimS a.data.toList [9, 32]).toArray.size ≤ a.data.size
 rw [List.size_toArray]
 exact this
def FewP (l : List ByteArray) : Prop := l.length ≤ 10010 ∧ ∀ p ∈ l, p.size ≤ 10000
theorem Split_tot (k : Nat) (l : List S30) (n : ByteArray) (hl : FewH l) (hn : n.size ≤ 1000000) (hk : 30000 ≤ k) : Tot (headers_Split.f k l n) (fun r => FewP r.1) := by
 have H : ∀ (s : ByteArray) (hs : s.size ≤ 10000) (k : Nat) (q : List ByteArray) (b : Bool) (x y : Int), 0 ≤ x → x ≤ y → x ≤ s.size → y ≤ s.size + 2 → q.length ≤ x.toNat → (∀ p ∈ q, p.size ≤ 10000) → 2 * ((s.size : Int) + 3 - y).toNat + 5 ≤ k → Tot (headers_Split.l0 k s q b x y) (fun r => FewP r.1) := by
  intro s hs k
  induction k using Nat.strongRecOn with
  | _ k ih =>
  intro q b x y h0 hxy hx hy hq hp hk
  obtain ⟨k, rfl⟩ : ∃ j, k = j + 2 := ⟨k - 2, by omega⟩
  have ha : ∀ (i j : Nat), (s.extract i j).size ≤ s.size := fun i j => by rw [ByteArray.size_extract]; omega
  have hsnoc : ∀ (t : ByteArray) (u : ByteArray), t.size ≤ u.size → u.size ≤ s.size → ∀ p ∈ q ++ [t], p.size ≤ 10000 := fun t u h1 h2 p hm => by
   rcases List.mem_append.1 hm with h | h
   ·exact hp p h
   ·obtain rfl := List.mem_singleton.1 h
    omega
  have w1 : y < s.size → wrap64 (y + 1) = y + 1 := fun h => by unfold wrap64; omega
  have w2 : y < s.size → wrap64 (y + 1 + 1) = y + 1 + 1 := fun h => by unfold wrap64; omega
  unfold headers_Split.l0
  refine Tot.ite (fun hlt => Tot.guard (by omega) ?_) (fun _ => Tot.guard h0 (Tot.guard hx (Tot.bind (Trim_tot _ (by have := ha x.toNat s.size; omega)) (fun t ht => Tot.guard (by omega) (Tot.pure ⟨by simp; omega, hsnoc t _ ht (ha _ _)⟩)))))
  have J : ∀ c, Tot (headers_Split.j1 (k + 1) s q b x y c) (fun r => FewP r.1) := by
   intro c
   unfold headers_Split.j1
   rw [w1 hlt, w2 hlt]
   refine Tot.ite (fun _ => ih _ (by omega) _ _ _ _ h0 (by omega) hx (by omega) hq hp (by omega)) (fun _ => Tot.ite (fun _ => ih _ (by omega) _ _ _ _ h0 (by omega) hx (by omega) hq hp (by omega)) (fun _ => Tot.guard (by omega) (Tot.guard hlt (Tot.ite (fun _ => Tot.guard h0 (Tot.guard hxy (Tot.guard (by omega) (Tot.bind (Trim_tot _ (by have := ha x.toNat y.toNat; omega)) (fun t ht => Tot.guard (by omega) (ih _ (by omega) _ _ _ _ (by omega) (by omega) (by omega) (by omega) (by simp; omega) (hsnoc t _ ht (ha _ _)) (by omega))))))) (fun _ => ih _ (by omega) _ _ _ _ h0 (by omega) hx (by omega) hq hp (by omega))))))
  rw [w1 hlt]
  exact Tot.ite (fun _ => ih _ (by omega) _ _ _ _ h0 (by omega) hx (by omega) hq hp (by omega)) (fun _ => Tot.ite (fun _ => J _) (fun _ => J _))
 unfold headers_Split.f
 refine Tot.bind (Get_tot k l n hl hn (by omega)) (fun r hr => Tot.ite (fun _ => ?_) (fun _ => Tot.pure ⟨by simp, by simp⟩))
 exact H r.1 hr k [] false 0 0 (by omega) (by omega) (by omega) (by omega) (by simp) (by simp) (by omega)
def cookieB (n : ByteArray) : Bool := n.toList == [115, 101, 116, 45, 99, 111, 111, 107, 105, 101] || n.toList == [115, 101, 116, 45, 99, 111, 111, 107, 105, 101, 50]
def shB (P : ByteArray → Bool) (h : S30) : Bool := !cookieB (lowS h.f0) && P (lowS h.f0)
theorem rd_T_at (l : List S30) (i : Int) (h0 : 0 ≤ i) (h : i < l.length) : ∃ hi : i.toNat < l.length, rd_T30 l i = l[i.toNat] := by
 refine ⟨by omega, ?_⟩
 unfold rd_T30
 rw [List.getD_eq_getElem?_getD, List.getElem?_eq_getElem (by omega)]
 rfl
theorem shown_loop (pb : ByteArray → Bool) (l : List S30) (hz : ∀ x ∈ l, x.f0.size ≤ 1000000) (hl : l.length ≤ 1000000) (c : Int × Int) (b : List Int) (u : ByteArray) :
  ∀ (k : Nat) (i : Nat) (q : List S30), i ≤ l.length → q.length ≤ i → l.length - i + 2 ≤ k → filter_shownA.l0 (fun n => some (pb n)) k l (l.length : Int) (i : Int) c.1 c.2 q b u = some (c.1, c.2, q ++ (l.drop i).filter (shB pb), b, u) := by
 intro k
 induction k with
 | zero => intro i q _ _ h; omega
 | succ k ih =>
  intro i q hi hq hk
  unfold filter_shownA.l0
  by_cases hlt : i < l.length
  ·obtain ⟨h1, h2⟩ := rd_T_at l (i : Int) (by omega) (by omega)
   simp only [Int.toNat_natCast] at h1 h2
   rw [if_pos (by omega), if_pos (by omega), if_pos (by omega), h2]
   have hsz := hz _ (List.getElem_mem h1)
   have hw : wrap64 ((i : Int) + 1) = ((i + 1 : Nat) : Int) := by unfold wrap64; omega
   have hlow : infra_Lower.f l[i].f0 = some (lowS l[i].f0) := by unfold infra_Lower.f; rw [if_pos (by omega)]
   rw [hlow, hw]
   simp only [Option.bind_some]
   have hd : l.drop i = l[i] :: l.drop (i + 1) := List.drop_eq_getElem_cons h1
   rw [hd, List.filter_cons]
   have I := ih (i + 1) q (by omega) (by omega) (by omega)
   have I2 := ih (i + 1) (q ++ [l[i]]) (by omega) (by simp; omega) (by omega)
   by_cases c1 : (lowS l[i].f0).toList = ([115, 101, 116, 45, 99, 111, 111, 107, 105, 101] : List UInt8)
   ·rw [if_pos c1, I, if_neg (by simp [shB, cookieB, c1])]
   ·rw [if_neg c1]
    by_cases c2 : (lowS l[i].f0).toList = ([115, 101, 116, 45, 99, 111, 111, 107, 105, 101, 50] : List UInt8)
    ·rw [if_pos c2, I, if_neg (by simp [shB, cookieB, c2])]
    ·rw [if_neg c2]
     cases hb : pb (lowS l[i].f0) with
     | true =>
      rw [if_pos rfl, if_pos (by omega), if_pos (by simp [shB, cookieB, c1, c2, hb])]
      rw [show (⟨l[i].f0, l[i].f1⟩ : S30) = l[i] from rfl, I2]
      simp
     | false => rw [if_neg (by simp), I, if_neg (by simp [shB, hb])]
  ·rw [if_neg (by omega), List.drop_of_length_le (by omega)]
   simp
theorem shownA_is (pb : ByteArray → Bool) (l : List S30) (hz : ∀ x ∈ l, x.f0.size ≤ 1000000) (hl : l.length ≤ 1000000) (k : Nat) (hk : l.length + 2 ≤ k) (c1 c2 : Int) (b : List Int) (hb : b.length ≤ 1000000) (u : ByteArray) :
  filter_shownA.f k c1 c2 l b u (fun n => some (pb n)) = some (c1, c2, l.filter (shB pb), b, u) := by
 unfold filter_shownA.f slices_Clone.f
 rw [if_pos (by omega)]
 simp only [Option.bind_some]
 have := shown_loop pb l hz hl (c1, c2) b u k 0 [] (Nat.zero_le _) (Nat.le_refl _) (by omega)
 simpa using this
theorem AB (P : ByteArray → Option Bool) : ∀ k l n i c1 c2 q b u, filter_shownB.l0 P k l n i c1 c2 q b u = filter_shownA.l0 P k l n i c1 c2 q b u
 | 0, _, _, _, _, _, _, _, _ => rfl
 | k + 1, l, n, i, c1, c2, q, b, u => by
  unfold filter_shownB.l0 filter_shownA.l0
  simp only [AB P k]
theorem shownB_is (pb : ByteArray → Bool) (l : List S30) (hz : ∀ x ∈ l, x.f0.size ≤ 1000000) (hl : l.length ≤ 1000000) (k : Nat) (hk : l.length + 2 ≤ k) (c1 c2 : Int) (b : List Int) (hb : b.length ≤ 1000000) (u : ByteArray) :
  filter_shownB.f k c1 c2 l b u (fun n => some (pb n)) = some (c1, c2, l.filter (shB pb), b, u) := by
 have := shownA_is pb l hz hl k hk c1 c2 b hb u
 unfold filter_shownA.f at this
 unfold filter_shownB.f
 simp only [AB]
 exact this
theorem Own_is (a0 : Int) (l : List S30) (hz : ∀ x ∈ l, x.f0.size ≤ 1000000) (hl : l.length ≤ 1000000) (b : List Int) (hb : b.length ≤ 1000000) (u : ByteArray) : filter_Own.f a0 l b u = some (2, a0, l.filter (shB fun _ => true), b, u) :=
 shownA_is (fun _ => true) l hz hl _ (by omega) 2 a0 b hb u
theorem str_inj {a b : ByteArray} (h : a.toList = b.toList) : a = b := by
 rw [ByteArray.toList_eq, ByteArray.toList_eq] at h
 exact WideShapes.bytes_inj h
theorem str_eq {a : ByteArray} {l : List UInt8} {b : ByteArray} (h : a.toList = l) (hb : b.toList = l) : a = b := str_inj (h.trans hb.symm)
end Go.Proofs.YtifmkgkiipckbaaGreatDoor.P
namespace Go.Proofs.YtifmkgkiipckbaaGreatDoor.P
open Go.RowKit Go.Proofs.YtifmkgkiipckbaaGreatDoorW.PrintWords Go.Proofs.YtifmkgkiipckbaaGreatDoorW.PrintLast Go.Proofs.YtifmkgkiipckbaaGreatDoorW.PrintMore
attribute [local go_sem] max2_int min2_int max_two min_two max_three min_three max_four min_four
set_option linter.unusedVariables false
set_option linter.unusedSimpArgs false
def ostiaryref1_ends.f (a0 : Int) (a1 : Bool) : Option (Bool) := if a0 = 9 then (some true) else (if a0 = 32 then (some true) else (if a1 = true then (some false) else (if a0 = 10 then (some true) else (some (a0 == 13)))))
set_option maxHeartbeats 8000000 in
set_option maxRecDepth 100000 in
theorem ostiaryref1_ends.calls (a0 : Int) (a1 : Bool) (r : Bool) (w : World) (h : ostiaryref1_ends.f a0 a1 = some r) :
  Calls Tryz.prog 190 #[.int .u8 a0, .bool a1] w fun e w' => e = .returned (.bool r) ∧ Drawn0 w w' := by
 have H : (if a0 = 9 then (some true) else (if a0 = 32 then (some true) else (if a1 = true then (some false) else (if a0 = 10 then (some true) else (some (a0 == 13)))))) = some r := h
 clear h
 by_cases c3 : a0 = 9
 ·rw [if_pos c3] at H
  have c3b0 : (a0 == 9) = true := beq_iff_eq.mpr c3
  have c3b1 : (a0 != 9) = false := bne_eq_false_iff_eq.mpr c3
  clear c3
  obtain rfl := Option.some.inj H
  go_enter Tryz.func190, Tryz.ntmps190
  go_wp2
  go_ret
  exact ⟨rS, by repeat (first | exact Drawn0.refl _ | apply Drawn0.step)⟩
 ·rw [if_neg c3] at H
  have c3b0 : (a0 == 9) = false := beq_eq_false_iff_ne.mpr c3
  have c3b1 : (a0 != 9) = true := bne_iff_ne.mpr c3
  by_cases c4 : a0 = 32
  ·rw [if_pos c4] at H
   have c4b0 : (a0 == 32) = true := beq_iff_eq.mpr c4
   have c4b1 : (a0 != 32) = false := bne_eq_false_iff_eq.mpr c4
   clear c4
   obtain rfl := Option.some.inj H
   go_enter Tryz.func190, Tryz.ntmps190
   go_wp2
   go_ret
   exact ⟨rS, by repeat (first | exact Drawn0.refl _ | apply Drawn0.step)⟩
  ·rw [if_neg c4] at H
   have c4b0 : (a0 == 32) = false := beq_eq_false_iff_ne.mpr c4
   have c4b1 : (a0 != 32) = true := bne_iff_ne.mpr c4
   by_cases c5 : a1 = true
   ·subst c5
    have H1 : (some false) = some r := by rw [if_pos rfl] at H; exact H
    clear H
    have H := H1
    clear H1
    obtain rfl := Option.some.inj H
    go_enter Tryz.func190, Tryz.ntmps190
    go_wp2
    go_ret
    exact ⟨rS, by repeat (first | exact Drawn0.refl _ | apply Drawn0.step)⟩
   ·replace c5 := Bool.eq_false_iff.mpr c5
    subst c5
    have H1 : (if a0 = 10 then (some true) else (some (a0 == 13))) = some r := by rw [if_neg (show ¬ (false = true) by decide)] at H; exact H
    clear H
    have H := H1
    clear H1
    by_cases c6 : a0 = 10
    ·rw [if_pos c6] at H
     have c6b0 : (a0 == 10) = true := beq_iff_eq.mpr c6
     have c6b1 : (a0 != 10) = false := bne_eq_false_iff_eq.mpr c6
     clear c6
     obtain rfl := Option.some.inj H
     go_enter Tryz.func190, Tryz.ntmps190
     go_wp2
     go_ret
     exact ⟨rS, by repeat (first | exact Drawn0.refl _ | apply Drawn0.step)⟩
    ·rw [if_neg c6] at H
     have c6b0 : (a0 == 10) = false := beq_eq_false_iff_ne.mpr c6
     have c6b1 : (a0 != 10) = true := bne_iff_ne.mpr c6
     obtain rfl := Option.some.inj H
     go_enter Tryz.func190, Tryz.ntmps190
     go_wp2
     go_ret
     exact ⟨rS, by repeat (first | exact Drawn0.refl _ | apply Drawn0.step)⟩
end Go.Proofs.YtifmkgkiipckbaaGreatDoor.P
namespace Go.Proofs.YtifmkgkiipckbaaGreatDoor.P
open Go.RowKit Go.Proofs.YtifmkgkiipckbaaGreatDoorW.PrintWords Go.Proofs.YtifmkgkiipckbaaGreatDoorW.PrintLast Go.Proofs.YtifmkgkiipckbaaGreatDoorW.PrintMore
attribute [local go_sem] max2_int min2_int max_two min_two max_three min_three max_four min_four
set_option linter.unusedVariables false
set_option linter.unusedSimpArgs false
mutual
def ostiaryref1_Trim.j1 : Nat → ByteArray → Bool → Option (ByteArray)
 | 0, _, _ => none
 | k + 1, x0, x1 => ostiaryref1_Trim.l1 k x0 x1
def ostiaryref1_Trim.l1 : Nat → ByteArray → Bool → Option (ByteArray)
 | 0, _, _ => none
 | k + 1, x0, x1 => if (x0.size : Int) > 0 then (if 0 ≤ (wrap64 ((x0.size : Int) - 1)) then (if (wrap64 ((x0.size : Int) - 1)) < (x0.size : Int) then ((ostiaryref1_ends.f (bt x0 (wrap64 ((x0.size : Int) - 1))) x1).bind fun t358 => (if t358 = true then (if (wrap64 ((x0.size : Int) - 1)) ≤ (x0.size : Int) then (ostiaryref1_Trim.l1 k (x0.extract 0 ((wrap64 ((x0.size : Int) - 1)) : Int).toNat) x1) else (none)) else (some x0))) else (none)) else (none)) else (some x0)
def ostiaryref1_Trim.l0 : Nat → ByteArray → Bool → Option (ByteArray)
 | 0, _, _ => none
 | k + 1, x0, x1 => if (x0.size : Int) > 0 then (if 0 < (x0.size : Int) then ((ostiaryref1_ends.f (bt x0 0) x1).bind fun t357 => (if t357 = true then (if 1 ≤ (x0.size : Int) then (ostiaryref1_Trim.l0 k (x0.extract 1 x0.size) x1) else (none)) else (ostiaryref1_Trim.j1 k x0 x1))) else (none)) else (ostiaryref1_Trim.j1 k x0 x1)
end
def ostiaryref1_Trim.f (k : Nat) (a0 : ByteArray) (a1 : Bool) : Option (ByteArray) := ostiaryref1_Trim.l0 k a0 a1
theorem ostiaryref1_Trim.mono_l : ∀ k, (∀ y0 y1, LeO (ostiaryref1_Trim.j1 k y0 y1) (ostiaryref1_Trim.j1 (k + 1) y0 y1)) ∧ (∀ y0 y1, LeO (ostiaryref1_Trim.l1 k y0 y1) (ostiaryref1_Trim.l1 (k + 1) y0 y1)) ∧ (∀ y0 y1, LeO (ostiaryref1_Trim.l0 k y0 y1) (ostiaryref1_Trim.l0 (k + 1) y0 y1))
 | 0 => ⟨fun _ _ r h => by simp [ostiaryref1_Trim.j1] at h, fun _ _ r h => by simp [ostiaryref1_Trim.l1] at h, fun _ _ r h => by simp [ostiaryref1_Trim.l0] at h⟩
 | k + 1 => by
  obtain ⟨ih0, ih1, ih2⟩ := ostiaryref1_Trim.mono_l k
  refine ⟨?_, ?_, ?_⟩
  ·intro y0 y1
   unfold ostiaryref1_Trim.j1
   exact lO
  ·intro y0 y1
   unfold ostiaryref1_Trim.l1
   exact lO
  ·intro y0 y1
   unfold ostiaryref1_Trim.l0
   exact lO
theorem ostiaryref1_Trim.mono : ∀ a0 a1 k, LeO (ostiaryref1_Trim.f k a0 a1) (ostiaryref1_Trim.f (k + 1) a0 a1) := by
 intro a0 a1 k
 obtain ⟨ih0, ih1, ih2⟩ := ostiaryref1_Trim.mono_l k
 unfold ostiaryref1_Trim.f
 exact lO
set_option maxHeartbeats 8000000 in
set_option maxRecDepth 100000 in
theorem ostiaryref1_Trim.calls (k : Nat) (a0 : ByteArray) (a1 : Bool) (r : ByteArray) (w : World) (h : ostiaryref1_Trim.f k a0 a1 = some r) :
  Calls Tryz.prog 156 #[.string a0, .bool a1] w fun e w' => e = .returned (.string r) ∧ Drawn0 w w' := by
 have H : (ostiaryref1_Trim.l0 k a0 a1) = some r := h
 clear h
 have HC3 := Aside0.mk H
 clear H
 go_enter Tryz.func156, Tryz.ntmps156
 go_upto_block 0 with (fail)
 go_cut [0] (fun v0 wc => ∃ (kq : Nat) (x0_2 : ByteArray), v0 = .string x0_2 ∧ Aside0 (ostiaryref1_Trim.j1 kq x0_2 a1 = some r) ∧ Aside0 (kq ≤ k) ∧ Drawn0 w wc)
 case first =>
  have H := HC3.out
  clear HC3
  have H' := Aside0.mk H
  clear H
  go_wp2
  go_loopg [0] k (fun kq v0 w' => ∃ (x0_1 : ByteArray), v0 = .string x0_1 ∧ Aside0 (ostiaryref1_Trim.l0 kq x0_1 a1 = some r) ∧ Aside0 (kq ≤ k) ∧ Drawn0 w w')
  case atStart => exact ⟨(a0), rS, H', ⟨Nat.le_refl _⟩, by repeat (first | exact Drawn0.refl _ | apply Drawn0.step)⟩
  case round =>
   clear H'
   try clear c1
   try clear p2
   obtain ⟨x0_1, rfl, HA, HK1, ⟨m1, rfl⟩⟩ := hrel
   cases gk with
   | zero => exact absurd HA.out (by simp [ostiaryref1_Trim.l0])
   | succ k1 =>
    have H := HA.out
    clear HA
    simp only [ostiaryref1_Trim.l0] at H
    by_cases c4 : (x0_1.size : Int) > 0
    ·rw [if_pos c4] at H
     have c4b0 : decide (0 < (x0_1.size : Int)) = true := decide_eq_true c4
     have c4b1 : decide (0 < x0_1.size) = true := decide_eq_true (by omega)
     clear c4
     (first | rw [c4b0] | (simp only [i64_w, i32_w]; rw [c4b0]) | skip)
     by_cases c5 : 0 < (x0_1.size : Int)
     ·rw [if_pos c5] at H
      have c5b0 : decide (0 < (x0_1.size : Int)) = true := decide_eq_true c5
      have c5b1 : decide (0 < x0_1.size) = true := decide_eq_true (by omega)
      clear c5
      replace H := Option.bind_eq_some_iff.mp H
      obtain ⟨t357, A70, H⟩ := H
      replace H : (if t357 = true then (if 1 ≤ (x0_1.size : Int) then (ostiaryref1_Trim.l0 k1 (x0_1.extract 1 x0_1.size) a1) else (none)) else (ostiaryref1_Trim.j1 k1 x0_1 a1)) = some r := H
      have A7 := Aside0.mk A70
      clear A70
      by_cases c8 : t357 = true
      ·subst c8
       have H1 : (if 1 ≤ (x0_1.size : Int) then (ostiaryref1_Trim.l0 k1 (x0_1.extract 1 x0_1.size) a1) else (none)) = some r := by rw [if_pos rfl] at H; exact H
       clear H
       have H := H1
       clear H1
       by_cases c9 : 1 ≤ (x0_1.size : Int)
       ·rw [if_pos c9] at H
        have c9b0 := eq_true c9
        have c9b1 : decide (1 ≤ (x0_1.size : Int)) = true := decide_eq_true c9
        clear c9
        have H' := Aside0.mk H
        clear H
        have p6 : 0 ≤ (0 : Int) := (by omega)
        have q6 : 0 < x0_1.size := (by have : (0 : Int) < (x0_1.size : Int) := of_decide_eq_true aS; omega)
        have hx6 : ∀ h : 0 < x0_1.size, ((x0_1[0]'h).toNat : Int) = bt x0_1 0 := bt_at x0_1 0
        clear p6
        have qi6 : (0 < (x0_1.size : Int)) = True := eq_true (of_decide_eq_true aS)
        replace q6 := eq_true q6
        go_wp2_with (first | (go_at_call 190; (with_reducible refine (ostiaryref1_ends.calls (bt x0_1 0) a1 true _ A7.out).mono ?_); rintro e w' ⟨rfl, ⟨nd, rfl⟩⟩))
        go_roundg k1
        case measure => have := HK1.out; omega
        case rel => exact ⟨(x0_1.extract 1 x0_1.size), rS, H', ⟨by have := HK1.out; omega⟩, by repeat (first | exact Drawn0.refl _ | apply Drawn0.step)⟩
       ·rw [if_neg c9] at H
        exact absurd H (by simp)
      ·replace c8 := Bool.eq_false_iff.mpr c8
       subst c8
       have H1 : (ostiaryref1_Trim.j1 k1 x0_1 a1) = some r := by rw [if_neg (show ¬ (false = true) by decide)] at H; exact H
       clear H
       have H := H1
       clear H1
       have H' := Aside0.mk H
       clear H
       have p6 : 0 ≤ (0 : Int) := (by omega)
       have q6 : 0 < x0_1.size := (by have : (0 : Int) < (x0_1.size : Int) := of_decide_eq_true aS; omega)
       have hx6 : ∀ h : 0 < x0_1.size, ((x0_1[0]'h).toNat : Int) = bt x0_1 0 := bt_at x0_1 0
       clear p6
       have qi6 : (0 < (x0_1.size : Int)) = True := eq_true (of_decide_eq_true aS)
       replace q6 := eq_true q6
       go_wp2_with (first | (go_at_call 190; (with_reducible refine (ostiaryref1_ends.calls (bt x0_1 0) a1 false _ A7.out).mono ?_); rintro e w' ⟨rfl, ⟨nd, rfl⟩⟩))
       go_meet
       case rel => exact ⟨_, (x0_1), rS, H', ⟨by have := HK1.out; first | omega | exact Nat.le_refl _⟩, by repeat (first | exact Drawn0.refl _ | apply Drawn0.step)⟩
     ·rw [if_neg c5] at H
      exact absurd H (by simp)
    ·rw [if_neg c4] at H
     have c4b0 : decide (0 < (x0_1.size : Int)) = false := decide_eq_false c4
     have c4b1 : decide (0 < x0_1.size) = false := decide_eq_false (by omega)
     clear c4
     (first | rw [c4b0] | (simp only [i64_w, i32_w]; rw [c4b0]) | skip)
     have H' := Aside0.mk H
     clear H
     go_wp2
     go_meet
     case rel => exact ⟨_, (x0_1), rS, H', ⟨by have := HK1.out; first | omega | exact Nat.le_refl _⟩, by repeat (first | exact Drawn0.refl _ | apply Drawn0.step)⟩
 case rest =>
  clear HC3
  try clear c1
  try clear p2
  try clear c4
  try clear c4b0
  try clear c4b1
  try clear c5
  try clear c5b0
  try clear c5b1
  try clear p6
  try clear q6
  try clear hx6
  try clear qi6
  try clear c8
  try clear c9
  try clear c9b0
  try clear c9b1
  try clear p2
  try clear p6
  try clear q6
  obtain ⟨kq, x0_2, rfl, HA, HJ2, ⟨mc2, rfl⟩⟩ := hcut
  cases kq with
  | zero => exact absurd HA.out (by simp [ostiaryref1_Trim.j1])
  | succ kj2 =>
   have H := HA.out
   clear HA
   simp only [ostiaryref1_Trim.j1] at H
   have H' := Aside0.mk H
   clear H
   go_wp2
   go_loopg [0] kj2 (fun kq v0 w' => ∃ (x0_2 : ByteArray), v0 = .string x0_2 ∧ Aside0 (ostiaryref1_Trim.l1 kq x0_2 a1 = some r) ∧ Aside0 (kq ≤ kj2) ∧ Drawn0 w w')
   case atStart => exact ⟨(x0_2), rS, H', ⟨Nat.le_refl _⟩, by repeat (first | exact Drawn0.refl _ | apply Drawn0.step)⟩
   case round =>
    clear H'
    try clear c1
    try clear c2
    try clear p2
    try clear c4
    try clear c4b0
    try clear c4b1
    try clear c5
    try clear c5b0
    try clear c5b1
    try clear p6
    try clear q6
    try clear hx6
    try clear qi6
    try clear c8
    try clear c9
    try clear c9b0
    try clear c9b1
    try clear p2
    try clear p6
    try clear q6
    obtain ⟨x0_2, rfl, HA, HK2, ⟨m2, rfl⟩⟩ := hrel
    cases gk with
    | zero => exact absurd HA.out (by simp [ostiaryref1_Trim.l1])
    | succ k2 =>
     have H := HA.out
     clear HA
     simp only [ostiaryref1_Trim.l1] at H
     by_cases c10 : (x0_2.size : Int) > 0
     ·rw [if_pos c10] at H
      have c10b0 : decide (0 < (x0_2.size : Int)) = true := decide_eq_true c10
      have c10b1 : decide (0 < x0_2.size) = true := decide_eq_true (by omega)
      clear c10
      obtain ⟨ji11, hji11⟩ : ∃ j_ : Int, (wrap64 ((x0_2.size : Int) - 1)) = j_ := ⟨_, rfl⟩
      replace H : (if 0 ≤ (ji11) then (if (ji11) < (x0_2.size : Int) then ((ostiaryref1_ends.f (bt x0_2 (ji11)) a1).bind fun t358 => (if t358 = true then (if (ji11) ≤ (x0_2.size : Int) then (ostiaryref1_Trim.l1 k2 (x0_2.extract 0 ((ji11) : Int).toNat) a1) else (none)) else (some x0_2))) else (none)) else (none)) = some r := by first | (rw [hji11] at H; exact H) | (simp only [hji11] at H ⊢; exact H)
      have hji11w : (IntKind.i64.wrap ((x0_2.size : Int) - 1)) = ji11 := (i64_w _).trans hji11
      by_cases c12 : 0 ≤ (ji11)
      ·rw [if_pos c12] at H
       have c12b0 : decide (0 ≤ (ji11)) = true := decide_eq_true c12
       clear c12
       by_cases c13 : (ji11) < (x0_2.size : Int)
       ·rw [if_pos c13] at H
        have c13b0 : decide ((ji11) < (x0_2.size : Int)) = true := decide_eq_true c13
        clear c13
        replace H := Option.bind_eq_some_iff.mp H
        obtain ⟨t358, A150, H⟩ := H
        replace H : (if t358 = true then (if (ji11) ≤ (x0_2.size : Int) then (ostiaryref1_Trim.l1 k2 (x0_2.extract 0 ((ji11) : Int).toNat) a1) else (none)) else (some x0_2)) = some r := H
        have A15 := Aside0.mk A150
        clear A150
        by_cases c16 : t358 = true
        ·subst c16
         have H1 : (if (ji11) ≤ (x0_2.size : Int) then (ostiaryref1_Trim.l1 k2 (x0_2.extract 0 ((ji11) : Int).toNat) a1) else (none)) = some r := by rw [if_pos rfl] at H; exact H
         clear H
         have H := H1
         clear H1
         have c17b0 := eq_true (of_decide_eq_true aS : 0 ≤ (ji11))
         by_cases c18 : (ji11) ≤ (x0_2.size : Int)
         ·rw [if_pos c18] at H
          have c18b0 := eq_true c18
          have c18b1 : decide ((ji11) ≤ (x0_2.size : Int)) = true := decide_eq_true c18
          clear c18
          have H' := Aside0.mk H
          clear H
          have p14 : 0 ≤ ((ji11) : Int) := of_decide_eq_true aS
          have q14 : (ji11) < (x0_2.size : Int) := of_decide_eq_true aS
          have hx14 := bt_at x0_2 (ji11)
          replace p14 := eq_true p14
          replace q14 := eq_true q14
          go_wp2_with (first | (go_at_call 190; (with_reducible refine (ostiaryref1_ends.calls (bt x0_2 (ji11)) a1 true _ A15.out).mono ?_); rintro e w' ⟨rfl, ⟨nd, rfl⟩⟩))
          go_roundg k2
          case measure => have := HJ2.out; have := HK2.out; omega
          case rel => exact ⟨(x0_2.extract 0 ((ji11) : Int).toNat), (by first | rfl | (simp; done) | (simp only [← hji11] <;> (first | rfl | simp)) | (simp [*]; done)), H', ⟨by have := HJ2.out; have := HK2.out; omega⟩, by repeat (first | exact Drawn0.refl _ | apply Drawn0.step)⟩
         ·rw [if_neg c18] at H
          exact absurd H (by simp)
        ·replace c16 := Bool.eq_false_iff.mpr c16
         subst c16
         have H1 : (some x0_2) = some r := by rw [if_neg (show ¬ (false = true) by decide)] at H; exact H
         clear H
         have H := H1
         clear H1
         obtain rfl := Option.some.inj H
         have p14 : 0 ≤ ((ji11) : Int) := of_decide_eq_true aS
         have q14 : (ji11) < (x0_2.size : Int) := of_decide_eq_true aS
         have hx14 := bt_at x0_2 (ji11)
         replace p14 := eq_true p14
         replace q14 := eq_true q14
         go_wp2_with (first | (go_at_call 190; (with_reducible refine (ostiaryref1_ends.calls (bt x0_2 (ji11)) a1 false _ A15.out).mono ?_); rintro e w' ⟨rfl, ⟨nd, rfl⟩⟩))
         go_ret
         exact ⟨by first | rfl | (simp; done) | (simp only [← hji11] <;> (first | rfl | simp)) | (simp [*]; done), by repeat (first | exact Drawn0.refl _ | apply Drawn0.step)⟩
       ·rw [if_neg c13] at H
        exact absurd H (by simp)
      ·rw [if_neg c12] at H
       exact absurd H (by simp)
     ·rw [if_neg c10] at H
      have c10b0 : decide (0 < (x0_2.size : Int)) = false := decide_eq_false c10
      have c10b1 : decide (0 < x0_2.size) = false := decide_eq_false (by omega)
      clear c10
      obtain rfl := Option.some.inj H
      go_wp2
      go_ret
      exact ⟨rS, by repeat (first | exact Drawn0.refl _ | apply Drawn0.step)⟩
end Go.Proofs.YtifmkgkiipckbaaGreatDoor.P
namespace Go.Proofs.YtifmkgkiipckbaaGreatDoor.P
open Go.RowKit Go.Proofs.YtifmkgkiipckbaaGreatDoorW.PrintWords Go.Proofs.YtifmkgkiipckbaaGreatDoorW.PrintLast Go.Proofs.YtifmkgkiipckbaaGreatDoorW.PrintMore
attribute [local go_sem] max2_int min2_int max_two min_two max_three min_three max_four min_four
set_option linter.unusedVariables false
set_option linter.unusedSimpArgs false
def ostiaryref5_Named.f (a0_0 : ByteArray) (a0_1 : ByteArray) (a1 : ByteArray) : Option (Bool) := (ostiaryref1_Lower.f a0_0).bind fun t146 => ((ostiaryref1_Lower.f a1).bind fun t147 => (some (t146.toList == t147.toList)))
set_option maxHeartbeats 8000000 in
set_option maxRecDepth 100000 in
theorem ostiaryref5_Named.calls (a0_0 : ByteArray) (a0_1 : ByteArray) (a1 : ByteArray) (r : Bool) (w : World) (h : ostiaryref5_Named.f a0_0 a0_1 a1 = some r) :
  Calls Tryz.prog 152 #[.agg #[.string a0_0, .string a0_1], .string a1] w fun e w' => e = .returned (.bool r) ∧ Below w.heap.size w w' := by
 have hu30 := Tryz.underlying30
 have HB := Aside0.mk (Below.refl w.heap.size w)
 have H : ((ostiaryref1_Lower.f a0_0).bind fun t146 => ((ostiaryref1_Lower.f a1).bind fun t147 => (some (t146.toList == t147.toList)))) = some r := h
 clear h
 replace H := Option.bind_eq_some_iff.mp H
 obtain ⟨t146, A30, H⟩ := H
 replace H : ((ostiaryref1_Lower.f a1).bind fun t147 => (some (t146.toList == t147.toList))) = some r := H
 have A3 := Aside0.mk A30
 clear A30
 replace H := Option.bind_eq_some_iff.mp H
 obtain ⟨t147, A40, H⟩ := H
 replace H : (some (t146.toList == t147.toList)) = some r := H
 have A4 := Aside0.mk A40
 clear A40
 obtain rfl := Option.some.inj H
 go_enter Tryz.func152, Tryz.ntmps152
 have tok0 : True := trivial
 have tok1 : True := trivial
 have tok2 : True := trivial
 go_wp2_with (first | (revert tok0; intro tok0; (with_reducible refine gate_dst (N := 2) rfl ?_); refine box_event ?hg (N := 2) ?hd (cs := #[.string a0_0, .string a0_1]) (t := 30) ?hr ?_; (case hd => rfl); (case hg => rfl); (case hr => first | (go_simp; done) | (go_simp; rfl)); intro gb145 hg w5 hbox hb; have n0_ := Aside0.mk (below_step hB hb); have n1_ := Aside0.mk (hbox); have n2_ := Aside0.mk ((by rw [hg]; exact (below_size hB) : w.heap.size ≤ gb145)); have n3_ := Aside0.mk ((by rw [hg]; exact (below_size hB) : w.heap.size ≤ gb145)); clear HB; have HB := n0_; have BK145 := n1_; have GW145 := n2_; have GE145 := n3_; clear n0_ n1_ n2_ n3_; clear hb hbox hg; have hcz6_0 : w5.cell? ⟨gb145, 0, none⟩ = some (.string a0_0) := (blk_cell BK145.out 0).trans rfl; have hcz6_1 : w5.cell? ⟨gb145, 1, none⟩ = some (.string a0_1) := (blk_cell BK145.out 1).trans rfl; have hfz6_0 := blk_frozen BK145.out 0; have hfz6_1 := blk_frozen BK145.out 1; clear tok0) | (revert tok1; intro tok1; (with_reducible refine gate_callee (f := 102) rfl ?_); refine goesL_ (some 7) rfl rfl Tryz.func102 q9_ rfl #[.string a0_0] rfl tS ?_; (with_reducible refine (ostiaryref1_Lower.calls a0_0 t146 _ A3.out).mono ?_); rintro e w7 ⟨rfl, hb⟩; refine ⟨_, rfl, ?_⟩; have n0_ := Aside0.mk (blk_below (g := gb145) (o := .cells #[.string a0_0, .string a0_1] 30 (0, 0)) (by (with_reducible repeat (first | refine blk_drewN ?_ _ | refine blk_drew ?_ | refine blk_alloc ?_ _)); exact BK145.out) hb); have n1_ := Aside0.mk (below_step (by repeat (first | (with_reducible first | exact HB.out | apply below_alloc | apply pw_below_drewN | apply below_drew1 | refine below_set ?_ GE145.out) | exact HB.out)) hb); clear BK145; clear HB; have BK145 := n0_; have HB := n1_; clear n0_ n1_; (try clear hb); (try clear hb2); (try clear hk); (try clear hi); clear tok1) | (revert tok2; intro tok2; (with_reducible refine gate_callee (f := 102) rfl ?_); refine goesL_ (some 9) rfl rfl Tryz.func102 q9_ rfl #[.string a1] rfl tS ?_; (with_reducible refine (ostiaryref1_Lower.calls a1 t147 _ A4.out).mono ?_); rintro e w8 ⟨rfl, hb⟩; refine ⟨_, rfl, ?_⟩; have n0_ := Aside0.mk (blk_below (g := gb145) (o := .cells #[.string a0_0, .string a0_1] 30 (0, 0)) (by (with_reducible repeat (first | refine blk_drewN ?_ _ | refine blk_drew ?_ | refine blk_alloc ?_ _)); exact BK145.out) hb); have n1_ := Aside0.mk (below_step (by repeat (first | (with_reducible first | exact HB.out | apply below_alloc | apply pw_below_drewN | apply below_drew1 | refine below_set ?_ GE145.out) | exact HB.out)) hb); clear BK145; clear HB; have BK145 := n0_; have HB := n1_; clear n0_ n1_; (try clear hb); (try clear hb2); (try clear hk); (try clear hi); clear tok2))
 go_ret
 exact ⟨by first | rfl | (simp [errW_none, errW_some] <;> rfl) | (simp [*, errW_none, errW_some] <;> rfl), by repeat (first | (with_reducible first | exact HB.out | apply below_alloc | apply pw_below_drewN | apply below_drew1 | refine below_set ?_ GE145.out) | exact HB.out)⟩
end Go.Proofs.YtifmkgkiipckbaaGreatDoor.P
namespace Go.Proofs.YtifmkgkiipckbaaGreatDoor.P
open Go.RowKit Go.Proofs.YtifmkgkiipckbaaGreatDoorW.PrintWords Go.Proofs.YtifmkgkiipckbaaGreatDoorW.PrintLast Go.Proofs.YtifmkgkiipckbaaGreatDoorW.PrintMore
attribute [local go_sem] max2_int min2_int max_two min_two max_three min_three max_four min_four
set_option linter.unusedVariables false
set_option linter.unusedSimpArgs false
def ostiaryref5_Get.l0 : Nat → List (S30) → ByteArray → ByteArray → Bool → Int → Option (ByteArray × Bool)
 | 0, _, _, _, _, _ => none
 | k + 1, x0, x1, x6, x7, x8 => if x8 < (x0.length : Int) then (if 0 ≤ x8 then ((ostiaryref5_Named.f ((rd_T30 x0 x8).f0) ((rd_T30 x0 x8).f1) x1).bind fun t149 => (if t149 = true then (if x7 = true then (if x6.size + 2 ≤ 9223372036854775807 then (if (x6 ++ (⟨#[44, 32]⟩ : ByteArray)).size + ((rd_T30 x0 x8).f1).size ≤ 9223372036854775807 then (ostiaryref5_Get.l0 k x0 x1 ((x6 ++ (⟨#[44, 32]⟩ : ByteArray)) ++ ((rd_T30 x0 x8).f1)) true (wrap64 (x8 + 1))) else (none)) else (none)) else (if x6.size + ((rd_T30 x0 x8).f1).size ≤ 9223372036854775807 then (ostiaryref5_Get.l0 k x0 x1 (x6 ++ ((rd_T30 x0 x8).f1)) true (wrap64 (x8 + 1))) else (none))) else (ostiaryref5_Get.l0 k x0 x1 x6 x7 (wrap64 (x8 + 1))))) else (none)) else (some (x6, x7))
def ostiaryref5_Get.f (k : Nat) (l0 : List (S30)) (a1 : ByteArray) : Option (ByteArray × Bool) := ostiaryref5_Get.l0 k l0 a1 (⟨#[]⟩ : ByteArray) false 0
theorem ostiaryref5_Get.mono_l : ∀ k, (∀ y0 y1 y2 y3 y4, LeO (ostiaryref5_Get.l0 k y0 y1 y2 y3 y4) (ostiaryref5_Get.l0 (k + 1) y0 y1 y2 y3 y4))
 | 0 => fun _ _ _ _ _ r h => by simp [ostiaryref5_Get.l0] at h
 | k + 1 => by
  have ih0 := ostiaryref5_Get.mono_l k
  ·intro y0 y1 y2 y3 y4
   unfold ostiaryref5_Get.l0
   exact lO
theorem ostiaryref5_Get.mono : ∀ a0 a1 k, LeO (ostiaryref5_Get.f k a0 a1) (ostiaryref5_Get.f (k + 1) a0 a1) := by
 intro a0 a1 k
 have ih0 := ostiaryref5_Get.mono_l k
 unfold ostiaryref5_Get.f
 exact lO
set_option maxHeartbeats 8000000 in
set_option maxRecDepth 100000 in
theorem ostiaryref5_Get.calls (k : Nat) (A0 : Option Addr) (c0 : Nat) (l0 : List (S30)) (a1 : ByteArray) (r1 : ByteArray) (r2 : Bool) (w : World) (hr0 : Kd.C k30 w A0 l0.length l0) (hc0 : l0.length ≤ c0) (h : ostiaryref5_Get.f k l0 a1 = some (r1, r2)) :
  Calls Tryz.prog 93 #[.slice A0 l0.length c0, .string a1] w fun e w' => e = .returned (.tuple #[.string r1, .bool r2]) ∧ Below w.heap.size w w' := by
 have hu30 := Tryz.underlying30
 have HR0 := Aside0.mk hr0
 have HC0 := Aside0.mk hc0
 clear hr0 hc0
 have HB := Aside0.mk (Below.refl w.heap.size w)
 have H : (ostiaryref5_Get.l0 k l0 a1 (⟨#[]⟩ : ByteArray) false 0) = some (r1, r2) := h
 clear h
 have H' := Aside0.mk H
 clear H
 go_enter Tryz.func93, Tryz.ntmps93
 go_wp2
 go_loopg [6, 7, 8] k (fun kq v6 v7 v8 w' => ∃ (x6_1 : ByteArray) (x7_1 : Bool) (x8_1 : Int), v6 = .string x6_1 ∧ v7 = .bool x7_1 ∧ v8 = .int .i64 x8_1 ∧ Aside0 (ostiaryref5_Get.l0 kq l0 a1 x6_1 x7_1 x8_1 = some (r1, r2)) ∧ Aside0 (kq ≤ k) ∧ Aside0 (Below w.heap.size w w'))
 case atStart => exact ⟨((⟨#[]⟩ : ByteArray)), (false), (0), rS, rS, rS, H', ⟨Nat.le_refl _⟩, ⟨by repeat (first | (with_reducible first | exact HB.out | apply below_alloc | apply pw_below_drewN | apply below_drew1) | exact HB.out)⟩⟩
 case round =>
  clear H'
  try clear p2
  obtain ⟨x6_1, x7_1, x8_1, rfl, rfl, rfl, HA, HK1, HB⟩ := hrel
  cases gk with
  | zero => exact absurd HA.out (by simp [ostiaryref5_Get.l0])
  | succ k1 =>
   have H := HA.out
   clear HA
   simp only [ostiaryref5_Get.l0] at H
   by_cases c3 : x8_1 < (l0.length : Int)
   ·rw [if_pos c3] at H
    have c3b0 : decide (x8_1 < (l0.length : Int)) = true := decide_eq_true c3
    clear c3
    by_cases c4 : 0 ≤ x8_1
    ·rw [if_pos c4] at H
     have c4b0 : decide (0 ≤ x8_1) = true := decide_eq_true c4
     clear c4
     replace H := Option.bind_eq_some_iff.mp H
     obtain ⟨t149, A50, H⟩ := H
     replace H : (if t149 = true then (if x7_1 = true then (if x6_1.size + 2 ≤ 9223372036854775807 then (if (x6_1 ++ (⟨#[44, 32]⟩ : ByteArray)).size + ((rd_T30 l0 x8_1).f1).size ≤ 9223372036854775807 then (ostiaryref5_Get.l0 k1 l0 a1 ((x6_1 ++ (⟨#[44, 32]⟩ : ByteArray)) ++ ((rd_T30 l0 x8_1).f1)) true (wrap64 (x8_1 + 1))) else (none)) else (none)) else (if x6_1.size + ((rd_T30 l0 x8_1).f1).size ≤ 9223372036854775807 then (ostiaryref5_Get.l0 k1 l0 a1 (x6_1 ++ ((rd_T30 l0 x8_1).f1)) true (wrap64 (x8_1 + 1))) else (none))) else (ostiaryref5_Get.l0 k1 l0 a1 x6_1 x7_1 (wrap64 (x8_1 + 1)))) = some (r1, r2) := H
     have A5 := Aside0.mk A50
     clear A50
     by_cases c6 : t149 = true
     ·subst c6
      have H1 : (if x7_1 = true then (if x6_1.size + 2 ≤ 9223372036854775807 then (if (x6_1 ++ (⟨#[44, 32]⟩ : ByteArray)).size + ((rd_T30 l0 x8_1).f1).size ≤ 9223372036854775807 then (ostiaryref5_Get.l0 k1 l0 a1 ((x6_1 ++ (⟨#[44, 32]⟩ : ByteArray)) ++ ((rd_T30 l0 x8_1).f1)) true (wrap64 (x8_1 + 1))) else (none)) else (none)) else (if x6_1.size + ((rd_T30 l0 x8_1).f1).size ≤ 9223372036854775807 then (ostiaryref5_Get.l0 k1 l0 a1 (x6_1 ++ ((rd_T30 l0 x8_1).f1)) true (wrap64 (x8_1 + 1))) else (none))) = some (r1, r2) := by rw [if_pos rfl] at H; exact H
      clear H
      have H := H1
      clear H1
      by_cases c7 : x7_1 = true
      ·subst c7
       have H1 : (if x6_1.size + 2 ≤ 9223372036854775807 then (if (x6_1 ++ (⟨#[44, 32]⟩ : ByteArray)).size + ((rd_T30 l0 x8_1).f1).size ≤ 9223372036854775807 then (ostiaryref5_Get.l0 k1 l0 a1 ((x6_1 ++ (⟨#[44, 32]⟩ : ByteArray)) ++ ((rd_T30 l0 x8_1).f1)) true (wrap64 (x8_1 + 1))) else (none)) else (none)) = some (r1, r2) := by rw [if_pos rfl] at H; exact H
       clear H
       have H := H1
       clear H1
       by_cases c8 : x6_1.size + 2 ≤ 9223372036854775807
       ·rw [if_pos c8] at H
        have c8b0 := eq_true c8
        have c8b1 : decide (x6_1.size + 2 ≤ 9223372036854775807) = true := decide_eq_true c8
        try have c8b2 : (9223372036854775807 < x6_1.size + 2) = False := eq_false (Nat.not_lt.2 c8)
        by_cases c9 : (x6_1 ++ (⟨#[44, 32]⟩ : ByteArray)).size + ((rd_T30 l0 x8_1).f1).size ≤ 9223372036854775807
        ·rw [if_pos c9] at H
         have c9b0 := eq_true c9
         have c9b1 : decide ((x6_1 ++ (⟨#[44, 32]⟩ : ByteArray)).size + ((rd_T30 l0 x8_1).f1).size ≤ 9223372036854775807) = true := decide_eq_true c9
         have c9q := c9
         try simp only [ByteArray.size_append', ByteArray.size_mk', List.size_toArray, List.length_cons, List.length_nil, Nat.zero_add] at c9q
         have c9q0 := eq_true c9q
         have c9q1 := decide_eq_true c9q
         try have c9q2 := eq_false (Nat.not_lt.2 c9q)
         clear c9q
         try have c9b2 : (9223372036854775807 < (x6_1 ++ (⟨#[44, 32]⟩ : ByteArray)).size + ((rd_T30 l0 x8_1).f1).size) = False := eq_false (Nat.not_lt.2 c9)
         have H' := Aside0.mk H
         clear H
         have p148 : 0 ≤ (x8_1 : Int) := of_decide_eq_true aS
         have q148 : x8_1 < (l0.length : Int) := of_decide_eq_true aS
         obtain ⟨ad148, e148, hx148_0, hx148_1⟩ := at_T30 HR0.out x8_1 p148 q148
         cases e148
         replace hx148_0 := (HB.out.cell (World.block_lt_of_cell? w _ hx148_0)).trans hx148_0
         replace hx148_1 := (HB.out.cell (World.block_lt_of_cell? w _ hx148_1)).trans hx148_1
         replace p148 := eq_true p148
         replace q148 := eq_true q148
         go_wp2_with (first | ((with_reducible refine gate_callee (f := 152) rfl ?_); refine goesL_ (some 20) rfl rfl Tryz.func152 q9_ rfl #[.agg #[.string ((rd_T30 l0 x8_1).f0), .string ((rd_T30 l0 x8_1).f1)], .string a1] rfl tS ?_; (with_reducible refine (ostiaryref5_Named.calls ((rd_T30 l0 x8_1).f0) ((rd_T30 l0 x8_1).f1) a1 true _ A5.out).mono ?_); rintro e w10 ⟨rfl, hb⟩; refine ⟨_, rfl, ?_⟩; have n0_ := Aside0.mk (below_step hB hb); clear HB; have HB := n0_; clear n0_; (try clear hb); (try clear hb2); (try clear hk); (try clear hi); have p150 : 0 ≤ (x8_1 : Int) := of_decide_eq_true aS; have q150 : x8_1 < (l0.length : Int) := of_decide_eq_true aS; obtain ⟨ad150, e150, hx150_0, hx150_1⟩ := at_T30 HR0.out x8_1 p150 q150; obtain rfl : ad148 = ad150 := (by injection e150); replace hx150_0 := (HB.out.cell (World.block_lt_of_cell? w _ hx150_0)).trans hx150_0; replace hx150_1 := (HB.out.cell (World.block_lt_of_cell? w _ hx150_1)).trans hx150_1; replace p150 := eq_true p150; replace q150 := eq_true q150))
         go_roundg k1
         case measure => have := HK1.out; omega
         case rel => exact ⟨((x6_1 ++ (⟨#[44, 32]⟩ : ByteArray)) ++ ((rd_T30 l0 x8_1).f1)), (true), (wrap64 (x8_1 + 1)), rS, rS, rS, H', ⟨by have := HK1.out; omega⟩, ⟨by repeat (first | (with_reducible first | exact HB.out | apply below_alloc | apply pw_below_drewN | apply below_drew1) | exact HB.out)⟩⟩
        ·rw [if_neg c9] at H
         exact absurd H (by simp)
       ·rw [if_neg c8] at H
        exact absurd H (by simp)
      ·replace c7 := Bool.eq_false_iff.mpr c7
       subst c7
       have H1 : (if x6_1.size + ((rd_T30 l0 x8_1).f1).size ≤ 9223372036854775807 then (ostiaryref5_Get.l0 k1 l0 a1 (x6_1 ++ ((rd_T30 l0 x8_1).f1)) true (wrap64 (x8_1 + 1))) else (none)) = some (r1, r2) := by rw [if_neg (show ¬ (false = true) by decide)] at H; exact H
       clear H
       have H := H1
       clear H1
       by_cases c11 : x6_1.size + ((rd_T30 l0 x8_1).f1).size ≤ 9223372036854775807
       ·rw [if_pos c11] at H
        have c11b0 := eq_true c11
        have c11b1 : decide (x6_1.size + ((rd_T30 l0 x8_1).f1).size ≤ 9223372036854775807) = true := decide_eq_true c11
        try have c11b2 : (9223372036854775807 < x6_1.size + ((rd_T30 l0 x8_1).f1).size) = False := eq_false (Nat.not_lt.2 c11)
        have H' := Aside0.mk H
        clear H
        have p148 : 0 ≤ (x8_1 : Int) := of_decide_eq_true aS
        have q148 : x8_1 < (l0.length : Int) := of_decide_eq_true aS
        obtain ⟨ad148, e148, hx148_0, hx148_1⟩ := at_T30 HR0.out x8_1 p148 q148
        cases e148
        replace hx148_0 := (HB.out.cell (World.block_lt_of_cell? w _ hx148_0)).trans hx148_0
        replace hx148_1 := (HB.out.cell (World.block_lt_of_cell? w _ hx148_1)).trans hx148_1
        replace p148 := eq_true p148
        replace q148 := eq_true q148
        go_wp2_with (first | ((with_reducible refine gate_callee (f := 152) rfl ?_); refine goesL_ (some 20) rfl rfl Tryz.func152 q9_ rfl #[.agg #[.string ((rd_T30 l0 x8_1).f0), .string ((rd_T30 l0 x8_1).f1)], .string a1] rfl tS ?_; (with_reducible refine (ostiaryref5_Named.calls ((rd_T30 l0 x8_1).f0) ((rd_T30 l0 x8_1).f1) a1 true _ A5.out).mono ?_); rintro e w12 ⟨rfl, hb⟩; refine ⟨_, rfl, ?_⟩; have n0_ := Aside0.mk (below_step hB hb); clear HB; have HB := n0_; clear n0_; (try clear hb); (try clear hb2); (try clear hk); (try clear hi); have p151 : 0 ≤ (x8_1 : Int) := of_decide_eq_true aS; have q151 : x8_1 < (l0.length : Int) := of_decide_eq_true aS; obtain ⟨ad151, e151, hx151_0, hx151_1⟩ := at_T30 HR0.out x8_1 p151 q151; obtain rfl : ad148 = ad151 := (by injection e151); replace hx151_0 := (HB.out.cell (World.block_lt_of_cell? w _ hx151_0)).trans hx151_0; replace hx151_1 := (HB.out.cell (World.block_lt_of_cell? w _ hx151_1)).trans hx151_1; replace p151 := eq_true p151; replace q151 := eq_true q151))
        go_roundg k1
        case measure => have := HK1.out; omega
        case rel => exact ⟨(x6_1 ++ ((rd_T30 l0 x8_1).f1)), (true), (wrap64 (x8_1 + 1)), rS, rS, rS, H', ⟨by have := HK1.out; omega⟩, ⟨by repeat (first | (with_reducible first | exact HB.out | apply below_alloc | apply pw_below_drewN | apply below_drew1) | exact HB.out)⟩⟩
       ·rw [if_neg c11] at H
        exact absurd H (by simp)
     ·replace c6 := Bool.eq_false_iff.mpr c6
      subst c6
      have H1 : (ostiaryref5_Get.l0 k1 l0 a1 x6_1 x7_1 (wrap64 (x8_1 + 1))) = some (r1, r2) := by rw [if_neg (show ¬ (false = true) by decide)] at H; exact H
      clear H
      have H := H1
      clear H1
      have H' := Aside0.mk H
      clear H
      have p148 : 0 ≤ (x8_1 : Int) := of_decide_eq_true aS
      have q148 : x8_1 < (l0.length : Int) := of_decide_eq_true aS
      obtain ⟨ad148, e148, hx148_0, hx148_1⟩ := at_T30 HR0.out x8_1 p148 q148
      cases e148
      replace hx148_0 := (HB.out.cell (World.block_lt_of_cell? w _ hx148_0)).trans hx148_0
      replace hx148_1 := (HB.out.cell (World.block_lt_of_cell? w _ hx148_1)).trans hx148_1
      replace p148 := eq_true p148
      replace q148 := eq_true q148
      go_wp2_with (first | ((with_reducible refine gate_callee (f := 152) rfl ?_); refine goesL_ (some 20) rfl rfl Tryz.func152 q9_ rfl #[.agg #[.string ((rd_T30 l0 x8_1).f0), .string ((rd_T30 l0 x8_1).f1)], .string a1] rfl tS ?_; (with_reducible refine (ostiaryref5_Named.calls ((rd_T30 l0 x8_1).f0) ((rd_T30 l0 x8_1).f1) a1 false _ A5.out).mono ?_); rintro e w13 ⟨rfl, hb⟩; refine ⟨_, rfl, ?_⟩; have n0_ := Aside0.mk (below_step hB hb); clear HB; have HB := n0_; clear n0_; (try clear hb); (try clear hb2); (try clear hk); (try clear hi)))
      go_roundg k1
      case measure => have := HK1.out; omega
      case rel => exact ⟨(x6_1), (x7_1), (wrap64 (x8_1 + 1)), rS, rS, rS, H', ⟨by have := HK1.out; omega⟩, ⟨by repeat (first | (with_reducible first | exact HB.out | apply below_alloc | apply pw_below_drewN | apply below_drew1) | exact HB.out)⟩⟩
    ·rw [if_neg c4] at H
     exact absurd H (by simp)
   ·rw [if_neg c3] at H
    have c3b0 : decide (x8_1 < (l0.length : Int)) = false := decide_eq_false c3
    clear c3
    simp only [Option.some.injEq, Prod.mk.injEq] at H
    obtain ⟨rfl, rfl⟩ := H
    go_wp2
    go_ret2
    exact ⟨by first | rfl | (simp [errW_none, errW_some] <;> rfl) | (simp [*, errW_none, errW_some] <;> rfl), by repeat (first | (with_reducible first | exact HB.out | apply below_alloc | apply pw_below_drewN | apply below_drew1) | exact HB.out)⟩
end Go.Proofs.YtifmkgkiipckbaaGreatDoor.P
