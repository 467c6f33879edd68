/- A part of the proof of CorsLess: texts of walks and plain lemmas. -/
import Derived.Test.YtifmkgkiipckbaaDoorX8
import Derived.Laws.CopyOwn
import Derived.Lib.Hide
namespace Go.Proofs.YtifmkgkiipckbaaDoor.P
open Go.RowKit Go.Proofs.YtifmkgkiipckbaaDoorW.PrintWords Go.Proofs.YtifmkgkiipckbaaDoorW.PrintLast
set_option linter.unusedVariables false
set_option linter.unusedSimpArgs false
def Row8 (w : World) (g : Nat) (l : List Int) : Prop := w.heap[g]? = some (.cells (l.map (Value.int .u16)).toArray 246 (0, 0)) ∧ l.length = 8
theorem Row8.cell {w : World} {g : Nat} {l : List Int} (h : Row8 w g l) (i : Nat) (hi : i < 8) : w.cell? ⟨g, i, none⟩ = some (.int .u16 (l.getD i 0)) := by
  have h2 := h.2
  rw [blk_cell h.1 i]
  simp [List.getD_eq_getElem?_getD, h2, hi]
theorem Row8.drewN {w : World} {g : Nat} {l : List Int} (h : Row8 w g l) (n : Nat) : Row8 (w.drewN n) g l := ⟨blk_drewN h.1 n, h.2⟩
def zrun : List Int → Nat
  | [] => 0
  | x :: l => if x = 0 then zrun l + 1 else 0
theorem zrun_le : ∀ l : List Int, zrun l ≤ l.length
  | [] => Nat.le_refl _
  | x :: l => by
    unfold zrun
    split
    · have := zrun_le l
      simp
      omega
    · simp
theorem zrun_go : ∀ (l : List Int) (n : Nat), n ≤ zrun l → n < l.length → (l.getD n 0 = 0 ↔ n + 1 ≤ zrun l)
  | [], n, _, h => absurd h (by simp)
  | x :: l, 0, _, _ => by
    unfold zrun
    simp only [List.getD_cons_zero]
    split
    · simp_all
    · simp_all
  | x :: l, n + 1, h, hl => by
    unfold zrun at h ⊢
    split at h
    · rename_i hx
      have := zrun_go l n (by omega) (by simpa using hl)
      simp only [List.getD_cons_succ, hx, if_true]
      rw [this]
      omega
    · omega
def pick6 (l : List Int) : Nat → Int × Int
  | 0 => (-1, 1)
  | i + 1 => if (zrun (l.drop i) : Int) > (pick6 l i).2 then ((i : Int), (zrun (l.drop i) : Int)) else pick6 l i
theorem pick6_ok (l : List Int) (hl : l.length = 8) : ∀ i, i ≤ 8 → 1 ≤ (pick6 l i).2 ∧ (pick6 l i).2 ≤ 8 ∧ -1 ≤ (pick6 l i).1 ∧ (pick6 l i).1 < 8
  | 0, _ => by simp [pick6]
  | i + 1, hi => by
    have := pick6_ok l hl i (by omega)
    have hz := zrun_le (l.drop i)
    unfold pick6
    split
    · simp at hz
      simp only
      omega
    · exact this
def ostiaryref2_Text6.l (l : List Int) (at_ len : Int) : Nat → Int → ByteArray → Option ByteArray
  | 0, _, _ => none
  | k + 1, i, s => if i < 8 then
      if i = at_ then (if s.size ≤ 1000 then ostiaryref2_Text6.l l at_ len k (i + len) (s ++ ⟨#[58, 58]⟩) else none)
      else (ostiaryref2_digits.f 40 (l.getD i.toNat 0)).bind fun d => if s.size + d.size ≤ 1000 then
        (if s.toList = [] then ostiaryref2_Text6.l l at_ len k (i + 1) (s ++ d)
         else if bt s ((s.size : Int) - 1) = 58 then ostiaryref2_Text6.l l at_ len k (i + 1) (s ++ d)
         else ostiaryref2_Text6.l l at_ len k (i + 1) (s ++ ⟨#[58]⟩ ++ d)) else none
    else some s
def ostiaryref2_Text6.f (a0 a1 a2 a3 a4 a5 a6 a7 : Int) : Option ByteArray :=
  ostiaryref2_Text6.l [a0, a1, a2, a3, a4, a5, a6, a7] (pick6 [a0, a1, a2, a3, a4, a5, a6, a7] 8).1 (pick6 [a0, a1, a2, a3, a4, a5, a6, a7] 8).2 9 0 ⟨#[]⟩
set_option maxHeartbeats 1000000 in
set_option maxRecDepth 100000 in
theorem ostiaryref2_Text6.calls (a0 a1 a2 a3 a4 a5 a6 a7 : Int) (r : ByteArray) (w : World) (h : ostiaryref2_Text6.f a0 a1 a2 a3 a4 a5 a6 a7 = some r) :
    Calls Tryd.prog 201 #[.agg #[.int .u16 a0, .int .u16 a1, .int .u16 a2, .int .u16 a3, .int .u16 a4, .int .u16 a5, .int .u16 a6, .int .u16 a7]] w fun e w' => e = .returned (.string r) ∧ Below w.heap.size w w' := by
  unfold ostiaryref2_Text6.f at h
  generalize hl : [a0, a1, a2, a3, a4, a5, a6, a7] = l at h
  have hlen : l.length = 8 := by subst hl; rfl
  have HR : Row8 (w.alloc (.cells #[.int .u16 a0, .int .u16 a1, .int .u16 a2, .int .u16 a3, .int .u16 a4, .int .u16 a5, .int .u16 a6, .int .u16 a7] 246)) w.heap.size l := ⟨by subst hl; exact blk_new _ _, hlen⟩
  have HB : Below w.heap.size w (w.alloc (.cells #[.int .u16 a0, .int .u16 a1, .int .u16 a2, .int .u16 a3, .int .u16 a4, .int .u16 a5, .int .u16 a6, .int .u16 a7] 246)) := (Below.refl _ _).alloc (Nat.le_refl _) _
  go_enter Tryd.func201, Tryd.ntmps201
  go_wp2_with fail
  generalize (w.alloc (.cells #[.int .u16 a0, .int .u16 a1, .int .u16 a2, .int .u16 a3, .int .u16 a4, .int .u16 a5, .int .u16 a6, .int .u16 a7] 246)) = W at HR HB ⊢
  have hp8 := pick6_ok l hlen
  have KR := Lib.hid HR
  have KB := Lib.hid HB
  have KP := Lib.hid hp8
  have KL := Lib.hid hl
  have K := Lib.hid h
  generalize hg0 : w.heap.size = g at *
  clear HR HB hp8 hl h
  go_loopw [5, 3, 4] (fun vi vf vn wr => ∃ (i : Nat) (n : Nat), i ≤ 8 ∧ vi = .int .i64 i ∧ vf = .int .i64 (pick6 l i).1 ∧ vn = .int .i64 (pick6 l i).2 ∧ wr = W.drewN n) (fun i _ _ _ => 8 - (intOf i).toNat)
  case atStart => exact ⟨0, 0, by omega, rfl, rfl, rfl, rfl⟩
  case round =>
    obtain ⟨i, n, hi, rfl, rfl, rfl, rfl⟩ := hrel
    have hq := KP.out i hi
    by_cases c1 : i < 8
    · have h1 : (i : Int) < 8 := by omega
      go_wp2
      go_loopw [6] (fun vk wr => ∃ (k : Nat) (n : Nat), k ≤ zrun (l.drop i) ∧ vk = .int .i64 k ∧ wr = W.drewN n) (fun k _ => 8 - (intOf k).toNat)
      case atStart => exact ⟨0, n, by omega, rfl, rfl⟩
      case round =>
        obtain ⟨k, n, hk, rfl, rfl⟩ := hrel
        have hz := zrun_le (l.drop i)
        have hkk : i + k ≤ 8 := by simp at hz; omega
        by_cases c2 : i + k < 8
        · have h2 : (i : Int) + k < 8 := by omega
          have hc := (KR.out.drewN n).cell (i + k) c2
          have hzz := zrun_go (l.drop i) k hk (by simp [KR.out.2]; omega)
          rw [show (l.drop i).getD k 0 = l.getD (i + k) 0 by simp [List.getD_eq_getElem?_getD]] at hzz
          have KZ := Lib.hid hzz
          clear hzz
          by_cases c3 : l.getD (i + k) 0 = 0
          · have h3 := KZ.out.1 c3
            rw [c3] at hc
            go_wp2
            go_roundw
            case rel => exact ⟨k + 1, n, h3, by go_num, rfl⟩
            case measure => simp [intOf]; omega
          · have h3 : ¬ k + 1 ≤ zrun (l.drop i) := fun q => c3 (KZ.out.2 q)
            have hkz : zrun (l.drop i) = k := by omega
            generalize l.getD (i + k) 0 = x at hc c3
            have hxb : (x == 0) = false := beq_eq_false_iff_ne.2 c3
            have hps : pick6 l (i + 1) = if (k : Int) > (pick6 l i).2 then ((i : Int), (k : Int)) else pick6 l i := by rw [← hkz]; rfl
            have KQ := Lib.hid hps
            clear hps hkz
            by_cases c4 : (k : Int) > (pick6 l i).2
            · go_wp2
              go_roundw
              case rel => exact ⟨i + 1, n, by omega, by go_num, by rw [KQ.out, if_pos c4], by rw [KQ.out, if_pos c4], rfl⟩
              case measure => simp [intOf]; omega
            · go_wp2
              go_roundw
              case rel => exact ⟨i + 1, n, by omega, by go_num, by rw [KQ.out, if_neg c4], by rw [KQ.out, if_neg c4], rfl⟩
              case measure => simp [intOf]; omega
        · have h2 : ¬ (i : Int) + k < 8 := by omega
          have hkz : zrun (l.drop i) = k := by have := KR.out.2; simp [this] at hz; omega
          have hps : pick6 l (i + 1) = if (k : Int) > (pick6 l i).2 then ((i : Int), (k : Int)) else pick6 l i := by rw [← hkz]; rfl
          have KQ := Lib.hid hps
          clear hps hkz
          by_cases c4 : (k : Int) > (pick6 l i).2
          · go_wp2
            go_roundw
            case rel => exact ⟨i + 1, n, by omega, by go_num, by rw [KQ.out, if_pos c4], by rw [KQ.out, if_pos c4], rfl⟩
            case measure => simp [intOf]; omega
          · go_wp2
            go_roundw
            case rel => exact ⟨i + 1, n, by omega, by go_num, by rw [KQ.out, if_neg c4], by rw [KQ.out, if_neg c4], rfl⟩
            case measure => simp [intOf]; omega
    · have h1 : ¬ (i : Int) < 8 := by omega
      obtain rfl : i = 8 := by omega
      go_wp2
      generalize pick6 l 8 = fl at *
      obtain ⟨fr, ln⟩ := fl
      simp only at hq ⊢
      have KQ := Lib.hid hq
      have KF := Lib.hid K.out
      clear hq K KP
      go_loopw [8, 7] (fun vi vs wr => ∃ (i : Int) (s : ByteArray) (k : Nat) (m : Nat), 0 ≤ i ∧ i ≤ 20 ∧ vi = .int .i64 i ∧ vs = .string s ∧ Aside0 (ostiaryref2_Text6.l l fr ln k i s = some r) ∧ s.size ≤ 1100 ∧ wr = W.drewN m) (fun i _ _ => 8 - (intOf i).toNat)
      case atStart => exact ⟨0, ⟨#[]⟩, 9, n, by omega, by omega, rfl, rfl, ⟨KF.out⟩, by decide, rfl⟩
      case round =>
        clear KF
        obtain ⟨i, s, k, m, hi0, hi2, rfl, rfl, H, hs, rfl⟩ := hrel
        have hq := KQ.out
        cases k with
        | zero => exact absurd H.out (by simp [ostiaryref2_Text6.l])
        | succ k =>
          have h := H.out
          clear H
          unfold ostiaryref2_Text6.l at h
          by_cases c5 : i < 8
          · rw [if_pos c5] at h
            by_cases c6 : i = fr
            · rw [if_pos c6] at h
              by_cases c7 : s.size ≤ 1000
              · rw [if_pos c7] at h
                have H := Lib.hid h
                clear h
                have c6b : (i == fr) = true := beq_iff_eq.2 c6
                have hsz : (s ++ (⟨#[58, 58]⟩ : ByteArray)).size ≤ 1100 := by rw [ByteArray.size_append]; show s.size + 2 ≤ 1100; omega
                go_wp2
                go_roundw
                case rel => exact ⟨i + ln, _, k, m, by omega, by omega, by go_num, rfl, ⟨H.out⟩, hsz, rfl⟩
                case measure => simp [intOf]; omega
              · rw [if_neg c7] at h
                cases h
            · rw [if_neg c6] at h
              have c6b : (i == fr) = false := beq_eq_false_iff_ne.2 c6
              obtain ⟨d, hd, h⟩ := Option.bind_eq_some_iff.mp h
              by_cases c7 : s.size + d.size ≤ 1000
              · rw [if_pos c7] at h
                have hc := (KR.out.drewN m).cell i.toNat (by omega)
                generalize l.getD i.toNat 0 = x at hc hd
                have HD := Lib.hid hd
                clear hd
                have hsz : (s ++ d).size ≤ 1100 := by rw [ByteArray.size_append]; omega
                have hsz2 : (s ++ (⟨#[58]⟩ : ByteArray) ++ d).size ≤ 1100 := by rw [ByteArray.size_append, ByteArray.size_append]; show s.size + 1 + d.size ≤ 1100; omega
                by_cases c8 : s.toList = []
                · rw [if_pos c8] at h
                  have c8b : (s.toList == ([] : List UInt8)) = true := beq_iff_eq.mpr c8
                  have c8c : (s.toList != ([] : List UInt8)) = false := bne_eq_false_iff_eq.mpr c8
                  have H := Lib.hid h
                  clear h c8
                  go_wp2_with fail
                  refine (ostiaryref2_digits.calls 40 _ d _ HD.out).mono ?_
                  rintro e w1 ⟨rfl, n2, rfl⟩
                  go_wp2_with fail
                  go_roundw
                  case rel => exact ⟨i + 1, _, k, _, by omega, by omega, by go_num, rfl, ⟨H.out⟩, hsz, rfl⟩
                  case measure => simp [intOf]; omega
                · rw [if_neg c8] at h
                  have c8b : (s.toList == ([] : List UInt8)) = false := beq_eq_false_iff_ne.mpr c8
                  have c8c : (s.toList != ([] : List UInt8)) = true := bne_iff_ne.mpr c8
                  have hp : 0 < s.size := by
                    apply Nat.pos_of_ne_zero
                    intro q
                    apply c8
                    obtain rfl : s = ⟨#[]⟩ := by
                      cases s with
                      | mk d => simp [ByteArray.size] at q; simp [q]
                    kernel_rfl
                  have hx : ∀ h : s.size - 1 < s.size, ((s[s.size - 1]'h).toNat : Int) = bt s ((s.size : Int) - 1) := fun h => by
                    have e : ((s.size : Int) - 1).toNat = s.size - 1 := by omega
                    simp [bt, e, h]
                  by_cases c9 : bt s ((s.size : Int) - 1) = 58
                  · rw [if_pos c9] at h
                    have c9b : (bt s ((s.size : Int) - 1) == 58) = true := beq_iff_eq.mpr c9
                    have c9c : (bt s ((s.size : Int) - 1) != 58) = false := bne_eq_false_iff_eq.mpr c9
                    have H := Lib.hid h
                    clear h c8
                    go_wp2_with fail
                    refine (ostiaryref2_digits.calls 40 _ d _ HD.out).mono ?_
                    rintro e w1 ⟨rfl, n2, rfl⟩
                    go_wp2_with fail
                    go_roundw
                    case rel => exact ⟨i + 1, _, k, _, by omega, by omega, by go_num, rfl, ⟨H.out⟩, hsz, rfl⟩
                    case measure => simp [intOf]; omega
                  · rw [if_neg c9] at h
                    have c9b : (bt s ((s.size : Int) - 1) == 58) = false := beq_eq_false_iff_ne.mpr c9
                    have c9c : (bt s ((s.size : Int) - 1) != 58) = true := bne_iff_ne.mpr c9
                    have H := Lib.hid h
                    clear h c8
                    go_wp2_with fail
                    refine (ostiaryref2_digits.calls 40 _ d _ HD.out).mono ?_
                    rintro e w1 ⟨rfl, n2, rfl⟩
                    go_wp2_with fail
                    go_roundw
                    case rel => exact ⟨i + 1, _, k, _, by omega, by omega, by go_num, rfl, ⟨H.out⟩, hsz2, rfl⟩
                    case measure => simp [intOf]; omega
              · rw [if_neg c7] at h
                cases h
          · rw [if_neg c5] at h
            injection h with h
            subst h
            have hB := pw_below_drewN KB.out m
            have KB2 := Lib.hid hB
            clear hB
            go_wp2
            go_ret
            exact ⟨rfl, KB2.out⟩
theorem put8 {W : World} {b T : Nat} {cs : Array Value} (hb : W.heap[b]? = some (.cells cs T (0, 0))) (h8 : cs.size = 8) (v0 v1 v2 v3 v4 v5 v6 v7 : Value) :
    ((((((((W.setCell ⟨b, 0, none⟩ v0).setCell ⟨b, 1, none⟩ v1).setCell ⟨b, 2, none⟩ v2).setCell ⟨b, 3, none⟩ v3).setCell ⟨b, 4, none⟩ v4).setCell ⟨b, 5, none⟩ v5).setCell ⟨b, 6, none⟩ v6).setCell ⟨b, 7, none⟩ v7).heap[b]? = some (.cells #[v0, v1, v2, v3, v4, v5, v6, v7] T (0, 0)) := by
  obtain ⟨c0, c1, c2, c3, c4, c5, c6, c7, rfl⟩ : ∃ c0 c1 c2 c3 c4 c5 c6 c7, cs = #[c0, c1, c2, c3, c4, c5, c6, c7] := by
    obtain ⟨l⟩ := cs
    match l, h8 with
    | [c0, c1, c2, c3, c4, c5, c6, c7], _ => exact ⟨c0, c1, c2, c3, c4, c5, c6, c7, rfl⟩
  simpa using blk_set (blk_set (blk_set (blk_set (blk_set (blk_set (blk_set (blk_set hb 0 v0) 1 v1) 2 v2) 3 v3) 4 v4) 5 v5) 6 v6) 7 v7
theorem below8 {B : Nat} {w W : World} {b : Nat} (h : Below B w W) (hb : B ≤ b) (v0 v1 v2 v3 v4 v5 v6 v7 : Value) :
    Below B w ((((((((W.setCell ⟨b, 0, none⟩ v0).setCell ⟨b, 1, none⟩ v1).setCell ⟨b, 2, none⟩ v2).setCell ⟨b, 3, none⟩ v3).setCell ⟨b, 4, none⟩ v4).setCell ⟨b, 5, none⟩ v5).setCell ⟨b, 6, none⟩ v6).setCell ⟨b, 7, none⟩ v7) :=
  ((((((((h.setCell (p := ⟨b, 0, none⟩) hb v0).setCell (p := ⟨b, 1, none⟩) hb v1).setCell (p := ⟨b, 2, none⟩) hb v2).setCell (p := ⟨b, 3, none⟩) hb v3).setCell (p := ⟨b, 4, none⟩) hb v4).setCell (p := ⟨b, 5, none⟩) hb v5).setCell (p := ⟨b, 6, none⟩) hb v6).setCell (p := ⟨b, 7, none⟩) hb v7)
theorem list8 {l : List Int} (h : l.length = 8) : ∃ c0 c1 c2 c3 c4 c5 c6 c7, l = [c0, c1, c2, c3, c4, c5, c6, c7] := by
  match l, h with
  | [c0, c1, c2, c3, c4, c5, c6, c7], _ => exact ⟨c0, c1, c2, c3, c4, c5, c6, c7, rfl⟩
theorem copy8 {P : Program} {w : World} {ops : Array Oper} {rest : List Oper} {o : Oper} {a : Act} {Q : Exit → Act → World → Prop} (hgd : o.guard = none) (d s : Operand) (dT sT : TypeId)
    (ho : o.op = .call { callee := .builtin .copy, args := #[d, s], argTypes := #[dT, sT] }) (elem : TypeId) (hu : P.underlying dT = some (.slice elem)) (hsz : (P.info? elem).map (·.size) = some 1)
    (dp sp : Option Addr) (dLen dCap sLen sCap : Nat) (hd : a.eval d = .slice dp dLen dCap) (hs : a.eval s = .slice sp sLen sCap)
    (g off : Nat) (l ys : List Int) (hg : Row8 w g l) (hy : Kd.C (Kd.int .u16) w sp sLen ys) (hle : sLen ≤ dLen) (hpos : 0 < sLen → dp = some ⟨g, off, none⟩) (hfit : off + sLen ≤ 8)
    (h : ∀ w', Hid (Row8 w' g (splice l off ys)) → Hid (Below g w w') → Hid (w.grownBy w' (some g)) → wpList P ops Q rest (a.put o.dst (.int .i64 sLen)) w') :
    wpList P ops Q (o :: rest) a w := by
  have hR := Kd.reads_of_C (enc := Value.int .u16) (d := (0 : Int)) (h1 := fun _ => rfl) hy
  have hln : ys.length = sLen := hR.1
  rcases Nat.eq_zero_or_pos sLen with h0 | hp
  · subst h0
    obtain rfl : ys = [] := List.eq_nil_of_length_eq_zero hln
    refine wpList_copy_nothing hgd d s dT sT ho elem hu hsz dp sp dLen dCap 0 sCap hd hs (by simp) ?_
    exact h w (show Row8 _ _ _ by simpa [splice] using hg) (Below.refl _ _) (World.grownBy.refl w _)
  · obtain rfl := hpos hp
    obtain ⟨ad, rfl, hc⟩ := hR.2.2 hp
    have hcl : (ys.map (Value.int .u16)).length = sLen := by simpa using hln
    have hl8 := hg.2
    refine wpList_copy_own hgd d s dT sT ho elem hu hsz g off dLen dCap ad sLen sCap hd hs _ 246 hg.1 (ys.map (Value.int .u16)) (by rw [hcl]; exact (Nat.min_eq_left hle).symm) ?_ (by simp; omega) (by intro v hv; simp only [List.mem_map] at hv; obtain ⟨q, _, rfl⟩ := hv; rfl) ?_
    · intro j v hv
      have hj : j < sLen := by
        rcases Nat.lt_or_ge j sLen with q | q
        · exact q
        · rw [List.getElem?_eq_none (by rw [hcl]; exact q)] at hv
          cases hv
      rw [hc j hj, ← hv]
      simp [List.getD_eq_getElem?_getD, hln, hj]
    · rw [hcl]
      refine h _ ?_ (below_setRow (Below.refl _ _) (Nat.le_refl _) _) ⟨rfl, rfl, rfl, by simp [World.setRow], fun i _ hi => setRow_other w g i _ (by intro q; subst q; exact hi rfl)⟩
      refine ⟨?_, ?_⟩
      · rw [setRow_heap w g _ _ 246 _ hg.1]
        simp [splice, hln, List.map_take, List.map_drop]
      · simp [splice, hln, hl8]
        omega
def six_at (s : ByteArray) : Nat → Int → Int
  | 0, _ => -1
  | k + 1, i => if i + 1 < s.size then (if bt s i = 58 then (if bt s (i + 1) = 58 then i else six_at s k (i + 1)) else six_at s k (i + 1)) else -1
theorem six_at_succ (s : ByteArray) (k : Nat) (i : Int) : six_at s (k + 1) i = if i + 1 < s.size then (if bt s i = 58 then (if bt s (i + 1) = 58 then i else six_at s k (i + 1)) else six_at s k (i + 1)) else -1 := rfl
theorem Row8.cells {w : World} {g : Nat} {c0 c1 c2 c3 c4 c5 c6 c7 : Int} (h : Row8 w g [c0, c1, c2, c3, c4, c5, c6, c7]) :
    w.cell? ⟨g, 0, none⟩ = some (.int .u16 c0) ∧ w.cell? ⟨g, 1, none⟩ = some (.int .u16 c1) ∧ w.cell? ⟨g, 2, none⟩ = some (.int .u16 c2) ∧ w.cell? ⟨g, 3, none⟩ = some (.int .u16 c3) ∧ w.cell? ⟨g, 4, none⟩ = some (.int .u16 c4) ∧ w.cell? ⟨g, 5, none⟩ = some (.int .u16 c5) ∧ w.cell? ⟨g, 6, none⟩ = some (.int .u16 c6) ∧ w.cell? ⟨g, 7, none⟩ = some (.int .u16 c7) ∧ ∀ o, w.frozen? ⟨g, o, none⟩ = false :=
  ⟨h.cell 0 (by omega), h.cell 1 (by omega), h.cell 2 (by omega), h.cell 3 (by omega), h.cell 4 (by omega), h.cell 5 (by omega), h.cell 6 (by omega), h.cell 7 (by omega), fun o => blk_frozen h.1 o⟩
theorem Row8.below {w w1 : World} {g : Nat} {l : List Int} (h : Row8 w g l) (hb : Below w.heap.size w w1) : Row8 w1 g l := ⟨blk_below h.1 hb, h.2⟩
theorem Row8.keep {w w1 : World} {g g' : Nat} {l : List Int} (h : Row8 w g l) (hb : w.grownBy w1 (some g')) (hne : g ≠ g') : Row8 w1 g l := ⟨blk_grown h.1 hb (by simpa using hne), h.2⟩
theorem Row8.put {W : World} {b : Nat} {l : List Int} (hb : Row8 W b l) (v0 v1 v2 v3 v4 v5 v6 v7 : Value) :
    ((((((((W.setCell ⟨b, 0, none⟩ v0).setCell ⟨b, 1, none⟩ v1).setCell ⟨b, 2, none⟩ v2).setCell ⟨b, 3, none⟩ v3).setCell ⟨b, 4, none⟩ v4).setCell ⟨b, 5, none⟩ v5).setCell ⟨b, 6, none⟩ v6).setCell ⟨b, 7, none⟩ v7).heap[b]? = some (.cells #[v0, v1, v2, v3, v4, v5, v6, v7] 246 (0, 0)) := put8 hb.1 (by simpa using hb.2) v0 v1 v2 v3 v4 v5 v6 v7
def tup8 (l : List Int) (b : Bool) : Int × Int × Int × Int × Int × Int × Int × Int × Bool := (l.getD 0 0, l.getD 1 0, l.getD 2 0, l.getD 3 0, l.getD 4 0, l.getD 5 0, l.getD 6 0, l.getD 7 0, b)
def fill8 (a b : List Int) : List Int := a ++ List.replicate (8 - a.length - b.length) 0 ++ b
theorem fill8_len (a b : List Int) (h : a.length + b.length ≤ 8) : (fill8 a b).length = 8 := by
  simp [fill8]
  omega
theorem splice_fill (a b : List Int) (h : a.length + b.length ≤ 8) : splice (splice (List.replicate 8 0) 0 a) (8 - b.length) b = fill8 a b := by
  simp only [splice, fill8, List.take_zero, List.nil_append, Nat.zero_add, List.drop_replicate]
  rw [List.take_append, List.take_of_length_le (by omega), List.take_replicate]
  rw [show 8 - b.length + b.length = 8 by omega, List.drop_append, List.drop_eq_nil_of_le (show a.length ≤ 8 by omega)]
  rw [List.drop_eq_nil_of_le (by simp)]
  simp
  rw [show min (8 - b.length - a.length) (8 - a.length) = 8 - a.length - b.length by omega]
def fuel6 (s : ByteArray) : Nat := 1000 + 50 * s.size
def ostiaryref2_Six.g (s : ByteArray) (at_ : Int) : Option (Int × Int × Int × Int × Int × Int × Int × Int × Bool) :=
  if at_ < 0 then (ostiaryref2_pieces.f (fuel6 s) s true).bind fun p => if p.2 = true then (if p.1.length = 8 then some (tup8 p.1 true) else some (tup8 [] false)) else some (tup8 [] false)
  else (ostiaryref2_pieces.f (fuel6 s) (s.extract 0 at_.toNat) false).bind fun a => (ostiaryref2_pieces.f (fuel6 s) (s.extract (at_.toNat + 2) s.size) true).bind fun b =>
    if 4611686018427387904 < a.1.length + b.1.length then none else if a.2 = true then (if b.2 = true then (if a.1.length + b.1.length ≤ 7 then some (tup8 (fill8 a.1 b.1) true) else some (tup8 [] false)) else some (tup8 [] false)) else some (tup8 [] false)
def ostiaryref2_Six.f (s : ByteArray) : Option (Int × Int × Int × Int × Int × Int × Int × Int × Bool) :=
  if s.size ≤ 4611686018427387904 then ostiaryref2_Six.g s (six_at s s.size 0) else none
set_option maxHeartbeats 1000000 in
set_option maxRecDepth 100000 in
theorem ostiaryref2_Six.calls (a0 : ByteArray) (r1 r2 r3 r4 r5 r6 r7 r8 : Int) (r9 : Bool) (w : World) (h : ostiaryref2_Six.f a0 = some (r1, r2, r3, r4, r5, r6, r7, r8, r9)) :
  Calls Tryd.prog 200 #[.string a0] w fun e w' => e = .returned (.tuple #[.agg #[.int .u16 r1, .int .u16 r2, .int .u16 r3, .int .u16 r4, .int .u16 r5, .int .u16 r6, .int .u16 r7, .int .u16 r8], .bool r9]) ∧ Below w.heap.size w w' := by
  unfold ostiaryref2_Six.f at h
  by_cases hbig : a0.size ≤ 4611686018427387904
  · rw [if_pos hbig] at h
    let zs : Array Value := #[.int .u16 0, .int .u16 0, .int .u16 0, .int .u16 0, .int .u16 0, .int .u16 0, .int .u16 0, .int .u16 0]
    obtain ⟨W, hW⟩ : ∃ W, W = (w.alloc (.cells zs 246)).alloc (.cells zs 246) := ⟨_, rfl⟩
    have hz1 : Row8 W w.heap.size (List.replicate 8 0) := ⟨by rw [hW]; exact blk_alloc (blk_new _ _) _, rfl⟩
    have hz2 : Row8 W (w.heap.size + 1) (List.replicate 8 0) := ⟨by rw [hW, show w.heap.size + 1 = (w.alloc (.cells zs 246)).heap.size by simp]; exact blk_new _ _, rfl⟩
    have hB : Below w.heap.size w W := by rw [hW]; exact below_alloc (below_alloc (Below.refl _ _) _) _
    have hsz : W.heap.size = w.heap.size + 2 := by rw [hW]; simp
    have Z1 := Lib.hid hz1
    have Z2 := Lib.hid hz2
    have ZB := Lib.hid hB
    have H := Lib.hid h
    have HS := Lib.hid hsz
    have HW := Lib.hid hW
    clear hz1 hz2 hB h hsz hW
    go_enter Tryd.func200, Tryd.ntmps200
    go_wp2_with fail
    go_loopw [6, 5] (fun vi va wr => ∃ (i : Nat) (n : Nat), i ≤ a0.size ∧ vi = .int .i64 i ∧ va = .int .i64 (-1) ∧ Hid (six_at a0 (a0.size - i) i = six_at a0 a0.size 0) ∧ wr = W.drewN n) (fun i _ _ => a0.size - (intOf i).toNat)
    case atStart => exact ⟨0, 0, Nat.zero_le _, rfl, rfl, rfl, HW.out.symm⟩
    case round =>
      obtain ⟨i, n, hi, rfl, rfl, HA, rfl⟩ := hrel
      have hx1 : ∀ h : i < a0.size, ((a0[i]'h).toNat : Int) = bt a0 i := fun h => by simp [bt, h]
      have hx2 : ∀ h : i + 1 < a0.size, ((a0[i + 1]'h).toNat : Int) = bt a0 ((i : Int) + 1) := fun h => by
        have e : ((i : Int) + 1).toNat = i + 1 := by omega
        simp [bt, e, h]
      by_cases c1 : (i : Int) + 1 < a0.size
      · have he : six_at a0 (a0.size - i) i = if bt a0 i = 58 then (if bt a0 ((i : Int) + 1) = 58 then (i : Int) else six_at a0 (a0.size - (i + 1)) ((i : Int) + 1)) else six_at a0 (a0.size - (i + 1)) ((i : Int) + 1) := by
          rw [show a0.size - i = (a0.size - (i + 1)) + 1 by omega, six_at_succ, if_pos c1]
        have HE := Lib.hid he
        clear he
        by_cases c2 : bt a0 i = 58
        · have c2b : (bt a0 i == 58) = true := beq_iff_eq.2 c2
          by_cases c3 : bt a0 ((i : Int) + 1) = 58
          · have c3b : (bt a0 ((i : Int) + 1) == 58) = true := beq_iff_eq.2 c3
            have hg : ostiaryref2_Six.g a0 i = some (r1, r2, r3, r4, r5, r6, r7, r8, r9) := by
              have h0 := H.out
              rw [← HA.out, HE.out, if_pos c2, if_pos c3] at h0
              exact h0
            unfold ostiaryref2_Six.g at hg
            rw [if_neg (show ¬ ((i : Int) < 0) by omega)] at hg
            obtain ⟨⟨a, oka⟩, ha, hg2⟩ := Option.bind_eq_some_iff.mp hg
            obtain ⟨⟨b, okb⟩, hb, hg3⟩ := Option.bind_eq_some_iff.mp hg2
            rw [show ((i : Int)).toNat = i by omega] at ha hb
            have hlim : a.length + b.length ≤ 4611686018427387904 := by
              apply Nat.le_of_not_lt
              intro q
              rw [if_pos q] at hg3
              cases hg3
            rw [if_neg (by exact Nat.not_lt.2 hlim)] at hg3
            have HA1 := Lib.hid ha
            have HB1 := Lib.hid hb
            have HG := Lib.hid hg3
            clear ha hb hg hg2 hg3 c2 c3
            go_wp2_with fail
            refine (ostiaryref2_pieces.calls _ _ false a oka _ HA1.out).mono ?_
            rintro e w1 ⟨v, rfl, hR, hb⟩
            obtain ⟨A, c, rfl, hlc, hC⟩ := Kd.R_reads hR
            have hr1 := (Z1.out.drewN n).below hb
            have hr2 := (Z2.out.drewN n).below hb
            have hB1 := (pw_below_drewN ZB.out n).trans (hb.mono (show w.heap.size ≤ (W.drewN n).heap.size from by show w.heap.size ≤ W.heap.size; rw [HS.out]; omega))
            have hsz1 : w.heap.size + 2 ≤ w1.heap.size := by
              have h0 := hb.size
              have h1 : (W.drewN n).heap.size = W.heap.size := rfl
              rw [h1, HS.out] at h0
              exact h0
            have HC := Lib.hid hC
            have L1 := Lib.hid hr1
            have L2 := Lib.hid hr2
            have L3 := Lib.hid hB1
            have L4 := Lib.hid hsz1
            clear hC hR hr1 hr2 hB1 hb hsz1
            go_wp2_with fail
            refine (ostiaryref2_pieces.calls _ _ true b okb _ HB1.out).mono ?_
            rintro e w2 ⟨v, rfl, hR, hb⟩
            obtain ⟨A2, c2, rfl, hlc2, hC2⟩ := Kd.R_reads hR
            have hR2 : Kd.R (Kd.int .u16) 245 w2 w1.heap.size (fun k => k ≠ w.heap.size + 1) (.slice A2 b.length c2) b := Kd.R_mono (Kd.R_bound hR) (fun k hk => by have h1 := hk.2.1; have h2 := L4.out; omega)
            have hC := Kd.C_below HC.out hb
            have hr1 := L1.out.below hb
            have hr2 := L2.out.below hb
            have hB1 := L3.out.trans (hb.mono (show w.heap.size ≤ w1.heap.size by have := L4.out; omega))
            obtain ⟨x0, x1, x2, x3, x4, x5, x6, x7, xf⟩ := Row8.cells (c0 := 0) (c1 := 0) (c2 := 0) (c3 := 0) (c4 := 0) (c5 := 0) (c6 := 0) (c7 := 0) hr1
            obtain ⟨y0, y1, y2, y3, y4, y5, y6, y7, yf⟩ := Row8.cells (c0 := 0) (c1 := 0) (c2 := 0) (c3 := 0) (c4 := 0) (c5 := 0) (c6 := 0) (c7 := 0) hr2
            have D1 := Lib.hid hC
            have D2 := Lib.hid hR2
            have K1 := Lib.hid hr1
            have K2 := Lib.hid hr2
            have K3 := Lib.hid hB1
            clear hC hC2 hR2 hR hr1 hr2 hB1 hb
            have hg := HG.out
            clear HG
            cases oka with
            | false =>
              rw [if_neg (by simp)] at hg
              have HX := Lib.hid hg
              clear hg
              go_wp2_with fail
              refine bodyPost_ret (results_ct rfl _ _ w.heap.size 246 #[.int .u16 0, .int .u16 0, .int .u16 0, .int .u16 0, .int .u16 0, .int .u16 0, .int .u16 0, .int .u16 0] (0, 0) _ rfl ?_ Tryd.underlying246 rfl q2_) rfl ?_
              · exact K1.out.put _ _ _ _ _ _ _ _
              · have hx := HX.out
                simp only [tup8, List.getD_nil, Option.some.injEq, Prod.mk.injEq] at hx
                obtain ⟨rfl, rfl, rfl, rfl, rfl, rfl, rfl, rfl, rfl⟩ := hx
                exact ⟨rfl, below8 K3.out (Nat.le_refl _) _ _ _ _ _ _ _ _⟩
            | true =>
              rw [if_pos rfl] at hg
              cases okb with
              | false =>
                rw [if_neg (by simp)] at hg
                have HX := Lib.hid hg
                clear hg
                go_wp2_with fail
                refine bodyPost_ret (results_ct rfl _ _ w.heap.size 246 #[.int .u16 0, .int .u16 0, .int .u16 0, .int .u16 0, .int .u16 0, .int .u16 0, .int .u16 0, .int .u16 0] (0, 0) _ rfl ?_ Tryd.underlying246 rfl q2_) rfl ?_
                · exact K1.out.put _ _ _ _ _ _ _ _
                · have hx := HX.out
                  simp only [tup8, List.getD_nil, Option.some.injEq, Prod.mk.injEq] at hx
                  obtain ⟨rfl, rfl, rfl, rfl, rfl, rfl, rfl, rfl, rfl⟩ := hx
                  exact ⟨rfl, below8 K3.out (Nat.le_refl _) _ _ _ _ _ _ _ _⟩
              | true =>
                rw [if_pos rfl] at hg
                by_cases c7 : a.length + b.length ≤ 7
                · rw [if_pos c7] at hg
                  have c7b : decide (7 < (a.length : Int) + b.length) = false := by simp; omega
                  have c7c : (7 < (a.length : Int) + b.length) = False := eq_false (by omega)
                  obtain ⟨b0, b1, b2, b3, b4, b5, b6, b7, hfill⟩ := list8 (fill8_len a b (by omega))
                  have hx := hg
                  rw [hfill] at hx
                  simp only [tup8, List.getD_cons_zero, List.getD_cons_succ, Option.some.injEq, Prod.mk.injEq] at hx
                  obtain ⟨rfl, rfl, rfl, rfl, rfl, rfl, rfl, rfl, rfl⟩ := hx
                  have FL := Lib.hid ((splice_fill a b (by omega)).trans hfill)
                  clear hfill
                  obtain ⟨dp, hdp, hrun⟩ : ∃ dp, (0 < b.length → dp = some ⟨w.heap.size + 1, 8 - b.length, none⟩) ∧ ∀ V, (Instr.sliceAt 246 (.pointer (some ⟨w.heap.size + 1, 0, none⟩)) (some (.int .i64 (8 - (b.length : Int)))) none none).run Tryd.prog V = .ok (.slice dp b.length b.length) V := by
                    have hal : Tryd.prog.arrayLen 246 = 8 := by kernel_rfl
                    have hel : Tryd.prog.elem 246 = 245 := by kernel_rfl
                    have hu : Tryd.prog.underlying 246 = some (.array (Tryd.prog.arrayLen 246) (Tryd.prog.elem 246)) := by rw [hal, hel]; exact Tryd.underlying246
                    have e1 : (8 - (b.length : Int)).toNat = 8 - b.length := by omega
                    refine ⟨some (if 8 = 8 - b.length then ⟨w.heap.size + 1, 0, none⟩ else (⟨w.heap.size + 1, 0, none⟩ : Addr).add ((8 - b.length) * 1)), fun hb0 => ?_, fun V => ?_⟩
                    · rw [if_neg (by omega), Nat.mul_one, add_plain]
                    · rw [run_sliceAt_array_l V 246 _ hu .i64 _ (by omega) (by rw [hal]; omega)]
                      have hso : (sizeOf (Tryd.prog.elem 246)).run Tryd.prog V = .ok 1 V := by rw [hel]; kernel_rfl
                      rw [hso, hal, e1]
                      show Result.ok (slicedAt _ _ _ _ _) V = _
                      unfold slicedAt
                      rw [show 8 - (8 - b.length) = b.length by omega]
                  have HX := Lib.hid hg
                  clear hg
                  go_wp2_with (first | ((with_reducible refine gate_builtin (b := .copy) (xs := #[.tmp 81, .tmp 82]) rfl ?_); refine copy8 rfl (.tmp 81) (.tmp 82) 265 265 rfl 245 Tryd.underlying265 q2_ (some ⟨w.heap.size + 1, 0, none⟩) A 8 8 a.length c rfl rfl (w.heap.size + 1) 0 _ a K2.out D1.out (by omega) (fun _ => rfl) (by omega) ?_; intro w3 q1 q2 q3; have hr1 := K1.out.keep q3.out (by omega); have hB1 := K3.out.trans (q2.out.mono (by omega)); obtain ⟨_, _, hv, _, hd3⟩ := Kd.R_reads (Kd.R_grown D2.out q3.out (fun k hk q => hk (by injection q))); injection hv with hv1 hv2 hv3; subst hv1; have M1 := Lib.hid hr1; have M2 := Lib.hid hB1; have M3 := Lib.hid hd3; clear hr1 hB1 hd3 q2 q3 hv2 hv3 x0 x1 x2 x3 x4 x5 x6 x7 xf y0 y1 y2 y3 y4 y5 y6 y7 yf) | ((with_reducible refine gate_builtin (b := .copy) (xs := #[.tmp 87, .tmp 88]) rfl ?_); refine copy8 rfl (.tmp 87) (.tmp 88) 265 265 rfl 245 Tryd.underlying265 q2_ dp A2 b.length b.length b.length c2 rfl rfl (w.heap.size + 1) (8 - b.length) _ b q1.out M3.out (by omega) hdp (by omega) ?_; intro w4 q1 q2 q3; have hr1 := M1.out.keep q3.out (by omega); have hr2 : Row8 w4 (w.heap.size + 1) [b0, b1, b2, b3, b4, b5, b6, b7] := (FL.out ▸ q1.out); have hB1 := M2.out.trans (q2.out.mono (by omega)); clear q1 q2 q3; obtain ⟨x0, x1, x2, x3, x4, x5, x6, x7, xf⟩ := Row8.cells (c0 := 0) (c1 := 0) (c2 := 0) (c3 := 0) (c4 := 0) (c5 := 0) (c6 := 0) (c7 := 0) hr1; obtain ⟨y0, y1, y2, y3, y4, y5, y6, y7, yf⟩ := Row8.cells hr2; have N1 := Lib.hid hr1; have N2 := Lib.hid hB1; clear hr1 hr2 hB1))
                  refine bodyPost_ret (results_ct rfl _ _ w.heap.size 246 #[.int .u16 b0, .int .u16 b1, .int .u16 b2, .int .u16 b3, .int .u16 b4, .int .u16 b5, .int .u16 b6, .int .u16 b7] (0, 0) _ rfl ?_ Tryd.underlying246 rfl q2_) rfl ?_
                  · exact N1.out.put _ _ _ _ _ _ _ _
                  · exact ⟨rfl, below8 N2.out (Nat.le_refl _) _ _ _ _ _ _ _ _⟩
                · rw [if_neg c7] at hg
                  have c7b : decide (7 < (a.length : Int) + b.length) = true := by simp; omega
                  have c7c : (7 < (a.length : Int) + b.length) = True := eq_true (by omega)
                  have HX := Lib.hid hg
                  clear hg
                  go_wp2_with fail
                  refine bodyPost_ret (results_ct rfl _ _ w.heap.size 246 #[.int .u16 0, .int .u16 0, .int .u16 0, .int .u16 0, .int .u16 0, .int .u16 0, .int .u16 0, .int .u16 0] (0, 0) _ rfl ?_ Tryd.underlying246 rfl q2_) rfl ?_
                  · exact K1.out.put _ _ _ _ _ _ _ _
                  · have hx := HX.out
                    simp only [tup8, List.getD_nil, Option.some.injEq, Prod.mk.injEq] at hx
                    obtain ⟨rfl, rfl, rfl, rfl, rfl, rfl, rfl, rfl, rfl⟩ := hx
                    exact ⟨rfl, below8 K3.out (Nat.le_refl _) _ _ _ _ _ _ _ _⟩
          · have c3b : (bt a0 ((i : Int) + 1) == 58) = false := beq_eq_false_iff_ne.2 c3
            have HL := Lib.hid (show six_at a0 (a0.size - (i + 1)) ((i : Int) + 1) = six_at a0 a0.size 0 by rw [← HA.out, HE.out, if_pos c2, if_neg c3])
            go_wp2_with fail
            go_roundw
            case rel => exact ⟨i + 1, n, by omega, by go_num, rfl, HL.out, rfl⟩
            case measure => simp [intOf]; omega
        · have c2b : (bt a0 i == 58) = false := beq_eq_false_iff_ne.2 c2
          have HL := Lib.hid (show six_at a0 (a0.size - (i + 1)) ((i : Int) + 1) = six_at a0 a0.size 0 by rw [← HA.out, HE.out, if_neg c2])
          go_wp2_with fail
          go_roundw
          case rel => exact ⟨i + 1, n, by omega, by go_num, rfl, HL.out, rfl⟩
          case measure => simp [intOf]; omega
      · have he : six_at a0 a0.size 0 = -1 := by
          rw [← HA.out]
          cases hk : a0.size - i with
          | zero => rfl
          | succ k => rw [six_at_succ, if_neg c1]
        have hg : ostiaryref2_Six.g a0 (-1) = some (r1, r2, r3, r4, r5, r6, r7, r8, r9) := by
          have h0 := H.out
          rw [he] at h0
          exact h0
        unfold ostiaryref2_Six.g at hg
        rw [if_pos (by omega)] at hg
        obtain ⟨⟨a, oka⟩, ha, hg⟩ := Option.bind_eq_some_iff.mp hg
        have HA1 := Lib.hid ha
        have HG := Lib.hid hg
        clear ha hg he HA
        go_wp2_with fail
        refine (ostiaryref2_pieces.calls _ a0 true a oka _ HA1.out).mono ?_
        rintro e w1 ⟨v, rfl, hR, hb⟩
        obtain ⟨A, c, rfl, hlc, hC⟩ := Kd.R_reads hR
        have hr1 := (Z1.out.drewN n).below hb
        have hr2 := (Z2.out.drewN n).below hb
        have hB1 := (pw_below_drewN ZB.out n).trans (hb.mono (show w.heap.size ≤ (W.drewN n).heap.size from by show w.heap.size ≤ W.heap.size; rw [HS.out]; omega))
        obtain ⟨x0, x1, x2, x3, x4, x5, x6, x7, xf⟩ := Row8.cells (c0 := 0) (c1 := 0) (c2 := 0) (c3 := 0) (c4 := 0) (c5 := 0) (c6 := 0) (c7 := 0) hr1
        obtain ⟨y0, y1, y2, y3, y4, y5, y6, y7, yf⟩ := Row8.cells (c0 := 0) (c1 := 0) (c2 := 0) (c3 := 0) (c4 := 0) (c5 := 0) (c6 := 0) (c7 := 0) hr2
        have HC := Lib.hid hC
        have K1 := Lib.hid hr1
        have K2 := Lib.hid hr2
        have K3 := Lib.hid hB1
        clear hC hR hr1 hr2 hB1 hb
        cases oka with
        | false =>
          have hg := HG.out
          rw [if_neg (by simp)] at hg
          have HX := Lib.hid hg
          clear hg HG
          go_wp2_with fail
          refine bodyPost_ret (results_ct rfl _ _ w.heap.size 246 #[.int .u16 0, .int .u16 0, .int .u16 0, .int .u16 0, .int .u16 0, .int .u16 0, .int .u16 0, .int .u16 0] (0, 0) _ rfl ?_ Tryd.underlying246 rfl q2_) rfl ?_
          · exact K1.out.put _ _ _ _ _ _ _ _
          · have hx := HX.out
            simp only [tup8, List.getD_nil, Option.some.injEq, Prod.mk.injEq] at hx
            obtain ⟨rfl, rfl, rfl, rfl, rfl, rfl, rfl, rfl, rfl⟩ := hx
            exact ⟨rfl, below8 K3.out (Nat.le_refl _) _ _ _ _ _ _ _ _⟩
        | true =>
          have hg := HG.out
          rw [if_pos rfl] at hg
          by_cases c4 : a.length = 8
          · rw [if_pos c4] at hg
            obtain ⟨b0, b1, b2, b3, b4, b5, b6, b7, rfl⟩ := list8 c4
            have hx := hg
            simp only [tup8, List.getD_cons_zero, List.getD_cons_succ, Option.some.injEq, Prod.mk.injEq] at hx
            obtain ⟨rfl, rfl, rfl, rfl, rfl, rfl, rfl, rfl, rfl⟩ := hx
            clear hg HG
            go_wp2_with (first | ((with_reducible refine gate_builtin (b := .copy) (xs := #[.tmp 47, .tmp 48]) rfl ?_); refine copy8 rfl (.tmp 47) (.tmp 48) 265 265 rfl 245 Tryd.underlying265 q2_ (some ⟨w.heap.size + 1, 0, none⟩) A 8 8 8 c rfl rfl (w.heap.size + 1) 0 _ [b0, b1, b2, b3, b4, b5, b6, b7] K2.out HC.out (by omega) (fun _ => rfl) (by omega) ?_; intro w2 q1 q2 q3; have hr1 := K1.out.keep q3.out (by omega); have hr2 : Row8 w2 (w.heap.size + 1) [b0, b1, b2, b3, b4, b5, b6, b7] := q1.out; have hB1 := K3.out.trans (q2.out.mono (by omega)); clear q1 q2 q3 x0 x1 x2 x3 x4 x5 x6 x7 xf y0 y1 y2 y3 y4 y5 y6 y7 yf; obtain ⟨x0, x1, x2, x3, x4, x5, x6, x7, xf⟩ := Row8.cells (c0 := 0) (c1 := 0) (c2 := 0) (c3 := 0) (c4 := 0) (c5 := 0) (c6 := 0) (c7 := 0) hr1; obtain ⟨y0, y1, y2, y3, y4, y5, y6, y7, yf⟩ := Row8.cells hr2; have M1 := Lib.hid hr1; have M2 := Lib.hid hB1; clear hr1 hr2 hB1))
            refine bodyPost_ret (results_ct rfl _ _ w.heap.size 246 #[.int .u16 b0, .int .u16 b1, .int .u16 b2, .int .u16 b3, .int .u16 b4, .int .u16 b5, .int .u16 b6, .int .u16 b7] (0, 0) _ rfl ?_ Tryd.underlying246 rfl q2_) rfl ?_
            · exact M1.out.put _ _ _ _ _ _ _ _
            · exact ⟨rfl, below8 M2.out (Nat.le_refl _) _ _ _ _ _ _ _ _⟩
          · rw [if_neg c4] at hg
            have HX := Lib.hid hg
            clear hg HG
            have c4b : ((a.length : Int) != 8) = true := by simp; omega
            go_wp2_with fail
            refine bodyPost_ret (results_ct rfl _ _ w.heap.size 246 #[.int .u16 0, .int .u16 0, .int .u16 0, .int .u16 0, .int .u16 0, .int .u16 0, .int .u16 0, .int .u16 0] (0, 0) _ rfl ?_ Tryd.underlying246 rfl q2_) rfl ?_
            · exact K1.out.put _ _ _ _ _ _ _ _
            · have hx := HX.out
              simp only [tup8, List.getD_nil, Option.some.injEq, Prod.mk.injEq] at hx
              obtain ⟨rfl, rfl, rfl, rfl, rfl, rfl, rfl, rfl, rfl⟩ := hx
              exact ⟨rfl, below8 K3.out (Nat.le_refl _) _ _ _ _ _ _ _ _⟩
  · rw [if_neg hbig] at h
    cases h
end Go.Proofs.YtifmkgkiipckbaaDoor.P
