/- A part of the proof of CorsLess: texts of walks and plain lemmas. -/
import Derived.Test.YtifmkgkiipckbaaDoorX1
import Derived.Test.YtifmkgkiipckbaaDoorX2
import Derived.Test.YtifmkgkiipckbaaDoorX21
import Derived.Test.YtifmkgkiipckbaaDoorX18
import Derived.Test.YtifmkgkiipckbaaDoorX20
namespace Go.Proofs.YtifmkgkiipckbaaDoor.P
open Go.RowKit Go.Proofs.YtifmkgkiipckbaaDoorW.PrintWords Go.Proofs.YtifmkgkiipckbaaDoorW.PrintLast Go.Proofs.YtifmkgkiipckbaaDoorW.PrintMore
attribute [local go_sem] max2_int min2_int max_two min_two max_three min_three max_four min_four
set_option linter.unusedVariables false
set_option linter.unusedSimpArgs false
def cors_Method.j0 : Nat → ByteArray → ByteArray → Bool → Option (ByteArray × Bool)
 | 0, _, _, _ => none
 | k + 1, x0, x8, x9 => if x9 = true then (some ((⟨#[]⟩ : ByteArray), false)) else (if x8.toList = ([100, 101, 108, 101, 116, 101] : List UInt8) then (some ((⟨#[68, 69, 76, 69, 84, 69]⟩ : ByteArray), true)) else (if x8.toList = ([103, 101, 116] : List UInt8) then (some ((⟨#[71, 69, 84]⟩ : ByteArray), true)) else (if x8.toList = ([104, 101, 97, 100] : List UInt8) then (some ((⟨#[72, 69, 65, 68]⟩ : ByteArray), true)) else (if x8.toList = ([111, 112, 116, 105, 111, 110, 115] : List UInt8) then (some ((⟨#[79, 80, 84, 73, 79, 78, 83]⟩ : ByteArray), true)) else (if x8.toList = ([112, 111, 115, 116] : List UInt8) then (some ((⟨#[80, 79, 83, 84]⟩ : ByteArray), true)) else (if x8.toList = ([112, 117, 116] : List UInt8) then (some ((⟨#[80, 85, 84]⟩ : ByteArray), true)) else (some (x0, true))))))))
def cors_Method.f (k : Nat) (a0 : ByteArray) : Option (ByteArray × Bool) := (infra_Token.f k a0).bind fun t210 => (if t210 = true then ((infra_Lower.f a0).bind fun t211 => (if t211.toList = ([99, 111, 110, 110, 101, 99, 116] : List UInt8) then (cors_Method.j0 k a0 t211 (t211.toList == ([99, 111, 110, 110, 101, 99, 116] : List UInt8))) else (if t211.toList = ([116, 114, 97, 99, 101] : List UInt8) then (cors_Method.j0 k a0 t211 (t211.toList == ([116, 114, 97, 99, 101] : List UInt8))) else (cors_Method.j0 k a0 t211 (t211.toList == ([116, 114, 97, 99, 107] : List UInt8)))))) else (some ((⟨#[]⟩ : ByteArray), false)))
theorem cors_Method.mono_l : ∀ k, (∀ y0 y1 y2, LeO (cors_Method.j0 k y0 y1 y2) (cors_Method.j0 (k + 1) y0 y1 y2))
 | 0 => fun _ _ _ r h => by simp [cors_Method.j0] at h
 | k + 1 => by
  have ih0 := cors_Method.mono_l k
  ·intro y0 y1 y2
   unfold cors_Method.j0
   repeat' first
   | (with_reducible exact ih0 _ _ _)
   | (with_reducible exact infra_Token.mono _ _)
   | (with_reducible exact LeO.refl _)
   | (with_reducible exact LeO.none _)
   | (with_reducible refine LeO.ite ?_ ?_)
   | (with_reducible refine LeO.bind ?_ (fun _ => ?_))
   | exact ih0 _ _ _
   | exact infra_Token.mono _ _
   | exact LeO.none _
   | refine LeO.ite ?_ ?_
   | refine LeO.bind ?_ (fun _ => ?_)
theorem cors_Method.mono : ∀ a0 k, LeO (cors_Method.f k a0) (cors_Method.f (k + 1) a0) := by
 intro a0 k
 have ih0 := cors_Method.mono_l k
 unfold cors_Method.f
 repeat' first
   | (with_reducible exact ih0 _ _ _)
   | (with_reducible exact infra_Token.mono _ _)
   | (with_reducible exact LeO.refl _)
   | (with_reducible exact LeO.none _)
   | (with_reducible refine LeO.ite ?_ ?_)
   | (with_reducible refine LeO.bind ?_ (fun _ => ?_))
   | exact ih0 _ _ _
   | exact infra_Token.mono _ _
   | exact LeO.none _
   | refine LeO.ite ?_ ?_
   | refine LeO.bind ?_ (fun _ => ?_)
set_option maxHeartbeats 8000000 in
set_option maxRecDepth 100000 in
theorem cors_Method.calls (k : Nat) (a0 : ByteArray) (r1 : ByteArray) (r2 : Bool) (w : World) (h : cors_Method.f k a0 = some (r1, r2)) :
  Calls Tryd.prog 14 #[.string a0] w fun e w' => e = .returned (.tuple #[.string r1, .bool r2]) ∧ Below w.heap.size w w' := by
 have HB := Aside0.mk (Below.refl w.heap.size w)
 have H : ((infra_Token.f k a0).bind fun t210 => (if t210 = true then ((infra_Lower.f a0).bind fun t211 => (if t211.toList = ([99, 111, 110, 110, 101, 99, 116] : List UInt8) then (cors_Method.j0 k a0 t211 (t211.toList == ([99, 111, 110, 110, 101, 99, 116] : List UInt8))) else (if t211.toList = ([116, 114, 97, 99, 101] : List UInt8) then (cors_Method.j0 k a0 t211 (t211.toList == ([116, 114, 97, 99, 101] : List UInt8))) else (cors_Method.j0 k a0 t211 (t211.toList == ([116, 114, 97, 99, 107] : List UInt8)))))) else (some ((⟨#[]⟩ : ByteArray), false)))) = some (r1, r2) := h
 clear h
 replace H := Option.bind_eq_some_iff.mp H
 obtain ⟨t210, A20, H⟩ := H
 replace H : (if t210 = true then ((infra_Lower.f a0).bind fun t211 => (if t211.toList = ([99, 111, 110, 110, 101, 99, 116] : List UInt8) then (cors_Method.j0 k a0 t211 (t211.toList == ([99, 111, 110, 110, 101, 99, 116] : List UInt8))) else (if t211.toList = ([116, 114, 97, 99, 101] : List UInt8) then (cors_Method.j0 k a0 t211 (t211.toList == ([116, 114, 97, 99, 101] : List UInt8))) else (cors_Method.j0 k a0 t211 (t211.toList == ([116, 114, 97, 99, 107] : List UInt8)))))) else (some ((⟨#[]⟩ : ByteArray), false))) = some (r1, r2) := H
 have A2 := Aside0.mk A20
 clear A20
 by_cases c3 : t210 = true
 ·subst c3
  have H1 : ((infra_Lower.f a0).bind fun t211 => (if t211.toList = ([99, 111, 110, 110, 101, 99, 116] : List UInt8) then (cors_Method.j0 k a0 t211 (t211.toList == ([99, 111, 110, 110, 101, 99, 116] : List UInt8))) else (if t211.toList = ([116, 114, 97, 99, 101] : List UInt8) then (cors_Method.j0 k a0 t211 (t211.toList == ([116, 114, 97, 99, 101] : List UInt8))) else (cors_Method.j0 k a0 t211 (t211.toList == ([116, 114, 97, 99, 107] : List UInt8)))))) = some (r1, r2) := by rw [if_pos rfl] at H; exact H
  clear H
  have H := H1
  clear H1
  replace H := Option.bind_eq_some_iff.mp H
  obtain ⟨t211, A40, H⟩ := H
  replace H : (if t211.toList = ([99, 111, 110, 110, 101, 99, 116] : List UInt8) then (cors_Method.j0 k a0 t211 (t211.toList == ([99, 111, 110, 110, 101, 99, 116] : List UInt8))) else (if t211.toList = ([116, 114, 97, 99, 101] : List UInt8) then (cors_Method.j0 k a0 t211 (t211.toList == ([116, 114, 97, 99, 101] : List UInt8))) else (cors_Method.j0 k a0 t211 (t211.toList == ([116, 114, 97, 99, 107] : List UInt8))))) = some (r1, r2) := H
  have A4 := Aside0.mk A40
  clear A40
  have HC5 := Aside0.mk H
  clear H
  go_enter Tryd.func14, Tryd.ntmps14
  go_upto_if 9 with (first | ((with_reducible refine gate_callee (f := 52) rfl ?_); refine goesL_ (some 5) rfl rfl Tryd.func52 q2_ rfl #[.string a0] rfl tS ?_; (with_reducible refine (infra_Token.calls k a0 true _ A2.out).mono ?_); rintro e w' ⟨rfl, ⟨nd, rfl⟩⟩; refine ⟨_, rfl, ?_⟩) | ((with_reducible refine gate_callee (f := 53) rfl ?_); refine goesL_ (some 8) rfl rfl Tryd.func53 q2_ rfl #[.string a0] rfl tS ?_; (with_reducible refine (infra_Lower.calls a0 t211 _ A4.out).mono ?_); rintro e w6 ⟨rfl, hb⟩; refine ⟨_, rfl, ?_⟩; have n0_ := Aside0.mk (below_step hB hb); clear HB; have HB := n0_; clear n0_; (try clear hb); (try clear hb2); (try clear hk); (try clear hi)))
  (try simp only [Act.put, List.setIfInBounds_toArray, List.set_cons_zero, List.set_cons_succ])
  go_cut [9] (fun v9 wc => ∃ (kq : Nat) (x9_4 : Bool), v9 = .bool x9_4 ∧ Aside0 (cors_Method.j0 kq a0 t211 x9_4 = some (r1, r2)) ∧ Aside0 (kq ≤ k) ∧ Aside0 (Below w.heap.size w wc))
  case first =>
   have H := HC5.out
   clear HC5
   by_cases c7 : t211.toList = ([99, 111, 110, 110, 101, 99, 116] : List UInt8)
   ·rw [if_pos c7] at H
    have c7b0 : (t211.toList == ([99, 111, 110, 110, 101, 99, 116] : List UInt8)) = true := beq_iff_eq.mpr c7
    have c7b1 : (t211.toList != ([99, 111, 110, 110, 101, 99, 116] : List UInt8)) = false := bne_eq_false_iff_eq.mpr c7
    clear c7
    (first | rw [c7b0] | (simp only [i64_w, i32_w]; rw [c7b0]) | skip)
    have H' := Aside0.mk H
    clear H
    go_wp2
    go_meet
    case rel => exact ⟨_, ((t211.toList == ([99, 111, 110, 110, 101, 99, 116] : List UInt8))), rS, H', ⟨by first | omega | exact Nat.le_refl _⟩, ⟨by repeat (first | (with_reducible first | exact HB.out | apply below_alloc | apply pw_below_drewN | apply below_drew1) | exact HB.out)⟩⟩
   ·rw [if_neg c7] at H
    have c7b0 : (t211.toList == ([99, 111, 110, 110, 101, 99, 116] : List UInt8)) = false := beq_eq_false_iff_ne.mpr c7
    have c7b1 : (t211.toList != ([99, 111, 110, 110, 101, 99, 116] : List UInt8)) = true := bne_iff_ne.mpr c7
    (first | rw [c7b0] | (simp only [i64_w, i32_w]; rw [c7b0]) | skip)
    by_cases c8 : t211.toList = ([116, 114, 97, 99, 101] : List UInt8)
    ·rw [if_pos c8] at H
     have c8b0 : (t211.toList == ([116, 114, 97, 99, 101] : List UInt8)) = true := beq_iff_eq.mpr c8
     have c8b1 : (t211.toList != ([116, 114, 97, 99, 101] : List UInt8)) = false := bne_eq_false_iff_eq.mpr c8
     clear c8
     have H' := Aside0.mk H
     clear H
     go_wp2
     go_meet
     case rel => exact ⟨_, ((t211.toList == ([116, 114, 97, 99, 101] : List UInt8))), rS, H', ⟨by first | omega | exact Nat.le_refl _⟩, ⟨by repeat (first | (with_reducible first | exact HB.out | apply below_alloc | apply pw_below_drewN | apply below_drew1) | exact HB.out)⟩⟩
    ·rw [if_neg c8] at H
     have c8b0 : (t211.toList == ([116, 114, 97, 99, 101] : List UInt8)) = false := beq_eq_false_iff_ne.mpr c8
     have c8b1 : (t211.toList != ([116, 114, 97, 99, 101] : List UInt8)) = true := bne_iff_ne.mpr c8
     have H' := Aside0.mk H
     clear H
     go_wp2
     go_meet
     case rel => exact ⟨_, ((t211.toList == ([116, 114, 97, 99, 107] : List UInt8))), rS, H', ⟨by first | omega | exact Nat.le_refl _⟩, ⟨by repeat (first | (with_reducible first | exact HB.out | apply below_alloc | apply pw_below_drewN | apply below_drew1) | exact HB.out)⟩⟩
  case rest =>
   clear HC5
   try clear c1
   try clear p2
   try clear c3
   try clear c5
   try clear c7
   try clear c7b0
   try clear c7b1
   try clear c8
   try clear c8b0
   try clear c8b1
   obtain ⟨kq, x9_4, rfl, HA, HJ4, HB⟩ := hcut
   cases kq with
   | zero => exact absurd HA.out (by simp [cors_Method.j0])
   | succ kj4 =>
    have H := HA.out
    clear HA
    simp only [cors_Method.j0] at H
    by_cases c9 : x9_4 = true
    ·subst c9
     have H1 : (some ((⟨#[]⟩ : ByteArray), false)) = some (r1, r2) := by rw [if_pos rfl] at H; exact H
     clear H
     have H := H1
     clear H1
     simp only [Option.some.injEq, Prod.mk.injEq] at H
     obtain ⟨rfl, rfl⟩ := H
     go_wp2
     go_ret2
     exact ⟨by first | rfl | (simp [errW_none, errW_some] <;> rfl) | (simp [*, errW_none, errW_some] <;> rfl), by repeat (first | (with_reducible first | exact HB.out | apply below_alloc | apply pw_below_drewN | apply below_drew1) | exact HB.out)⟩
    ·replace c9 := Bool.eq_false_iff.mpr c9
     subst c9
     have H1 : (if t211.toList = ([100, 101, 108, 101, 116, 101] : List UInt8) then (some ((⟨#[68, 69, 76, 69, 84, 69]⟩ : ByteArray), true)) else (if t211.toList = ([103, 101, 116] : List UInt8) then (some ((⟨#[71, 69, 84]⟩ : ByteArray), true)) else (if t211.toList = ([104, 101, 97, 100] : List UInt8) then (some ((⟨#[72, 69, 65, 68]⟩ : ByteArray), true)) else (if t211.toList = ([111, 112, 116, 105, 111, 110, 115] : List UInt8) then (some ((⟨#[79, 80, 84, 73, 79, 78, 83]⟩ : ByteArray), true)) else (if t211.toList = ([112, 111, 115, 116] : List UInt8) then (some ((⟨#[80, 79, 83, 84]⟩ : ByteArray), true)) else (if t211.toList = ([112, 117, 116] : List UInt8) then (some ((⟨#[80, 85, 84]⟩ : ByteArray), true)) else (some (a0, true)))))))) = some (r1, r2) := by rw [if_neg (show ¬ (false = true) by decide)] at H; exact H
     clear H
     have H := H1
     clear H1
     by_cases c10 : t211.toList = ([100, 101, 108, 101, 116, 101] : List UInt8)
     ·rw [if_pos c10] at H
      have c10b0 : (t211.toList == ([100, 101, 108, 101, 116, 101] : List UInt8)) = true := beq_iff_eq.mpr c10
      have c10b1 : (t211.toList != ([100, 101, 108, 101, 116, 101] : List UInt8)) = false := bne_eq_false_iff_eq.mpr c10
      clear c10
      simp only [Option.some.injEq, Prod.mk.injEq] at H
      obtain ⟨rfl, rfl⟩ := H
      go_wp2
      go_ret2
      exact ⟨by first | rfl | (simp [errW_none, errW_some] <;> rfl) | (simp [*, errW_none, errW_some] <;> rfl), by repeat (first | (with_reducible first | exact HB.out | apply below_alloc | apply pw_below_drewN | apply below_drew1) | exact HB.out)⟩
     ·rw [if_neg c10] at H
      have c10b0 : (t211.toList == ([100, 101, 108, 101, 116, 101] : List UInt8)) = false := beq_eq_false_iff_ne.mpr c10
      have c10b1 : (t211.toList != ([100, 101, 108, 101, 116, 101] : List UInt8)) = true := bne_iff_ne.mpr c10
      by_cases c11 : t211.toList = ([103, 101, 116] : List UInt8)
      ·rw [if_pos c11] at H
       have c11b0 : (t211.toList == ([103, 101, 116] : List UInt8)) = true := beq_iff_eq.mpr c11
       have c11b1 : (t211.toList != ([103, 101, 116] : List UInt8)) = false := bne_eq_false_iff_eq.mpr c11
       clear c11
       simp only [Option.some.injEq, Prod.mk.injEq] at H
       obtain ⟨rfl, rfl⟩ := H
       go_wp2
       go_ret2
       exact ⟨by first | rfl | (simp [errW_none, errW_some] <;> rfl) | (simp [*, errW_none, errW_some] <;> rfl), by repeat (first | (with_reducible first | exact HB.out | apply below_alloc | apply pw_below_drewN | apply below_drew1) | exact HB.out)⟩
      ·rw [if_neg c11] at H
       have c11b0 : (t211.toList == ([103, 101, 116] : List UInt8)) = false := beq_eq_false_iff_ne.mpr c11
       have c11b1 : (t211.toList != ([103, 101, 116] : List UInt8)) = true := bne_iff_ne.mpr c11
       by_cases c12 : t211.toList = ([104, 101, 97, 100] : List UInt8)
       ·rw [if_pos c12] at H
        have c12b0 : (t211.toList == ([104, 101, 97, 100] : List UInt8)) = true := beq_iff_eq.mpr c12
        have c12b1 : (t211.toList != ([104, 101, 97, 100] : List UInt8)) = false := bne_eq_false_iff_eq.mpr c12
        clear c12
        simp only [Option.some.injEq, Prod.mk.injEq] at H
        obtain ⟨rfl, rfl⟩ := H
        go_wp2
        go_ret2
        exact ⟨by first | rfl | (simp [errW_none, errW_some] <;> rfl) | (simp [*, errW_none, errW_some] <;> rfl), by repeat (first | (with_reducible first | exact HB.out | apply below_alloc | apply pw_below_drewN | apply below_drew1) | exact HB.out)⟩
       ·rw [if_neg c12] at H
        have c12b0 : (t211.toList == ([104, 101, 97, 100] : List UInt8)) = false := beq_eq_false_iff_ne.mpr c12
        have c12b1 : (t211.toList != ([104, 101, 97, 100] : List UInt8)) = true := bne_iff_ne.mpr c12
        by_cases c13 : t211.toList = ([111, 112, 116, 105, 111, 110, 115] : List UInt8)
        ·rw [if_pos c13] at H
         have c13b0 : (t211.toList == ([111, 112, 116, 105, 111, 110, 115] : List UInt8)) = true := beq_iff_eq.mpr c13
         have c13b1 : (t211.toList != ([111, 112, 116, 105, 111, 110, 115] : List UInt8)) = false := bne_eq_false_iff_eq.mpr c13
         clear c13
         simp only [Option.some.injEq, Prod.mk.injEq] at H
         obtain ⟨rfl, rfl⟩ := H
         go_wp2
         go_ret2
         exact ⟨by first | rfl | (simp [errW_none, errW_some] <;> rfl) | (simp [*, errW_none, errW_some] <;> rfl), by repeat (first | (with_reducible first | exact HB.out | apply below_alloc | apply pw_below_drewN | apply below_drew1) | exact HB.out)⟩
        ·rw [if_neg c13] at H
         have c13b0 : (t211.toList == ([111, 112, 116, 105, 111, 110, 115] : List UInt8)) = false := beq_eq_false_iff_ne.mpr c13
         have c13b1 : (t211.toList != ([111, 112, 116, 105, 111, 110, 115] : List UInt8)) = true := bne_iff_ne.mpr c13
         by_cases c14 : t211.toList = ([112, 111, 115, 116] : List UInt8)
         ·rw [if_pos c14] at H
          have c14b0 : (t211.toList == ([112, 111, 115, 116] : List UInt8)) = true := beq_iff_eq.mpr c14
          have c14b1 : (t211.toList != ([112, 111, 115, 116] : List UInt8)) = false := bne_eq_false_iff_eq.mpr c14
          clear c14
          simp only [Option.some.injEq, Prod.mk.injEq] at H
          obtain ⟨rfl, rfl⟩ := H
          go_wp2
          go_ret2
          exact ⟨by first | rfl | (simp [errW_none, errW_some] <;> rfl) | (simp [*, errW_none, errW_some] <;> rfl), by repeat (first | (with_reducible first | exact HB.out | apply below_alloc | apply pw_below_drewN | apply below_drew1) | exact HB.out)⟩
         ·rw [if_neg c14] at H
          have c14b0 : (t211.toList == ([112, 111, 115, 116] : List UInt8)) = false := beq_eq_false_iff_ne.mpr c14
          have c14b1 : (t211.toList != ([112, 111, 115, 116] : List UInt8)) = true := bne_iff_ne.mpr c14
          by_cases c15 : t211.toList = ([112, 117, 116] : List UInt8)
          ·rw [if_pos c15] at H
           have c15b0 : (t211.toList == ([112, 117, 116] : List UInt8)) = true := beq_iff_eq.mpr c15
           have c15b1 : (t211.toList != ([112, 117, 116] : List UInt8)) = false := bne_eq_false_iff_eq.mpr c15
           clear c15
           simp only [Option.some.injEq, Prod.mk.injEq] at H
           obtain ⟨rfl, rfl⟩ := H
           go_wp2
           go_ret2
           exact ⟨by first | rfl | (simp [errW_none, errW_some] <;> rfl) | (simp [*, errW_none, errW_some] <;> rfl), by repeat (first | (with_reducible first | exact HB.out | apply below_alloc | apply pw_below_drewN | apply below_drew1) | exact HB.out)⟩
          ·rw [if_neg c15] at H
           have c15b0 : (t211.toList == ([112, 117, 116] : List UInt8)) = false := beq_eq_false_iff_ne.mpr c15
           have c15b1 : (t211.toList != ([112, 117, 116] : List UInt8)) = true := bne_iff_ne.mpr c15
           simp only [Option.some.injEq, Prod.mk.injEq] at H
           obtain ⟨rfl, rfl⟩ := H
           go_wp2
           go_ret2
           exact ⟨by first | rfl | (simp [errW_none, errW_some] <;> rfl) | (simp [*, errW_none, errW_some] <;> rfl), by repeat (first | (with_reducible first | exact HB.out | apply below_alloc | apply pw_below_drewN | apply below_drew1) | exact HB.out)⟩
 ·replace c3 := Bool.eq_false_iff.mpr c3
  subst c3
  have H1 : (some ((⟨#[]⟩ : ByteArray), false)) = some (r1, r2) := by rw [if_neg (show ¬ (false = true) by decide)] at H; exact H
  clear H
  have H := H1
  clear H1
  simp only [Option.some.injEq, Prod.mk.injEq] at H
  obtain ⟨rfl, rfl⟩ := H
  go_enter Tryd.func14, Tryd.ntmps14
  go_wp2_with (first | ((with_reducible refine gate_callee (f := 52) rfl ?_); refine goesL_ (some 5) rfl rfl Tryd.func52 q2_ rfl #[.string a0] rfl tS ?_; (with_reducible refine (infra_Token.calls k a0 false _ A2.out).mono ?_); rintro e w' ⟨rfl, ⟨nd, rfl⟩⟩; refine ⟨_, rfl, ?_⟩))
  go_ret2
  exact ⟨by first | rfl | (simp [errW_none, errW_some] <;> rfl) | (simp [*, errW_none, errW_some] <;> rfl), by repeat (first | (with_reducible first | exact HB.out | apply below_alloc | apply pw_below_drewN | apply below_drew1) | exact HB.out)⟩
end Go.Proofs.YtifmkgkiipckbaaDoor.P
namespace Go.Proofs.YtifmkgkiipckbaaDoor.P
open Go.RowKit Go.Proofs.YtifmkgkiipckbaaDoorW.PrintWords Go.Proofs.YtifmkgkiipckbaaDoorW.PrintLast Go.Proofs.YtifmkgkiipckbaaDoorW.PrintMore
attribute [local go_sem] max2_int min2_int max_two min_two max_three min_three max_four min_four
set_option linter.unusedVariables false
set_option linter.unusedSimpArgs false
def ostiarylaw18_allow.f (a0 : ByteArray) : Option ((List (S72))) := some (([(⟨(⟨#[65, 99, 99, 101, 115, 115, 45, 67, 111, 110, 116, 114, 111, 108, 45, 65, 108, 108, 111, 119, 45, 79, 114, 105, 103, 105, 110]⟩ : ByteArray), a0⟩ : S72)] : List (S72)))
set_option maxHeartbeats 8000000 in
set_option maxRecDepth 100000 in
theorem ostiarylaw18_allow.calls (a0 : ByteArray) (r : List (S72)) (w : World) (h : ostiarylaw18_allow.f a0 = some r) :
  Calls Tryd.prog 54 #[.string a0] w fun e w' => ∃ v0_ : Value, e = .returned (v0_) ∧ Kd.R k72 72 w' w.heap.size (fun _ => True) v0_ r ∧ Below w.heap.size w w' := by
 have hu72 := Tryd.underlying72
 have HB := Aside0.mk (Below.refl w.heap.size w)
 have H : (some (([(⟨(⟨#[65, 99, 99, 101, 115, 115, 45, 67, 111, 110, 116, 114, 111, 108, 45, 65, 108, 108, 111, 119, 45, 79, 114, 105, 103, 105, 110]⟩ : ByteArray), a0⟩ : S72)] : List (S72)))) = some r := h
 clear h
 obtain ⟨y212, hy212⟩ : ∃ y_ : List (S72), y_ = (([(⟨(⟨#[65, 99, 99, 101, 115, 115, 45, 67, 111, 110, 116, 114, 111, 108, 45, 65, 108, 108, 111, 119, 45, 79, 114, 105, 103, 105, 110]⟩ : ByteArray), a0⟩ : S72)] : List (S72))) := ⟨_, rfl⟩
 replace H : (some y212) = some r := by first | (rw [hy212]; with_reducible exact H) | (have H2_ := (Option.bind_some _ _).symm.trans H; rw [hy212]; with_reducible exact H2_) | (have H2_ := (Option.bind_some _ _).symm.trans H; with_reducible exact H2_) | with_reducible exact H | (rw [hy212]; exact H) | exact H
 have Ny212 := Aside0.mk hy212
 clear hy212
 obtain rfl := Option.some.inj H
 go_enter Tryd.func54, Tryd.ntmps54
 go_wp2_with (first | ((with_reducible refine gate_dst (N := 5) rfl ?_); refine Kd.R_lit k72 _ 72 ?hg (N := 5) ?hd (xs := ([(⟨(⟨#[65, 99, 99, 101, 115, 115, 45, 67, 111, 110, 116, 114, 111, 108, 45, 65, 108, 108, 111, 119, 45, 79, 114, 105, 103, 105, 110]⟩ : ByteArray), a0⟩ : S72)] : List (S72))) (inner := [.string (⟨#[65, 99, 99, 101, 115, 115, 45, 67, 111, 110, 116, 114, 111, 108, 45, 65, 108, 108, 111, 119, 45, 79, 114, 105, 103, 105, 110]⟩ : ByteArray), .string a0]) (ok := fun _ => True) (okp := fun _ => True) ?hr ?hp (fun _ hk => hk) trivial (Below.refl _ _) (Nat.le_refl _) (by simp) ?_; (case hd => rfl); (case hg => rfl); (case hr => first | (go_simp; done) | (go_simp; rfl)); (case hp => exact (Reps.c2 (show Kd.M k72 _ _ _ (⟨(⟨#[65, 99, 99, 101, 115, 115, 45, 67, 111, 110, 116, 114, 111, 108, 45, 65, 108, 108, 111, 119, 45, 79, 114, 105, 103, 105, 110]⟩ : ByteArray), a0⟩ : S72) [.string (⟨#[65, 99, 99, 101, 115, 115, 45, 67, 111, 110, 116, 114, 111, 108, 45, 65, 108, 108, 111, 119, 45, 79, 114, 105, 103, 105, 110]⟩ : ByteArray), .string a0] from (k72_mkM _ _ _ (⟨(⟨#[65, 99, 99, 101, 115, 115, 45, 67, 111, 110, 116, 114, 111, 108, 45, 65, 108, 108, 111, 119, 45, 79, 114, 105, 103, 105, 110]⟩ : ByteArray), a0⟩ : S72) )) (Reps.none _ _))); intro v213 w2 ho3 hb hg_ hnew_; clear hg_ hnew_; (first | rw [← Ny212.out] at ho3 | (simp only [Int.reduceToNat] at ho3; rw [← Ny212.out] at ho3)); have n0_ := Aside0.mk (Kd.R_lower ho3 (below_size hB)); have n1_ := Aside0.mk (below_step hB hb); clear HB; have HO214 := n0_; have HB := n1_; clear n0_ n1_; clear hb ho3))
 go_ret
 exact ⟨_, by first | rfl | (simp [errW_none, errW_some] <;> rfl) | (simp [*, errW_none, errW_some] <;> rfl), by (with_reducible repeat (first | apply Kd.R_alloc | apply Kd.R_drewN | apply Kd.R_drew)); exact HO214.out, by repeat (first | (with_reducible first | exact HB.out | apply below_alloc | apply pw_below_drewN | apply below_drew1) | exact HB.out)⟩
end Go.Proofs.YtifmkgkiipckbaaDoor.P
namespace Go.Proofs.YtifmkgkiipckbaaDoor.P
open Go.RowKit Go.Proofs.YtifmkgkiipckbaaDoorW.PrintWords Go.Proofs.YtifmkgkiipckbaaDoorW.PrintLast Go.Proofs.YtifmkgkiipckbaaDoorW.PrintMore
attribute [local go_sem] max2_int min2_int max_two min_two max_three min_three max_four min_four
set_option linter.unusedVariables false
set_option linter.unusedSimpArgs false
def ostiarylaw18_known.f (k : Nat)  : Option (Bool) := (cors_Method.f k (⟨#[112, 79, 115, 116]⟩ : ByteArray)).bind fun bt215 => ((cors_Method.f k (⟨#[112, 97, 116, 99, 104]⟩ : ByteArray)).bind fun bt217 => ((cors_Method.f k (⟨#[84, 82, 65, 67, 69]⟩ : ByteArray)).bind fun bt219 => (if bt215.1.toList = ([80, 79, 83, 84] : List UInt8) then (if bt215.2 = true then (if bt217.1.toList = ([112, 97, 116, 99, 104] : List UInt8) then (if bt217.2 = true then (if bt219.2 = true then (some false) else ((ostiarylaw18_of.f k (⟨#[104, 116, 116, 112, 115, 58, 47, 47, 97]⟩ : ByteArray)).bind fun bt221 => ((ostiarylaw18_allow.f (⟨#[42]⟩ : ByteArray)).bind fun t225 => ((cors_Check.f k bt221.1 bt221.2.1 bt221.2.2.1 bt221.2.2.2 true t225).bind fun t228 => (if t228 = true then (some false) else ((ostiarylaw18_of.f k (⟨#[104, 116, 116, 112, 115, 58, 47, 47, 97]⟩ : ByteArray)).bind fun bt229 => ((ostiarylaw18_allow.f (⟨#[42]⟩ : ByteArray)).bind fun t233 => ((cors_Check.f k bt229.1 bt229.2.1 bt229.2.2.1 bt229.2.2.2 false t233).bind fun t236 => (some t236))))))))) else (some false)) else (some false)) else (some false)) else (some false))))
theorem ostiarylaw18_known.mono : ∀ k, LeO (ostiarylaw18_known.f k ) (ostiarylaw18_known.f (k + 1) ) := by
 intro  k
 unfold ostiarylaw18_known.f
 repeat' first
   | (with_reducible exact cors_Check.mono _ _ _ _ _ _ _)
   | (with_reducible exact cors_Method.mono _ _)
   | (with_reducible exact ostiarylaw18_of.mono _ _)
   | (with_reducible exact LeO.refl _)
   | (with_reducible exact LeO.none _)
   | (with_reducible refine LeO.ite ?_ ?_)
   | (with_reducible refine LeO.bind ?_ (fun _ => ?_))
   | exact cors_Check.mono _ _ _ _ _ _ _
   | exact cors_Method.mono _ _
   | exact ostiarylaw18_of.mono _ _
   | exact LeO.none _
   | refine LeO.ite ?_ ?_
   | refine LeO.bind ?_ (fun _ => ?_)
set_option maxHeartbeats 8000000 in
set_option maxRecDepth 100000 in
theorem ostiarylaw18_known.calls (k : Nat)  (r : Bool) (w : World) (hLdLPow : LPow w) (h : ostiarylaw18_known.f k  = some r) :
  Calls Tryd.prog 16 #[] w fun e w' => e = .returned (.bool r) ∧ Below w.heap.size w w' := by
 have HLdLPow := Aside0.mk hLdLPow
 clear hLdLPow
 have HB := Aside0.mk (Below.refl w.heap.size w)
 have H : ((cors_Method.f k (⟨#[112, 79, 115, 116]⟩ : ByteArray)).bind fun bt215 => ((cors_Method.f k (⟨#[112, 97, 116, 99, 104]⟩ : ByteArray)).bind fun bt217 => ((cors_Method.f k (⟨#[84, 82, 65, 67, 69]⟩ : ByteArray)).bind fun bt219 => (if bt215.1.toList = ([80, 79, 83, 84] : List UInt8) then (if bt215.2 = true then (if bt217.1.toList = ([112, 97, 116, 99, 104] : List UInt8) then (if bt217.2 = true then (if bt219.2 = true then (some false) else ((ostiarylaw18_of.f k (⟨#[104, 116, 116, 112, 115, 58, 47, 47, 97]⟩ : ByteArray)).bind fun bt221 => ((ostiarylaw18_allow.f (⟨#[42]⟩ : ByteArray)).bind fun t225 => ((cors_Check.f k bt221.1 bt221.2.1 bt221.2.2.1 bt221.2.2.2 true t225).bind fun t228 => (if t228 = true then (some false) else ((ostiarylaw18_of.f k (⟨#[104, 116, 116, 112, 115, 58, 47, 47, 97]⟩ : ByteArray)).bind fun bt229 => ((ostiarylaw18_allow.f (⟨#[42]⟩ : ByteArray)).bind fun t233 => ((cors_Check.f k bt229.1 bt229.2.1 bt229.2.2.1 bt229.2.2.2 false t233).bind fun t236 => (some t236))))))))) else (some false)) else (some false)) else (some false)) else (some false))))) = some r := h
 clear h
 replace H := Option.bind_eq_some_iff.mp H
 obtain ⟨⟨t215, t216⟩, A10, H⟩ := H
 replace H : ((cors_Method.f k (⟨#[112, 97, 116, 99, 104]⟩ : ByteArray)).bind fun bt217 => ((cors_Method.f k (⟨#[84, 82, 65, 67, 69]⟩ : ByteArray)).bind fun bt219 => (if t215.toList = ([80, 79, 83, 84] : List UInt8) then (if t216 = true then (if bt217.1.toList = ([112, 97, 116, 99, 104] : List UInt8) then (if bt217.2 = true then (if bt219.2 = true then (some false) else ((ostiarylaw18_of.f k (⟨#[104, 116, 116, 112, 115, 58, 47, 47, 97]⟩ : ByteArray)).bind fun bt221 => ((ostiarylaw18_allow.f (⟨#[42]⟩ : ByteArray)).bind fun t225 => ((cors_Check.f k bt221.1 bt221.2.1 bt221.2.2.1 bt221.2.2.2 true t225).bind fun t228 => (if t228 = true then (some false) else ((ostiarylaw18_of.f k (⟨#[104, 116, 116, 112, 115, 58, 47, 47, 97]⟩ : ByteArray)).bind fun bt229 => ((ostiarylaw18_allow.f (⟨#[42]⟩ : ByteArray)).bind fun t233 => ((cors_Check.f k bt229.1 bt229.2.1 bt229.2.2.1 bt229.2.2.2 false t233).bind fun t236 => (some t236))))))))) else (some false)) else (some false)) else (some false)) else (some false)))) = some r := H
 have A1 := Aside0.mk A10
 clear A10
 replace H := Option.bind_eq_some_iff.mp H
 obtain ⟨⟨t217, t218⟩, A20, H⟩ := H
 replace H : ((cors_Method.f k (⟨#[84, 82, 65, 67, 69]⟩ : ByteArray)).bind fun bt219 => (if t215.toList = ([80, 79, 83, 84] : List UInt8) then (if t216 = true then (if t217.toList = ([112, 97, 116, 99, 104] : List UInt8) then (if t218 = true then (if bt219.2 = true then (some false) else ((ostiarylaw18_of.f k (⟨#[104, 116, 116, 112, 115, 58, 47, 47, 97]⟩ : ByteArray)).bind fun bt221 => ((ostiarylaw18_allow.f (⟨#[42]⟩ : ByteArray)).bind fun t225 => ((cors_Check.f k bt221.1 bt221.2.1 bt221.2.2.1 bt221.2.2.2 true t225).bind fun t228 => (if t228 = true then (some false) else ((ostiarylaw18_of.f k (⟨#[104, 116, 116, 112, 115, 58, 47, 47, 97]⟩ : ByteArray)).bind fun bt229 => ((ostiarylaw18_allow.f (⟨#[42]⟩ : ByteArray)).bind fun t233 => ((cors_Check.f k bt229.1 bt229.2.1 bt229.2.2.1 bt229.2.2.2 false t233).bind fun t236 => (some t236))))))))) else (some false)) else (some false)) else (some false)) else (some false))) = some r := H
 have A2 := Aside0.mk A20
 clear A20
 replace H := Option.bind_eq_some_iff.mp H
 obtain ⟨⟨t219, t220⟩, A30, H⟩ := H
 replace H : (if t215.toList = ([80, 79, 83, 84] : List UInt8) then (if t216 = true then (if t217.toList = ([112, 97, 116, 99, 104] : List UInt8) then (if t218 = true then (if t220 = true then (some false) else ((ostiarylaw18_of.f k (⟨#[104, 116, 116, 112, 115, 58, 47, 47, 97]⟩ : ByteArray)).bind fun bt221 => ((ostiarylaw18_allow.f (⟨#[42]⟩ : ByteArray)).bind fun t225 => ((cors_Check.f k bt221.1 bt221.2.1 bt221.2.2.1 bt221.2.2.2 true t225).bind fun t228 => (if t228 = true then (some false) else ((ostiarylaw18_of.f k (⟨#[104, 116, 116, 112, 115, 58, 47, 47, 97]⟩ : ByteArray)).bind fun bt229 => ((ostiarylaw18_allow.f (⟨#[42]⟩ : ByteArray)).bind fun t233 => ((cors_Check.f k bt229.1 bt229.2.1 bt229.2.2.1 bt229.2.2.2 false t233).bind fun t236 => (some t236))))))))) else (some false)) else (some false)) else (some false)) else (some false)) = some r := H
 have A3 := Aside0.mk A30
 clear A30
 by_cases c4 : t215.toList = ([80, 79, 83, 84] : List UInt8)
 ·rw [if_pos c4] at H
  have c4b0 : (t215.toList == ([80, 79, 83, 84] : List UInt8)) = true := beq_iff_eq.mpr c4
  have c4b1 : (t215.toList != ([80, 79, 83, 84] : List UInt8)) = false := bne_eq_false_iff_eq.mpr c4
  clear c4
  by_cases c5 : t216 = true
  ·subst c5
   have H1 : (if t217.toList = ([112, 97, 116, 99, 104] : List UInt8) then (if t218 = true then (if t220 = true then (some false) else ((ostiarylaw18_of.f k (⟨#[104, 116, 116, 112, 115, 58, 47, 47, 97]⟩ : ByteArray)).bind fun bt221 => ((ostiarylaw18_allow.f (⟨#[42]⟩ : ByteArray)).bind fun t225 => ((cors_Check.f k bt221.1 bt221.2.1 bt221.2.2.1 bt221.2.2.2 true t225).bind fun t228 => (if t228 = true then (some false) else ((ostiarylaw18_of.f k (⟨#[104, 116, 116, 112, 115, 58, 47, 47, 97]⟩ : ByteArray)).bind fun bt229 => ((ostiarylaw18_allow.f (⟨#[42]⟩ : ByteArray)).bind fun t233 => ((cors_Check.f k bt229.1 bt229.2.1 bt229.2.2.1 bt229.2.2.2 false t233).bind fun t236 => (some t236))))))))) else (some false)) else (some false)) = some r := by rw [if_pos rfl] at H; exact H
   clear H
   have H := H1
   clear H1
   by_cases c6 : t217.toList = ([112, 97, 116, 99, 104] : List UInt8)
   ·rw [if_pos c6] at H
    have c6b0 : (t217.toList == ([112, 97, 116, 99, 104] : List UInt8)) = true := beq_iff_eq.mpr c6
    have c6b1 : (t217.toList != ([112, 97, 116, 99, 104] : List UInt8)) = false := bne_eq_false_iff_eq.mpr c6
    clear c6
    by_cases c7 : t218 = true
    ·subst c7
     have H1 : (if t220 = true then (some false) else ((ostiarylaw18_of.f k (⟨#[104, 116, 116, 112, 115, 58, 47, 47, 97]⟩ : ByteArray)).bind fun bt221 => ((ostiarylaw18_allow.f (⟨#[42]⟩ : ByteArray)).bind fun t225 => ((cors_Check.f k bt221.1 bt221.2.1 bt221.2.2.1 bt221.2.2.2 true t225).bind fun t228 => (if t228 = true then (some false) else ((ostiarylaw18_of.f k (⟨#[104, 116, 116, 112, 115, 58, 47, 47, 97]⟩ : ByteArray)).bind fun bt229 => ((ostiarylaw18_allow.f (⟨#[42]⟩ : ByteArray)).bind fun t233 => ((cors_Check.f k bt229.1 bt229.2.1 bt229.2.2.1 bt229.2.2.2 false t233).bind fun t236 => (some t236))))))))) = some r := by rw [if_pos rfl] at H; exact H
     clear H
     have H := H1
     clear H1
     by_cases c8 : t220 = true
     ·subst c8
      have H1 : (some false) = some r := by rw [if_pos rfl] at H; exact H
      clear H
      have H := H1
      clear H1
      obtain rfl := Option.some.inj H
      go_enter Tryd.func16, Tryd.ntmps16
      have tok0 : True := trivial
      have tok1 : True := trivial
      have tok2 : True := trivial
      go_wp2_with (first | (revert tok0; intro tok0; (with_reducible refine gate_callee (f := 14) rfl ?_); refine goesL_ (some 8) rfl rfl Tryd.func14 q2_ rfl #[.string (⟨#[112, 79, 115, 116]⟩ : ByteArray)] rfl tS ?_; (with_reducible refine (cors_Method.calls k (⟨#[112, 79, 115, 116]⟩ : ByteArray) t215 true _ A1.out).mono ?_); rintro e w9 ⟨rfl, hb⟩; refine ⟨_, rfl, ?_⟩; have n0_ := Aside0.mk (below_step hB hb); clear HB; have HB := n0_; clear n0_; (try clear hb); (try clear hb2); (try clear hk); (try clear hi); clear tok0) | (revert tok1; intro tok1; (with_reducible refine gate_callee (f := 14) rfl ?_); refine goesL_ (some 12) rfl rfl Tryd.func14 q2_ rfl #[.string (⟨#[112, 97, 116, 99, 104]⟩ : ByteArray)] rfl tS ?_; (with_reducible refine (cors_Method.calls k (⟨#[112, 97, 116, 99, 104]⟩ : ByteArray) t217 true _ A2.out).mono ?_); rintro e w10 ⟨rfl, hb⟩; refine ⟨_, rfl, ?_⟩; have n0_ := Aside0.mk (below_step hB hb); clear HB; have HB := n0_; clear n0_; (try clear hb); (try clear hb2); (try clear hk); (try clear hi); clear tok1) | (revert tok2; intro tok2; (with_reducible refine gate_callee (f := 14) rfl ?_); refine goesL_ (some 16) rfl rfl Tryd.func14 q2_ rfl #[.string (⟨#[84, 82, 65, 67, 69]⟩ : ByteArray)] rfl tS ?_; (with_reducible refine (cors_Method.calls k (⟨#[84, 82, 65, 67, 69]⟩ : ByteArray) t219 true _ A3.out).mono ?_); rintro e w11 ⟨rfl, hb⟩; refine ⟨_, rfl, ?_⟩; have n0_ := Aside0.mk (below_step hB hb); clear HB; have HB := n0_; clear n0_; (try clear hb); (try clear hb2); (try clear hk); (try clear hi); clear tok2))
      go_ret
      exact ⟨by first | rfl | (simp [errW_none, errW_some] <;> rfl) | (simp [*, errW_none, errW_some] <;> rfl), by repeat (first | (with_reducible first | exact HB.out | apply below_alloc | apply pw_below_drewN | apply below_drew1) | exact HB.out)⟩
     ·replace c8 := Bool.eq_false_iff.mpr c8
      subst c8
      have H1 : ((ostiarylaw18_of.f k (⟨#[104, 116, 116, 112, 115, 58, 47, 47, 97]⟩ : ByteArray)).bind fun bt221 => ((ostiarylaw18_allow.f (⟨#[42]⟩ : ByteArray)).bind fun t225 => ((cors_Check.f k bt221.1 bt221.2.1 bt221.2.2.1 bt221.2.2.2 true t225).bind fun t228 => (if t228 = true then (some false) else ((ostiarylaw18_of.f k (⟨#[104, 116, 116, 112, 115, 58, 47, 47, 97]⟩ : ByteArray)).bind fun bt229 => ((ostiarylaw18_allow.f (⟨#[42]⟩ : ByteArray)).bind fun t233 => ((cors_Check.f k bt229.1 bt229.2.1 bt229.2.2.1 bt229.2.2.2 false t233).bind fun t236 => (some t236)))))))) = some r := by rw [if_neg (show ¬ (false = true) by decide)] at H; exact H
      clear H
      have H := H1
      clear H1
      replace H := Option.bind_eq_some_iff.mp H
      obtain ⟨⟨t221, t222, t223, t224⟩, A120, H⟩ := H
      replace H : ((ostiarylaw18_allow.f (⟨#[42]⟩ : ByteArray)).bind fun t225 => ((cors_Check.f k t221 t222 t223 t224 true t225).bind fun t228 => (if t228 = true then (some false) else ((ostiarylaw18_of.f k (⟨#[104, 116, 116, 112, 115, 58, 47, 47, 97]⟩ : ByteArray)).bind fun bt229 => ((ostiarylaw18_allow.f (⟨#[42]⟩ : ByteArray)).bind fun t233 => ((cors_Check.f k bt229.1 bt229.2.1 bt229.2.2.1 bt229.2.2.2 false t233).bind fun t236 => (some t236))))))) = some r := H
      have A12 := Aside0.mk A120
      clear A120
      replace H := Option.bind_eq_some_iff.mp H
      obtain ⟨t225, A130, H⟩ := H
      replace H : ((cors_Check.f k t221 t222 t223 t224 true t225).bind fun t228 => (if t228 = true then (some false) else ((ostiarylaw18_of.f k (⟨#[104, 116, 116, 112, 115, 58, 47, 47, 97]⟩ : ByteArray)).bind fun bt229 => ((ostiarylaw18_allow.f (⟨#[42]⟩ : ByteArray)).bind fun t233 => ((cors_Check.f k bt229.1 bt229.2.1 bt229.2.2.1 bt229.2.2.2 false t233).bind fun t236 => (some t236)))))) = some r := H
      have A13 := Aside0.mk A130
      clear A130
      replace H := Option.bind_eq_some_iff.mp H
      obtain ⟨t228, A140, H⟩ := H
      replace H : (if t228 = true then (some false) else ((ostiarylaw18_of.f k (⟨#[104, 116, 116, 112, 115, 58, 47, 47, 97]⟩ : ByteArray)).bind fun bt229 => ((ostiarylaw18_allow.f (⟨#[42]⟩ : ByteArray)).bind fun t233 => ((cors_Check.f k bt229.1 bt229.2.1 bt229.2.2.1 bt229.2.2.2 false t233).bind fun t236 => (some t236))))) = some r := H
      have A14 := Aside0.mk A140
      clear A140
      by_cases c15 : t228 = true
      ·subst c15
       have H1 : (some false) = some r := by rw [if_pos rfl] at H; exact H
       clear H
       have H := H1
       clear H1
       obtain rfl := Option.some.inj H
       go_enter Tryd.func16, Tryd.ntmps16
       have tok0 : True := trivial
       have tok1 : True := trivial
       have tok2 : True := trivial
       have tok3 : True := trivial
       have tok4 : True := trivial
       have tok5 : True := trivial
       go_wp2_with (first | (revert tok0; intro tok0; (with_reducible refine gate_callee (f := 14) rfl ?_); refine goesL_ (some 8) rfl rfl Tryd.func14 q2_ rfl #[.string (⟨#[112, 79, 115, 116]⟩ : ByteArray)] rfl tS ?_; (with_reducible refine (cors_Method.calls k (⟨#[112, 79, 115, 116]⟩ : ByteArray) t215 true _ A1.out).mono ?_); rintro e w16 ⟨rfl, hb⟩; refine ⟨_, rfl, ?_⟩; have n0_ := Aside0.mk (below_step hB hb); clear HB; have HB := n0_; clear n0_; (try clear hb); (try clear hb2); (try clear hk); (try clear hi); clear tok0) | (revert tok1; intro tok1; (with_reducible refine gate_callee (f := 14) rfl ?_); refine goesL_ (some 12) rfl rfl Tryd.func14 q2_ rfl #[.string (⟨#[112, 97, 116, 99, 104]⟩ : ByteArray)] rfl tS ?_; (with_reducible refine (cors_Method.calls k (⟨#[112, 97, 116, 99, 104]⟩ : ByteArray) t217 true _ A2.out).mono ?_); rintro e w17 ⟨rfl, hb⟩; refine ⟨_, rfl, ?_⟩; have n0_ := Aside0.mk (below_step hB hb); clear HB; have HB := n0_; clear n0_; (try clear hb); (try clear hb2); (try clear hk); (try clear hi); clear tok1) | (revert tok2; intro tok2; (with_reducible refine gate_callee (f := 14) rfl ?_); refine goesL_ (some 16) rfl rfl Tryd.func14 q2_ rfl #[.string (⟨#[84, 82, 65, 67, 69]⟩ : ByteArray)] rfl tS ?_; (with_reducible refine (cors_Method.calls k (⟨#[84, 82, 65, 67, 69]⟩ : ByteArray) t219 false _ A3.out).mono ?_); rintro e w18 ⟨rfl, hb⟩; refine ⟨_, rfl, ?_⟩; have n0_ := Aside0.mk (below_step hB hb); clear HB; have HB := n0_; clear n0_; (try clear hb); (try clear hb2); (try clear hk); (try clear hi); clear tok2) | (revert tok3; intro tok3; go_at_call 11; (with_reducible refine (ostiarylaw18_of.calls k (⟨#[104, 116, 116, 112, 115, 58, 47, 47, 97]⟩ : ByteArray) t221 t222 t223 t224 _ A12.out).mono ?_); rintro e w19 ⟨rfl, hb⟩; have n0_ := Aside0.mk (below_step hB hb); clear HB; have HB := n0_; clear n0_; (try clear hb); (try clear hb2); (try clear hk); (try clear hi); clear tok3) | (revert tok4; intro tok4; go_at_call 54; (with_reducible refine (ostiarylaw18_allow.calls (⟨#[42]⟩ : ByteArray) t225 _ A13.out).mono ?_); rintro e w20 ⟨v226, rfl, ho0, hb⟩; have n0_ := Aside0.mk (Kd.R_lower ho0 (below_size hB)); have n1_ := Aside0.mk (below_step hB hb); clear HB; have HO227 := n0_; have HB := n1_; clear n0_ n1_; (try clear hb); (try clear hb2); (try clear hk); (try clear hi); (try clear ho0); obtain ⟨Ao21, co21, eo21⟩ := Kd.R_slice HO227.out; subst eo21; clear tok4) | (revert tok5; intro tok5; go_at_call 12; (with_reducible refine (cors_Check.calls k t221 t222 t223 t224 true _ _ t225 true _ ?side1 ?side2 ?side3 A14.out).mono ?_); (case side1 => repeat (first | exact (Kd.R_reads' HO227.out).2.2 | (with_reducible refine Kd.C_alloc ?_ _) | (with_reducible refine Kd.C_drewN ?_ _) | (with_reducible refine Kd.C_drew ?_))); (case side2 => exact (Kd.R_reads' HO227.out).2.1); (case side3 => first | exact HLdLPow.out | ((with_reducible repeat (first | exact HLdLPow.out | apply LPow.drewN | apply LPow.drew)); done) | exact LPow.below HLdLPow.out hB); rintro e w22 ⟨rfl, hb⟩; have n0_ := Aside0.mk (Kd.R_below (by (with_reducible repeat (first | apply Kd.R_alloc | apply Kd.R_drewN | apply Kd.R_drew)); exact HO227.out) hb); have n1_ := Aside0.mk (below_step hB hb); clear HO227; clear HB; have HO227 := n0_; have HB := n1_; clear n0_ n1_; (try clear hb); (try clear hb2); (try clear hk); (try clear hi); clear tok5))
       go_ret
       exact ⟨by first | rfl | (simp [errW_none, errW_some] <;> rfl) | (simp [*, errW_none, errW_some] <;> rfl), by repeat (first | (with_reducible first | exact HB.out | apply below_alloc | apply pw_below_drewN | apply below_drew1) | exact HB.out)⟩
      ·replace c15 := Bool.eq_false_iff.mpr c15
       subst c15
       have H1 : ((ostiarylaw18_of.f k (⟨#[104, 116, 116, 112, 115, 58, 47, 47, 97]⟩ : ByteArray)).bind fun bt229 => ((ostiarylaw18_allow.f (⟨#[42]⟩ : ByteArray)).bind fun t233 => ((cors_Check.f k bt229.1 bt229.2.1 bt229.2.2.1 bt229.2.2.2 false t233).bind fun t236 => (some t236)))) = some r := by rw [if_neg (show ¬ (false = true) by decide)] at H; exact H
       clear H
       have H := H1
       clear H1
       replace H := Option.bind_eq_some_iff.mp H
       obtain ⟨⟨t229, t230, t231, t232⟩, A230, H⟩ := H
       replace H : ((ostiarylaw18_allow.f (⟨#[42]⟩ : ByteArray)).bind fun t233 => ((cors_Check.f k t229 t230 t231 t232 false t233).bind fun t236 => (some t236))) = some r := H
       have A23 := Aside0.mk A230
       clear A230
       replace H := Option.bind_eq_some_iff.mp H
       obtain ⟨t233, A240, H⟩ := H
       replace H : ((cors_Check.f k t229 t230 t231 t232 false t233).bind fun t236 => (some t236)) = some r := H
       have A24 := Aside0.mk A240
       clear A240
       replace H := Option.bind_eq_some_iff.mp H
       obtain ⟨t236, A250, H⟩ := H
       replace H : (some t236) = some r := H
       have A25 := Aside0.mk A250
       clear A250
       obtain rfl := Option.some.inj H
       go_enter Tryd.func16, Tryd.ntmps16
       have tok0 : True := trivial
       have tok1 : True := trivial
       have tok2 : True := trivial
       have tok3 : True := trivial
       have tok4 : True := trivial
       have tok5 : True := trivial
       have tok6 : True := trivial
       have tok7 : True := trivial
       have tok8 : True := trivial
       go_wp2_with (first | (revert tok0; intro tok0; (with_reducible refine gate_callee (f := 14) rfl ?_); refine goesL_ (some 8) rfl rfl Tryd.func14 q2_ rfl #[.string (⟨#[112, 79, 115, 116]⟩ : ByteArray)] rfl tS ?_; (with_reducible refine (cors_Method.calls k (⟨#[112, 79, 115, 116]⟩ : ByteArray) t215 true _ A1.out).mono ?_); rintro e w26 ⟨rfl, hb⟩; refine ⟨_, rfl, ?_⟩; have n0_ := Aside0.mk (below_step hB hb); clear HB; have HB := n0_; clear n0_; (try clear hb); (try clear hb2); (try clear hk); (try clear hi); clear tok0) | (revert tok1; intro tok1; (with_reducible refine gate_callee (f := 14) rfl ?_); refine goesL_ (some 12) rfl rfl Tryd.func14 q2_ rfl #[.string (⟨#[112, 97, 116, 99, 104]⟩ : ByteArray)] rfl tS ?_; (with_reducible refine (cors_Method.calls k (⟨#[112, 97, 116, 99, 104]⟩ : ByteArray) t217 true _ A2.out).mono ?_); rintro e w27 ⟨rfl, hb⟩; refine ⟨_, rfl, ?_⟩; have n0_ := Aside0.mk (below_step hB hb); clear HB; have HB := n0_; clear n0_; (try clear hb); (try clear hb2); (try clear hk); (try clear hi); clear tok1) | (revert tok2; intro tok2; (with_reducible refine gate_callee (f := 14) rfl ?_); refine goesL_ (some 16) rfl rfl Tryd.func14 q2_ rfl #[.string (⟨#[84, 82, 65, 67, 69]⟩ : ByteArray)] rfl tS ?_; (with_reducible refine (cors_Method.calls k (⟨#[84, 82, 65, 67, 69]⟩ : ByteArray) t219 false _ A3.out).mono ?_); rintro e w28 ⟨rfl, hb⟩; refine ⟨_, rfl, ?_⟩; have n0_ := Aside0.mk (below_step hB hb); clear HB; have HB := n0_; clear n0_; (try clear hb); (try clear hb2); (try clear hk); (try clear hi); clear tok2) | (revert tok3; intro tok3; go_at_call 11; (with_reducible refine (ostiarylaw18_of.calls k (⟨#[104, 116, 116, 112, 115, 58, 47, 47, 97]⟩ : ByteArray) t221 t222 t223 t224 _ A12.out).mono ?_); rintro e w29 ⟨rfl, hb⟩; have n0_ := Aside0.mk (below_step hB hb); clear HB; have HB := n0_; clear n0_; (try clear hb); (try clear hb2); (try clear hk); (try clear hi); clear tok3) | (revert tok4; intro tok4; go_at_call 54; (with_reducible refine (ostiarylaw18_allow.calls (⟨#[42]⟩ : ByteArray) t225 _ A13.out).mono ?_); rintro e w30 ⟨v226, rfl, ho0, hb⟩; have n0_ := Aside0.mk (Kd.R_lower ho0 (below_size hB)); have n1_ := Aside0.mk (below_step hB hb); clear HB; have HO227 := n0_; have HB := n1_; clear n0_ n1_; (try clear hb); (try clear hb2); (try clear hk); (try clear hi); (try clear ho0); obtain ⟨Ao31, co31, eo31⟩ := Kd.R_slice HO227.out; subst eo31; clear tok4) | (revert tok5; intro tok5; go_at_call 12; (with_reducible refine (cors_Check.calls k t221 t222 t223 t224 true _ _ t225 false _ ?side1 ?side2 ?side3 A14.out).mono ?_); (case side1 => repeat (first | exact (Kd.R_reads' HO227.out).2.2 | (with_reducible refine Kd.C_alloc ?_ _) | (with_reducible refine Kd.C_drewN ?_ _) | (with_reducible refine Kd.C_drew ?_))); (case side2 => exact (Kd.R_reads' HO227.out).2.1); (case side3 => first | exact HLdLPow.out | ((with_reducible repeat (first | exact HLdLPow.out | apply LPow.drewN | apply LPow.drew)); done) | exact LPow.below HLdLPow.out hB); rintro e w32 ⟨rfl, hb⟩; have n0_ := Aside0.mk (Kd.R_below (by (with_reducible repeat (first | apply Kd.R_alloc | apply Kd.R_drewN | apply Kd.R_drew)); exact HO227.out) hb); have n1_ := Aside0.mk (below_step hB hb); clear HO227; clear HB; have HO227 := n0_; have HB := n1_; clear n0_ n1_; (try clear hb); (try clear hb2); (try clear hk); (try clear hi); clear tok5) | (revert tok6; intro tok6; go_at_call 11; (with_reducible refine (ostiarylaw18_of.calls k (⟨#[104, 116, 116, 112, 115, 58, 47, 47, 97]⟩ : ByteArray) t229 t230 t231 t232 _ A23.out).mono ?_); rintro e w33 ⟨rfl, hb⟩; have n0_ := Aside0.mk (Kd.R_below (by (with_reducible repeat (first | apply Kd.R_alloc | apply Kd.R_drewN | apply Kd.R_drew)); exact HO227.out) hb); have n1_ := Aside0.mk (below_step hB hb); clear HO227; clear HB; have HO227 := n0_; have HB := n1_; clear n0_ n1_; (try clear hb); (try clear hb2); (try clear hk); (try clear hi); clear tok6) | (revert tok7; intro tok7; go_at_call 54; (with_reducible refine (ostiarylaw18_allow.calls (⟨#[42]⟩ : ByteArray) t233 _ A24.out).mono ?_); rintro e w34 ⟨v234, rfl, ho0, hb⟩; have n0_ := Aside0.mk (Kd.R_elder' (by (with_reducible repeat (first | apply Kd.R_alloc | apply Kd.R_drewN | apply Kd.R_drew)); exact HO227.out) (Kd.R_base ho0) hb); have n1_ := Aside0.mk (Kd.R_lower (Kd.R_new' ho0 (Kd.R_lt (by (with_reducible repeat (first | apply Kd.R_alloc | apply Kd.R_drewN | apply Kd.R_drew)); exact HO227.out))) (below_size hB)); have n2_ := Aside0.mk (below_step hB hb); clear HO227; clear HB; have HO227 := n0_; have HO235 := n1_; have HB := n2_; clear n0_ n1_ n2_; (try clear hb); (try clear hb2); (try clear hk); (try clear hi); (try clear ho0); obtain ⟨Ao35, co35, eo35⟩ := Kd.R_slice HO235.out; subst eo35; clear tok7) | (revert tok8; intro tok8; go_at_call 12; (with_reducible refine (cors_Check.calls k t229 t230 t231 t232 false _ _ t233 t236 _ ?side1 ?side2 ?side3 A25.out).mono ?_); (case side1 => repeat (first | exact (Kd.R_reads' HO235.out).2.2 | (with_reducible refine Kd.C_alloc ?_ _) | (with_reducible refine Kd.C_drewN ?_ _) | (with_reducible refine Kd.C_drew ?_))); (case side2 => exact (Kd.R_reads' HO235.out).2.1); (case side3 => first | exact HLdLPow.out | ((with_reducible repeat (first | exact HLdLPow.out | apply LPow.drewN | apply LPow.drew)); done) | exact LPow.below HLdLPow.out hB); rintro e w36 ⟨rfl, hb⟩; have n0_ := Aside0.mk (Kd.R_below (by (with_reducible repeat (first | apply Kd.R_alloc | apply Kd.R_drewN | apply Kd.R_drew)); exact HO227.out) hb); have n1_ := Aside0.mk (Kd.R_below (by (with_reducible repeat (first | apply Kd.R_alloc | apply Kd.R_drewN | apply Kd.R_drew)); exact HO235.out) hb); have n2_ := Aside0.mk (below_step hB hb); clear HO227; clear HO235; clear HB; have HO227 := n0_; have HO235 := n1_; have HB := n2_; clear n0_ n1_ n2_; (try clear hb); (try clear hb2); (try clear hk); (try clear hi); clear tok8))
       go_ret
       exact ⟨by first | rfl | (simp [errW_none, errW_some] <;> rfl) | (simp [*, errW_none, errW_some] <;> rfl), by repeat (first | (with_reducible first | exact HB.out | apply below_alloc | apply pw_below_drewN | apply below_drew1) | exact HB.out)⟩
    ·replace c7 := Bool.eq_false_iff.mpr c7
     subst c7
     have H1 : (some false) = some r := by rw [if_neg (show ¬ (false = true) by decide)] at H; exact H
     clear H
     have H := H1
     clear H1
     obtain rfl := Option.some.inj H
     go_enter Tryd.func16, Tryd.ntmps16
     have tok0 : True := trivial
     have tok1 : True := trivial
     have tok2 : True := trivial
     go_wp2_with (first | (revert tok0; intro tok0; (with_reducible refine gate_callee (f := 14) rfl ?_); refine goesL_ (some 8) rfl rfl Tryd.func14 q2_ rfl #[.string (⟨#[112, 79, 115, 116]⟩ : ByteArray)] rfl tS ?_; (with_reducible refine (cors_Method.calls k (⟨#[112, 79, 115, 116]⟩ : ByteArray) t215 true _ A1.out).mono ?_); rintro e w37 ⟨rfl, hb⟩; refine ⟨_, rfl, ?_⟩; have n0_ := Aside0.mk (below_step hB hb); clear HB; have HB := n0_; clear n0_; (try clear hb); (try clear hb2); (try clear hk); (try clear hi); clear tok0) | (revert tok1; intro tok1; (with_reducible refine gate_callee (f := 14) rfl ?_); refine goesL_ (some 12) rfl rfl Tryd.func14 q2_ rfl #[.string (⟨#[112, 97, 116, 99, 104]⟩ : ByteArray)] rfl tS ?_; (with_reducible refine (cors_Method.calls k (⟨#[112, 97, 116, 99, 104]⟩ : ByteArray) t217 false _ A2.out).mono ?_); rintro e w38 ⟨rfl, hb⟩; refine ⟨_, rfl, ?_⟩; have n0_ := Aside0.mk (below_step hB hb); clear HB; have HB := n0_; clear n0_; (try clear hb); (try clear hb2); (try clear hk); (try clear hi); clear tok1) | (revert tok2; intro tok2; (with_reducible refine gate_callee (f := 14) rfl ?_); refine goesL_ (some 16) rfl rfl Tryd.func14 q2_ rfl #[.string (⟨#[84, 82, 65, 67, 69]⟩ : ByteArray)] rfl tS ?_; (with_reducible refine (cors_Method.calls k (⟨#[84, 82, 65, 67, 69]⟩ : ByteArray) t219 t220 _ A3.out).mono ?_); rintro e w39 ⟨rfl, hb⟩; refine ⟨_, rfl, ?_⟩; have n0_ := Aside0.mk (below_step hB hb); clear HB; have HB := n0_; clear n0_; (try clear hb); (try clear hb2); (try clear hk); (try clear hi); clear tok2))
     go_ret
     exact ⟨by first | rfl | (simp [errW_none, errW_some] <;> rfl) | (simp [*, errW_none, errW_some] <;> rfl), by repeat (first | (with_reducible first | exact HB.out | apply below_alloc | apply pw_below_drewN | apply below_drew1) | exact HB.out)⟩
   ·rw [if_neg c6] at H
    have c6b0 : (t217.toList == ([112, 97, 116, 99, 104] : List UInt8)) = false := beq_eq_false_iff_ne.mpr c6
    have c6b1 : (t217.toList != ([112, 97, 116, 99, 104] : List UInt8)) = true := bne_iff_ne.mpr c6
    obtain rfl := Option.some.inj H
    go_enter Tryd.func16, Tryd.ntmps16
    have tok0 : True := trivial
    have tok1 : True := trivial
    have tok2 : True := trivial
    go_wp2_with (first | (revert tok0; intro tok0; (with_reducible refine gate_callee (f := 14) rfl ?_); refine goesL_ (some 8) rfl rfl Tryd.func14 q2_ rfl #[.string (⟨#[112, 79, 115, 116]⟩ : ByteArray)] rfl tS ?_; (with_reducible refine (cors_Method.calls k (⟨#[112, 79, 115, 116]⟩ : ByteArray) t215 true _ A1.out).mono ?_); rintro e w40 ⟨rfl, hb⟩; refine ⟨_, rfl, ?_⟩; have n0_ := Aside0.mk (below_step hB hb); clear HB; have HB := n0_; clear n0_; (try clear hb); (try clear hb2); (try clear hk); (try clear hi); clear tok0) | (revert tok1; intro tok1; (with_reducible refine gate_callee (f := 14) rfl ?_); refine goesL_ (some 12) rfl rfl Tryd.func14 q2_ rfl #[.string (⟨#[112, 97, 116, 99, 104]⟩ : ByteArray)] rfl tS ?_; (with_reducible refine (cors_Method.calls k (⟨#[112, 97, 116, 99, 104]⟩ : ByteArray) t217 t218 _ A2.out).mono ?_); rintro e w41 ⟨rfl, hb⟩; refine ⟨_, rfl, ?_⟩; have n0_ := Aside0.mk (below_step hB hb); clear HB; have HB := n0_; clear n0_; (try clear hb); (try clear hb2); (try clear hk); (try clear hi); clear tok1) | (revert tok2; intro tok2; (with_reducible refine gate_callee (f := 14) rfl ?_); refine goesL_ (some 16) rfl rfl Tryd.func14 q2_ rfl #[.string (⟨#[84, 82, 65, 67, 69]⟩ : ByteArray)] rfl tS ?_; (with_reducible refine (cors_Method.calls k (⟨#[84, 82, 65, 67, 69]⟩ : ByteArray) t219 t220 _ A3.out).mono ?_); rintro e w42 ⟨rfl, hb⟩; refine ⟨_, rfl, ?_⟩; have n0_ := Aside0.mk (below_step hB hb); clear HB; have HB := n0_; clear n0_; (try clear hb); (try clear hb2); (try clear hk); (try clear hi); clear tok2))
    go_ret
    exact ⟨by first | rfl | (simp [errW_none, errW_some] <;> rfl) | (simp [*, errW_none, errW_some] <;> rfl), by repeat (first | (with_reducible first | exact HB.out | apply below_alloc | apply pw_below_drewN | apply below_drew1) | exact HB.out)⟩
  ·replace c5 := Bool.eq_false_iff.mpr c5
   subst c5
   have H1 : (some false) = some r := by rw [if_neg (show ¬ (false = true) by decide)] at H; exact H
   clear H
   have H := H1
   clear H1
   obtain rfl := Option.some.inj H
   go_enter Tryd.func16, Tryd.ntmps16
   have tok0 : True := trivial
   have tok1 : True := trivial
   have tok2 : True := trivial
   go_wp2_with (first | (revert tok0; intro tok0; (with_reducible refine gate_callee (f := 14) rfl ?_); refine goesL_ (some 8) rfl rfl Tryd.func14 q2_ rfl #[.string (⟨#[112, 79, 115, 116]⟩ : ByteArray)] rfl tS ?_; (with_reducible refine (cors_Method.calls k (⟨#[112, 79, 115, 116]⟩ : ByteArray) t215 false _ A1.out).mono ?_); rintro e w43 ⟨rfl, hb⟩; refine ⟨_, rfl, ?_⟩; have n0_ := Aside0.mk (below_step hB hb); clear HB; have HB := n0_; clear n0_; (try clear hb); (try clear hb2); (try clear hk); (try clear hi); clear tok0) | (revert tok1; intro tok1; (with_reducible refine gate_callee (f := 14) rfl ?_); refine goesL_ (some 12) rfl rfl Tryd.func14 q2_ rfl #[.string (⟨#[112, 97, 116, 99, 104]⟩ : ByteArray)] rfl tS ?_; (with_reducible refine (cors_Method.calls k (⟨#[112, 97, 116, 99, 104]⟩ : ByteArray) t217 t218 _ A2.out).mono ?_); rintro e w44 ⟨rfl, hb⟩; refine ⟨_, rfl, ?_⟩; have n0_ := Aside0.mk (below_step hB hb); clear HB; have HB := n0_; clear n0_; (try clear hb); (try clear hb2); (try clear hk); (try clear hi); clear tok1) | (revert tok2; intro tok2; (with_reducible refine gate_callee (f := 14) rfl ?_); refine goesL_ (some 16) rfl rfl Tryd.func14 q2_ rfl #[.string (⟨#[84, 82, 65, 67, 69]⟩ : ByteArray)] rfl tS ?_; (with_reducible refine (cors_Method.calls k (⟨#[84, 82, 65, 67, 69]⟩ : ByteArray) t219 t220 _ A3.out).mono ?_); rintro e w45 ⟨rfl, hb⟩; refine ⟨_, rfl, ?_⟩; have n0_ := Aside0.mk (below_step hB hb); clear HB; have HB := n0_; clear n0_; (try clear hb); (try clear hb2); (try clear hk); (try clear hi); clear tok2))
   go_ret
   exact ⟨by first | rfl | (simp [errW_none, errW_some] <;> rfl) | (simp [*, errW_none, errW_some] <;> rfl), by repeat (first | (with_reducible first | exact HB.out | apply below_alloc | apply pw_below_drewN | apply below_drew1) | exact HB.out)⟩
 ·rw [if_neg c4] at H
  have c4b0 : (t215.toList == ([80, 79, 83, 84] : List UInt8)) = false := beq_eq_false_iff_ne.mpr c4
  have c4b1 : (t215.toList != ([80, 79, 83, 84] : List UInt8)) = true := bne_iff_ne.mpr c4
  obtain rfl := Option.some.inj H
  go_enter Tryd.func16, Tryd.ntmps16
  have tok0 : True := trivial
  have tok1 : True := trivial
  have tok2 : True := trivial
  go_wp2_with (first | (revert tok0; intro tok0; (with_reducible refine gate_callee (f := 14) rfl ?_); refine goesL_ (some 8) rfl rfl Tryd.func14 q2_ rfl #[.string (⟨#[112, 79, 115, 116]⟩ : ByteArray)] rfl tS ?_; (with_reducible refine (cors_Method.calls k (⟨#[112, 79, 115, 116]⟩ : ByteArray) t215 t216 _ A1.out).mono ?_); rintro e w46 ⟨rfl, hb⟩; refine ⟨_, rfl, ?_⟩; have n0_ := Aside0.mk (below_step hB hb); clear HB; have HB := n0_; clear n0_; (try clear hb); (try clear hb2); (try clear hk); (try clear hi); clear tok0) | (revert tok1; intro tok1; (with_reducible refine gate_callee (f := 14) rfl ?_); refine goesL_ (some 12) rfl rfl Tryd.func14 q2_ rfl #[.string (⟨#[112, 97, 116, 99, 104]⟩ : ByteArray)] rfl tS ?_; (with_reducible refine (cors_Method.calls k (⟨#[112, 97, 116, 99, 104]⟩ : ByteArray) t217 t218 _ A2.out).mono ?_); rintro e w47 ⟨rfl, hb⟩; refine ⟨_, rfl, ?_⟩; have n0_ := Aside0.mk (below_step hB hb); clear HB; have HB := n0_; clear n0_; (try clear hb); (try clear hb2); (try clear hk); (try clear hi); clear tok1) | (revert tok2; intro tok2; (with_reducible refine gate_callee (f := 14) rfl ?_); refine goesL_ (some 16) rfl rfl Tryd.func14 q2_ rfl #[.string (⟨#[84, 82, 65, 67, 69]⟩ : ByteArray)] rfl tS ?_; (with_reducible refine (cors_Method.calls k (⟨#[84, 82, 65, 67, 69]⟩ : ByteArray) t219 t220 _ A3.out).mono ?_); rintro e w48 ⟨rfl, hb⟩; refine ⟨_, rfl, ?_⟩; have n0_ := Aside0.mk (below_step hB hb); clear HB; have HB := n0_; clear n0_; (try clear hb); (try clear hb2); (try clear hk); (try clear hi); clear tok2))
  go_ret
  exact ⟨by first | rfl | (simp [errW_none, errW_some] <;> rfl) | (simp [*, errW_none, errW_some] <;> rfl), by repeat (first | (with_reducible first | exact HB.out | apply below_alloc | apply pw_below_drewN | apply below_drew1) | exact HB.out)⟩
end Go.Proofs.YtifmkgkiipckbaaDoor.P
