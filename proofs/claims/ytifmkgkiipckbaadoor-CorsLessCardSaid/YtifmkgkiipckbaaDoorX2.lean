/- A part of the proof of CorsLess: texts of walks and plain lemmas. -/
import Derived.Test.YtifmkgkiipckbaaDoorX1
import Derived.Test.YtifmkgkiipckbaaDoorProg
import Derived.WalkKit
import Derived.Lib.ConvBytes
import Derived.Lib.Hide
import Derived.Shelf.Abstract
namespace Go.Proofs.YtifmkgkiipckbaaDoor.P
open Go.RowKit Go.Proofs.YtifmkgkiipckbaaDoorW.PrintWords Go.Proofs.YtifmkgkiipckbaaDoorW.PrintLast Go.Proofs.YtifmkgkiipckbaaDoorW.PrintMore
attribute [local go_sem] max2_int min2_int max_two min_two max_three min_three max_four min_four
set_option linter.unusedVariables false
set_option linter.unusedSimpArgs false
def IsS86 (w0 W : World) (g : Nat) (f0 : ByteArray) (f1 : ByteArray) (f2 : ByteArray) (f3 : ByteArray) (f4 : Bool) (f5 : Int) (f6 : Bool) (f7 : List ByteArray) (f8 : ByteArray) (f9 : ByteArray) (f10 : Bool) (f11 : Bool) : Prop := ∃ A7 c7, W.heap[g]? = some (.cells #[.string f0, .string f1, .string f2, .string f3, .bool f4, .int .i64 f5, .bool f6, .slice A7 f7.length c7, .string f8, .string f9, .bool f10, .bool f11] 86 (0, 0)) ∧ w0.heap.size ≤ g ∧ Kd.C Kd.string w0 A7 f7.length f7
theorem IsS86.grown {w0 W : World} {g : Nat} {f0 : ByteArray} {f1 : ByteArray} {f2 : ByteArray} {f3 : ByteArray} {f4 : Bool} {f5 : Int} {f6 : Bool} {f7 : List ByteArray} {f8 : ByteArray} {f9 : ByteArray} {f10 : Bool} {f11 : Bool} {W1 : World} {row : Option Nat} (h : IsS86 w0 W g f0 f1 f2 f3 f4 f5 f6 f7 f8 f9 f10 f11) (hw : W.grownBy W1 row) (hne : some g ≠ row) : IsS86 w0 W1 g f0 f1 f2 f3 f4 f5 f6 f7 f8 f9 f10 f11 := by
 obtain ⟨A7, c7, hb, hg, hr7⟩ := h
 exact ⟨A7, c7, blk_grown hb hw hne, hg, hr7⟩
theorem IsS86.kept {w0 W : World} {g : Nat} {f0 : ByteArray} {f1 : ByteArray} {f2 : ByteArray} {f3 : ByteArray} {f4 : Bool} {f5 : Int} {f6 : Bool} {f7 : List ByteArray} {f8 : ByteArray} {f9 : ByteArray} {f10 : Bool} {f11 : Bool} {W1 : World} {S : Nat → Prop} (h : IsS86 w0 W g f0 f1 f2 f3 f4 f5 f6 f7 f8 f9 f10 f11) (hk : Kept W W1 S) (hne : ¬ S g) : IsS86 w0 W1 g f0 f1 f2 f3 f4 f5 f6 f7 f8 f9 f10 f11 := by
 obtain ⟨A7, c7, hb, hg, hr7⟩ := h
 exact ⟨A7, c7, blk_kept hb hk hne, hg, hr7⟩
theorem IsS86.below {w0 W : World} {g : Nat} {f0 : ByteArray} {f1 : ByteArray} {f2 : ByteArray} {f3 : ByteArray} {f4 : Bool} {f5 : Int} {f6 : Bool} {f7 : List ByteArray} {f8 : ByteArray} {f9 : ByteArray} {f10 : Bool} {f11 : Bool} {W1 : World} (h : IsS86 w0 W g f0 f1 f2 f3 f4 f5 f6 f7 f8 f9 f10 f11) (hw : Below W.heap.size W W1) : IsS86 w0 W1 g f0 f1 f2 f3 f4 f5 f6 f7 f8 f9 f10 f11 := h.grown (grown_of_below hw none) (by simp)
theorem IsS86.alloc {w0 W : World} {g : Nat} {f0 : ByteArray} {f1 : ByteArray} {f2 : ByteArray} {f3 : ByteArray} {f4 : Bool} {f5 : Int} {f6 : Bool} {f7 : List ByteArray} {f8 : ByteArray} {f9 : ByteArray} {f10 : Bool} {f11 : Bool} (h : IsS86 w0 W g f0 f1 f2 f3 f4 f5 f6 f7 f8 f9 f10 f11) (o : Obj) : IsS86 w0 (W.alloc o) g f0 f1 f2 f3 f4 f5 f6 f7 f8 f9 f10 f11 := h.below (below_alloc (Below.refl _ _) o)
theorem IsS86.drewN {w0 W : World} {g : Nat} {f0 : ByteArray} {f1 : ByteArray} {f2 : ByteArray} {f3 : ByteArray} {f4 : Bool} {f5 : Int} {f6 : Bool} {f7 : List ByteArray} {f8 : ByteArray} {f9 : ByteArray} {f10 : Bool} {f11 : Bool} (h : IsS86 w0 W g f0 f1 f2 f3 f4 f5 f6 f7 f8 f9 f10 f11) (m : Nat) : IsS86 w0 (W.drewN m) g f0 f1 f2 f3 f4 f5 f6 f7 f8 f9 f10 f11 := h
theorem IsS86.drew {w0 W : World} {g : Nat} {f0 : ByteArray} {f1 : ByteArray} {f2 : ByteArray} {f3 : ByteArray} {f4 : Bool} {f5 : Int} {f6 : Bool} {f7 : List ByteArray} {f8 : ByteArray} {f9 : ByteArray} {f10 : Bool} {f11 : Bool} (h : IsS86 w0 W g f0 f1 f2 f3 f4 f5 f6 f7 f8 f9 f10 f11) : IsS86 w0 W.drew g f0 f1 f2 f3 f4 f5 f6 f7 f8 f9 f10 f11 := h
theorem IsS86.at_ {w0 W : World} {g : Nat} {f0 : ByteArray} {f1 : ByteArray} {f2 : ByteArray} {f3 : ByteArray} {f4 : Bool} {f5 : Int} {f6 : Bool} {f7 : List ByteArray} {f8 : ByteArray} {f9 : ByteArray} {f10 : Bool} {f11 : Bool} {w' : World} {m : Nat} (hq : W.drewN m = w') (h : IsS86 w0 W g f0 f1 f2 f3 f4 f5 f6 f7 f8 f9 f10 f11) : IsS86 w0 w' g f0 f1 f2 f3 f4 f5 f6 f7 f8 f9 f10 f11 := by subst hq; exact IsS86.drewN h m
theorem IsS86.apart {w0 W : World} {g : Nat} {f0 : ByteArray} {f1 : ByteArray} {f2 : ByteArray} {f3 : ByteArray} {f4 : Bool} {f5 : Int} {f6 : Bool} {f7 : List ByteArray} {f8 : ByteArray} {f9 : ByteArray} {f10 : Bool} {f11 : Bool} {α : Type} {d : Kd α} {e : Nat} {base : Nat} {ok : Nat → Prop} {v : Value} {xs : List α} (h : IsS86 w0 W g f0 f1 f2 f3 f4 f5 f6 f7 f8 f9 f10 f11) (ho : d.R e W base ok v xs) (ht : ∀ q, q ∈ e :: d.E → q ≠ 86) : d.R e W base (fun k => ok k ∧ k ≠ g) v xs := by
 obtain ⟨A7, c7, hb, hg, hr7⟩ := h
 exact Kd.R_types ho hb ht
theorem IsS86.own_ne {w0 W : World} {g : Nat} {f0 : ByteArray} {f1 : ByteArray} {f2 : ByteArray} {f3 : ByteArray} {f4 : Bool} {f5 : Int} {f6 : Bool} {f7 : List ByteArray} {f8 : ByteArray} {f9 : ByteArray} {f10 : Bool} {f11 : Bool} {α : Type} {d : Kd α} {e : Nat} {base : Nat} {ok : Nat → Prop} {v : Value} {xs : List α} (h : IsS86 w0 W g f0 f1 f2 f3 f4 f5 f6 f7 f8 f9 f10 f11) (ho : d.R e W base ok v xs) (ht : e ≠ 86) : some g ≠ v.ownBlock := by
 obtain ⟨A7, c7, hb, hg, hr7⟩ := h
 exact Kd.R_ne ho hb ht
theorem IsS86.lt {w0 W : World} {g : Nat} {f0 : ByteArray} {f1 : ByteArray} {f2 : ByteArray} {f3 : ByteArray} {f4 : Bool} {f5 : Int} {f6 : Bool} {f7 : List ByteArray} {f8 : ByteArray} {f9 : ByteArray} {f10 : Bool} {f11 : Bool} (h : IsS86 w0 W g f0 f1 f2 f3 f4 f5 f6 f7 f8 f9 f10 f11) : g < W.heap.size := by
 obtain ⟨A7, c7, hb, hg, hr7⟩ := h
 exact blk_lt hb
theorem IsS86.ge {w0 W : World} {g : Nat} {f0 : ByteArray} {f1 : ByteArray} {f2 : ByteArray} {f3 : ByteArray} {f4 : Bool} {f5 : Int} {f6 : Bool} {f7 : List ByteArray} {f8 : ByteArray} {f9 : ByteArray} {f10 : Bool} {f11 : Bool} (h : IsS86 w0 W g f0 f1 f2 f3 f4 f5 f6 f7 f8 f9 f10 f11) : w0.heap.size ≤ g := by
 obtain ⟨A7, c7, hb, hg, hr7⟩ := h
 exact hg
theorem cellS86_0 {W : World} {g : Nat} {A7 : Option Addr} {c7 : Nat} {f0 : ByteArray} {f1 : ByteArray} {f2 : ByteArray} {f3 : ByteArray} {f4 : Bool} {f5 : Int} {f6 : Bool} {f7 : List ByteArray} {f8 : ByteArray} {f9 : ByteArray} {f10 : Bool} {f11 : Bool} (h : W.heap[g]? = some (.cells #[.string f0, .string f1, .string f2, .string f3, .bool f4, .int .i64 f5, .bool f6, .slice A7 f7.length c7, .string f8, .string f9, .bool f10, .bool f11] 86 (0, 0))) : W.cell? ⟨g, 0, none⟩ = some (.string f0) := (blk_cell h 0).trans rfl
theorem IsS86.set_0 {w0 W : World} {g : Nat} {f0 : ByteArray} {f1 : ByteArray} {f2 : ByteArray} {f3 : ByteArray} {f4 : Bool} {f5 : Int} {f6 : Bool} {f7 : List ByteArray} {f8 : ByteArray} {f9 : ByteArray} {f10 : Bool} {f11 : Bool} (h : IsS86 w0 W g f0 f1 f2 f3 f4 f5 f6 f7 f8 f9 f10 f11) (x : ByteArray) : IsS86 w0 (W.setCell ⟨g, 0, none⟩ (.string x)) g x f1 f2 f3 f4 f5 f6 f7 f8 f9 f10 f11 := by
 obtain ⟨A7, c7, hb, hg, hr7⟩ := h
 exact ⟨A7, c7, by simpa using blk_set hb 0 (.string x), hg, hr7⟩
theorem cellS86_1 {W : World} {g : Nat} {A7 : Option Addr} {c7 : Nat} {f0 : ByteArray} {f1 : ByteArray} {f2 : ByteArray} {f3 : ByteArray} {f4 : Bool} {f5 : Int} {f6 : Bool} {f7 : List ByteArray} {f8 : ByteArray} {f9 : ByteArray} {f10 : Bool} {f11 : Bool} (h : W.heap[g]? = some (.cells #[.string f0, .string f1, .string f2, .string f3, .bool f4, .int .i64 f5, .bool f6, .slice A7 f7.length c7, .string f8, .string f9, .bool f10, .bool f11] 86 (0, 0))) : W.cell? ⟨g, 1, none⟩ = some (.string f1) := (blk_cell h 1).trans rfl
theorem IsS86.set_1 {w0 W : World} {g : Nat} {f0 : ByteArray} {f1 : ByteArray} {f2 : ByteArray} {f3 : ByteArray} {f4 : Bool} {f5 : Int} {f6 : Bool} {f7 : List ByteArray} {f8 : ByteArray} {f9 : ByteArray} {f10 : Bool} {f11 : Bool} (h : IsS86 w0 W g f0 f1 f2 f3 f4 f5 f6 f7 f8 f9 f10 f11) (x : ByteArray) : IsS86 w0 (W.setCell ⟨g, 1, none⟩ (.string x)) g f0 x f2 f3 f4 f5 f6 f7 f8 f9 f10 f11 := by
 obtain ⟨A7, c7, hb, hg, hr7⟩ := h
 exact ⟨A7, c7, by simpa using blk_set hb 1 (.string x), hg, hr7⟩
theorem cellS86_2 {W : World} {g : Nat} {A7 : Option Addr} {c7 : Nat} {f0 : ByteArray} {f1 : ByteArray} {f2 : ByteArray} {f3 : ByteArray} {f4 : Bool} {f5 : Int} {f6 : Bool} {f7 : List ByteArray} {f8 : ByteArray} {f9 : ByteArray} {f10 : Bool} {f11 : Bool} (h : W.heap[g]? = some (.cells #[.string f0, .string f1, .string f2, .string f3, .bool f4, .int .i64 f5, .bool f6, .slice A7 f7.length c7, .string f8, .string f9, .bool f10, .bool f11] 86 (0, 0))) : W.cell? ⟨g, 2, none⟩ = some (.string f2) := (blk_cell h 2).trans rfl
theorem IsS86.set_2 {w0 W : World} {g : Nat} {f0 : ByteArray} {f1 : ByteArray} {f2 : ByteArray} {f3 : ByteArray} {f4 : Bool} {f5 : Int} {f6 : Bool} {f7 : List ByteArray} {f8 : ByteArray} {f9 : ByteArray} {f10 : Bool} {f11 : Bool} (h : IsS86 w0 W g f0 f1 f2 f3 f4 f5 f6 f7 f8 f9 f10 f11) (x : ByteArray) : IsS86 w0 (W.setCell ⟨g, 2, none⟩ (.string x)) g f0 f1 x f3 f4 f5 f6 f7 f8 f9 f10 f11 := by
 obtain ⟨A7, c7, hb, hg, hr7⟩ := h
 exact ⟨A7, c7, by simpa using blk_set hb 2 (.string x), hg, hr7⟩
theorem cellS86_3 {W : World} {g : Nat} {A7 : Option Addr} {c7 : Nat} {f0 : ByteArray} {f1 : ByteArray} {f2 : ByteArray} {f3 : ByteArray} {f4 : Bool} {f5 : Int} {f6 : Bool} {f7 : List ByteArray} {f8 : ByteArray} {f9 : ByteArray} {f10 : Bool} {f11 : Bool} (h : W.heap[g]? = some (.cells #[.string f0, .string f1, .string f2, .string f3, .bool f4, .int .i64 f5, .bool f6, .slice A7 f7.length c7, .string f8, .string f9, .bool f10, .bool f11] 86 (0, 0))) : W.cell? ⟨g, 3, none⟩ = some (.string f3) := (blk_cell h 3).trans rfl
theorem IsS86.set_3 {w0 W : World} {g : Nat} {f0 : ByteArray} {f1 : ByteArray} {f2 : ByteArray} {f3 : ByteArray} {f4 : Bool} {f5 : Int} {f6 : Bool} {f7 : List ByteArray} {f8 : ByteArray} {f9 : ByteArray} {f10 : Bool} {f11 : Bool} (h : IsS86 w0 W g f0 f1 f2 f3 f4 f5 f6 f7 f8 f9 f10 f11) (x : ByteArray) : IsS86 w0 (W.setCell ⟨g, 3, none⟩ (.string x)) g f0 f1 f2 x f4 f5 f6 f7 f8 f9 f10 f11 := by
 obtain ⟨A7, c7, hb, hg, hr7⟩ := h
 exact ⟨A7, c7, by simpa using blk_set hb 3 (.string x), hg, hr7⟩
theorem cellS86_4 {W : World} {g : Nat} {A7 : Option Addr} {c7 : Nat} {f0 : ByteArray} {f1 : ByteArray} {f2 : ByteArray} {f3 : ByteArray} {f4 : Bool} {f5 : Int} {f6 : Bool} {f7 : List ByteArray} {f8 : ByteArray} {f9 : ByteArray} {f10 : Bool} {f11 : Bool} (h : W.heap[g]? = some (.cells #[.string f0, .string f1, .string f2, .string f3, .bool f4, .int .i64 f5, .bool f6, .slice A7 f7.length c7, .string f8, .string f9, .bool f10, .bool f11] 86 (0, 0))) : W.cell? ⟨g, 4, none⟩ = some (.bool f4) := (blk_cell h 4).trans rfl
theorem IsS86.set_4 {w0 W : World} {g : Nat} {f0 : ByteArray} {f1 : ByteArray} {f2 : ByteArray} {f3 : ByteArray} {f4 : Bool} {f5 : Int} {f6 : Bool} {f7 : List ByteArray} {f8 : ByteArray} {f9 : ByteArray} {f10 : Bool} {f11 : Bool} (h : IsS86 w0 W g f0 f1 f2 f3 f4 f5 f6 f7 f8 f9 f10 f11) (x : Bool) : IsS86 w0 (W.setCell ⟨g, 4, none⟩ (.bool x)) g f0 f1 f2 f3 x f5 f6 f7 f8 f9 f10 f11 := by
 obtain ⟨A7, c7, hb, hg, hr7⟩ := h
 exact ⟨A7, c7, by simpa using blk_set hb 4 (.bool x), hg, hr7⟩
theorem cellS86_5 {W : World} {g : Nat} {A7 : Option Addr} {c7 : Nat} {f0 : ByteArray} {f1 : ByteArray} {f2 : ByteArray} {f3 : ByteArray} {f4 : Bool} {f5 : Int} {f6 : Bool} {f7 : List ByteArray} {f8 : ByteArray} {f9 : ByteArray} {f10 : Bool} {f11 : Bool} (h : W.heap[g]? = some (.cells #[.string f0, .string f1, .string f2, .string f3, .bool f4, .int .i64 f5, .bool f6, .slice A7 f7.length c7, .string f8, .string f9, .bool f10, .bool f11] 86 (0, 0))) : W.cell? ⟨g, 5, none⟩ = some (.int .i64 f5) := (blk_cell h 5).trans rfl
theorem IsS86.set_5 {w0 W : World} {g : Nat} {f0 : ByteArray} {f1 : ByteArray} {f2 : ByteArray} {f3 : ByteArray} {f4 : Bool} {f5 : Int} {f6 : Bool} {f7 : List ByteArray} {f8 : ByteArray} {f9 : ByteArray} {f10 : Bool} {f11 : Bool} (h : IsS86 w0 W g f0 f1 f2 f3 f4 f5 f6 f7 f8 f9 f10 f11) (x : Int) : IsS86 w0 (W.setCell ⟨g, 5, none⟩ (.int .i64 x)) g f0 f1 f2 f3 f4 x f6 f7 f8 f9 f10 f11 := by
 obtain ⟨A7, c7, hb, hg, hr7⟩ := h
 exact ⟨A7, c7, by simpa using blk_set hb 5 (.int .i64 x), hg, hr7⟩
theorem cellS86_6 {W : World} {g : Nat} {A7 : Option Addr} {c7 : Nat} {f0 : ByteArray} {f1 : ByteArray} {f2 : ByteArray} {f3 : ByteArray} {f4 : Bool} {f5 : Int} {f6 : Bool} {f7 : List ByteArray} {f8 : ByteArray} {f9 : ByteArray} {f10 : Bool} {f11 : Bool} (h : W.heap[g]? = some (.cells #[.string f0, .string f1, .string f2, .string f3, .bool f4, .int .i64 f5, .bool f6, .slice A7 f7.length c7, .string f8, .string f9, .bool f10, .bool f11] 86 (0, 0))) : W.cell? ⟨g, 6, none⟩ = some (.bool f6) := (blk_cell h 6).trans rfl
theorem IsS86.set_6 {w0 W : World} {g : Nat} {f0 : ByteArray} {f1 : ByteArray} {f2 : ByteArray} {f3 : ByteArray} {f4 : Bool} {f5 : Int} {f6 : Bool} {f7 : List ByteArray} {f8 : ByteArray} {f9 : ByteArray} {f10 : Bool} {f11 : Bool} (h : IsS86 w0 W g f0 f1 f2 f3 f4 f5 f6 f7 f8 f9 f10 f11) (x : Bool) : IsS86 w0 (W.setCell ⟨g, 6, none⟩ (.bool x)) g f0 f1 f2 f3 f4 f5 x f7 f8 f9 f10 f11 := by
 obtain ⟨A7, c7, hb, hg, hr7⟩ := h
 exact ⟨A7, c7, by simpa using blk_set hb 6 (.bool x), hg, hr7⟩
theorem cellS86_7 {W : World} {g : Nat} {A7 : Option Addr} {c7 : Nat} {f0 : ByteArray} {f1 : ByteArray} {f2 : ByteArray} {f3 : ByteArray} {f4 : Bool} {f5 : Int} {f6 : Bool} {f7 : List ByteArray} {f8 : ByteArray} {f9 : ByteArray} {f10 : Bool} {f11 : Bool} (h : W.heap[g]? = some (.cells #[.string f0, .string f1, .string f2, .string f3, .bool f4, .int .i64 f5, .bool f6, .slice A7 f7.length c7, .string f8, .string f9, .bool f10, .bool f11] 86 (0, 0))) : W.cell? ⟨g, 7, none⟩ = some (.slice A7 f7.length c7) := (blk_cell h 7).trans rfl
theorem cellS86_8 {W : World} {g : Nat} {A7 : Option Addr} {c7 : Nat} {f0 : ByteArray} {f1 : ByteArray} {f2 : ByteArray} {f3 : ByteArray} {f4 : Bool} {f5 : Int} {f6 : Bool} {f7 : List ByteArray} {f8 : ByteArray} {f9 : ByteArray} {f10 : Bool} {f11 : Bool} (h : W.heap[g]? = some (.cells #[.string f0, .string f1, .string f2, .string f3, .bool f4, .int .i64 f5, .bool f6, .slice A7 f7.length c7, .string f8, .string f9, .bool f10, .bool f11] 86 (0, 0))) : W.cell? ⟨g, 8, none⟩ = some (.string f8) := (blk_cell h 8).trans rfl
theorem IsS86.set_8 {w0 W : World} {g : Nat} {f0 : ByteArray} {f1 : ByteArray} {f2 : ByteArray} {f3 : ByteArray} {f4 : Bool} {f5 : Int} {f6 : Bool} {f7 : List ByteArray} {f8 : ByteArray} {f9 : ByteArray} {f10 : Bool} {f11 : Bool} (h : IsS86 w0 W g f0 f1 f2 f3 f4 f5 f6 f7 f8 f9 f10 f11) (x : ByteArray) : IsS86 w0 (W.setCell ⟨g, 8, none⟩ (.string x)) g f0 f1 f2 f3 f4 f5 f6 f7 x f9 f10 f11 := by
 obtain ⟨A7, c7, hb, hg, hr7⟩ := h
 exact ⟨A7, c7, by simpa using blk_set hb 8 (.string x), hg, hr7⟩
theorem cellS86_9 {W : World} {g : Nat} {A7 : Option Addr} {c7 : Nat} {f0 : ByteArray} {f1 : ByteArray} {f2 : ByteArray} {f3 : ByteArray} {f4 : Bool} {f5 : Int} {f6 : Bool} {f7 : List ByteArray} {f8 : ByteArray} {f9 : ByteArray} {f10 : Bool} {f11 : Bool} (h : W.heap[g]? = some (.cells #[.string f0, .string f1, .string f2, .string f3, .bool f4, .int .i64 f5, .bool f6, .slice A7 f7.length c7, .string f8, .string f9, .bool f10, .bool f11] 86 (0, 0))) : W.cell? ⟨g, 9, none⟩ = some (.string f9) := (blk_cell h 9).trans rfl
theorem IsS86.set_9 {w0 W : World} {g : Nat} {f0 : ByteArray} {f1 : ByteArray} {f2 : ByteArray} {f3 : ByteArray} {f4 : Bool} {f5 : Int} {f6 : Bool} {f7 : List ByteArray} {f8 : ByteArray} {f9 : ByteArray} {f10 : Bool} {f11 : Bool} (h : IsS86 w0 W g f0 f1 f2 f3 f4 f5 f6 f7 f8 f9 f10 f11) (x : ByteArray) : IsS86 w0 (W.setCell ⟨g, 9, none⟩ (.string x)) g f0 f1 f2 f3 f4 f5 f6 f7 f8 x f10 f11 := by
 obtain ⟨A7, c7, hb, hg, hr7⟩ := h
 exact ⟨A7, c7, by simpa using blk_set hb 9 (.string x), hg, hr7⟩
theorem cellS86_10 {W : World} {g : Nat} {A7 : Option Addr} {c7 : Nat} {f0 : ByteArray} {f1 : ByteArray} {f2 : ByteArray} {f3 : ByteArray} {f4 : Bool} {f5 : Int} {f6 : Bool} {f7 : List ByteArray} {f8 : ByteArray} {f9 : ByteArray} {f10 : Bool} {f11 : Bool} (h : W.heap[g]? = some (.cells #[.string f0, .string f1, .string f2, .string f3, .bool f4, .int .i64 f5, .bool f6, .slice A7 f7.length c7, .string f8, .string f9, .bool f10, .bool f11] 86 (0, 0))) : W.cell? ⟨g, 10, none⟩ = some (.bool f10) := (blk_cell h 10).trans rfl
theorem IsS86.set_10 {w0 W : World} {g : Nat} {f0 : ByteArray} {f1 : ByteArray} {f2 : ByteArray} {f3 : ByteArray} {f4 : Bool} {f5 : Int} {f6 : Bool} {f7 : List ByteArray} {f8 : ByteArray} {f9 : ByteArray} {f10 : Bool} {f11 : Bool} (h : IsS86 w0 W g f0 f1 f2 f3 f4 f5 f6 f7 f8 f9 f10 f11) (x : Bool) : IsS86 w0 (W.setCell ⟨g, 10, none⟩ (.bool x)) g f0 f1 f2 f3 f4 f5 f6 f7 f8 f9 x f11 := by
 obtain ⟨A7, c7, hb, hg, hr7⟩ := h
 exact ⟨A7, c7, by simpa using blk_set hb 10 (.bool x), hg, hr7⟩
theorem cellS86_11 {W : World} {g : Nat} {A7 : Option Addr} {c7 : Nat} {f0 : ByteArray} {f1 : ByteArray} {f2 : ByteArray} {f3 : ByteArray} {f4 : Bool} {f5 : Int} {f6 : Bool} {f7 : List ByteArray} {f8 : ByteArray} {f9 : ByteArray} {f10 : Bool} {f11 : Bool} (h : W.heap[g]? = some (.cells #[.string f0, .string f1, .string f2, .string f3, .bool f4, .int .i64 f5, .bool f6, .slice A7 f7.length c7, .string f8, .string f9, .bool f10, .bool f11] 86 (0, 0))) : W.cell? ⟨g, 11, none⟩ = some (.bool f11) := (blk_cell h 11).trans rfl
theorem IsS86.set_11 {w0 W : World} {g : Nat} {f0 : ByteArray} {f1 : ByteArray} {f2 : ByteArray} {f3 : ByteArray} {f4 : Bool} {f5 : Int} {f6 : Bool} {f7 : List ByteArray} {f8 : ByteArray} {f9 : ByteArray} {f10 : Bool} {f11 : Bool} (h : IsS86 w0 W g f0 f1 f2 f3 f4 f5 f6 f7 f8 f9 f10 f11) (x : Bool) : IsS86 w0 (W.setCell ⟨g, 11, none⟩ (.bool x)) g f0 f1 f2 f3 f4 f5 f6 f7 f8 f9 f10 x := by
 obtain ⟨A7, c7, hb, hg, hr7⟩ := h
 exact ⟨A7, c7, by simpa using blk_set hb 11 (.bool x), hg, hr7⟩
theorem IsS86.new (w0 W : World) (A7 : Option Addr) (c7 : Nat) (f0 : ByteArray) (f1 : ByteArray) (f2 : ByteArray) (f3 : ByteArray) (f4 : Bool) (f5 : Int) (f6 : Bool) (f7 : List ByteArray) (f8 : ByteArray) (f9 : ByteArray) (f10 : Bool) (f11 : Bool) (hB : Below w0.heap.size w0 W) (hr7 : Kd.C Kd.string w0 A7 f7.length f7) : IsS86 w0 (W.alloc (.cells #[.string f0, .string f1, .string f2, .string f3, .bool f4, .int .i64 f5, .bool f6, .slice A7 f7.length c7, .string f8, .string f9, .bool f10, .bool f11] 86)) W.heap.size f0 f1 f2 f3 f4 f5 f6 f7 f8 f9 f10 f11 := ⟨A7, c7, by simpa using heap_alloc_new W _, hB.size, hr7⟩
def ostiaryref3_split.f (k : Nat) (s0_0 : ByteArray) (s0_1 : ByteArray) (s0_2 : ByteArray) (s0_3 : ByteArray) (s0_4 : Bool) (s0_5 : Int) (s0_6 : Bool) (s0_7 : List ByteArray) (s0_8 : ByteArray) (s0_9 : ByteArray) (s0_10 : Bool) (s0_11 : Bool) (a1 : ByteArray) : Option (ByteArray × ByteArray × ByteArray × ByteArray × ByteArray × Bool × Int × Bool × ByteArray × ByteArray × Bool × Bool) := (ostiaryref1_Part.f k a1 35).bind fun bt385 => (if bt385.2.2 = true then ((ostiaryref1_Percent.f k bt385.2.1 2).bind fun t388 => (some (bt385.1, s0_0, s0_1, s0_2, s0_3, s0_4, s0_5, s0_6, s0_8, t388, s0_10, true))) else (some (bt385.1, s0_0, s0_1, s0_2, s0_3, s0_4, s0_5, s0_6, s0_8, s0_9, s0_10, s0_11)))
theorem ostiaryref3_split.mono : ∀ a0 a1 a2 a3 a4 a5 a6 a7 a8 a9 a10 a11 a12 k, LeO (ostiaryref3_split.f k a0 a1 a2 a3 a4 a5 a6 a7 a8 a9 a10 a11 a12) (ostiaryref3_split.f (k + 1) a0 a1 a2 a3 a4 a5 a6 a7 a8 a9 a10 a11 a12) := by
 intro a0 a1 a2 a3 a4 a5 a6 a7 a8 a9 a10 a11 a12 k
 unfold ostiaryref3_split.f
 repeat' first
   | (with_reducible exact ostiaryref1_Part.mono _ _ _)
   | (with_reducible exact ostiaryref1_Percent.mono _ _ _)
   | (with_reducible exact LeO.refl _)
   | (with_reducible exact LeO.none _)
   | (with_reducible refine LeO.ite ?_ ?_)
   | (with_reducible refine LeO.bind ?_ (fun _ => ?_))
   | exact ostiaryref1_Part.mono _ _ _
   | exact ostiaryref1_Percent.mono _ _ _
   | exact LeO.none _
   | refine LeO.ite ?_ ?_
   | refine LeO.bind ?_ (fun _ => ?_)
set_option maxHeartbeats 8000000 in
set_option maxRecDepth 100000 in
theorem ostiaryref3_split.calls (k : Nat) (g : Nat) (s0_0 : ByteArray) (s0_1 : ByteArray) (s0_2 : ByteArray) (s0_3 : ByteArray) (s0_4 : Bool) (s0_5 : Int) (s0_6 : Bool) (s0_7 : List ByteArray) (s0_8 : ByteArray) (s0_9 : ByteArray) (s0_10 : Bool) (s0_11 : Bool) (a1 : ByteArray) (r1 : ByteArray) (r2 : ByteArray) (r3 : ByteArray) (r4 : ByteArray) (r5 : ByteArray) (r6 : Bool) (r7 : Int) (r8 : Bool) (r9 : ByteArray) (r10 : ByteArray) (r11 : Bool) (r12 : Bool) (w0 w : World) (hI : IsS86 w0 w g s0_0 s0_1 s0_2 s0_3 s0_4 s0_5 s0_6 s0_7 s0_8 s0_9 s0_10 s0_11) (hB : Below w0.heap.size w0 w) (h : ostiaryref3_split.f k s0_0 s0_1 s0_2 s0_3 s0_4 s0_5 s0_6 s0_7 s0_8 s0_9 s0_10 s0_11 a1 = some (r1, r2, r3, r4, r5, r6, r7, r8, r9, r10, r11, r12)) :
  Calls Tryd.prog 107 #[.pointer (some ⟨g, 0, none⟩), .string a1] w fun e w' => e = .returned (.string r1) ∧ IsS86 w0 w' g r2 r3 r4 r5 r6 r7 r8 s0_7 r9 r10 r11 r12 ∧ Below w0.heap.size w0 w' ∧ KeepBut w w' g none := by
 have HI0 := Aside0.mk hI
 have HK := Aside0.mk (KeepBut.refl w g none)
 have HL := Aside0.mk hB.size
 clear hI
 have HW0 := Aside0.mk hB.size
 have HB := Aside0.mk hB
 clear hB
 have H : ((ostiaryref1_Part.f k a1 35).bind fun bt385 => (if bt385.2.2 = true then ((ostiaryref1_Percent.f k bt385.2.1 2).bind fun t388 => (some (bt385.1, s0_0, s0_1, s0_2, s0_3, s0_4, s0_5, s0_6, s0_8, t388, s0_10, true))) else (some (bt385.1, s0_0, s0_1, s0_2, s0_3, s0_4, s0_5, s0_6, s0_8, s0_9, s0_10, s0_11)))) = some (r1, r2, r3, r4, r5, r6, r7, r8, r9, r10, r11, r12) := h
 clear h
 replace H := Option.bind_eq_some_iff.mp H
 obtain ⟨⟨t385, t386, t387⟩, A30, H⟩ := H
 replace H : (if t387 = true then ((ostiaryref1_Percent.f k t386 2).bind fun t388 => (some (t385, s0_0, s0_1, s0_2, s0_3, s0_4, s0_5, s0_6, s0_8, t388, s0_10, true))) else (some (t385, s0_0, s0_1, s0_2, s0_3, s0_4, s0_5, s0_6, s0_8, s0_9, s0_10, s0_11))) = some (r1, r2, r3, r4, r5, r6, r7, r8, r9, r10, r11, r12) := H
 have A3 := Aside0.mk A30
 clear A30
 by_cases c4 : t387 = true
 ·subst c4
  have H1 : ((ostiaryref1_Percent.f k t386 2).bind fun t388 => (some (t385, s0_0, s0_1, s0_2, s0_3, s0_4, s0_5, s0_6, s0_8, t388, s0_10, true))) = some (r1, r2, r3, r4, r5, r6, r7, r8, r9, r10, r11, r12) := by rw [if_pos rfl] at H; exact H
  clear H
  have H := H1
  clear H1
  replace H := Option.bind_eq_some_iff.mp H
  obtain ⟨t388, A50, H⟩ := H
  replace H : (some (t385, s0_0, s0_1, s0_2, s0_3, s0_4, s0_5, s0_6, s0_8, t388, s0_10, true)) = some (r1, r2, r3, r4, r5, r6, r7, r8, r9, r10, r11, r12) := H
  have A5 := Aside0.mk A50
  clear A50
  simp only [Option.some.injEq, Prod.mk.injEq] at H
  obtain ⟨rfl, rfl, rfl, rfl, rfl, rfl, rfl, rfl, rfl, rfl, rfl, rfl⟩ := H
  go_enter Tryd.func107, Tryd.ntmps107
  go_wp2_with (first | ((with_reducible refine gate_callee (f := 61) rfl ?_); refine goesL_ (some 10) rfl rfl Tryd.func61 q2_ rfl #[.string a1, .int .u8 35] rfl tS ?_; (with_reducible refine (ostiaryref1_Part.calls k a1 35 t385 t386 true _ A3.out).mono ?_); rintro e w' ⟨rfl, ⟨nd, rfl⟩⟩; refine ⟨_, rfl, ?_⟩; obtain ⟨ASz6_7, cSz6_7, HGz6, hgz6, HSz6_7⟩ := HI0.out; have hcz6_0 := cellS86_0 HGz6; have hcz6_1 := cellS86_1 HGz6; have hcz6_2 := cellS86_2 HGz6; have hcz6_3 := cellS86_3 HGz6; have hcz6_4 := cellS86_4 HGz6; have hcz6_5 := cellS86_5 HGz6; have hcz6_6 := cellS86_6 HGz6; have hcz6_7 := cellS86_7 HGz6; have hcz6_8 := cellS86_8 HGz6; have hcz6_9 := cellS86_9 HGz6; have hcz6_10 := cellS86_10 HGz6; have hcz6_11 := cellS86_11 HGz6; have hfz6_0 := blk_frozen HGz6 0; have hfz6_1 := blk_frozen HGz6 1; have hfz6_2 := blk_frozen HGz6 2; have hfz6_3 := blk_frozen HGz6 3; have hfz6_4 := blk_frozen HGz6 4; have hfz6_5 := blk_frozen HGz6 5; have hfz6_6 := blk_frozen HGz6 6; have hfz6_8 := blk_frozen HGz6 8; have hfz6_9 := blk_frozen HGz6 9; have hfz6_10 := blk_frozen HGz6 10; have hfz6_11 := blk_frozen HGz6 11; clear HGz6 hgz6) | ((with_reducible refine gate_callee (f := 128) rfl ?_); refine goesL_ (some 20) rfl rfl Tryd.func128 q2_ rfl #[.string t386, .int .i64 2] rfl tS ?_; (with_reducible refine (ostiaryref1_Percent.calls k t386 2 t388 _ A5.out).mono ?_); rintro e w' ⟨rfl, ⟨nd, rfl⟩⟩; refine ⟨_, rfl, ?_⟩))
  go_ret
  exact ⟨by first | rfl | (simp [errW_none, errW_some] <;> rfl) | (simp [*, errW_none, errW_some] <;> rfl), by repeat (first | (with_reducible first | exact HI0.out | apply IsS86.alloc | apply IsS86.drewN | apply IsS86.drew | apply IsS86.set_0 | apply IsS86.set_1 | apply IsS86.set_2 | apply IsS86.set_3 | apply IsS86.set_4 | apply IsS86.set_5 | apply IsS86.set_6 | apply IsS86.set_8 | apply IsS86.set_9 | apply IsS86.set_10 | apply IsS86.set_11) | exact HI0.out), by repeat (first | (with_reducible first | exact HB.out | apply below_alloc | apply pw_below_drewN | apply below_drew1 | refine below_set ?_ (IsS86.ge HI0.out)) | exact HB.out), by repeat (first | (with_reducible first | exact HK.out | apply KeepBut.set_ | apply keep_drewN | apply keep_drew | apply keep_alloc) | exact HK.out)⟩
 ·replace c4 := Bool.eq_false_iff.mpr c4
  subst c4
  have H1 : (some (t385, s0_0, s0_1, s0_2, s0_3, s0_4, s0_5, s0_6, s0_8, s0_9, s0_10, s0_11)) = some (r1, r2, r3, r4, r5, r6, r7, r8, r9, r10, r11, r12) := by rw [if_neg (show ¬ (false = true) by decide)] at H; exact H
  clear H
  have H := H1
  clear H1
  simp only [Option.some.injEq, Prod.mk.injEq] at H
  obtain ⟨rfl, rfl, rfl, rfl, rfl, rfl, rfl, rfl, rfl, rfl, rfl, rfl⟩ := H
  go_enter Tryd.func107, Tryd.ntmps107
  go_wp2_with (first | ((with_reducible refine gate_callee (f := 61) rfl ?_); refine goesL_ (some 10) rfl rfl Tryd.func61 q2_ rfl #[.string a1, .int .u8 35] rfl tS ?_; (with_reducible refine (ostiaryref1_Part.calls k a1 35 t385 t386 false _ A3.out).mono ?_); rintro e w' ⟨rfl, ⟨nd, rfl⟩⟩; refine ⟨_, rfl, ?_⟩))
  go_ret
  exact ⟨by first | rfl | (simp [errW_none, errW_some] <;> rfl) | (simp [*, errW_none, errW_some] <;> rfl), by repeat (first | (with_reducible first | exact HI0.out | apply IsS86.alloc | apply IsS86.drewN | apply IsS86.drew | apply IsS86.set_0 | apply IsS86.set_1 | apply IsS86.set_2 | apply IsS86.set_3 | apply IsS86.set_4 | apply IsS86.set_5 | apply IsS86.set_6 | apply IsS86.set_8 | apply IsS86.set_9 | apply IsS86.set_10 | apply IsS86.set_11) | exact HI0.out), by repeat (first | (with_reducible first | exact HB.out | apply below_alloc | apply pw_below_drewN | apply below_drew1 | refine below_set ?_ (IsS86.ge HI0.out)) | exact HB.out), by repeat (first | (with_reducible first | exact HK.out | apply KeepBut.set_ | apply keep_drewN | apply keep_drew | apply keep_alloc) | exact HK.out)⟩
end Go.Proofs.YtifmkgkiipckbaaDoor.P
namespace Go.Proofs.YtifmkgkiipckbaaDoor.P
open Go.RowKit Go.Proofs.YtifmkgkiipckbaaDoorW.PrintWords Go.Proofs.YtifmkgkiipckbaaDoorW.PrintLast Go.Proofs.YtifmkgkiipckbaaDoorW.PrintMore
attribute [local go_sem] max2_int min2_int max_two min_two max_three min_three max_four min_four
set_option linter.unusedVariables false
set_option linter.unusedSimpArgs false
def ostiaryref1_Digit.f (a0 : Int) : Option (Bool) := if a0 ≥ 48 then (some (decide (a0 ≤ 57))) else (some false)
set_option maxHeartbeats 8000000 in
set_option maxRecDepth 100000 in
theorem ostiaryref1_Digit.calls (a0 : Int) (r : Bool) (w : World) (h : ostiaryref1_Digit.f a0 = some r) :
  Calls Tryd.prog 130 #[.int .u8 a0] w fun e w' => e = .returned (.bool r) ∧ Drawn0 w w' := by
 have H : (if a0 ≥ 48 then (some (decide (a0 ≤ 57))) else (some false)) = some r := h
 clear h
 by_cases c2 : a0 ≥ 48
 ·rw [if_pos c2] at H
  have c2b0 : decide (48 ≤ a0) = true := decide_eq_true c2
  clear c2
  obtain rfl := Option.some.inj H
  go_enter Tryd.func130, Tryd.ntmps130
  go_wp2
  go_ret
  exact ⟨rS, by repeat (first | exact Drawn0.refl _ | apply Drawn0.step)⟩
 ·rw [if_neg c2] at H
  have c2b0 : decide (48 ≤ a0) = false := decide_eq_false c2
  clear c2
  obtain rfl := Option.some.inj H
  go_enter Tryd.func130, Tryd.ntmps130
  go_wp2
  go_ret
  exact ⟨rS, by repeat (first | exact Drawn0.refl _ | apply Drawn0.step)⟩
end Go.Proofs.YtifmkgkiipckbaaDoor.P
namespace Go.Proofs.YtifmkgkiipckbaaDoor.P
open Go.RowKit Go.Proofs.YtifmkgkiipckbaaDoorW.PrintWords Go.Proofs.YtifmkgkiipckbaaDoorW.PrintLast Go.Proofs.YtifmkgkiipckbaaDoorW.PrintMore
attribute [local go_sem] max2_int min2_int max_two min_two max_three min_three max_four min_four
set_option linter.unusedVariables false
set_option linter.unusedSimpArgs false
def ostiaryref1_Int.l0 : Nat → ByteArray → Int → Int → Option (Int × Bool)
 | 0, _, _, _ => none
 | k + 1, x0, x4, x5 => if x5 < (x0.size : Int) then (if 0 ≤ x5 then ((ostiaryref1_Digit.f (bt x0 x5)).bind fun t330 => (if t330 = true then (if x4 > ((9223372036854775807 - (((bt x0 x5) - 48) % 256)) / 10) then (ostiaryref1_Int.l0 k x0 9223372036854775807 (wrap64 (x5 + 1))) else (ostiaryref1_Int.l0 k x0 (wrap64 ((wrap64 (x4 * 10)) + (((bt x0 x5) - 48) % 256))) (wrap64 (x5 + 1)))) else (some (0, false)))) else (none)) else (some (x4, decide ((x0.size : Int) > 0)))
def ostiaryref1_Int.f (k : Nat) (a0 : ByteArray) : Option (Int × Bool) := ostiaryref1_Int.l0 k a0 0 0
theorem ostiaryref1_Int.mono_l : ∀ k, (∀ y0 y1 y2, LeO (ostiaryref1_Int.l0 k y0 y1 y2) (ostiaryref1_Int.l0 (k + 1) y0 y1 y2))
 | 0 => fun _ _ _ r h => by simp [ostiaryref1_Int.l0] at h
 | k + 1 => by
  have ih0 := ostiaryref1_Int.mono_l k
  ·intro y0 y1 y2
   unfold ostiaryref1_Int.l0
   exact lO
theorem ostiaryref1_Int.mono : ∀ a0 k, LeO (ostiaryref1_Int.f k a0) (ostiaryref1_Int.f (k + 1) a0) := by
 intro a0 k
 have ih0 := ostiaryref1_Int.mono_l k
 unfold ostiaryref1_Int.f
 exact lO
set_option maxHeartbeats 8000000 in
set_option maxRecDepth 100000 in
theorem ostiaryref1_Int.calls (k : Nat) (a0 : ByteArray) (r1 : Int) (r2 : Bool) (w : World) (h : ostiaryref1_Int.f k a0 = some (r1, r2)) :
  Calls Tryd.prog 181 #[.string a0] w fun e w' => e = .returned (.tuple #[.int .i64 r1, .bool r2]) ∧ Drawn0 w w' := by
 have H : (ostiaryref1_Int.l0 k a0 0 0) = some (r1, r2) := h
 clear h
 have H' := Aside0.mk H
 clear H
 go_enter Tryd.func181, Tryd.ntmps181
 go_wp2
 go_loopg [4, 5] k (fun kq v4 v5 w' => ∃ (x4_1 : Int) (x5_1 : Int), v4 = .int .i64 x4_1 ∧ v5 = .int .i64 x5_1 ∧ Aside0 (ostiaryref1_Int.l0 kq a0 x4_1 x5_1 = some (r1, r2)) ∧ Aside0 (kq ≤ k) ∧ Drawn0 w w')
 case atStart => exact ⟨(0), (0), rS, rS, H', ⟨Nat.le_refl _⟩, by repeat (first | exact Drawn0.refl _ | apply Drawn0.step)⟩
 case round =>
  clear H'
  try clear c1
  obtain ⟨x4_1, x5_1, rfl, rfl, HA, HK1, ⟨m1, rfl⟩⟩ := hrel
  cases gk with
  | zero => exact absurd HA.out (by simp [ostiaryref1_Int.l0])
  | succ k1 =>
   have H := HA.out
   clear HA
   simp only [ostiaryref1_Int.l0] at H
   by_cases c2 : x5_1 < (a0.size : Int)
   ·rw [if_pos c2] at H
    have c2b0 : decide (x5_1 < (a0.size : Int)) = true := decide_eq_true c2
    clear c2
    by_cases c3 : 0 ≤ x5_1
    ·rw [if_pos c3] at H
     have c3b0 : decide (0 ≤ x5_1) = true := decide_eq_true c3
     clear c3
     replace H := Option.bind_eq_some_iff.mp H
     obtain ⟨t330, A50, H⟩ := H
     replace H : (if t330 = true then (if x4_1 > ((9223372036854775807 - (((bt a0 x5_1) - 48) % 256)) / 10) then (ostiaryref1_Int.l0 k1 a0 9223372036854775807 (wrap64 (x5_1 + 1))) else (ostiaryref1_Int.l0 k1 a0 (wrap64 ((wrap64 (x4_1 * 10)) + (((bt a0 x5_1) - 48) % 256))) (wrap64 (x5_1 + 1)))) else (some (0, false))) = some (r1, r2) := H
     have A5 := Aside0.mk A50
     clear A50
     by_cases c6 : t330 = true
     ·subst c6
      have H1 : (if x4_1 > ((9223372036854775807 - (((bt a0 x5_1) - 48) % 256)) / 10) then (ostiaryref1_Int.l0 k1 a0 9223372036854775807 (wrap64 (x5_1 + 1))) else (ostiaryref1_Int.l0 k1 a0 (wrap64 ((wrap64 (x4_1 * 10)) + (((bt a0 x5_1) - 48) % 256))) (wrap64 (x5_1 + 1)))) = some (r1, r2) := by rw [if_pos rfl] at H; exact H
      clear H
      have H := H1
      clear H1
      by_cases c8 : x4_1 > ((9223372036854775807 - (((bt a0 x5_1) - 48) % 256)) / 10)
      ·rw [if_pos c8] at H
       have c8b0 : decide (((9223372036854775807 - (((bt a0 x5_1) - 48) % 256)) / 10) < x4_1) = true := decide_eq_true c8
       clear c8
       have H' := Aside0.mk H
       clear H
       have p4 : 0 ≤ (x5_1 : Int) := of_decide_eq_true aS
       have q4 : x5_1 < (a0.size : Int) := of_decide_eq_true aS
       have hx4 := bt_at a0 x5_1
       replace p4 := eq_true p4
       replace q4 := eq_true q4
       go_wp2_with (first | ((with_reducible refine gate_callee (f := 130) rfl ?_); refine goesL_ (some 16) rfl rfl Tryd.func130 q2_ rfl #[.int .u8 (bt a0 x5_1)] rfl tS ?_; (with_reducible refine (ostiaryref1_Digit.calls (bt a0 x5_1) true _ A5.out).mono ?_); rintro e w' ⟨rfl, ⟨nd, rfl⟩⟩; refine ⟨_, rfl, ?_⟩; have p7 : 0 ≤ (x5_1 : Int) := of_decide_eq_true aS; have q7 : x5_1 < (a0.size : Int) := of_decide_eq_true aS; have hx7 := bt_at a0 x5_1; replace p7 := eq_true p7; replace q7 := eq_true q7))
       go_roundg k1
       case measure => have := HK1.out; omega
       case rel => exact ⟨(9223372036854775807), (wrap64 (x5_1 + 1)), rS, rS, H', ⟨by have := HK1.out; omega⟩, by repeat (first | exact Drawn0.refl _ | apply Drawn0.step)⟩
      ·rw [if_neg c8] at H
       have c8b0 : decide (((9223372036854775807 - (((bt a0 x5_1) - 48) % 256)) / 10) < x4_1) = false := decide_eq_false c8
       clear c8
       have H' := Aside0.mk H
       clear H
       have p4 : 0 ≤ (x5_1 : Int) := of_decide_eq_true aS
       have q4 : x5_1 < (a0.size : Int) := of_decide_eq_true aS
       have hx4 := bt_at a0 x5_1
       replace p4 := eq_true p4
       replace q4 := eq_true q4
       go_wp2_with (first | ((with_reducible refine gate_callee (f := 130) rfl ?_); refine goesL_ (some 16) rfl rfl Tryd.func130 q2_ rfl #[.int .u8 (bt a0 x5_1)] rfl tS ?_; (with_reducible refine (ostiaryref1_Digit.calls (bt a0 x5_1) true _ A5.out).mono ?_); rintro e w' ⟨rfl, ⟨nd, rfl⟩⟩; refine ⟨_, rfl, ?_⟩; have p7 : 0 ≤ (x5_1 : Int) := of_decide_eq_true aS; have q7 : x5_1 < (a0.size : Int) := of_decide_eq_true aS; have hx7 := bt_at a0 x5_1; replace p7 := eq_true p7; replace q7 := eq_true q7))
       go_roundg k1
       case measure => have := HK1.out; omega
       case rel => exact ⟨(wrap64 ((wrap64 (x4_1 * 10)) + (((bt a0 x5_1) - 48) % 256))), (wrap64 (x5_1 + 1)), rS, rS, H', ⟨by have := HK1.out; omega⟩, by repeat (first | exact Drawn0.refl _ | apply Drawn0.step)⟩
     ·replace c6 := Bool.eq_false_iff.mpr c6
      subst c6
      have H1 : (some (0, false)) = some (r1, r2) := by rw [if_neg (show ¬ (false = true) by decide)] at H; exact H
      clear H
      have H := H1
      clear H1
      simp only [Option.some.injEq, Prod.mk.injEq] at H
      obtain ⟨rfl, rfl⟩ := H
      have p4 : 0 ≤ (x5_1 : Int) := of_decide_eq_true aS
      have q4 : x5_1 < (a0.size : Int) := of_decide_eq_true aS
      have hx4 := bt_at a0 x5_1
      replace p4 := eq_true p4
      replace q4 := eq_true q4
      go_wp2_with (first | ((with_reducible refine gate_callee (f := 130) rfl ?_); refine goesL_ (some 16) rfl rfl Tryd.func130 q2_ rfl #[.int .u8 (bt a0 x5_1)] rfl tS ?_; (with_reducible refine (ostiaryref1_Digit.calls (bt a0 x5_1) false _ A5.out).mono ?_); rintro e w' ⟨rfl, ⟨nd, rfl⟩⟩; refine ⟨_, rfl, ?_⟩))
      go_ret2
      exact ⟨rS, by repeat (first | exact Drawn0.refl _ | apply Drawn0.step)⟩
    ·rw [if_neg c3] at H
     exact absurd H (by simp)
   ·rw [if_neg c2] at H
    have c2b0 : decide (x5_1 < (a0.size : Int)) = false := decide_eq_false c2
    clear c2
    simp only [Option.some.injEq, Prod.mk.injEq] at H
    obtain ⟨rfl, rfl⟩ := H
    go_wp2
    go_ret2
    exact ⟨rS, by repeat (first | exact Drawn0.refl _ | apply Drawn0.step)⟩
end Go.Proofs.YtifmkgkiipckbaaDoor.P
namespace Go.Proofs.YtifmkgkiipckbaaDoor.P
open Go.RowKit
set_option linter.unusedVariables false
set_option linter.unusedSimpArgs false
def BRow (w : World) (B : Nat) (xs : List UInt8) : Prop :=
 ∃ (cs : Array Value) (e : Nat) (lo hi : Nat), w.heap[B]? = some (.cells cs e (lo, hi)) ∧ xs.length ≤ cs.size ∧ (∀ j (h : j < xs.length), cs[j]? = some (.int .u8 (xs[j]'h).toNat)) ∧ (xs.length ≤ lo ∨ hi ≤ lo)
theorem BRow.cell {w : World} {B : Nat} {xs : List UInt8} (h : BRow w B xs) (j : Nat) (hj : j < xs.length) : w.cell? ⟨B, j, none⟩ = some (.int .u8 (xs[j]'hj).toNat) := by
 obtain ⟨cs, e, lo, hi, hb, h1, h2, h3⟩ := h
 simp [World.cell?, hb, h2 j hj]
theorem BRow.free {w : World} {B : Nat} {xs : List UInt8} (h : BRow w B xs) (j : Nat) (hj : j < xs.length) : w.frozen? ⟨B, j, none⟩ = false := by
 obtain ⟨cs, e, lo, hi, hb, h1, h2, h3⟩ := h
 simp [World.frozen?, hb]
 omega
theorem BRow.set {w : World} {B : Nat} {xs : List UInt8} (h : BRow w B xs) (j : Nat) (hj : j < xs.length) (c : UInt8) : BRow (w.setCell ⟨B, j, none⟩ (.int .u8 c.toNat)) B (xs.set j c) := by
 obtain ⟨cs, e, lo, hi, hb, h1, h2, h3⟩ := h
 refine ⟨cs.setIfInBounds j (.int .u8 c.toNat), e, lo, hi, ?_, by simpa using h1, ?_, by simpa using h3⟩
 ·simp [World.setCell, Array.getElem?_modify, hb]
 ·intro i hi'
  have hi2 : i < xs.length := by simpa using hi'
  by_cases hij : j = i
  ·subst hij
   simp [show j < cs.size by omega]
  ·have := h2 i hi2
   simpa [hij] using this
theorem BRow.lt {w : World} {B : Nat} {xs : List UInt8} (h : BRow w B xs) : B < w.heap.size := by
 obtain ⟨cs, e, lo, hi, hb, _⟩ := h
 exact (Array.getElem?_eq_some_iff.1 hb).1
theorem BRow.below {w w' : World} {B : Nat} {xs : List UInt8} (h : BRow w B xs) (hb : Below w.heap.size w w') : BRow w' B xs := by
 have hl := h.lt
 obtain ⟨cs, e, lo, hi, h0, h1⟩ := h
 exact ⟨cs, e, lo, hi, (hb.block B hl).trans h0, h1⟩
theorem BRow.bytesWorld (w : World) (e : TypeId) (s : ByteArray) : BRow (Lib.bytesWorld w e s) w.heap.size s.data.toList := by
 refine ⟨_, _, _, _, Lib.bytesWorld_at_new w e s, ?_, ?_, ?_⟩
 ·simp [Lib.bytesCells]
 ·intro j hj
  have hj' : j < s.data.size := by simpa using hj
  have hj2 : j < s.size := hj'
  simp [Lib.bytesCells, Array.getElem?_append, hj2, hj']
 ·simp [Lib.bytesCells]
theorem below_bytesWorld (w : World) (e : TypeId) (s : ByteArray) : Below w.heap.size w (Lib.bytesWorld w e s) := by
 refine ⟨?_, ?_, ?_, ?_, fun j hj => Lib.bytesWorld_at_old w e s j hj⟩
 ·simp [Lib.bytesWorld, World.freeze, World.alloc, World.drew, -World.alloc_eq, -World.drew_eq]
 ·simp [Lib.bytesWorld, World.freeze, World.alloc, World.drew, -World.alloc_eq, -World.drew_eq]
 ·simp [Lib.bytesWorld, World.freeze, World.alloc, World.drew, -World.alloc_eq, -World.drew_eq]
 ·rw [Lib.bytesWorld_size]; omega
theorem BRow.back {P : Program} {w : World} {B : Nat} {xs : List UInt8} (h : BRow w B xs) (n : Nat) (hn : xs.length = n) (src dst e : TypeId) (hs : P.underlying src = some (.slice e)) (he : P.underlying e = some (.int .u8)) (hd : P.underlying dst = some .string) (cap : Nat) :
  (convert src dst (.slice (some ⟨B, 0, none⟩) n cap)).run P w = .ok (.string ⟨xs.toArray⟩) w := by
 subst hn
 refine run_convert_bytes_back w src dst e ⟨B, 0, none⟩ cap xs hs he hd fun j hj => ?_
 rw [show (⟨B, 0, none⟩ : Addr).add j = ⟨B, j, none⟩ by unfold Addr.add; split <;> simp_all]
 exact h.cell j hj
def mapTo (f : UInt8 → UInt8) (k : Nat) (l : List UInt8) : List UInt8 := (l.take k).map f ++ l.drop k
theorem mapTo_len (f : UInt8 → UInt8) (k : Nat) (l : List UInt8) : (mapTo f k l).length = l.length := by
 simp [mapTo]; omega
theorem mapTo_at (f : UInt8 → UInt8) (k : Nat) (l : List UInt8) (hk : k < l.length) : (mapTo f k l)[k]'(by rw [mapTo_len]; exact hk) = l[k] := by
 simp [mapTo, Nat.min_eq_left (Nat.le_of_lt hk)]
theorem mapTo_set (f : UInt8 → UInt8) (k : Nat) (l : List UInt8) (hk : k < l.length) : (mapTo f k l).set k (f l[k]) = mapTo f (k + 1) l := by
 apply List.ext_getElem
 ·simp [mapTo_len]
 ·intro i h1 h2
  simp only [mapTo, List.getElem_set, List.getElem_append, List.length_map, List.length_take, List.getElem_map, List.getElem_take, List.getElem_drop]
  simp only [List.length_set, mapTo_len] at h1
  split
  ·subst_vars; simp; intro h; omega
  ·split <;> split <;> first | rfl | omega | (congr 1; omega)
theorem mapTo_same (f : UInt8 → UInt8) (k : Nat) (l : List UInt8) (hk : k < l.length) (h : f l[k] = l[k]) : mapTo f k l = mapTo f (k + 1) l := by
 rw [← mapTo_set f k l hk, h, ← mapTo_at f k l hk, List.set_getElem_self]
theorem mapTo_zero (f : UInt8 → UInt8) (l : List UInt8) : mapTo f 0 l = l := by simp [mapTo]
theorem mapTo_all (f : UInt8 → UInt8) (k : Nat) (l : List UInt8) (h : l.length ≤ k) : mapTo f k l = l.map f := by
 simp [mapTo, List.take_of_length_le h, List.drop_eq_nil_of_le h]
def lowB (c : UInt8) : UInt8 := if 65 ≤ c ∧ c ≤ 90 then c + 32 else c
def lowS (s : ByteArray) : ByteArray := ⟨s.data.map lowB⟩
theorem lowB_up {c : UInt8} (h1 : 65 ≤ c.toNat) (h2 : c.toNat ≤ 90) : (lowB c).toNat = c.toNat + 32 := by
 have a : 65 ≤ c := UInt8.le_iff_toNat_le.2 h1
 have b : c ≤ 90 := UInt8.le_iff_toNat_le.2 h2
 simp [lowB, a, b, UInt8.toNat_add]
 omega
theorem lowB_no {c : UInt8} (h : ¬ (65 ≤ c.toNat ∧ c.toNat ≤ 90)) : lowB c = c := by
 unfold lowB
 rw [if_neg]
 intro ⟨a, b⟩
 exact h ⟨UInt8.le_iff_toNat_le.1 a, UInt8.le_iff_toNat_le.1 b⟩
theorem lowS_eq (s : ByteArray) : (⟨(s.data.toList.map lowB).toArray⟩ : ByteArray) = lowS s := by
 unfold lowS
 congr 1
 apply Array.toList_inj.1
 simp
theorem lowS_size (s : ByteArray) : (lowS s).size = s.size := by
 show (s.data.map lowB).size = _
 simp
end Go.Proofs.YtifmkgkiipckbaaDoor.P
namespace Go.Proofs.YtifmkgkiipckbaaDoor.P
open Go.RowKit
set_option linter.unusedVariables false
set_option linter.unusedSimpArgs false
set_option maxHeartbeats 400000 in
theorem ref_lower (s : ByteArray) (w : World) (hs : s.size ≤ 140737488355327) :
    Calls Tryd.prog 95 #[.string s] w fun e w' => e = .returned (.string (lowS s)) ∧ Below w.heap.size w w' := by
  have hcv := fun (W : World) => Lib.run_convert_string_bytes (P := Tryd.prog) W 9 34 5 s Tryd.underlying9 Tryd.underlying34 Tryd.underlying5
  have hb0 := below_bytesWorld w 5 s
  have hr0 := BRow.bytesWorld w 5 s
  go_enter Tryd.func95, Tryd.ntmps95
  go_wp2
  generalize Lib.bytesWorld w 5 s = w1 at hb0 hr0
  clear hcv
  go_loopw [4] (fun i wr => ∃ k : Nat, k ≤ s.size ∧ i = .int .i64 k ∧ BRow wr w.heap.size (mapTo lowB k s.data.toList) ∧ Below w.heap.size w wr) (fun i _ => s.size - (intOf i).toNat)
  case atStart => exact ⟨0, Nat.zero_le _, rfl, by rw [mapTo_zero]; exact hr0, hb0⟩
  case round =>
    clear hb0 hr0
    obtain ⟨k, hk, rfl, hr, hb⟩ := hrel
    by_cases hlt : k < s.size
    · have hkl : k < s.data.toList.length := by simpa using hlt
      have hc := hr.cell k (by rw [mapTo_len]; exact hkl)
      have hf := hr.free k (by rw [mapTo_len]; exact hkl)
      rw [mapTo_at lowB k _ hkl] at hc
      have HS := hr.set k (by rw [mapTo_len]; exact hkl) (lowB s.data.toList[k])
      rw [mapTo_set lowB k _ hkl] at HS
      have HN : lowB s.data.toList[k] = s.data.toList[k] → BRow wr w.heap.size (mapTo lowB (k + 1) s.data.toList) := fun h => mapTo_same lowB k _ hkl h ▸ hr
      have HB := hb.setCell (p := ⟨w.heap.size, k, none⟩) (Nat.le_refl _) (.int .u8 ((lowB s.data.toList[k]).toNat : Int))
      generalize s.data.toList[k] = c at hc HS HN HB
      have H1 := Lib.hid HS
      have H2 := Lib.hid HB
      have H3 := Lib.hid HN
      have H4 := Lib.hid hb
      clear HS HB HN hb hr
      by_cases c1 : 65 ≤ c.toNat ∧ c.toNat ≤ 90
      · have h1 : (65 : Int) ≤ c.toNat := by omega
        have h2 : (c.toNat : Int) ≤ 90 := by omega
        have HL := Lib.hid (show ((lowB c).toNat : Int) = (c.toNat : Int) + 32 by rw [lowB_up c1.1 c1.2]; omega)
        clear c1
        go_wp2
        go_roundw
        case rel => exact ⟨k + 1, by omega, by go_num, HL.out ▸ H1.out, HL.out ▸ H2.out⟩
        case measure => simp [intOf]; omega
      · have HL := Lib.hid (lowB_no c1)
        have c2 : (65 : Int) ≤ c.toNat → (90 : Int) < c.toNat := by omega
        clear c1
        go_wp2
        all_goals first
          | (exfalso; omega)
          | (go_roundw
             case rel => exact ⟨k + 1, by omega, by go_num, H3.out HL.out, H4.out⟩
             case measure => simp [intOf]; omega)
    · have hk2 : s.size = k := by omega
      have HK := Lib.hid hk2
      clear hk2
      rw [mapTo_all lowB k _ (by simp; omega)] at hr
      have hcb := fun (cap : Nat) => hr.back (P := Tryd.prog) s.size (by simp) 34 9 5 Tryd.underlying34 Tryd.underlying5 Tryd.underlying9 cap
      clear hr
      go_wp2
      go_ret
      exact ⟨congrArg (fun x => Ending.returned (.string x)) (lowS_eq s), hb⟩
def ostiaryref1_Lower.f (a0 : ByteArray) : Option ByteArray := if a0.size ≤ 140737488355327 then some (lowS a0) else none
theorem ostiaryref1_Lower.calls (a0 : ByteArray) (r : ByteArray) (w : World) (h : ostiaryref1_Lower.f a0 = some r) :
    Calls Tryd.prog 95 #[.string a0] w fun e w' => e = .returned (.string r) ∧ Below w.heap.size w w' := by
  unfold ostiaryref1_Lower.f at h
  split at h
  · injection h with h
    subst h
    exact ref_lower a0 w ‹_›
  · simp at h
set_option maxHeartbeats 400000 in
theorem lower_lit (c : UInt8) (W : World) : Calls Tryd.prog 91 #[.int .u8 c.toNat] W fun e w' => e = .returned (.int .u8 (lowB c).toNat) ∧ w' = W := by
  by_cases c1 : 65 ≤ c.toNat ∧ c.toNat ≤ 90
  · have h1 : (65 : Int) ≤ c.toNat := by omega
    have h2 : (c.toNat : Int) ≤ 90 := by omega
    have HL := Lib.hid (show ((lowB c).toNat : Int) = (c.toNat : Int) + 32 by rw [lowB_up c1.1 c1.2]; omega)
    clear c1
    go_enter Tryd.func91, Tryd.ntmps91
    go_wp2
    go_ret
    exact ⟨by rw [HL.out]; rfl, rfl⟩
  · have HL := Lib.hid (lowB_no c1)
    have c2 : (65 : Int) ≤ c.toNat → (90 : Int) < c.toNat := by omega
    clear c1
    go_enter Tryd.func91, Tryd.ntmps91
    go_wp2
    all_goals first
      | (exfalso; omega)
      | (go_ret; exact ⟨by rw [HL.out]; rfl, rfl⟩)
set_option maxHeartbeats 400000 in
theorem mapped_lower (s : ByteArray) (w : World) (hs : s.size ≤ 140737488355327) :
    Calls Tryd.prog 90 #[.string s, .func (.func 91) #[] #[]] w fun e w' => e = .returned (.string (lowS s)) ∧ Below w.heap.size w w' := by
  have hcv := fun (W : World) => Lib.run_convert_string_bytes (P := Tryd.prog) W 9 34 5 s Tryd.underlying9 Tryd.underlying34 Tryd.underlying5
  have hb0 := below_bytesWorld w 5 s
  have hr0 := BRow.bytesWorld w 5 s
  have eg : ∀ args w, (callFunc 91 args).run Tryd.prog w = .ok (.enter 91 args) w := enters_of Tryd.func91 q2_ rfl
  go_enter Tryd.func90, Tryd.ntmps90
  go_wp2
  generalize Lib.bytesWorld w 5 s = w1 at hb0 hr0
  clear hcv
  go_loopw [12, 6, 7] (fun i _ _ wr => ∃ k : Nat, k ≤ s.size ∧ i = .int .i64 k ∧ BRow wr w.heap.size (mapTo lowB k s.data.toList) ∧ Below w.heap.size w wr) (fun i _ _ _ => s.size - (intOf i).toNat)
  case atStart => exact ⟨0, Nat.zero_le _, rfl, by rw [mapTo_zero]; exact hr0, hb0⟩
  case round =>
    clear hb0 hr0
    obtain ⟨k, hk, rfl, hr, hb⟩ := hrel
    by_cases hlt : k < s.size
    · have hkl : k < s.data.toList.length := by simpa using hlt
      have hc := hr.cell k (by rw [mapTo_len]; exact hkl)
      have hf := hr.free k (by rw [mapTo_len]; exact hkl)
      rw [mapTo_at lowB k _ hkl] at hc
      have HS := hr.set k (by rw [mapTo_len]; exact hkl) (lowB s.data.toList[k])
      rw [mapTo_set lowB k _ hkl] at HS
      have HB := hb.setCell (p := ⟨w.heap.size, k, none⟩) (Nat.le_refl _) (.int .u8 ((lowB s.data.toList[k]).toNat : Int))
      generalize s.data.toList[k] = c at hc HS HB
      have H1 := Lib.hid HS
      have H2 := Lib.hid HB
      clear HS HB hb hr
      go_wp2_with (go_at_call 91; refine (lower_lit c _).mono ?_; rintro e w' ⟨rfl, rfl⟩)
      go_roundw
      case rel => exact ⟨k + 1, by omega, by go_num, H1.out, H2.out⟩
      case measure => simp [intOf]; omega
    · have hk2 : s.size = k := by omega
      have HK := Lib.hid hk2
      clear hk2
      rw [mapTo_all lowB k _ (by simp; omega)] at hr
      have hcb := fun (cap : Nat) => hr.back (P := Tryd.prog) s.size (by simp) 34 9 5 Tryd.underlying34 Tryd.underlying5 Tryd.underlying9 cap
      clear hr
      go_wp2
      go_ret
      exact ⟨congrArg (fun x => Ending.returned (.string x)) (lowS_eq s), hb⟩
def infra_Lower.f (a0 : ByteArray) : Option ByteArray := if a0.size ≤ 140737488355327 then some (lowS a0) else none
set_option maxHeartbeats 400000 in
theorem infra_Lower.calls (a0 : ByteArray) (r : ByteArray) (w : World) (h : infra_Lower.f a0 = some r) :
    Calls Tryd.prog 53 #[.string a0] w fun e w' => e = .returned (.string r) ∧ Below w.heap.size w w' := by
  unfold infra_Lower.f at h
  split at h
  · rename_i hs
    injection h with h
    subst h
    go_enter Tryd.func53, Tryd.ntmps53
    go_wp2_with (go_at_call 90; refine (mapped_lower a0 _ hs).mono ?_; rintro e w' ⟨rfl, hb⟩)
    go_ret
    exact ⟨rfl, hb⟩
  · simp at h
end Go.Proofs.YtifmkgkiipckbaaDoor.P
namespace Go.Proofs.YtifmkgkiipckbaaDoor.P
open Go.RowKit Go.Proofs.YtifmkgkiipckbaaDoorW.PrintWords Go.Proofs.YtifmkgkiipckbaaDoorW.PrintLast Go.Proofs.YtifmkgkiipckbaaDoorW.PrintMore
attribute [local go_sem] max2_int min2_int max_two min_two max_three min_three max_four min_four
set_option linter.unusedVariables false
set_option linter.unusedSimpArgs false
def ostiaryref1_Begins.f (a0 : ByteArray) (a1 : ByteArray) : Option (Bool) := if (a0.size : Int) ≥ (a1.size : Int) then (if 0 ≤ (a1.size : Int) then (if (a1.size : Int) ≤ (a0.size : Int) then (some ((a0.extract 0 ((a1.size : Int) : Int).toNat).toList == a1.toList)) else (none)) else (none)) else (some false)
set_option maxHeartbeats 8000000 in
set_option maxRecDepth 100000 in
theorem ostiaryref1_Begins.calls (a0 : ByteArray) (a1 : ByteArray) (r : Bool) (w : World) (h : ostiaryref1_Begins.f a0 a1 = some r) :
  Calls Tryd.prog 134 #[.string a0, .string a1] w fun e w' => e = .returned (.bool r) ∧ Drawn0 w w' := by
 have H : (if (a0.size : Int) ≥ (a1.size : Int) then (if 0 ≤ (a1.size : Int) then (if (a1.size : Int) ≤ (a0.size : Int) then (some ((a0.extract 0 ((a1.size : Int) : Int).toNat).toList == a1.toList)) else (none)) else (none)) else (some false)) = some r := h
 clear h
 by_cases c3 : (a0.size : Int) ≥ (a1.size : Int)
 ·rw [if_pos c3] at H
  have c3b0 : decide ((a1.size : Int) ≤ (a0.size : Int)) = true := decide_eq_true c3
  have c3b1 : decide (a1.size ≤ a0.size) = true := decide_eq_true (Int.ofNat_le.mp c3)
  clear c3
  by_cases c4 : 0 ≤ (a1.size : Int)
  ·rw [if_pos c4] at H
   have c4b0 := eq_true c4
   have c4b1 : decide (0 ≤ (a1.size : Int)) = true := decide_eq_true c4
   clear c4
   by_cases c5 : (a1.size : Int) ≤ (a0.size : Int)
   ·rw [if_pos c5] at H
    have c5b0 := eq_true c5
    have c5b1 : decide ((a1.size : Int) ≤ (a0.size : Int)) = true := decide_eq_true c5
    clear c5
    obtain rfl := Option.some.inj H
    go_enter Tryd.func134, Tryd.ntmps134
    go_wp2
    go_ret
    exact ⟨rS, by repeat (first | exact Drawn0.refl _ | apply Drawn0.step)⟩
   ·rw [if_neg c5] at H
    exact absurd H (by simp)
  ·rw [if_neg c4] at H
   exact absurd H (by simp)
 ·rw [if_neg c3] at H
  have c3b0 : decide ((a1.size : Int) ≤ (a0.size : Int)) = false := decide_eq_false c3
  have c3b1 : decide (a1.size ≤ a0.size) = false := decide_eq_false (fun h => c3 (Int.ofNat_le.mpr h))
  clear c3
  obtain rfl := Option.some.inj H
  go_enter Tryd.func134, Tryd.ntmps134
  go_wp2
  go_ret
  exact ⟨rS, by repeat (first | exact Drawn0.refl _ | apply Drawn0.step)⟩
end Go.Proofs.YtifmkgkiipckbaaDoor.P
