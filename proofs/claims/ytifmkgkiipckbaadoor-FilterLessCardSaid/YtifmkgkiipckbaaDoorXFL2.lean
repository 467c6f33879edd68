/- A part of the proof of FL: texts of walks and plain lemmas. -/
import Derived.Test.YtifmkgkiipckbaaDoorXFL1
import Derived.Shelf.Abstract
namespace Go.Proofs.YtifmkgkiipckbaaDoor.P
open Go.RowKit
set_option linter.unusedVariables false
set_option linter.unusedSimpArgs false
set_option maxHeartbeats 400000 in
theorem ref_lower (s : ByteArray) (w : World) (hs : s.size ≤ 140737488355327) :
    Calls Tryd.prog 95 #[.string s] w fun e w' => e = .returned (.string (lowS s)) ∧ Below w.heap.size w w' := by
  have hcv := fun (W : World) => Lib.run_convert_string_bytes (P := Tryd.prog) W 9 34 5 s Tryd.underlying9 Tryd.underlying34 Tryd.underlying5
  have hb0 := below_bytesWorld w 5 s
  have hr0 := BRow.bytesWorld w 5 s
  go_enter Tryd.func95, Tryd.ntmps95
  go_wp2
  generalize Lib.bytesWorld w 5 s = w1 at hb0 hr0
  clear hcv
  go_loopw [4] (fun i wr => ∃ k : Nat, k ≤ s.size ∧ i = .int .i64 k ∧ BRow wr w.heap.size (mapTo lowB k s.data.toList) ∧ Below w.heap.size w wr) (fun i _ => s.size - (intOf i).toNat)
  case atStart => exact ⟨0, Nat.zero_le _, rfl, by rw [mapTo_zero]; exact hr0, hb0⟩
  case round =>
    clear hb0 hr0
    obtain ⟨k, hk, rfl, hr, hb⟩ := hrel
    by_cases hlt : k < s.size
    · have hkl : k < s.data.toList.length := by simpa using hlt
      have hc := hr.cell k (by rw [mapTo_len]; exact hkl)
      have hf := hr.free k (by rw [mapTo_len]; exact hkl)
      rw [mapTo_at lowB k _ hkl] at hc
      have HS := hr.set k (by rw [mapTo_len]; exact hkl) (lowB s.data.toList[k])
      rw [mapTo_set lowB k _ hkl] at HS
      have HN : lowB s.data.toList[k] = s.data.toList[k] → BRow wr w.heap.size (mapTo lowB (k + 1) s.data.toList) := fun h => mapTo_same lowB k _ hkl h ▸ hr
      have HB := hb.setCell (p := ⟨w.heap.size, k, none⟩) (Nat.le_refl _) (.int .u8 ((lowB s.data.toList[k]).toNat : Int))
      generalize s.data.toList[k] = c at hc HS HN HB
      have H1 := Lib.hid HS
      have H2 := Lib.hid HB
      have H3 := Lib.hid HN
      have H4 := Lib.hid hb
      clear HS HB HN hb hr
      by_cases c1 : 65 ≤ c.toNat ∧ c.toNat ≤ 90
      · have h1 : (65 : Int) ≤ c.toNat := by omega
        have h2 : (c.toNat : Int) ≤ 90 := by omega
        have HL := Lib.hid (show ((lowB c).toNat : Int) = (c.toNat : Int) + 32 by rw [lowB_up c1.1 c1.2]; omega)
        clear c1
        go_wp2
        go_roundw
        case rel => exact ⟨k + 1, by omega, by go_num, HL.out ▸ H1.out, HL.out ▸ H2.out⟩
        case measure => simp [intOf]; omega
      · have HL := Lib.hid (lowB_no c1)
        have c2 : (65 : Int) ≤ c.toNat → (90 : Int) < c.toNat := by omega
        clear c1
        go_wp2
        all_goals first
          | (exfalso; omega)
          | (go_roundw
             case rel => exact ⟨k + 1, by omega, by go_num, H3.out HL.out, H4.out⟩
             case measure => simp [intOf]; omega)
    · have hk2 : s.size = k := by omega
      have HK := Lib.hid hk2
      clear hk2
      rw [mapTo_all lowB k _ (by simp; omega)] at hr
      have hcb := fun (cap : Nat) => hr.back (P := Tryd.prog) s.size (by simp) 34 9 5 Tryd.underlying34 Tryd.underlying5 Tryd.underlying9 cap
      clear hr
      go_wp2
      go_ret
      exact ⟨congrArg (fun x => Ending.returned (.string x)) (lowS_eq s), hb⟩
def ostiaryref1_Lower.f (a0 : ByteArray) : Option ByteArray := if a0.size ≤ 140737488355327 then some (lowS a0) else none
theorem ostiaryref1_Lower.calls (a0 : ByteArray) (r : ByteArray) (w : World) (h : ostiaryref1_Lower.f a0 = some r) :
    Calls Tryd.prog 95 #[.string a0] w fun e w' => e = .returned (.string r) ∧ Below w.heap.size w w' := by
  unfold ostiaryref1_Lower.f at h
  split at h
  · injection h with h
    subst h
    exact ref_lower a0 w ‹_›
  · simp at h
set_option maxHeartbeats 400000 in
theorem lower_lit (c : UInt8) (W : World) : Calls Tryd.prog 91 #[.int .u8 c.toNat] W fun e w' => e = .returned (.int .u8 (lowB c).toNat) ∧ w' = W := by
  by_cases c1 : 65 ≤ c.toNat ∧ c.toNat ≤ 90
  · have h1 : (65 : Int) ≤ c.toNat := by omega
    have h2 : (c.toNat : Int) ≤ 90 := by omega
    have HL := Lib.hid (show ((lowB c).toNat : Int) = (c.toNat : Int) + 32 by rw [lowB_up c1.1 c1.2]; omega)
    clear c1
    go_enter Tryd.func91, Tryd.ntmps91
    go_wp2
    go_ret
    exact ⟨by rw [HL.out]; rfl, rfl⟩
  · have HL := Lib.hid (lowB_no c1)
    have c2 : (65 : Int) ≤ c.toNat → (90 : Int) < c.toNat := by omega
    clear c1
    go_enter Tryd.func91, Tryd.ntmps91
    go_wp2
    all_goals first
      | (exfalso; omega)
      | (go_ret; exact ⟨by rw [HL.out]; rfl, rfl⟩)
set_option maxHeartbeats 400000 in
theorem mapped_lower (s : ByteArray) (w : World) (hs : s.size ≤ 140737488355327) :
    Calls Tryd.prog 90 #[.string s, .func (.func 91) #[] #[]] w fun e w' => e = .returned (.string (lowS s)) ∧ Below w.heap.size w w' := by
  have hcv := fun (W : World) => Lib.run_convert_string_bytes (P := Tryd.prog) W 9 34 5 s Tryd.underlying9 Tryd.underlying34 Tryd.underlying5
  have hb0 := below_bytesWorld w 5 s
  have hr0 := BRow.bytesWorld w 5 s
  have eg : ∀ args w, (callFunc 91 args).run Tryd.prog w = .ok (.enter 91 args) w := enters_of Tryd.func91 q16_ rfl
  go_enter Tryd.func90, Tryd.ntmps90
  go_wp2
  generalize Lib.bytesWorld w 5 s = w1 at hb0 hr0
  clear hcv
  go_loopw [12, 6, 7] (fun i _ _ wr => ∃ k : Nat, k ≤ s.size ∧ i = .int .i64 k ∧ BRow wr w.heap.size (mapTo lowB k s.data.toList) ∧ Below w.heap.size w wr) (fun i _ _ _ => s.size - (intOf i).toNat)
  case atStart => exact ⟨0, Nat.zero_le _, rfl, by rw [mapTo_zero]; exact hr0, hb0⟩
  case round =>
    clear hb0 hr0
    obtain ⟨k, hk, rfl, hr, hb⟩ := hrel
    by_cases hlt : k < s.size
    · have hkl : k < s.data.toList.length := by simpa using hlt
      have hc := hr.cell k (by rw [mapTo_len]; exact hkl)
      have hf := hr.free k (by rw [mapTo_len]; exact hkl)
      rw [mapTo_at lowB k _ hkl] at hc
      have HS := hr.set k (by rw [mapTo_len]; exact hkl) (lowB s.data.toList[k])
      rw [mapTo_set lowB k _ hkl] at HS
      have HB := hb.setCell (p := ⟨w.heap.size, k, none⟩) (Nat.le_refl _) (.int .u8 ((lowB s.data.toList[k]).toNat : Int))
      generalize s.data.toList[k] = c at hc HS HB
      have H1 := Lib.hid HS
      have H2 := Lib.hid HB
      clear HS HB hb hr
      go_wp2_with (go_at_call 91; refine (lower_lit c _).mono ?_; rintro e w' ⟨rfl, rfl⟩)
      go_roundw
      case rel => exact ⟨k + 1, by omega, by go_num, H1.out, H2.out⟩
      case measure => simp [intOf]; omega
    · have hk2 : s.size = k := by omega
      have HK := Lib.hid hk2
      clear hk2
      rw [mapTo_all lowB k _ (by simp; omega)] at hr
      have hcb := fun (cap : Nat) => hr.back (P := Tryd.prog) s.size (by simp) 34 9 5 Tryd.underlying34 Tryd.underlying5 Tryd.underlying9 cap
      clear hr
      go_wp2
      go_ret
      exact ⟨congrArg (fun x => Ending.returned (.string x)) (lowS_eq s), hb⟩
def infra_Lower.f (a0 : ByteArray) : Option ByteArray := if a0.size ≤ 140737488355327 then some (lowS a0) else none
set_option maxHeartbeats 400000 in
theorem infra_Lower.calls (a0 : ByteArray) (r : ByteArray) (w : World) (h : infra_Lower.f a0 = some r) :
    Calls Tryd.prog 53 #[.string a0] w fun e w' => e = .returned (.string r) ∧ Below w.heap.size w w' := by
  unfold infra_Lower.f at h
  split at h
  · rename_i hs
    injection h with h
    subst h
    go_enter Tryd.func53, Tryd.ntmps53
    go_wp2_with (go_at_call 90; refine (mapped_lower a0 _ hs).mono ?_; rintro e w' ⟨rfl, hb⟩)
    go_ret
    exact ⟨rfl, hb⟩
  · simp at h
end Go.Proofs.YtifmkgkiipckbaaDoor.P
