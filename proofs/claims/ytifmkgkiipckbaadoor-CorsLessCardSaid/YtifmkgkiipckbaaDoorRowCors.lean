/- CorsLess returns true for every input, whatever the heap holds beside it, where the three listed tables of the library (powers of ten, two of math/bits) hold what their text lays; each argument reads behind the call as it read before. -/
import Derived.Test.YtifmkgkiipckbaaDoorX20
import Derived.Test.YtifmkgkiipckbaaDoorX23
import Derived.Test.YtifmkgkiipckbaaDoorCards
import Derived.Test.YtifmkgkiipckbaaDoorTie
import Derived.WalkKit
import Derived.ProofKit
import Derived.OpenShut
import Derived.ShutString
import Derived.ChangeOld
import Derived.Below
import Derived.Lay
import Derived.Lib.LaidTab
import Derived.Lib.LaidU8
import Derived.Deep.SlicePairs
import Derived.Deep.DeepHandedRow
import Derived.MakeChecks
namespace Go.Proofs.YtifmkgkiipckbaaDoor.P
open Go.RowKit Go.Proofs.YtifmkgkiipckbaaDoorW.PrintWords Go.Proofs.YtifmkgkiipckbaaDoorW.PrintLast Go.Proofs.YtifmkgkiipckbaaDoorW.PrintMore
set_option linter.unusedVariables false
set_option linter.unusedSimpArgs false
theorem method_none : cors_Method.f 50 ⟨#[]⟩ = some (⟨#[]⟩, false) := by kernel_rfl
theorem method_delete : cors_Method.f 50 ⟨#[68, 69, 76, 69, 84, 69]⟩ = some (⟨#[68, 69, 76, 69, 84, 69]⟩, true) := by kernel_rfl
theorem method_get : cors_Method.f 50 ⟨#[71, 69, 84]⟩ = some (⟨#[71, 69, 84]⟩, true) := by kernel_rfl
theorem method_head : cors_Method.f 50 ⟨#[72, 69, 65, 68]⟩ = some (⟨#[72, 69, 65, 68]⟩, true) := by kernel_rfl
theorem method_options : cors_Method.f 50 ⟨#[79, 80, 84, 73, 79, 78, 83]⟩ = some (⟨#[79, 80, 84, 73, 79, 78, 83]⟩, true) := by kernel_rfl
theorem method_post : cors_Method.f 50 ⟨#[80, 79, 83, 84]⟩ = some (⟨#[80, 79, 83, 84]⟩, true) := by kernel_rfl
theorem method_put : cors_Method.f 50 ⟨#[80, 85, 84]⟩ = some (⟨#[80, 85, 84]⟩, true) := by kernel_rfl
theorem known_true : ostiarylaw18_known.f 200 = some true := by kernel_rfl
def FewH (l : List S72) : Prop := l.length ≤ 20 ∧ ∀ x ∈ l, x.f0.size ≤ 200 ∧ x.f1.size ≤ 200
theorem FewHeaders_tot (k : Nat) (l : List S72) (n m : Int) (h0 : 0 ≤ n) (h1 : n ≤ 20) (h2 : 0 ≤ m) (h3 : m ≤ 200) (hk : 100 ≤ k) : Tot (ostiarykeep_FewHeaders.f k l n m) FewH := by
 have H : ∀ (k : Nat) (x : Int) (q : List S72), 0 ≤ x → x ≤ 20 → q.length = x.toNat → (∀ x ∈ q, x.f0.size ≤ 200 ∧ x.f1.size ≤ 200) → 2 * (21 - x.toNat) + 10 ≤ k → Tot (ostiarykeep_FewHeaders.l0 k l n m q x) FewH := by
  intro k
  induction k using Nat.strongRecOn with
  | _ k ih =>
  intro x q hx0 hx1 hq hm hk
  obtain ⟨k, rfl⟩ : ∃ j, k = j + 2 := ⟨k - 2, by omega⟩
  have J : ∀ f, (f = true → x < n ∧ x < l.length) → Tot (ostiarykeep_FewHeaders.j1 (k + 1) l n m q x f) FewH := by
   intro f hf
   unfold ostiarykeep_FewHeaders.j1
   refine Tot.ite (fun h => ?_) (fun _ => Tot.pure ⟨by omega, hm⟩)
   obtain ⟨a1, a2⟩ := hf h
   refine Tot.guard hx0 (Tot.guard a2 (Tot.bind (Few_tot _ _ h2) (fun r hr => Tot.bind (Few_tot _ _ h2) (fun r2 hr2 => Tot.guard (by omega) (ih k (by omega) _ _ oK (by unfold wrap64; omega) q16_ ?_ (by unfold wrap64; omega))))))
   intro y hy
   rcases List.mem_append.1 hy with h | h
   ·exact hm y h
   ·obtain rfl := List.mem_singleton.1 h
    simp only
    omega
  unfold ostiarykeep_FewHeaders.l0
  refine Tot.ite (fun hl => J _ (fun h => ⟨by simpa using h, hl⟩)) (fun _ => J _ (by simp))
 exact H k 0 [] (by omega) (by omega) rfl (by simp) (by simp only [Int.toNat_zero]; omega)
theorem joinTail_len (sep : List UInt8) (r : List (List UInt8)) (h : ∀ x ∈ r, x.length ≤ 200) : (Lib.joinTail sep r).length ≤ (sep.length + 200) * r.length := by
 induction r with
 | nil => simp [Lib.joinTail]
 | cons x r ih =>
  have h1 := ih (fun y hy => h y (List.mem_cons_of_mem _ hy))
  have h2 := h x (List.mem_cons_self ..)
  simp only [Lib.joinTail, List.map_cons, List.flatten_cons, List.length_append, List.length_cons] at h1 ⊢
  rw [Nat.mul_add, Nat.mul_one]
  omega
theorem Join_tot (l : List ByteArray) (h : l.length ≤ 20) (hm : ∀ x ∈ l, x.size ≤ 200) : Tot (strings_Join.f l ⟨#[44, 32]⟩) (fun _ => True) := by
 unfold strings_Join.f
 have : (Lib.join (l.map (·.data.toList)) [44, 32]).length ≤ 10000 := by
  cases l with
  | nil => simp [Lib.join_nil]
  | cons x r =>
   rw [List.map_cons, Lib.join_cons, List.length_append]
   have h1 := joinTail_len [44, 32] (r.map (·.data.toList)) (by
    intro y hy
    obtain ⟨z, hz, rfl⟩ := List.mem_map.1 hy
    have := hm z (List.mem_cons_of_mem _ hz)
    simpa using this)
   have h2 := hm x (List.mem_cons_self ..)
   simp only [List.length_cons, List.length_map, List.length_nil, Array.length_toList] at h h1 ⊢
   have h3 : x.data.size ≤ 200 := h2
   have h4 : (0 + 1 + 1 + 200) * r.length ≤ 202 * 19 := Nat.mul_le_mul (by omega) (by omega)
   omega
 rw [if_pos (by omega), if_pos (Nat.le_trans this (by omega))]
 exact Tot.pure trivial
theorem is_tot (a b c : ByteArray) (h : a.size ≤ 1000000) (hc : c.size ≤ 1000000) : Tot (headers_is.f a b c) (fun _ => True) := by
 unfold headers_is.f
 exact Tot.bind (iLower_tot _ h) (fun _ _ => Tot.bind (iLower_tot _ hc) (fun _ _ => Tot.pure trivial))
theorem Get_tot (k : Nat) (l : List S72) (n : ByteArray) (hl : FewH l) (hn : n.size ≤ 1000000) (hk : 40 ≤ k) : Tot (headers_Get.f k l n) (fun _ => True) := by
 have H : ∀ (k : Nat) (x : Int) (q : List ByteArray), 0 ≤ x → x ≤ l.length → q.length ≤ x.toNat → (∀ x ∈ q, x.size ≤ 200) → (l.length - x.toNat) + 5 ≤ k → Tot (headers_Get.l0 k n q l (l.length : Int) x) (fun _ => True) := by
  intro k
  induction k with
  | zero => intro x q _ _ _ _ h; omega
  | succ k ih =>
   intro x q h0 hx hq hm hk
   have hz : (rd_T72 l x).f0.size ≤ 200 ∧ (rd_T72 l x).f1.size ≤ 200 := by
    unfold rd_T72
    rw [List.getD_eq_getElem?_getD]
    cases hq : l[x.toNat]? with
    | none => exact ⟨by decide, by decide⟩
    | some y => exact hl.2 y (List.mem_of_getElem? hq)
   have h20 := hl.1
   unfold headers_Get.l0
   refine Tot.ite (fun hlt => Tot.guard h0 (Tot.guard hlt (Tot.bind (is_tot _ _ _ (by omega) hn) (fun _ _ => Tot.ite (fun _ => Tot.guard (by omega) (ih _ _ oK oK q16_ ?_ oK)) (fun _ => ih _ _ oK oK (by unfold wrap64; omega) hm oK))))) (fun _ => Tot.bind (Join_tot _ (by omega) hm) (fun _ _ => Tot.pure trivial))
   intro y hy
   rcases List.mem_append.1 hy with h | h
   ·exact hm y h
   ·obtain rfl := List.mem_singleton.1 h
    exact hz.2
 exact H k 0 [] (by omega) (by omega) (by simp) (by simp) (by have := hl.1; simp only [Int.toNat_zero]; omega)
theorem Check_is (k : Nat) (o : ByteArray × ByteArray × Int × Bool) (c : Bool) (l : List S72) (hl : FewH l) (ho : OOk o) (hk : 100 ≤ k) :
  ∃ s ok t v, origin_Text.f 60 o.1 o.2.1 o.2.2.1 o.2.2.2 = some t ∧ headers_Get.f 60 l ⟨#[97, 99, 99, 101, 115, 115, 45, 99, 111, 110, 116, 114, 111, 108, 45, 97, 108, 108, 111, 119, 45, 111, 114, 105, 103, 105, 110]⟩ = some (s, ok) ∧ headers_Get.f 60 l ⟨#[97, 99, 99, 101, 115, 115, 45, 99, 111, 110, 116, 114, 111, 108, 45, 97, 108, 108, 111, 119, 45, 99, 114, 101, 100, 101, 110, 116, 105, 97, 108, 115]⟩ = some v ∧
   cors_Check.f k o.1 o.2.1 o.2.2.1 o.2.2.2 c l = some (ok && ((s.toList == [42] && !c) || (s.toList == t.toList && (!c || v.1.toList == [116, 114, 117, 101])))) := by
 obtain ⟨t, ht, _⟩ := text_eq 60 60 o ho (by omega) (by omega)
 obtain ⟨⟨s, ok⟩, hs, _⟩ := Get_tot 60 l ⟨#[97, 99, 99, 101, 115, 115, 45, 99, 111, 110, 116, 114, 111, 108, 45, 97, 108, 108, 111, 119, 45, 111, 114, 105, 103, 105, 110]⟩ hl (by decide) (by omega)
 obtain ⟨v, hv, _⟩ := Get_tot 60 l ⟨#[97, 99, 99, 101, 115, 115, 45, 99, 111, 110, 116, 114, 111, 108, 45, 97, 108, 108, 111, 119, 45, 99, 114, 101, 100, 101, 110, 116, 105, 97, 108, 115]⟩ hl (by decide) (by omega)
 refine ⟨s, ok, t, v, ht, hs, hv, ?_⟩
 obtain ⟨k, rfl⟩ : ∃ j, k = j + 1 := ⟨k - 1, by omega⟩
 have h1 := mono_le (F := fun k => headers_Get.f k l _) (fun k => headers_Get.mono _ _ k) (show 60 ≤ k + 1 by omega) _ hs
 have h2 := mono_le (F := fun k => headers_Get.f k l _) (fun k => headers_Get.mono _ _ k) (show 60 ≤ k by omega) _ hv
 have h3 := mono_le (F := fun k => origin_Text.f k o.1 o.2.1 o.2.2.1 o.2.2.2) (fun k => origin_Text.mono _ _ _ _ k) (show 60 ≤ k by omega) _ ht
 unfold cors_Check.f
 rw [h1]
 simp only [Option.bind_some, cors_Check.j0]
 rw [h3]
 simp only [Option.bind_some]
 rw [h2]
 simp only [Option.bind_some]
 cases ok <;> cases c <;> by_cases q1 : s.toList = [42] <;> by_cases q2 : s.toList = t.toList <;> simp_all
theorem Token_tot (k : Nat) (s : ByteArray) (hs : s.size ≤ 1000000) (hk : s.size + 10 ≤ k) : Tot (infra_Token.f k s) (fun _ => True) := by
 have H : ∀ (k : Nat) (x : Int), 0 ≤ x → (s.size - x.toNat) + 2 ≤ k → Tot (infra_Token.l0 k s (s.size : Int) x) (fun _ => True) := by
  intro k
  induction k with
  | zero => intro x _ h; omega
  | succ k ih =>
   intro x h0 hk
   have ib : ∀ c, Tot (strings_IndexByte.f ⟨#[33, 35, 36, 37, 38, 39, 42, 43, 45, 46, 94, 95, 96, 124, 126]⟩ c) (fun _ => True) := fun c => Tot.pure trivial
   unfold infra_Token.l0
   refine Tot.ite (fun hlt => Tot.guard h0 (Tot.guard hlt ?_)) (fun _ => Tot.pure trivial)
   have hn : Tot (infra_Token.l0 k s (s.size : Int) (wrap64 (x + 1))) (fun _ => True) := ih _ oK oK
   repeat' first
    | exact hn
    | exact Tot.pure trivial
    | refine Tot.bind (ib _) (fun _ _ => ?_)
    | refine Tot.ite (fun _ => ?_) (fun _ => ?_)
 exact H k 0 (by omega) (by omega)
theorem Method_tot (k : Nat) (s : ByteArray) (hs : s.size ≤ 60) (hk : 100 ≤ k) : Tot (cors_Method.f k s) (fun r => r = (⟨#[]⟩, false) ∨ r = (⟨#[68, 69, 76, 69, 84, 69]⟩, true) ∨ r = (⟨#[71, 69, 84]⟩, true) ∨ r = (⟨#[72, 69, 65, 68]⟩, true) ∨ r = (⟨#[79, 80, 84, 73, 79, 78, 83]⟩, true) ∨ r = (⟨#[80, 79, 83, 84]⟩, true) ∨ r = (⟨#[80, 85, 84]⟩, true) ∨ r = (s, true)) := by
 obtain ⟨k, rfl⟩ : ∃ j, k = j + 1 := ⟨k - 1, by omega⟩
 unfold cors_Method.f
 simp only [cors_Method.j0]
 refine Tot.bind (Token_tot _ _ (by omega) (by omega)) (fun _ _ => Tot.ite (fun _ => Tot.bind (iLower_tot _ (by omega)) (fun _ _ => ?_)) (fun _ => Tot.pure (by simp)))
 repeat' first
  | refine Tot.pure (by simp)
  | refine Tot.ite (fun _ => ?_) (fun _ => ?_)
theorem Method_again (k j : Nat) (s : ByteArray) (hs : s.size ≤ 60) (hk : 100 ≤ k) (hj : 100 ≤ j) : ∃ r, cors_Method.f k s = some r ∧ cors_Method.f j r.1 = some r := by
 obtain ⟨r, hr, hq⟩ := Method_tot k s hs hk
 refine ⟨r, hr, ?_⟩
 have up : ∀ {t r}, cors_Method.f 50 t = some r → cors_Method.f j t = some r := fun {t r} h => mono_le (F := fun k => cors_Method.f k t) (fun k => cors_Method.mono _ k) (show 50 ≤ j by omega) _ h
 rcases hq with rfl | rfl | rfl | rfl | rfl | rfl | rfl | rfl
 ·exact up method_none
 ·exact up method_delete
 ·exact up method_get
 ·exact up method_head
 ·exact up method_options
 ·exact up method_post
 ·exact up method_put
 ·obtain ⟨r2, h2, _⟩ := Method_tot j s hs hj
  rw [h2, mono_det (F := fun k => cors_Method.f k s) (fun k => cors_Method.mono _ k) h2 hr]
theorem CorsLess_true (a0 a1 : ByteArray) (l2 : List S72) (a3 : ByteArray) : ostiarylaw18_CorsLess.f 80002 a0 a1 l2 a3 = some true := by
 have J1 : ∀ k, 1000 ≤ k → ostiarylaw18_CorsLess.j1 k a3 false = some true := by
  intro k hk
  obtain ⟨k, rfl⟩ : ∃ j, k = j + 1 := ⟨k - 1, by omega⟩
  obtain ⟨m, hm, hms⟩ := Few_tot a3 60 (by omega)
  obtain ⟨r, h1, h2⟩ := Method_again k k m hms (by omega) (by omega)
  have h3 := mono_le (F := fun k => ostiarylaw18_known.f k) (fun k => ostiarylaw18_known.mono k) (show 200 ≤ k by omega) _ known_true
  simp only [ostiarylaw18_CorsLess.j1]
  rw [if_neg (by simp), hm]
  simp only [Option.bind_some, h1, h2, h3]
  simp
 generalize hK : 80002 = K
 have hK2 : 80000 ≤ K := by omega
 clear hK
 obtain ⟨l, hl, hlf⟩ := FewHeaders_tot K l2 10 100 (by omega) (by omega) (by omega) (by omega) (by omega)
 obtain ⟨a, ha, hao⟩ := of_tot K a0 (by omega)
 obtain ⟨b, hb, hbo⟩ := of_tot K a1 (by omega)
 obtain ⟨k, rfl⟩ : ∃ j, K = j + 1 := ⟨K - 1, by omega⟩
 obtain ⟨s, ok, t, v, ht, hs, hv, hc⟩ := Check_is (k + 1) a true l hlf hao (by omega)
 obtain ⟨s2, ok2, t2, v2, ht2, hs2, hv2, hc2⟩ := Check_is (k + 1) a false l hlf hao (by omega)
 obtain ⟨s3, ok3, t3, v3, ht3, hs3, hv3, hc3⟩ := Check_is k a true l hlf hao (by omega)
 obtain ⟨s4, ok4, t4, v4, ht4, hs4, hv4, hc4⟩ := Check_is k b true l hlf hbo (by omega)
 obtain ⟨ra, hra, hrb⟩ := text_eq 60 k a hao (by omega) (by omega)
 obtain ⟨rb, hrc, hrd⟩ := text_eq 60 k b hbo (by omega) (by omega)
 rw [ht] at ht2 ht3 hra
 rw [hs] at hs2 hs3 hs4
 rw [hv] at hv2 hv3 hv4
 rw [ht4] at hrc
 simp only [Option.some.injEq, Prod.mk.injEq] at ht2 ht3 hra hs2 hs3 hs4 hv2 hv3 hv4 hrc
 obtain ⟨rfl, rfl⟩ := hs2
 obtain ⟨rfl, rfl⟩ := hs3
 obtain ⟨rfl, rfl⟩ := hs4
 subst ht2 ht3 hra hv2 hv3 hv4 hrc
 unfold ostiarylaw18_CorsLess.f
 rw [hl]
 simp only [Option.bind_some, ha, hb, hc, hc2]
 have J0 : ostiarylaw18_CorsLess.j0 (k + 1) l a3 false a.1 a.2.1 a.2.2.1 a.2.2.2 b.1 b.2.1 b.2.2.1 b.2.2.2 = some true := by
  simp only [ostiarylaw18_CorsLess.j0]
  rw [if_neg (by simp), hrb]
  simp only [Option.bind_some, hrd]
  by_cases ht : t.toList = t4.toList
  ·rw [if_pos ht]
   exact J1 k (by omega)
  ·rw [if_neg ht, hc3, hc4]
   simp only [Option.bind_some]
   by_cases q1 : s.toList = t.toList
   ·have : (s.toList == t4.toList) = false := by rw [q1]; exact beq_eq_false_iff_ne.2 ht
    simp only [this]
    simp [J1 k (by omega)]
   ·have : (s.toList == t.toList) = false := beq_eq_false_iff_ne.2 q1
    simp only [this]
    simp [J1 k (by omega)]
 by_cases hh : (ok && ((s.toList == [42] && !true) || (s.toList == t.toList && (!true || v.1.toList == [116, 114, 117, 101])))) = true
 ·rw [if_pos hh]
  have : (ok && ((s.toList == [42] && !false) || (s.toList == t.toList && (!false || v.1.toList == [116, 114, 117, 101])))) = true := by
   simp at hh ⊢
   obtain ⟨h1, h2, _⟩ := hh
   exact ⟨h1, Or.inr h2⟩
  rw [this]
  exact J0
 ·rw [if_neg hh]
  exact J0
end Go.Proofs.YtifmkgkiipckbaaDoor.P
namespace Go.Proofs.YtifmkgkiipckbaaDoor.corsLess
open Go.ChangeShapes Go.WideShapes Go.ChangeAt Go.RowKit Go.Proofs.YtifmkgkiipckbaaDoor.P Go.Proofs.YtifmkgkiipckbaaDoorW.PrintWords
open Go.ChangeMaps (open_string shut_string)
set_option linter.unusedVariables false
theorem own : ownKnob Tryd.prog.godebug = none := by kernel_rfl
theorem laidOut : laidOutB Tryd.prog = true := by kernel_rfl
theorem cells72 : Tryd.prog.cellsOf 72 = 2 := by kernel_rfl
theorem cells9 : Tryd.prog.cellsOf 9 = 1 := by kernel_rfl
theorem pow {W : World} (h : laidMet Tryd.prog Rows.corsLessRow.laid W) : LPow W := by
 obtain ⟨g', t', cs, fuel, p, hg', ht', hvar, hd⟩ := Lib.laidMet.reads h (.tail _ (.tail _ (.head _)))
 obtain rfl : g' = _ := (Option.some.inj ((show Tryd.prog.globalNamed "internal/strconv.uint64pow10" = some 7 by kernel_rfl).symm.trans hg')).symm
 obtain rfl : t' = _ := (Option.some.inj ((show (Tryd.prog.globals[7]?).map (·.type) = some 224 by kernel_rfl).symm.trans ht')).symm
 unfold LPow Lib.TabIs
 rw [hvar, ← Lib.cells_of_tab (k := .u64) (zs := Lib.pow10Tab) Tryd.underlying224 Tryd.underlying111 (by kernel_rfl) (by kernel_rfl) hd]
theorem headers {H : Type} {enc : TypeId × Value → H} {W : World} {a : Option Addr} {len cap : Nat} {d : DataW H} {p : List MemPlace}
  (h : DataW.Trod enc Tryd.prog W 0 (fun _ => true) true 22 (.slice a len cap) d p) :
  ∃ l : List S72, l.length = len ∧ len ≤ cap ∧ Kd.C k72 W a l.length l := by
 obtain ⟨n, hn⟩ := h
 rcases Deep.open_slice_pairs Tryd.underlying22 Tryd.underlying72 cells72 rfl rfl cells9 cells9 hn with ⟨hc, hx⟩ | ⟨a', len', cap', m, k, V0, V1, D0, D1, P0, P1, hc, _, hl, hm, hmm, hx, hall⟩
 ·simp [Value.cells] at hc
  obtain ⟨rfl, rfl, rfl⟩ := hc
  exact ⟨[], rfl, Nat.le_refl _, Kd.C_nil _ _⟩
 ·simp [Value.cells] at hc
  obtain ⟨rfl, rfl, rfl⟩ := hc
  have hlm : len ≤ m := by rw [hmm]; split <;> omega
  have each : ∀ i, i < m → ∃ x : S72, V0 i = .string x.f0 ∧ V1 i = .string x.f1 := fun i hi => by
   obtain ⟨s, h1, _, _⟩ := DataW.trod_string Tryd.underlying9 (hall i hi).2.2.1
   obtain ⟨s2, h2, _, _⟩ := DataW.trod_string Tryd.underlying9 (hall i hi).2.2.2
   exact ⟨⟨s, s2⟩, by simpa using h1, by simpa using h2⟩
  haveI : Inhabited S72 := ⟨z72⟩
  obtain ⟨X, hX⟩ := Deep.choose_lt each
  refine ⟨(List.range len).map X, by simp, hl, ?_⟩
  have hlen : ((List.range len).map X).length = len := by simp
  rw [hlen]
  refine ⟨hlen, by unfold maxLen at hm; omega, fun hp => ⟨a', rfl, fun j x hj => ?_⟩⟩
  have hj' : j < len := by
   rcases Nat.lt_or_ge j len with q | q
   ·exact q
   ·rw [List.getElem?_eq_none (by rw [hlen]; exact q)] at hj
    cases hj
  obtain rfl : X j = x := by simpa [hj'] using hj
  obtain ⟨c0, c1, _, _⟩ := hall j (by omega)
  rw [(hX j (by omega)).1] at c0
  rw [(hX j (by omega)).2] at c1
  refine ⟨[.string (X j).f0, .string (X j).f1], rfl, k72_mk W (X j), fun i u hu => ?_⟩
  match i, hu with
  | 0, hu =>
   simp at hu
   subst hu
   exact c0
  | 1, hu =>
   simp at hu
   subst hu
   exact c1
theorem walk (a0 a1 : ByteArray) (A2 : Option Addr) (c2 : Nat) (l2 : List S72) (a3 : ByteArray) (w : World) (hr : Kd.C k72 w A2 l2.length l2) (hc : l2.length ≤ c2) (hp : LPow w) :
  Calls Tryd.prog 3 #[.string a0, .string a1, .slice A2 l2.length c2, .string a3] w fun e w' => e = .returned (.bool true) ∧ Below w.heap.size w w' :=
 ostiarylaw18_CorsLess.calls 80002 a0 a1 A2 c2 l2 a3 true w hr hc hp (CorsLess_true a0 a1 l2 a3)
set_option maxRecDepth 100000 in
theorem lifted (os : Os) (started : os.Started) (H : Type) (enc : TypeId × Value → H) (F : Stop.Interp) :
  ReturnsInHanded {} Tryd.checked os 3 .any ((OpenSpec.ofChange Rows.corsLessSpec).preRow enc Tryd.prog Tryd.f3 Rows.corsLessRow.domain false Rows.corsLessRow.laid) (((OpenSpec.ofChange Rows.corsLessSpec).at F).post enc Tryd.prog Tryd.f3 false true false false) := by
 have hx : ∃ places, DataW.whole enc Tryd.prog ((World.laidAll Tryd.prog os Rows.corsLessRow.laid).forCall (fun _ _ => 0) ⟨#[], #[.string ByteArray.empty, .string ByteArray.empty, .slice none 0 0, .string ByteArray.empty], []⟩).memory Tryd.f3.params.toList Rows.corsLessSpec.vars false #[Value.string ByteArray.empty, .string ByteArray.empty, .slice none 0 0, .string ByteArray.empty].toList 8 = some ([.lit (.string []), .lit (.string []), .nil, .lit (.string [])], [], places) := ⟨[], by kernel_rfl⟩
 obtain ⟨places, hx⟩ := hx
 refine returnsInHanded_of_row (C := Tryd.checked) (s := OpenSpec.ofChange Rows.corsLessSpec) own started (by kernel_rfl) Tryd.func3
  (witness_row_at (enc := enc) (C := Tryd.checked) false (World.laidAll Tryd.prog os Rows.corsLessRow.laid) #[.string ByteArray.empty, .string ByteArray.empty, .slice none 0 0, .string ByteArray.empty] (World.laidAll_os _ _ _) (by kernel_rfl) (by kernel_rfl) (by kernel_rfl)
   (OpenSpec.preRow_of_cond 8 hx (by kernel_rfl) (fun k hk => by cases hk) (by kernel_rfl) (laidMet_laidAll _ (by kernel_rfl) (by kernel_rfl)))) ?_
 intro W base args ds gs before hval0 hW _ _ _ hL _ _
 have hval : ∀ (j : Nat) t v, Tryd.f3.params[j]? = some t → args[j]? = some v → Value.okWide Tryd.prog W .any base t v := hval0
 have hW' := hW
 obtain ⟨p, q, hA0, hV, rfl, hfz, hnd⟩ := hW
 have hA : DataW.TrodAll enc Tryd.prog W 0 (fun _ => true) true Tryd.f3.params.toList args.toList ds p := hA0
 rw [Tryd.params3] at hA hval
 obtain ⟨v0, vs0, d0, ds0, p0, q0, hargs, rfl, rfl, h0, r0⟩ := trodAll_cons hA
 obtain ⟨v1, vs1, d1, ds1, p1, q1, rfl, rfl, rfl, h1, r1⟩ := trodAll_cons r0
 obtain ⟨v2, vs2, d2, ds2, p2, q2, rfl, rfl, rfl, h2, r2⟩ := trodAll_cons r1
 obtain ⟨v3, vs3, d3, ds3, p3, q3, rfl, rfl, rfl, h3, r3⟩ := trodAll_cons r2
 obtain ⟨rfl, rfl, rfl⟩ := trodAll_nil r3
 obtain rfl : args = #[v0, v1, v2, v3] := by cases args; simp_all
 obtain ⟨rfl, rfl⟩ := trodVars_none hV
 obtain ⟨a0, rfl, rfl, rfl, y0⟩ := open_string Tryd.underlying9 (hval 0 9 v0 rfl rfl) h0
 obtain ⟨a1, rfl, rfl, rfl, y1⟩ := open_string Tryd.underlying9 (hval 1 9 v1 rfl rfl) h1
 obtain ⟨a2, len2, cap2, rfl⟩ := okWide_slice Tryd.underlying22 (hval 2 22 v2 rfl rfl)
 obtain ⟨a3, rfl, rfl, rfl, y3⟩ := open_string Tryd.underlying9 (hval 3 9 v3 rfl rfl) h3
 have k2 := h2
 have lt2 : ∀ x ∈ p2, x.block < W.heap.size := by obtain ⟨m, hm⟩ := k2; exact DataW.trod_lt m _ _ _ hm
 obtain ⟨l2, hl2, hc2, hr2⟩ := headers h2
 subst hl2
 rw [MakeChecks.laidMetH_plain _ _ _ (by kernel_rfl)] at hL
 clear hA0 hval0
 refine (walk a0 a1 a2 cap2 l2 a3 W hr2 hc2 (pow hL)).mono fun e W' ⟨he, bel⟩ => ?_
 subst he
 exact ⟨_, rfl, _, _, _, [], _, [], hW', trodAll_mk1 (shut_bool Tryd.underlying4 _), (trodAll_cons_mk (shut_string Tryd.underlying9 y0) (trodAll_cons_mk (shut_string Tryd.underlying9 y1) (trodAll_cons_mk (Below.trod laidOut (by kernel_rfl) (of_decide_eq_true (by kernel_rfl)) k2 bel lt2) (trodAll_cons_mk (shut_string Tryd.underlying9 y3) trodAll_mk0)))), rfl, bel.frame _, fun h => by cases h⟩
theorem said : Rows.CorsLessSaid :=
 OpenClaim.holds_of_cond 3 Tryd.f3 rfl rfl rfl rfl rfl rfl rfl ⟨rfl, rfl, rfl, rfl, rfl⟩ rfl rfl rfl rfl rfl (by kernel_rfl) Tryd.func3 (by kernel_rfl)
  (of_decide_eq_true (by kernel_rfl)) (by unfold Func.isWrapper; first | (rw [if_pos (by decide +kernel)]; kernel_rfl) | (rw [if_neg (by decide +kernel)]; exact ⟨rfl, rfl⟩))
  (fun os started H enc _ F => by rw [OpenClaim.pre_eq_preRow]; exact lifted os started H enc F)
theorem plain (f : FuncId) (fn : Func) (hf : Tryd.pinned.checked.prog.funcNamed "ostiary/ostiarylaw18.CorsLess" = some f) (hfn : Tryd.pinned.checked.prog.funcs[f]? = some fn) :
  false = Tryd.pinned.checked.prog.looks [] ∧ ∀ (j : Nat) t, fn.params[j]? = some t → Tryd.pinned.checked.prog.wantsStandIn t = false := by
 obtain rfl : f = 3 := Option.some.inj ((show Tryd.prog.funcNamed "ostiary/ostiarylaw18.CorsLess" = some 3 by kernel_rfl).symm.trans hf) |>.symm
 obtain rfl : fn = Tryd.f3 := (Option.some.inj (Tryd.func3.symm.trans hfn)).symm
 refine ⟨by kernel_rfl, fun j t ht => ?_⟩
 rw [Tryd.params3] at ht
 have hm : t ∈ [9, 9, 22, 9] := by simpa using Array.mem_of_getElem? ht
 have hall : ([9, 9, 22, 9].all fun u => !Tryd.prog.wantsStandIn u) = true := by kernel_rfl
 exact (show Tryd.prog.wantsStandIn t = false by simpa using List.all_eq_true.1 hall t hm)
theorem card : Rows.CorsLessCardSaid :=
 Claim7.holds_tied_plain_at .later [] _ _ _ _ said (fun _ h => by cases h) (by kernel_rfl) (fun _ h => by cases h) corsLess_row_tie rfl ⟨rfl, rfl⟩ (by kernel_rfl) rfl plain (by kernel_rfl)
end Go.Proofs.YtifmkgkiipckbaaDoor.corsLess
namespace Go.Proofs.YtifmkgkiipckbaaDoor
theorem corsLess_card : Rows.CorsLessCardSaid := corsLess.card
#print axioms corsLess_card
end Go.Proofs.YtifmkgkiipckbaaDoor
