/- integer.magnitude, canonical, clone. -/
import Derived.Test.YtegnnghoiffmhaaDoorIBase
namespace Go.Proofs.YtegnnghoiffmhaaDoor.Big
open Go.RowKit Go.Proofs.YtegnnghoiffmhaaDoorW.PrintWords
set_option linter.unusedVariables false
set_option linter.unusedSimpArgs false
theorem mag_next (xs : List Int) (m gk : Nat) (hz : dg xs m = 0) (h : m + 1 = gk ∧ m + 1 ≤ xs.length ∧ trimL (xs.take (m + 1)) = trimL xs) : Aside0 (m = gk - 1 ∧ m ≤ xs.length ∧ trimL (xs.take m) = trimL xs) := by
  refine ⟨by omega, by omega, ?_⟩
  rw [← h.2.2, take_dg xs m (by omega), hz, trimL_zero]
theorem mag_end (xs : List Int) (m gk : Nat) (hz : dg xs m ≠ 0) (h : m + 1 = gk ∧ m + 1 ≤ xs.length ∧ trimL (xs.take (m + 1)) = trimL xs) : (trimL xs).length = m + 1 := by
  rw [← h.2.2, take_dg xs m (by omega), trimL_nz hz]
  simp; omega
set_option maxRecDepth 100000 in
theorem magnitude_any (n : Bool) (A : Option Addr) (c : Nat) (xs : List Int) (w : World) (h : Rd w A c xs) (hl : xs.length ≤ 1099511627776) :
    Calls Tryd.prog 50 #[.agg #[.bool n, .slice A xs.length c]] w fun e w' => e = .returned (.slice A (trimL xs).length c) ∧ Below w.heap.size w w' := by
  have H := Aside0.mk h
  clear h
  go_enter Tryd.func50, Tryd.ntmps50
  go_wp2
  obtain ⟨wb, hwb⟩ : ∃ wb : World, wb = w.alloc (.cells #[.bool n, .slice A xs.length c] 24) := ⟨_, rfl⟩
  rw [← hwb]
  have HB := Aside0.mk (show Below w.heap.size w wb by rw [hwb]; exact below_alloc (Below.refl _ _) _)
  clear hwb
  go_loopg [3] xs.length (fun kq v3 w' => ∃ m : Nat, v3 = .slice A m c ∧ Aside0 (m = kq ∧ m ≤ xs.length ∧ trimL (xs.take m) = trimL xs) ∧ w' = wb)
  case atStart => exact ⟨xs.length, rfl, ⟨rfl, Nat.le_refl _, by simp⟩, rfl⟩
  case round =>
    obtain ⟨m, rfl, HA, rfl⟩ := hrel
    cases m with
    | zero =>
      go_wp2
      go_ret
      exact ⟨by rw [← HA.out.2.2]; rfl, HB.out⟩
    | succ m =>
      obtain ⟨ad, rfl, x0⟩ := H.out.at_ m (by have := HA.out; omega)
      replace x0 := (HB.out.cell (World.block_lt_of_cell? w _ x0)).trans x0
      have hm : m < 1099511627776 := by have := HA.out; omega
      have hcap : m + 1 ≤ c := by have := HA.out; have := H.out.le; omega
      by_cases hz : dg xs m = 0
      · go_wp2
        go_roundg (gk - 1)
        case measure => have := HA.out; omega
        case rel => exact ⟨m, rfl, mag_next xs m gk hz HA.out, rfl⟩
      · have hz' : (dg xs m == 0) = false := beq_eq_false_iff_ne.mpr hz
        have Z := Aside0.mk hz
        clear hz
        go_wp2
        go_ret
        exact ⟨by rw [mag_end xs m gk Z.out HA.out]; rfl, HB.out⟩
theorem cut_cap {P : Program} (t e : TypeId) {i : TypeInfo} (ht : P.underlying t = some (.slice e)) (hi : P.info? e = some i) (A : Option Addr) (n c m : Nat) (hm : m ≤ n) (hc : n ≤ c) :
    ∀ W : World, (Instr.slice t (.slice A n c) none (some (.int .i64 (m : Int))) (some (.int .i64 (m : Int)))).run P W = .ok (.slice A m m) W := by
  intro W
  have hel : P.elem t = e := by simp [Program.elem, ht]
  have hu : P.underlying t = some (.slice (P.elem t)) := by rw [hel]; exact ht
  have ha : (A.map fun x => x.add 0) = A := by cases A <;> simp [Addr.add]
  rw [run_slice_hm W t A n c hu .i64 .i64 m m (by omega) (Int.le_refl _) (by omega), hel]
  simp [sizeOf, typeInfo, hi, sliced, Result.andThen, ha]
set_option maxRecDepth 100000 in
theorem canonical_any (n : Bool) (A : Option Addr) (c : Nat) (xs : List Int) (w : World) (h : Rd w A c xs) (hl : xs.length ≤ 1099511627776) :
    Calls Tryd.prog 51 #[.bool n, .slice A xs.length c] w fun e w' => ∃ (A1 : Option Addr) (c1 : Nat), e = .returned (.agg #[.bool (n && !(trimL xs).isEmpty), .slice A1 (trimL xs).length c1]) ∧ Rd w' A1 c1 (trimL xs) ∧ Below w.heap.size w w' := by
  have H := Aside0.mk h
  clear h
  obtain ⟨i0, hi, hz0, hz1, hz2⟩ := info_parts info_u32
  go_enter Tryd.func51, Tryd.ntmps51
  go_wp2
  go_loopg [1] xs.length (fun kq v3 w' => ∃ m : Nat, v3 = .slice A m c ∧ Aside0 (m = kq ∧ m ≤ xs.length ∧ trimL (xs.take m) = trimL xs) ∧ w' = w.alloc (.cells #[.bool false, .slice none 0 0] 24))
  case atStart => exact ⟨xs.length, rfl, ⟨rfl, Nat.le_refl _, by simp⟩, rfl⟩
  case round =>
    obtain ⟨m, rfl, HA, rfl⟩ := hrel
    cases m with
    | zero =>
      have T0 := Aside0.mk (show trimL xs = [] by rw [← HA.out.2.2]; rfl)
      go_wp2
      refine bodyPost_ret (v := .agg #[.bool false, .slice none 0 0]) (by simp [results, Tryd.results51, go_sem]) rfl ⟨none, 0, ?_, ?_, below_alloc (Below.refl _ _) _⟩
      · rw [T0.out]; simp
      · rw [T0.out]; exact Rd.nil _
    | succ m =>
      obtain ⟨ad, rfl, x0⟩ := H.out.at_ m (by have := HA.out; omega)
      replace x0 := ((below_alloc (Below.refl w.heap.size w) (.cells #[.bool false, .slice none 0 0] 24)).cell (World.block_lt_of_cell? w _ x0)).trans x0
      have hm : m < 1099511627776 := by have := HA.out; omega
      have hcap : m + 1 ≤ c := by have := HA.out; have := H.out.le; omega
      by_cases hz : dg xs m = 0
      · go_wp2
        go_roundg (gk - 1)
        case measure => have := HA.out; omega
        case rel => exact ⟨m, rfl, mag_next xs m gk hz HA.out, rfl⟩
      · have hz' : (dg xs m == 0) = false := beq_eq_false_iff_ne.mpr hz
        have Z := Aside0.mk hz
        clear hz
        have hcut := cut_cap (P := Tryd.prog) 22 57 Tryd.underlying22 hi (some ad) (m + 1) c (m + 1) (Nat.le_refl _) hcap
        go_wp2
        have e := mag_end xs m gk Z.out HA.out
        have e2 : trimL xs = xs.take (m + 1) := by rw [trimL_prefix xs, e]
        refine bodyPost_ret (v := .agg #[.bool n, .slice (some ad) (m + 1) (m + 1)]) (by simp [results, Tryd.results51, go_sem]) rfl ⟨some ad, m + 1, ?_, ?_, below_alloc (Below.refl _ _) _⟩
        · have e3 : (trimL xs).isEmpty = false := by rw [List.isEmpty_eq_false_iff]; intro h0; rw [h0] at e; cases e
          rw [e, e3]; simp
        · have h2 := (H.out.trim).below (below_alloc (Below.refl _ _) (.cells #[.bool n, .slice (some ad) (m + 1) (m + 1)] 24))
          exact ⟨h2.reads, Nat.le_of_eq e, h2.dig⟩
/-- canonical, as it hands back an integer. -/
theorem canonical_res (n : Bool) (A : Option Addr) (c : Nat) (xs : List Int) (w : World) (h : Rd w A c xs) (hl : xs.length ≤ 1099511627776) :
    Calls Tryd.prog 51 #[.bool n, .slice A xs.length c] w fun e w' => Res e w w' (iv n xs) := by
  refine (canonical_any n A c xs w h hl).mono ?_
  rintro e w' ⟨A1, c1, rfl, hr, hb⟩
  obtain ⟨e1, e2⟩ := canon_row (n := n) h.dig
  rw [e2, e1]
  rw [e1] at hr
  exact ⟨A1, c1, rfl, hr, hb⟩
set_option maxRecDepth 100000 in
/-- The program's clone: a row of the call's own. -/
theorem clone_any (A : Option Addr) (c : Nat) (xs : List Int) (w : World) (h : Rd w A c xs) (hl : xs.length ≤ 1099511627776) :
    Calls Tryd.prog 59 #[.slice A xs.length c] w fun e w' => ∃ v, e = .returned v ∧ Ow w' w.heap.size v xs ∧ Below w.heap.size w w' := by
  go_enter Tryd.func59, Tryd.ntmps59
  go_wp2_with (first | (at_builtin; refine app_u32 (w0 := w) (base := w.heap.size) rfl _ _ rfl (.slice none 0 0) [] xs A c rfl rfl (Ow.nil _ _) h (Below.refl _ _) (Nat.le_refl _) (by simp; omega) ?_; intro v1 w1 ho hb; rw [List.nil_append] at ho))
  go_ret
  exact ⟨v1, rfl, ho, hb⟩
end Go.Proofs.YtegnnghoiffmhaaDoor.Big
