/- Bits of numbers, and division by shifts and subtractions. Of no program. -/
import Derived.Test.YtegnnghoiffmhaaDoorMB
import Derived.Lib.ItoaNum
namespace Go.Proofs.YtegnnghoiffmhaaDoor.Big
open Go.RowKit
/-- The number of bits. -/
def bl (v : Int) : Nat := if v ≤ 0 then 0 else Nat.log2 v.toNat + 1
theorem bl_zero : bl 0 = 0 := rfl
theorem bl_bounds {v : Int} (h : 0 < v) : 1 ≤ bl v ∧ 2 ^ (bl v - 1) ≤ v ∧ v < 2 ^ bl v := by
  unfold bl
  rw [if_neg (by omega)]
  obtain ⟨n, rfl⟩ := Int.eq_ofNat_of_zero_le (show 0 ≤ v by omega)
  have hn : n ≠ 0 := by omega
  have h1 := Nat.log2_self_le hn
  have h2 := Nat.lt_log2_self (n := n)
  rw [Int.toNat_natCast, Nat.add_sub_cancel]
  exact ⟨by omega, by exact_mod_cast h1, by exact_mod_cast h2⟩
theorem bl_eq {v : Int} {k : Nat} (h1 : 2 ^ k ≤ v) (h2 : v < 2 ^ (k + 1)) : bl v = k + 1 := by
  have hp : 0 < (2 : Int) ^ k := Int.pow_pos (by omega)
  obtain ⟨b1, b2, b3⟩ := bl_bounds (show 0 < v by omega)
  rcases Nat.lt_trichotomy (bl v) (k + 1) with h | h | h
  · exfalso
    have : (2 : Int) ^ bl v ≤ 2 ^ k := by exact_mod_cast Nat.pow_le_pow_right (show 0 < 2 by omega) (show bl v ≤ k by omega)
    omega
  · exact h
  · exfalso
    have : (2 : Int) ^ (k + 1) ≤ 2 ^ (bl v - 1) := by exact_mod_cast Nat.pow_le_pow_right (show 0 < 2 by omega) (show k + 1 ≤ bl v - 1 by omega)
    omega
theorem bl_lt (v : Int) : v < 2 ^ bl v := by
  rcases (show v ≤ 0 ∨ 0 < v by omega) with h | h
  · have : 0 < (2 : Int) ^ bl v := Int.pow_pos (by omega)
    omega
  · exact (bl_bounds h).2.2
theorem bl_half {v : Int} (h : 0 < v) : bl v = bl (v / 2) + 1 := by
  rcases (show v = 1 ∨ 2 ≤ v by omega) with rfl | h2
  · rfl
  · obtain ⟨b1, b2, b3⟩ := bl_bounds (show 0 < v / 2 by omega)
    obtain ⟨k, hk⟩ : ∃ k, bl (v / 2) = k + 1 := ⟨bl (v / 2) - 1, by omega⟩
    rw [hk] at b2 b3 ⊢
    rw [Nat.add_sub_cancel] at b2
    rw [Int.pow_succ] at b3
    exact bl_eq (by rw [Int.pow_succ]; omega) (by rw [Int.pow_succ, Int.pow_succ]; omega)
theorem bl_le {v : Int} {k : Nat} (h : v < 2 ^ k) : bl v ≤ k := by
  rcases (show v ≤ 0 ∨ 0 < v by omega) with h0 | h0
  · unfold bl; rw [if_pos h0]; omega
  · obtain ⟨b1, b2, b3⟩ := bl_bounds h0
    rcases Nat.lt_or_ge k (bl v) with h2 | h2
    · exfalso
      have : (2 : Int) ^ k ≤ 2 ^ (bl v - 1) := by exact_mod_cast Nat.pow_le_pow_right (show 0 < 2 by omega) (show k ≤ bl v - 1 by omega)
      omega
    · exact h2
theorem bl_lib (x : Int) (h0 : 0 ≤ x) (h1 : x ≤ 4294967295) : Lib.bitLen x.toNat = bl x := by
  obtain ⟨X, rfl⟩ := Int.eq_ofNat_of_zero_le h0
  rw [Int.toNat_natCast]
  rcases (show X = 0 ∨ 0 < X by omega) with rfl | hp
  · rfl
  · obtain ⟨a1, a2, a3⟩ := Lib.bitLenAux_bounds 64 X (by omega) (by omega)
    change 1 ≤ Lib.bitLen X at a1
    change 2 ^ (Lib.bitLen X - 1) ≤ X at a2
    change X < 2 ^ Lib.bitLen X at a3
    obtain ⟨k, hk⟩ : ∃ k, Lib.bitLen X = k + 1 := ⟨Lib.bitLen X - 1, by omega⟩
    rw [hk] at a2 a3 ⊢
    rw [Nat.add_sub_cancel] at a2
    exact (bl_eq (by exact_mod_cast a2) (by exact_mod_cast a3)).symm
theorem pw_two (n : Nat) : pw n = 2 ^ (32 * n) := by
  induction n with
  | zero => rfl
  | succ n ih => rw [pw, ih, show 32 * (n + 1) = 32 * n + 32 by omega, Int.pow_add]; omega
theorem bl32 {x : Int} (h : x ≤ 4294967295) : bl x ≤ 32 := bl_le (by have : (2 : Int) ^ 32 = 4294967296 := rfl; omega)
theorem bl_pos {x : Int} (h : 0 < x) : 0 < bl x := (bl_bounds h).1
theorem bl_mul {x y : Int} {m : Nat} (hx : 0 < x) (h0 : 0 ≤ y) (h1 : y < 2 ^ m) : bl (x * 2 ^ m + y) = bl x + m := by
  obtain ⟨b1, b2, b3⟩ := bl_bounds hx
  obtain ⟨k, hk⟩ : ∃ k, bl x = k + 1 := ⟨bl x - 1, by omega⟩
  rw [hk] at b2 b3 ⊢
  rw [Nat.add_sub_cancel] at b2
  have hp : 0 < (2 : Int) ^ m := Int.pow_pos (by omega)
  have e1 : (2 : Int) ^ k * 2 ^ m ≤ x * 2 ^ m := Int.mul_le_mul_of_nonneg_right b2 (by omega)
  have e2 : (x + 1) * 2 ^ m ≤ 2 ^ (k + 1) * 2 ^ m := Int.mul_le_mul_of_nonneg_right (by omega) (by omega)
  rw [← Int.pow_add] at e1 e2
  rw [Int.add_mul] at e2
  rw [show k + 1 + m = (k + m) + 1 by omega]
  exact bl_eq (by omega) (by rw [show k + m + 1 = k + 1 + m by omega]; omega)
/-- The bits of a row: those of its highest digit, and 32 for each other one. -/
theorem bl_top {xs : List Int} {p : Nat} (hd : ∀ x ∈ xs, 0 ≤ x ∧ x ≤ 4294967295) (hn : xs.length = p + 1) (ht : trimL xs = xs) : 0 < dg xs p ∧ bl (val xs) = 32 * p + bl (dg xs p) := by
  have e := val_take xs p
  rw [List.take_of_length_le (by omega)] at e
  have b := val_bounds (xs.take p) (take_dig hd p)
  rw [List.length_take, show min p xs.length = p by omega] at b
  have h := dg_dig hd p
  have hpos : 0 < dg xs p := by
    rcases (show dg xs p = 0 ∨ 0 < dg xs p by omega) with h0 | h0
    · exfalso
      have h2 := val_ge xs hd ht (by omega)
      rw [hn, Nat.add_sub_cancel, e, h0] at h2
      omega
    · exact h0
  refine ⟨hpos, ?_⟩
  rw [e, show val (xs.take p) + pw p * dg xs p = dg xs p * 2 ^ (32 * p) + val (xs.take p) by rw [← pw_two]; grind, bl_mul hpos b.1 (by rw [← pw_two]; exact b.2)]
  omega
/-- A row shifted to the right by one bit. -/
def halfL : List Int → List Int
  | [] => []
  | x :: xs => (x / 2 + xs.headD 0 % 2 * 2147483648) :: halfL xs
theorem halfL_len : ∀ xs : List Int, (halfL xs).length = xs.length
  | [] => rfl
  | x :: xs => by simp only [halfL, List.length_cons, halfL_len xs]
theorem halfL_dg : ∀ (xs : List Int) (k : Nat), k < xs.length → dg (halfL xs) k = dg xs k / 2 + dg xs (k + 1) % 2 * 2147483648
  | [], k, h => by simp at h
  | x :: xs, 0, _ => by
    have : dg (x :: xs) 1 = xs.headD 0 := by cases xs <;> simp [dg]
    simp [halfL, dg] at this ⊢
    rw [this]
  | x :: xs, k + 1, h => by
    have ih := halfL_dg xs k (by simpa using h)
    have e : ∀ (y : Int) (ys : List Int) (j : Nat), dg (y :: ys) (j + 1) = dg ys j := fun y ys j => by simp [dg]
    simp only [halfL, e]
    exact ih
theorem halfL_val : ∀ xs : List Int, val (halfL xs) = val xs / 2
  | [] => rfl
  | [x] => by simp only [halfL, val, List.headD_nil]; omega
  | x :: y :: xs => by
    have ih := halfL_val (y :: xs)
    simp only [halfL, val, List.headD_cons] at ih ⊢
    omega
theorem halfL_dig : ∀ xs : List Int, (∀ x ∈ xs, 0 ≤ x ∧ x ≤ 4294967295) → ∀ x ∈ halfL xs, 0 ≤ x ∧ x ≤ 4294967295
  | [], _, y, hy => by simp [halfL] at hy
  | x :: xs, h, y, hy => by
    rcases List.mem_cons.1 hy with rfl | hy
    · have h1 := h x List.mem_cons_self
      omega
    · exact halfL_dig xs (fun z hz => h z (List.mem_cons_of_mem _ hz)) y hy
theorem set_take_next {xs ys : List Int} {k : Nat} (hl : xs.length = ys.length) (hk : k < xs.length) (h : xs.take k = ys.take k) : (xs.set k (dg ys k)).take (k + 1) = ys.take (k + 1) := by
  rw [set_take xs k _ hk, take_dg ys k (by omega), h]
end Go.Proofs.YtegnnghoiffmhaaDoor.Big
