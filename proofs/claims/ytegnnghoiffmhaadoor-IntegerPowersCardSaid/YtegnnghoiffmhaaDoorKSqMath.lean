/- Square roots. Of no program. -/
import Derived.Test.YtegnnghoiffmhaaDoorKBezMath
import Derived.Test.YtegnnghoiffmhaaDoorKMath
namespace Go.Proofs.YtegnnghoiffmhaaDoor.Big
open Go.RowKit
set_option linter.unusedVariables false
/-- r is the root of a, rounded down. -/
def SQ (a r : Int) : Prop := 0 ≤ r ∧ r * r ≤ a ∧ a < (r + 1) * (r + 1)
theorem sq_mono {a b : Int} (h0 : 0 ≤ a) (h : a ≤ b) : a * a ≤ b * b := Int.mul_le_mul h h h0 (by omega)
theorem sq_unique {a r s : Int} (h1 : SQ a r) (h2 : SQ a s) : r = s := by
  obtain ⟨a1, a2, a3⟩ := h1
  obtain ⟨b1, b2, b3⟩ := h2
  rcases Int.lt_trichotomy r s with h | h | h
  · have := sq_mono (show 0 ≤ r + 1 by omega) (show r + 1 ≤ s by omega); omega
  · exact h
  · have := sq_mono (show 0 ≤ s + 1 by omega) (show s + 1 ≤ r by omega); omega
theorem two_pos (h : Nat) : 0 < (2 : Int) ^ h := Int.pow_pos (by omega)
theorem sq_pow (a : Int) {h : Nat} (hh : bl a ≤ 2 * h) : a < 2 ^ h * 2 ^ h := by
  rw [← Int.pow_add]
  have h1 := bl_lt a
  have h2 : (2 : Int) ^ bl a ≤ 2 ^ (h + h) := by exact_mod_cast Nat.pow_le_pow_right (show 0 < 2 by omega) (show bl a ≤ h + h by omega)
  omega
theorem sq_start {a : Int} {h : Nat} (hh : bl a ≤ 2 * h) : 1 ≤ (2 : Int) ^ h ∧ a < (2 ^ h + 1) * (2 ^ h + 1) := by
  have h1 := sq_pow a hh
  have h2 := two_pos h
  have h3 := sq_mono (show 0 ≤ (2 : Int) ^ h by omega) (show (2 : Int) ^ h ≤ 2 ^ h + 1 by omega)
  omega
theorem sq_round {a x q n : Int} (hx : 1 ≤ x) (ha : 0 < a) (hlt : a < (x + 1) * (x + 1)) (hq : a.fdiv x = q) (hn : (x + q).fdiv 2 = n) (hc : n < x) : 1 ≤ n ∧ a < (n + 1) * (n + 1) := by
  obtain ⟨h1, h2⟩ := fdm a x (by omega)
  obtain ⟨h3, h4⟩ := fdm (x + q) 2 (by omega)
  rw [hq] at h2
  rw [hn] at h4
  have hq0 : 0 ≤ q := by
    rcases lt_or_ge_i q 0 with h | h
    · exfalso
      have : x * q ≤ x * (-1) := Int.mul_le_mul_of_nonneg_left (by omega) (by omega)
      omega
    · exact h
  have hn0 : 1 ≤ n := by
    rcases lt_or_ge_i n 1 with h | h
    · exfalso
      have e1 : x = 1 ∧ q = 0 := by omega
      rw [e1.1] at h1 h2
      rw [e1.2] at h2
      omega
    · exact h
  refine ⟨hn0, ?_⟩
  have h5 := sq_mono (show 0 ≤ x + (q + 1) by omega) (show x + (q + 1) ≤ 2 * (n + 1) by omega)
  have h6 := mul_self_nn (x - (q + 1))
  have h7 : (x + (q + 1)) * (x + (q + 1)) = (x - (q + 1)) * (x - (q + 1)) + 4 * (x * (q + 1)) := by grind
  have h8 : 2 * (n + 1) * (2 * (n + 1)) = 4 * ((n + 1) * (n + 1)) := by grind
  have h9 : x * (q + 1) = x * q + x := by grind
  omega
theorem sq_end {a x q n : Int} (hx : 1 ≤ x) (ha : 0 < a) (hlt : a < (x + 1) * (x + 1)) (hq : a.fdiv x = q) (hn : (x + q).fdiv 2 = n) (hc : x ≤ n) : SQ a x := by
  obtain ⟨h1, h2⟩ := fdm a x (by omega)
  obtain ⟨h3, h4⟩ := fdm (x + q) 2 (by omega)
  rw [hq] at h2
  rw [hn] at h4
  refine ⟨by omega, ?_, hlt⟩
  have h5 : x * x ≤ x * q := Int.mul_le_mul_of_nonneg_left (by omega) (by omega)
  omega
/-- The reference's round: r² ≤ a < (r + 2^(i+1))². -/
theorem sq_bit {a r p : Int} {i : Nat} (hr : 0 ≤ r) (h1 : r * r ≤ a) (h2 : a < (r + 2 ^ (i + 1)) * (r + 2 ^ (i + 1))) (hp : 2 ^ i = p) :
    ((r + p) * (r + p) ≤ a → 0 ≤ r + p ∧ (r + p) * (r + p) ≤ a ∧ a < (r + p + 2 ^ i) * (r + p + 2 ^ i)) ∧ (¬ (r + p) * (r + p) ≤ a → a < (r + 2 ^ i) * (r + 2 ^ i)) := by
  have hp0 := two_pos i
  have e : (2 : Int) ^ (i + 1) = p + p := by rw [Int.pow_succ, hp]; omega
  rw [e] at h2
  rw [hp] at hp0 ⊢
  have e2 : r + p + p = r + (p + p) := by omega
  rw [e2]
  exact ⟨fun h => ⟨by omega, h, h2⟩, fun h => by omega⟩
theorem sq_last {a r : Int} (hr : 0 ≤ r) (h1 : r * r ≤ a) (h2 : a < (r + 2 ^ 0) * (r + 2 ^ 0)) : SQ a r := ⟨hr, h1, by simpa using h2⟩
theorem root_le {a r : Int} (hr : 0 ≤ r) (h1 : r * r ≤ a) : r ≤ a := by
  rcases (show r = 0 ∨ 1 ≤ r by omega) with h | h
  · subst h; omega
  · have : r * 1 ≤ r * r := Int.mul_le_mul_of_nonneg_left h hr
    omega
theorem mg_pow2 {h N : Nat} (hh : h < 32 * (N + 1)) : (mg ((2 : Int) ^ h)).length ≤ N + 1 := by
  have h1 := two_pos h
  have h2 : (2 : Int) ^ h < 2 ^ (32 * (N + 1)) := by exact_mod_cast Nat.pow_lt_pow_right (show 1 < 2 by omega) hh
  rw [← pw_two] at h2
  exact mg_len (by omega) h2
theorem bl_mg {x : Int} {N : Nat} (h : (mg x).length ≤ N) : bl x ≤ 32 * N := by
  have := mg_bound h
  exact bl_le (by rw [← pw_two]; omega)
end Go.Proofs.YtegnnghoiffmhaaDoor.Big
