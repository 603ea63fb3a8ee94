/- Plain words on numbers that the pure texts share. Of no program. -/
import Derived.Test.YtpgmodghkamihaaDoorWWords
namespace Go.Proofs.YtpgmodghkamihaaDoor.Mx
open Go.RowKit Go.Proofs.YtpgmodghkamihaaDoorW.PrintWords

theorem wf64 {x : Int} (h : (Lit.int .i64 x).wf = true) : -9223372036854775808 ≤ x ∧ x ≤ 9223372036854775807 := by
  simpa [Lit.wf, IntKind.min, IntKind.max, IntKind.signed, IntKind.bits] using h
theorem wfu8 {x : Int} (h : (Lit.int .u8 x).wf = true) : 0 ≤ x ∧ x ≤ 255 := by
  simpa [Lit.wf, IntKind.min, IntKind.max, IntKind.signed, IntKind.bits] using h
theorem wfu32 {x : Int} (h : (Lit.int .u32 x).wf = true) : 0 ≤ x ∧ x ≤ 4294967295 := by
  simpa [Lit.wf, IntKind.min, IntKind.max, IntKind.signed, IntKind.bits] using h
theorem w64 {x : Int} (h : -9223372036854775808 ≤ x) (h2 : x ≤ 9223372036854775807) : wrap64 x = x := by unfold wrap64; omega
/-- Go's division: quotient and remainder, as linear arithmetic sees them. -/
theorem tdm (a b : Int) (hb : 0 < b) : a = b * a.tdiv b + a.tmod b ∧ -b < a.tmod b ∧ a.tmod b < b ∧ (0 ≤ a → 0 ≤ a.tmod b) ∧ (a ≤ 0 → a.tmod b ≤ 0) := by
  refine ⟨?_, Int.lt_tmod_of_pos a hb, Int.tmod_lt_of_pos a hb, fun h => Int.tmod_nonneg b h, fun h => ?_⟩
  · have := Int.tmod_add_mul_tdiv a b; omega
  · have h1 := Int.tmod_nonneg (a := -a) b (by omega)
    rw [Int.neg_tmod] at h1
    omega
theorem tdiv_nn {a b : Int} (h : 0 ≤ a) : a.tdiv b = a / b := Int.tdiv_eq_ediv_of_nonneg h
theorem tmod_nn {a b : Int} (h : 0 ≤ a) : a.tmod b = a % b := Int.tmod_eq_emod_of_nonneg h
end Go.Proofs.YtpgmodghkamihaaDoor.Mx
