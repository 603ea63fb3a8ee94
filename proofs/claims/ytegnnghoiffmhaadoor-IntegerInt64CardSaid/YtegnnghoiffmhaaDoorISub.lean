/- math/bits.Sub32: the difference and the borrow of three numbers. -/
import Derived.Test.YtegnnghoiffmhaaDoorIBase
import Derived.Laws.BitsAllLaws
namespace Go.Proofs.YtegnnghoiffmhaaDoor.Big
open Go.RowKit Go.Proofs.YtegnnghoiffmhaaDoorW.PrintWords
set_option linter.unusedSimpArgs false
theorem top31 (n : Nat) (h : n < 4294967296) : n / 2147483648 = (n.testBit 31).toNat ∧ (n.testBit 31 = true ↔ 2147483648 ≤ n) := by
  rw [Nat.testBit_eq_decide_div_mod_eq]
  constructor
  · have : n / 2 ^ 31 = 0 ∨ n / 2 ^ 31 = 1 := by omega
    rcases this with h | h <;> (have h' : n / 2147483648 = n / 2 ^ 31 := rfl; rw [h', h]; rfl)
  · simp only [decide_eq_true_eq]
    omega
theorem borrow_bits (x y c : Int) (hx : 0 ≤ x ∧ x ≤ 4294967295) (hy : 0 ≤ y ∧ y ≤ 4294967295) (hc : 0 ≤ c ∧ c ≤ 1) :
    bits .or .u32 (bits .and .u32 (bits .xor .u32 IntKind.u32.max x) y) (bits .and .u32 (bits .xor .u32 IntKind.u32.max (bits .xor .u32 x y)) ((x - y - c) % 4294967296)) / 2147483648 = bor x y c := by
  obtain ⟨X, rfl⟩ := Int.eq_ofNat_of_zero_le hx.1
  obtain ⟨Y, rfl⟩ := Int.eq_ofNat_of_zero_le hy.1
  have hX : X < 4294967296 := by omega
  have hY : Y < 4294967296 := by omega
  obtain ⟨D, hD⟩ := Int.eq_ofNat_of_zero_le (show 0 ≤ (((X : Int) - Y - c) % 4294967296) by omega)
  have hDl : D < 4294967296 := by omega
  have hm : IntKind.u32.max = ((4294967295 : Nat) : Int) := by rfl
  have hXY : X ^^^ Y < 4294967296 := Nat.xor_lt_two_pow (n := 32) hX hY
  have h1 : 4294967295 ^^^ X < 4294967296 := Nat.xor_lt_two_pow (n := 32) (by omega) hX
  have h2 : 4294967295 ^^^ (X ^^^ Y) < 4294967296 := Nat.xor_lt_two_pow (n := 32) (by omega) hXY
  have h3 : (4294967295 ^^^ X) &&& Y < 4294967296 := Nat.lt_of_le_of_lt Nat.and_le_right hY
  have h4 : (4294967295 ^^^ (X ^^^ Y)) &&& D < 4294967296 := Nat.lt_of_le_of_lt Nat.and_le_right hDl
  rw [hD, hm, u32_xor_nat _ _ (by omega) hX, u32_and_nat _ _ h1 hY, u32_xor_nat X Y hX hY, u32_xor_nat _ _ (by omega) hXY, u32_and_nat _ _ h2 hDl, u32_or_nat _ _ h3 h4]
  have h5 : ((4294967295 ^^^ X) &&& Y) ||| ((4294967295 ^^^ (X ^^^ Y)) &&& D) < 4294967296 := Nat.or_lt_two_pow (n := 32) h3 h4
  obtain ⟨e, _⟩ := top31 _ h5
  have e2 : (((((4294967295 ^^^ X) &&& Y) ||| ((4294967295 ^^^ (X ^^^ Y)) &&& D) : Nat) : Int) / 2147483648) = ((((4294967295 ^^^ X) &&& Y) ||| ((4294967295 ^^^ (X ^^^ Y)) &&& D)) / 2147483648 : Nat) := by omega
  rw [e2, e]
  simp only [Nat.testBit_or, Nat.testBit_and, Nat.testBit_xor]
  obtain ⟨_, tx⟩ := top31 X hX
  obtain ⟨_, ty⟩ := top31 Y hY
  obtain ⟨_, td⟩ := top31 D hDl
  have tm : Nat.testBit 4294967295 31 = true := by decide
  rw [tm]
  generalize X.testBit 31 = bx at *
  generalize Y.testBit 31 = by_ at *
  generalize D.testBit 31 = bd at *
  unfold bor
  cases bx <;> cases by_ <;> cases bd <;> simp at tx ty td ⊢ <;> omega
theorem sub32_any (x y c : Int) (w : World) (hx : 0 ≤ x ∧ x ≤ 4294967295) (hy : 0 ≤ y ∧ y ≤ 4294967295) (hc : 0 ≤ c ∧ c ≤ 1) :
    Calls Tryd.prog 84 #[.int .u32 x, .int .u32 y, .int .u32 c] w fun e w' => e = .returned (.tuple #[.int .u32 ((x - y - c) % 4294967296), .int .u32 (bor x y c)]) ∧ w = w' := by
  have E := borrow_bits x y c hx hy hc
  go_enter Tryd.func84, Tryd.ntmps84
  go_wp2
  go_ret2
  exact ⟨rfl, rfl⟩
end Go.Proofs.YtegnnghoiffmhaaDoor.Big
