/- Numbers as rows of digits to the base 2^32, the least first. Of no program. Words of our own on rows of whole numbers: a row that is read (it stays as it is for ever), and a row of the call's own. math/bits.Sub32: the difference and the borrow of three numbers. integer.minus. integer.plus: the sum of two rows of digits. integer.magnitude, canonical, clone. integer.compare: rows of digits without zeros at the end. integer.times: the product of two rows of digits. integer.sum, Add, Sub. integer.Sub, Mul, Sign, Negate, Abs, Compare, of numbers. integer.Compare, FromInt64, BitLen, of numbers. -/
import Derived.RowKit
import Derived.Test.YtegnnghoiffmhaaDoorProg
import Derived.Test.YtegnnghoiffmhaaDoorWWords
import Derived.IntWalk
import Derived.Laws.BitsAllLaws
import Derived.Deep.RegionHeld3
import Derived.Deep.DrawnRows
namespace Go.Proofs.YtegnnghoiffmhaaDoor.Big
/-- Digit k, 0 beyond the end. -/
def dg (xs : List Int) (k : Nat) : Int := xs.getD k 0
/-- The borrow of x - y - c. -/
def bor (x y c : Int) : Int := if x < y + c then 1 else 0
theorem bor01 (x y c : Int) : 0 ≤ bor x y c ∧ bor x y c ≤ 1 := by unfold bor; split <;> omega
/-- x - y - c, digit by digit. -/
def subL : List Int → List Int → Int → List Int
  | [], _, _ => []
  | x :: xs, ys, c => (x - ys.headD 0 - c) % 4294967296 :: subL xs ys.tail (bor x (ys.headD 0) c)
theorem headD_drop (xs : List Int) (k : Nat) : (xs.drop k).headD 0 = dg xs k := by
  unfold dg
  rw [List.headD_eq_head?_getD, List.head?_drop, List.getD_eq_getElem?_getD]
theorem drop_dg (xs : List Int) (k : Nat) (hk : k < xs.length) : xs.drop k = dg xs k :: xs.drop (k + 1) := by
  unfold dg
  rw [List.drop_eq_getElem_cons hk, List.getD_eq_getElem?_getD, List.getElem?_eq_getElem hk]; rfl
theorem dg_ge (xs : List Int) (k : Nat) (hk : xs.length ≤ k) : dg xs k = 0 := by
  unfold dg
  rw [List.getD_eq_getElem?_getD, List.getElem?_eq_none hk]; rfl
theorem set_take (cs : List Int) (k : Nat) (x : Int) (hk : k < cs.length) : (cs.set k x).take (k + 1) = cs.take k ++ [x] := by
  rw [List.take_succ_eq_append_getElem (by simpa using hk), List.getElem_set_self, List.take_set, List.set_eq_of_length_le (by simp; omega)]
theorem subL_len : ∀ (xs ys : List Int) (c : Int), (subL xs ys c).length = xs.length
  | [], _, _ => rfl
  | x :: xs, ys, c => by simp only [subL, List.length_cons, subL_len xs]
theorem subL_step (xs ys : List Int) (k : Nat) (c : Int) (hk : k < xs.length) : subL (xs.drop k) (ys.drop k) c = (dg xs k - dg ys k - c) % 4294967296 :: subL (xs.drop (k + 1)) (ys.drop (k + 1)) (bor (dg xs k) (dg ys k) c) := by
  rw [drop_dg xs k hk]
  simp only [subL, headD_drop, List.tail_drop]
/-- Without the zeros at the end. -/
def trimL : List Int → List Int
  | [] => []
  | x :: xs => if trimL xs = [] ∧ x = 0 then [] else x :: trimL xs
theorem trimL_zero : ∀ xs : List Int, trimL (xs ++ [0]) = trimL xs
  | [] => by simp [trimL]
  | x :: xs => by simp only [List.cons_append, trimL, trimL_zero xs]
theorem trimL_nz {z : Int} (h : z ≠ 0) : ∀ xs : List Int, trimL (xs ++ [z]) = xs ++ [z]
  | [] => by simp [trimL, h]
  | x :: xs => by
    simp only [List.cons_append, trimL, trimL_nz h xs]
    rw [if_neg (by simp)]
theorem take_dg (xs : List Int) (k : Nat) (hk : k < xs.length) : xs.take (k + 1) = xs.take k ++ [dg xs k] := by
  unfold dg
  rw [List.take_succ_eq_append_getElem hk, List.getD_eq_getElem?_getD, List.getElem?_eq_getElem hk]; rfl
theorem trimL_prefix : ∀ xs : List Int, trimL xs = xs.take (trimL xs).length
  | [] => rfl
  | x :: xs => by
    simp only [trimL]
    split
    · rfl
    · rw [List.length_cons, List.take_succ_cons, ← trimL_prefix xs]
theorem trimL_len (xs : List Int) : (trimL xs).length ≤ xs.length := by
  have h := congrArg List.length (trimL_prefix xs)
  rw [List.length_take] at h
  omega
/-- 2^32 to the k. -/
def pw : Nat → Int
  | 0 => 1
  | k + 1 => pw k * 4294967296
theorem pw_pos : ∀ k, 0 < pw k
  | 0 => by decide
  | k + 1 => by have := pw_pos k; simp only [pw]; omega
theorem pw_add (a : Nat) : ∀ b, pw (a + b) = pw a * pw b
  | 0 => by simp [pw]
  | b + 1 => by rw [← Nat.add_assoc]; simp only [pw, pw_add a b, Int.mul_assoc]
theorem pw_le {a b : Nat} (h : a ≤ b) : pw a ≤ pw b := by
  obtain ⟨d, rfl⟩ := Nat.exists_eq_add_of_le h
  induction d with
  | zero => simp
  | succ d ih =>
    have := ih (by omega)
    rw [← Nat.add_assoc]
    have h2 := pw_pos (a + d)
    simp only [pw]
    omega
/-- The number. -/
def val : List Int → Int
  | [] => 0
  | x :: xs => x + 4294967296 * val xs
theorem val_append : ∀ xs ys : List Int, val (xs ++ ys) = val xs + pw xs.length * val ys
  | [], ys => by simp [val, pw]
  | x :: xs, ys => by
    simp only [List.cons_append, val, val_append xs ys, List.length_cons, pw]
    grind
theorem val_take (xs : List Int) (k : Nat) : val (xs.take (k + 1)) = val (xs.take k) + pw k * dg xs k := by
  by_cases hk : k < xs.length
  · rw [take_dg xs k hk, val_append, List.length_take]
    rw [show min k xs.length = k by omega]
    simp [val]
  · rw [dg_ge xs k (by omega), List.take_of_length_le (by omega), List.take_of_length_le (by omega)]
    simp
theorem val_set : ∀ (xs : List Int) (k : Nat) (v : Int), k < xs.length → val (xs.set k v) = val xs + pw k * (v - dg xs k)
  | [], k, v, h => by simp at h
  | x :: xs, 0, v, _ => by simp [val, pw, dg]; omega
  | x :: xs, k + 1, v, h => by
    have ih := val_set xs k v (by simpa using h)
    have e : dg (x :: xs) (k + 1) = dg xs k := by simp [dg]
    simp only [List.set_cons_succ, val, ih, pw, e]
    grind
theorem val_zeros : ∀ n : Nat, val (List.replicate n 0) = 0
  | 0 => rfl
  | n + 1 => by simp only [List.replicate_succ, val, val_zeros n]; rfl
theorem val_bounds : ∀ xs : List Int, (∀ x ∈ xs, 0 ≤ x ∧ x ≤ 4294967295) → 0 ≤ val xs ∧ val xs < pw xs.length
  | [], _ => by simp [val, pw]
  | x :: xs, h => by
    have h1 := val_bounds xs (fun y hy => h y (List.mem_cons_of_mem _ hy))
    have h2 := h x List.mem_cons_self
    simp only [val, List.length_cons, pw]
    omega
theorem val_trim : ∀ xs : List Int, val (trimL xs) = val xs
  | [] => rfl
  | x :: xs => by
    have ih := val_trim xs
    simp only [trimL]
    split
    · rename_i h
      rw [h.1] at ih
      simp only [val] at ih ⊢
      omega
    · simp only [val, ih]
theorem trimL_trimL : ∀ xs : List Int, trimL (trimL xs) = trimL xs
  | [] => rfl
  | x :: xs => by
    simp only [trimL]
    split
    · rfl
    · rename_i h
      simp only [trimL, trimL_trimL xs]
      rw [if_neg h]
theorem val_zero : ∀ xs : List Int, (∀ x ∈ xs, 0 ≤ x ∧ x ≤ 4294967295) → val xs = 0 → trimL xs = []
  | [], _, _ => rfl
  | x :: xs, h, hv => by
    have h1 := val_bounds xs (fun y hy => h y (List.mem_cons_of_mem _ hy))
    have h2 := h x List.mem_cons_self
    simp only [val] at hv
    have ih := val_zero xs (fun y hy => h y (List.mem_cons_of_mem _ hy)) (by omega)
    simp only [trimL]
    rw [if_pos ⟨ih, by omega⟩]
/-- Rows of one number are one but for zeros at the end. -/
theorem trim_inj : ∀ xs ys : List Int, (∀ x ∈ xs, 0 ≤ x ∧ x ≤ 4294967295) → (∀ x ∈ ys, 0 ≤ x ∧ x ≤ 4294967295) → val xs = val ys → trimL xs = trimL ys
  | [], ys, _, hy, h => (val_zero ys hy h.symm).symm
  | xs, [], hx, _, h => val_zero xs hx h
  | x :: xs, y :: ys, hx, hy, h => by
    have h1 := val_bounds xs (fun z hz => hx z (List.mem_cons_of_mem _ hz))
    have h2 := hx x List.mem_cons_self
    have h3 := val_bounds ys (fun z hz => hy z (List.mem_cons_of_mem _ hz))
    have h4 := hy y List.mem_cons_self
    simp only [val] at h
    have e : x = y := by omega
    have ih := trim_inj xs ys (fun z hz => hx z (List.mem_cons_of_mem _ hz)) (fun z hz => hy z (List.mem_cons_of_mem _ hz)) (by omega)
    simp only [trimL, ih, e]
theorem trim_dig {xs : List Int} (h : ∀ x ∈ xs, 0 ≤ x ∧ x ≤ 4294967295) : ∀ x ∈ trimL xs, 0 ≤ x ∧ x ≤ 4294967295 := fun x hx => h x (by rw [trimL_prefix xs] at hx; exact List.mem_of_mem_take hx)
/-- The digits of a number, the one row without zeros at the end. -/
def dgs : Nat → List Int
  | 0 => []
  | n + 1 => ((n + 1) % 4294967296 : Nat) :: dgs ((n + 1) / 4294967296)
decreasing_by omega
theorem dgs_dig : ∀ n : Nat, ∀ x ∈ dgs n, 0 ≤ x ∧ x ≤ 4294967295 := by
  intro n
  induction n using Nat.strongRecOn with
  | _ n ih =>
    cases n with
    | zero => intro x hx; simp [dgs] at hx
    | succ n =>
      intro x hx
      rw [dgs] at hx
      rcases List.mem_cons.1 hx with rfl | hx
      · omega
      · exact ih _ (by omega) x hx
theorem dgs_val : ∀ n : Nat, val (dgs n) = n := by
  intro n
  induction n using Nat.strongRecOn with
  | _ n ih =>
    cases n with
    | zero => simp [dgs, val]
    | succ n =>
      rw [dgs]
      simp only [val]
      rw [ih _ (by omega)]
      omega
theorem dgs_trim : ∀ n : Nat, trimL (dgs n) = dgs n := by
  intro n
  induction n using Nat.strongRecOn with
  | _ n ih =>
    cases n with
    | zero => simp [dgs, trimL]
    | succ n =>
      rw [dgs]
      simp only [trimL]
      rw [ih _ (by omega), if_neg]
      rintro ⟨h1, h2⟩
      have h3 := dgs_val ((n + 1) / 4294967296)
      rw [h1] at h3
      simp only [val] at h3
      omega
theorem trim_eq_dgs {xs : List Int} (h : ∀ x ∈ xs, 0 ≤ x ∧ x ≤ 4294967295) (n : Nat) (hv : val xs = n) : trimL xs = dgs n := by
  rw [← dgs_trim n]
  exact trim_inj xs (dgs n) h (dgs_dig n) (by rw [dgs_val, hv])
theorem dgs_len {n : Nat} {k : Nat} (h : (n : Int) < pw k) : (dgs n).length ≤ k := by
  induction k generalizing n with
  | zero =>
    simp only [pw] at h
    obtain rfl : n = 0 := by omega
    simp [dgs]
  | succ k ih =>
    cases n with
    | zero => simp [dgs]
    | succ n =>
      rw [dgs, List.length_cons]
      simp only [pw] at h
      have := ih (n := (n + 1) / 4294967296) (by omega)
      omega
theorem dgs_eq_nil {n : Nat} : dgs n = [] ↔ n = 0 := by
  constructor
  · intro h
    have := dgs_val n
    rw [h] at this
    simp only [val] at this
    omega
  · rintro rfl; simp [dgs]
/-- -1, 0 or 1. -/
def cmpZ (a b : Int) : Int := if a < b then -1 else if b < a then 1 else 0
theorem cmpZ_lt {a b : Int} (h : a < b) : cmpZ a b = -1 := by simp [cmpZ, h]
theorem cmpZ_gt {a b : Int} (h : b < a) : cmpZ a b = 1 := by unfold cmpZ; rw [if_neg (by omega), if_pos h]
theorem cmpZ_eq {a b : Int} (h : a = b) : cmpZ a b = 0 := by unfold cmpZ; rw [if_neg (by omega), if_neg (by omega)]
theorem cmpZ_nonneg (a b : Int) : 0 ≤ cmpZ a b ↔ b ≤ a := by
  unfold cmpZ
  split
  · omega
  · split <;> omega
/-- A row without zeros at the end is not small. -/
theorem val_ge : ∀ xs : List Int, (∀ x ∈ xs, 0 ≤ x ∧ x ≤ 4294967295) → trimL xs = xs → 0 < xs.length → pw (xs.length - 1) ≤ val xs
  | [], _, _, h => by simp at h
  | [x], hd, ht, _ => by
    have h2 := hd x List.mem_cons_self
    have : x ≠ 0 := by rintro rfl; simp [trimL] at ht
    simp [val, pw]; omega
  | x :: y :: xs, hd, ht, _ => by
    have h2 := hd x List.mem_cons_self
    have hd' := fun z hz => hd z (List.mem_cons_of_mem _ hz)
    have ht' : trimL (y :: xs) = y :: xs := by
      rw [trimL] at ht
      split at ht
      · cases ht
      · exact (List.cons.inj ht).2
    have ih := val_ge (y :: xs) hd' ht' (by simp)
    simp only [List.length_cons, Nat.add_sub_cancel, pw] at ih ⊢
    rw [val]
    omega
theorem val_lt_len {xs ys : List Int} (hx : ∀ x ∈ xs, 0 ≤ x ∧ x ≤ 4294967295) (hy : ∀ x ∈ ys, 0 ≤ x ∧ x ≤ 4294967295) (ht : trimL ys = ys) (h : xs.length < ys.length) : val xs < val ys := by
  have h1 := (val_bounds xs hx).2
  have h2 := val_ge ys hy ht (by omega)
  have h3 := pw_le (show xs.length ≤ ys.length - 1 by omega)
  omega
theorem take_dig {xs : List Int} (h : ∀ x ∈ xs, 0 ≤ x ∧ x ≤ 4294967295) (k : Nat) : ∀ x ∈ xs.take k, 0 ≤ x ∧ x ≤ 4294967295 := fun x hx => h x (List.mem_of_mem_take hx)
/-- Where the digits part, the greater digit decides. -/
theorem val_take_lt {xs ys : List Int} (hx : ∀ x ∈ xs, 0 ≤ x ∧ x ≤ 4294967295) (hy : ∀ x ∈ ys, 0 ≤ x ∧ x ≤ 4294967295) (k : Nat) (h : dg xs k < dg ys k) : val (xs.take (k + 1)) < val (ys.take (k + 1)) := by
  rw [val_take, val_take]
  have h1 := (val_bounds _ (take_dig hx k)).2
  have h2 := (val_bounds _ (take_dig hy k)).1
  have h3 := pw_le (show (xs.take k).length ≤ k by rw [List.length_take]; omega)
  have h4 : pw k * (dg xs k + 1) ≤ pw k * dg ys k := Int.mul_le_mul_of_nonneg_left (by omega) (by have := pw_pos k; omega)
  rw [Int.mul_add] at h4
  omega
theorem val_subL : ∀ (xs ys : List Int) (c : Int), (∀ x ∈ xs, 0 ≤ x ∧ x ≤ 4294967295) → (∀ x ∈ ys, 0 ≤ x ∧ x ≤ 4294967295) → 0 ≤ c → c ≤ 1 → ys.length ≤ xs.length → ∃ b : Int, 0 ≤ b ∧ b ≤ 1 ∧ val (subL xs ys c) = val xs - val ys - c + b * pw xs.length
  | [], ys, c, _, _, h0, h1, hl => by
    have : ys = [] := List.eq_nil_of_length_eq_zero (by simpa using hl)
    subst this
    exact ⟨c, h0, h1, by simp [subL, val, pw]; omega⟩
  | x :: xs, ys, c, hx, hy, h0, h1, hl => by
    have b1 := bor01 x (ys.headD 0) c
    have hyt : ∀ z ∈ ys.tail, 0 ≤ z ∧ z ≤ 4294967295 := fun z hz => hy z (List.mem_of_mem_tail hz)
    obtain ⟨b, hb0, hb1, hv⟩ := val_subL xs ys.tail (bor x (ys.headD 0) c) (fun z hz => hx z (List.mem_cons_of_mem _ hz)) hyt b1.1 b1.2 (by simp at hl ⊢; omega)
    refine ⟨b, hb0, hb1, ?_⟩
    simp only [subL, val, hv, List.length_cons, pw]
    have hy0 : 0 ≤ ys.headD 0 ∧ ys.headD 0 ≤ 4294967295 := by
      cases ys with
      | nil => simp
      | cons y ys => exact hy y List.mem_cons_self
    have hyv : val ys = ys.headD 0 + 4294967296 * val ys.tail := by
      cases ys with
      | nil => simp [val]
      | cons y ys => simp [val]
    have hx0 := hx x List.mem_cons_self
    have hm : (x - ys.headD 0 - c) % 4294967296 = x - ys.headD 0 - c + 4294967296 * bor x (ys.headD 0) c := by
      unfold bor
      split <;> omega
    rw [hm, hyv]
    grind
/-! ### integers: a sign and digits -/
/-- The integer of a sign and digits. -/
def iv (n : Bool) (xs : List Int) : Int := if n then -val xs else val xs
/-- The sign and the digits of an integer in canonical form. -/
def ng (z : Int) : Bool := decide (z < 0)
def mg (z : Int) : List Int := dgs z.natAbs
theorem mg_dig (z : Int) : ∀ x ∈ mg z, 0 ≤ x ∧ x ≤ 4294967295 := dgs_dig _
theorem mg_trim (z : Int) : trimL (mg z) = mg z := dgs_trim _
theorem mg_val (z : Int) : val (mg z) = z.natAbs := dgs_val _
theorem iv_canon (z : Int) : iv (ng z) (mg z) = z := by
  unfold iv ng
  rw [mg_val]
  by_cases h : z < 0 <;> simp [h] <;> omega
theorem mg_nil (z : Int) : mg z = [] ↔ z = 0 := by unfold mg; rw [dgs_eq_nil]; omega
theorem mg_len {z : Int} {k : Nat} (h1 : -pw k < z) (h2 : z < pw k) : (mg z).length ≤ k := dgs_len (by omega)
theorem mg_lt (z : Int) : -pw (mg z).length < z ∧ z < pw (mg z).length := by
  have h := val_bounds _ (mg_dig z)
  rw [mg_val] at h
  omega
theorem iv_lt (n : Bool) {xs : List Int} (h : ∀ x ∈ xs, 0 ≤ x ∧ x ≤ 4294967295) : -pw xs.length < iv n xs ∧ iv n xs < pw xs.length := by
  have h1 := val_bounds xs h
  unfold iv
  split <;> omega
theorem canon_row {n : Bool} {xs : List Int} (h : ∀ x ∈ xs, 0 ≤ x ∧ x ≤ 4294967295) : trimL xs = mg (iv n xs) ∧ (n && !(trimL xs).isEmpty) = ng (iv n xs) := by
  have hb := val_bounds xs h
  have e : trimL xs = mg (iv n xs) := trim_eq_dgs h _ (by unfold iv; split <;> omega)
  refine ⟨e, ?_⟩
  have h2 : (trimL xs).isEmpty = decide (val xs = 0) := by
    rw [Bool.eq_iff_iff, List.isEmpty_iff, decide_eq_true_eq, e, mg_nil]
    unfold iv
    split <;> omega
  rw [h2]
  unfold ng iv
  cases n
  · rw [Bool.false_and, if_neg (by decide)]; exact (decide_eq_false (by omega)).symm
  · rw [Bool.true_and, if_pos rfl, Bool.eq_iff_iff, decide_eq_true_eq, Bool.not_eq_true', decide_eq_false_iff_not]; omega
theorem iv_neg (n : Bool) (xs : List Int) : iv (!n) xs = -iv n xs := by cases n <;> simp [iv]
theorem iv_abs (n : Bool) {xs : List Int} (h : ∀ x ∈ xs, 0 ≤ x ∧ x ≤ 4294967295) : iv false xs = (iv n xs).natAbs := by
  have := val_bounds xs h
  cases n <;> simp [iv] <;> omega
theorem iv_mul (n0 n1 : Bool) (xs ys cs : List Int) (h : val cs = val xs * val ys) : iv (!(n0 == n1)) cs = iv n0 xs * iv n1 ys := by
  cases n0 <;> cases n1 <;> simp [iv, h, Int.neg_mul, Int.mul_neg]
theorem iv_pos {n : Bool} {xs : List Int} (h : ∀ x ∈ xs, 0 ≤ x ∧ x ≤ 4294967295) (ht : trimL xs ≠ []) : cmpZ (iv n xs) 0 = if n then -1 else 1 := by
  have hb := val_bounds xs h
  have hv : val xs ≠ 0 := fun h0 => ht (val_zero xs h h0)
  cases n
  · exact cmpZ_gt (by simp [iv]; omega)
  · exact cmpZ_lt (by simp [iv]; omega)
theorem iv_nil {n : Bool} {xs : List Int} (ht : trimL xs = []) : iv n xs = 0 := by
  have h := val_trim xs
  rw [ht] at h
  unfold iv
  simp only [val] at h
  split <;> omega
theorem cmpZ_01 (a b : Int) : -1 ≤ cmpZ a b ∧ cmpZ a b ≤ 1 := by
  unfold cmpZ
  split
  · omega
  · split <;> omega
theorem cmp_sgn {n0 n1 : Bool} {xs ys : List Int} (hx : ∀ x ∈ xs, 0 ≤ x ∧ x ≤ 4294967295) (hy : ∀ x ∈ ys, 0 ≤ x ∧ x ≤ 4294967295) {r sx sy q : Int} (hr : cmpZ (iv n0 xs) (iv n1 ys) = r) (hsx : cmpZ (iv n0 xs) 0 = sx) (hsy : cmpZ (iv n1 ys) 0 = sy) (hq : cmpZ (val xs) (val ys) = q) :
    (sx < sy → r = -1) ∧ (sy < sx → r = 1) ∧ (-1 ≤ sx ∧ sx ≤ 1) ∧ (-1 ≤ sy ∧ sy ≤ 1) ∧ (-1 ≤ q ∧ q ≤ 1) ∧ (sy = sx → r = sx * q) := by
  have b0 := val_bounds xs hx
  have b1 := val_bounds ys hy
  have c0 := cmpZ_01 (iv n0 xs) 0
  have c1 := cmpZ_01 (iv n1 ys) 0
  have c2 := cmpZ_01 (val xs) (val ys)
  rw [hsx] at c0
  rw [hsy] at c1
  rw [hq] at c2
  refine ⟨?_, ?_, c0, c1, c2, ?_⟩
  · intro h
    unfold cmpZ at *
    unfold iv at *
    cases n0 <;> cases n1 <;> simp at * <;> (repeat' split at *) <;> omega
  · intro h
    unfold cmpZ at *
    unfold iv at *
    cases n0 <;> cases n1 <;> simp at * <;> (repeat' split at *) <;> omega
  · intro h
    rcases (show sx = -1 ∨ sx = 0 ∨ sx = 1 by omega) with e | e | e <;> subst e <;> (try subst h) <;> unfold cmpZ at * <;> unfold iv at * <;> cases n0 <;> cases n1 <;> simp at * <;> (repeat' split at *) <;> omega
theorem iv_ne {n0 n2 : Bool} (h : ¬ n0 = n2) (xs ys : List Int) : iv n0 xs + iv n2 ys = if n0 then val ys - val xs else val xs - val ys := by
  unfold iv
  cases n0 <;> cases n2 <;> simp at h ⊢ <;> omega
theorem len_of_val_le {xs ys : List Int} (hx : ∀ x ∈ xs, 0 ≤ x ∧ x ≤ 4294967295) (hy : ∀ x ∈ ys, 0 ≤ x ∧ x ≤ 4294967295) (ht : trimL ys = ys) (h : val ys ≤ val xs) : ys.length ≤ xs.length := by
  rcases Nat.lt_or_ge xs.length ys.length with hl | hl
  · have := val_lt_len hx hy ht hl; omega
  · exact hl
theorem iv_trim (n : Bool) (xs : List Int) : iv n (trimL xs) = iv n xs := by unfold iv; rw [val_trim]
end Go.Proofs.YtegnnghoiffmhaaDoor.Big
namespace Go.Proofs.YtegnnghoiffmhaaDoor.Big
open Go.RowKit Go.Proofs.YtegnnghoiffmhaaDoorW.PrintWords
set_option linter.unusedVariables false
set_option linter.unusedSimpArgs false

/-- A row of digits that is read. -/
structure Rd (w : World) (A : Option Addr) (c : Nat) (xs : List Int) : Prop where
  reads : (Kd.int .u32).C w A xs.length xs
  le : xs.length ≤ c
  dig : ∀ x ∈ xs, 0 ≤ x ∧ x ≤ 4294967295
/-- A row of digits of the call's own. -/
structure Ow (w : World) (base : Nat) (v : Value) (xs : List Int) : Prop where
  own : (Kd.int .u32).R 57 w base (fun _ => True) v xs
  dig : ∀ x ∈ xs, 0 ≤ x ∧ x ≤ 4294967295
section
variable {w w' W : World} {A : Option Addr} {c base base' : Nat} {xs : List Int} {v : Value}
theorem Rd.below (h : Rd w A c xs) (hb : Below w.heap.size w w') : Rd w' A c xs := ⟨Kd.C_below h.reads hb, h.le, h.dig⟩
theorem Rd.drewN (h : Rd w A c xs) (n : Nat) : Rd (w.drewN n) A c xs := h.below (pw_below_drewN (Below.refl _ _) n)
theorem Rd.at_ (h : Rd w A c xs) (k : Nat) (hk : k < xs.length) : ∃ ad, A = some ad ∧ w.cell? (ad.add k) = some (.int .u32 (dg xs k)) := by
  obtain ⟨ad, e, hc⟩ := Kd.at_int h.reads (k : Int) (by omega) (by omega)
  exact ⟨ad, e, by simpa [rd, dg] using hc⟩
theorem dg_dig {xs : List Int} (h : ∀ x ∈ xs, 0 ≤ x ∧ x ≤ 4294967295) (k : Nat) : 0 ≤ dg xs k ∧ dg xs k ≤ 4294967295 := by
  unfold dg
  by_cases hk : k < xs.length
  · rw [List.getD_eq_getElem?_getD, List.getElem?_eq_getElem hk]; exact h _ (List.getElem_mem hk)
  · rw [List.getD_eq_getElem?_getD, List.getElem?_eq_none (by omega)]; simp
theorem Rd.take (h : Rd w A c xs) {m : Nat} (hm : m ≤ xs.length) : Rd w A c (xs.take m) :=
  ⟨Kd.C_take h.reads hm, by have := h.le; rw [List.length_take]; omega, fun x hx => h.dig x (List.mem_of_mem_take hx)⟩
theorem Rd.trim (h : Rd w A c xs) : Rd w A c (trimL xs) := by
  rw [trimL_prefix xs]; exact h.take (trimL_len xs)
theorem Rd.nil (w : World) : Rd w none 0 [] := ⟨Kd.C_nil _ w, Nat.le_refl _, fun x hx => by cases hx⟩
theorem Ow.rd (h : Ow w base v xs) : ∃ A c, v = .slice A xs.length c ∧ Rd w A c xs := by
  obtain ⟨A, c, e, hl, hr⟩ := Kd.R_reads h.own
  exact ⟨A, c, e, hr, hl, h.dig⟩
theorem Ow.lower (h : Ow w base v xs) (hb : base' ≤ base) : Ow w base' v xs := ⟨Kd.R_lower h.own hb, h.dig⟩
theorem Ow.below (h : Ow w base v xs) (hb : Below w.heap.size w w') : Ow w' base v xs := ⟨Kd.R_below h.own hb, h.dig⟩
theorem Ow.form (h : Ow w base v xs) (hp : 0 < xs.length) : ∃ g cap, v = .slice (some ⟨g, 0, none⟩) xs.length cap ∧ base ≤ g ∧ g < w.heap.size := by
  obtain ⟨g, cap, e, h1, h2, _⟩ := Kd.R_form h.own hp
  exact ⟨g, cap, e, h1, h2⟩
theorem Ow.cell {g n cap : Nat} (h : Ow w base (.slice (some ⟨g, 0, none⟩) n cap) xs) (k : Nat) (hk : k < n) : w.cell? ⟨g, k, none⟩ = some (.int .u32 (dg xs k)) ∧ w.frozen? ⟨g, k, none⟩ = false := by
  obtain ⟨h1, h2⟩ := Kd.R_celln (0 : Int) h.own (k : Int) (by omega) (by omega)
  exact ⟨by simpa [rdOf, dg] using h1, by simpa using h2⟩
theorem Ow.from_ (h : Ow w base v xs) : ∀ k, v.ownBlock = some k → base ≤ k := fun k hk => Kd.R_base h.own k hk
theorem Ow.rd' {A : Option Addr} {n c : Nat} (h : Ow w base (.slice A n c) xs) : n = xs.length ∧ Rd w A c xs := by
  obtain ⟨A', c', e, hr⟩ := h.rd
  simp only [Value.slice.injEq] at e
  obtain ⟨rfl, e2, rfl⟩ := e
  exact ⟨e2, hr⟩
theorem Ow.len {A : Option Addr} {n cap : Nat} (h : Ow w base (.slice A n cap) xs) : n = xs.length := (Kd.R_reads' h.own).1
theorem mem_set_dig {xs : List Int} {k : Nat} {x : Int} (h : ∀ x ∈ xs, 0 ≤ x ∧ x ≤ 4294967295) (hx : 0 ≤ x ∧ x ≤ 4294967295) : ∀ y ∈ xs.set k x, 0 ≤ y ∧ y ≤ 4294967295 := by
  intro y hy
  rcases List.mem_or_eq_of_mem_set hy with h1 | h1
  · exact h y h1
  · rw [h1]; exact hx
theorem Ow.put {g n cap : Nat} (h : Ow w base (.slice (some ⟨g, 0, none⟩) n cap) xs) (k : Nat) (x : Int) (hx : 0 ≤ x ∧ x ≤ 4294967295) : Ow (w.setCell ⟨g, k, none⟩ (.int .u32 x)) base (.slice (some ⟨g, 0, none⟩) n cap) (xs.set k x) := by
  have h1 := (Kd.R_putg h.own (k : Int) x).1
  rw [Int.toNat_natCast] at h1
  exact ⟨h1, mem_set_dig h.dig hx⟩
end
theorem info_u32 : (Tryd.prog.info? 57).map (fun i => (i.zero, i.size, i.bytes)) = some (some (.int .u32 0), 1, 4) := by kernel_rfl
section
variable {P : Program} {ops : Array Oper} {rest : List Oper} {o : Oper} {a : Act} {Q : Exit → Act → World → Prop} {W : World}
/-- make([]uint32, n) -/
theorem make_u32 (hgd : o.guard = none) {N : Tmp} (hd : o.dst = some N) (x y : Operand) (ho : o.op = .makeSlice 22 x y) (n : Nat) (hx : a.eval x = .int .i64 (n : Int)) (hy : a.eval y = .int .i64 (n : Int)) (hn : n ≤ 1099511627776)
    (h : ∀ v w1, Ow w1 W.heap.size v (List.replicate n 0) → Below W.heap.size W w1 → wpList Tryd.prog ops Q rest (a.put o.dst v) w1) : wpList Tryd.prog ops Q (o :: rest) a W := by
  refine Kd.R_make (Kd.int .u32) (w0 := W) W.heap.size 57 hgd hd 22 x y ho (n : Int) hx hy Tryd.underlying22 (.int .u32 0) 4 info_u32 rfl (by decide) (by omega) 0 (ok := fun _ => True) (okp := fun _ => True) rfl (fun _ hk => hk) trivial (by omega) (by simp; omega) (Below.refl _ _) (Nat.le_refl _) ?_
  intro v1 w1 h1 h2 _ _
  exact h v1 w1 ⟨by simpa using h1, fun x hx => by rw [(List.mem_replicate.1 hx).2]; omega⟩ h2
/-- append(v, ys...) to a row of the call's own -/
theorem app_u32 {w0 : World} {base : Nat} (hgd : o.guard = none) (s x : Operand) (ho : o.op = .call { callee := .builtin .append, args := #[s, x], argTypes := #[22, 22] }) (v : Value) (xs ys : List Int) (A : Option Addr) (c : Nat)
    (hs : a.eval s = v) (hx : a.eval x = .slice A ys.length c) (HO : Ow W base v xs) (HR : Rd W A c ys) (HB : Below base w0 W) (hbase : base ≤ W.heap.size) (hl : xs.length + ys.length ≤ 2199023255552)
    (h : ∀ v1 w1, Ow w1 base v1 (xs ++ ys) → Below base w0 w1 → wpList Tryd.prog ops Q rest (a.put o.dst v1) w1) : wpList Tryd.prog ops Q (o :: rest) a W := by
  refine Kd.R_append_rows (Kd.int .u32) (w0 := w0) base hgd s x 22 57 (.int .u32 0) 4 ho Tryd.underlying22 info_u32 rfl (by decide) (by omega) v xs ys A ys.length c (fun _ => True) (fun _ => False) hs hx HO.own HR.reads (fun _ _ h => h) (fun _ h => h.elim) (fun _ _ => trivial) HB hbase (by omega) ?_
  intro v1 w1 h1 h2 _ _
  exact h v1 w1 ⟨h1, fun x hx => (List.mem_append.1 hx).elim (HO.dig x) (HR.dig x)⟩ h2
end
theorem Ow.nil (w : World) (base : Nat) : Ow w base (.slice none 0 0) [] := ⟨Kd.R_nil _ _ _ _ _, fun x hx => by cases hx⟩
/-- A literal of two digits. -/
theorem Ow.lit2 (W : World) (base : Nat) (a b : Int) (ha : 0 ≤ a ∧ a ≤ 4294967295) (hb : 0 ≤ b ∧ b ≤ 4294967295) (h : base ≤ W.heap.size) : Ow (W.alloc (.cells #[.int .u32 a, .int .u32 b] 57)) base (.slice (some ⟨W.heap.size, 0, none⟩) 2 2) [a, b] :=
  ⟨⟨fun _ _ => trivial, OwnRow.lit (ps := [a, b]) (inner := [.int .u32 a, .int .u32 b]) W base ⟨rfl, fun j p hj => by
    match j, hj with
    | 0, hj => simp at hj; subst hj; rfl
    | 1, hj => simp at hj; subst hj; rfl
    | j + 2, hj => simp at hj⟩ h (by simp)⟩, fun x hx => by
      simp at hx
      rcases hx with rfl | rfl
      · exact ha
      · exact hb⟩
/-- A row of the call's own, and what was there when the call began is as it was. -/
structure Own (w0 w : World) (v : Value) (xs : List Int) : Prop where
  ow : Ow w w0.heap.size v xs
  be : Below w0.heap.size w0 w
theorem Own.put {w0 w : World} {g n cap : Nat} {xs : List Int} (h : Own w0 w (.slice (some ⟨g, 0, none⟩) n cap) xs) (k : Nat) (x : Int) (hk : k < xs.length) (hx : 0 ≤ x ∧ x ≤ 4294967295) : Own w0 (w.setCell ⟨g, k, none⟩ (.int .u32 x)) (.slice (some ⟨g, 0, none⟩) n cap) (xs.set k x) := by
  refine ⟨h.ow.put k x hx, ?_⟩
  obtain ⟨g', cap', e, hg, _⟩ := h.ow.form (by omega)
  cases e
  exact below_set h.be hg
/-- Behind a call that only made memory: what was there is as it was. -/
theorem bcell {W w1 : World} (hb : Below W.heap.size W w1) : (∀ b o, b < W.heap.size → w1.cell? ⟨b, o, none⟩ = W.cell? ⟨b, o, none⟩) ∧ (∀ b o, b < W.heap.size → w1.frozen? ⟨b, o, none⟩ = W.frozen? ⟨b, o, none⟩) :=
  ⟨fun b o h => hb.cell (p := ⟨b, o, none⟩) h, fun b o h => hb.frozen (p := ⟨b, o, none⟩) h⟩
/-- A store into a block that holds no digit. -/
theorem Rd.far {w : World} {A : Option Addr} {c : Nat} {xs : List Int} (h : Rd w A c xs) {g i : Nat} (hg : ∀ o x, w.cell? ⟨g, o, none⟩ ≠ some (.int .u32 x)) (u : Value) : Rd (w.setCell ⟨g, i, none⟩ u) A c xs := by
  have keep : ∀ (a : Addr) (x : Int), w.cell? a = some (.int .u32 x) → (w.setCell ⟨g, i, none⟩ u).cell? a = some (.int .u32 x) := by
    intro a x ha
    by_cases hb : a.block = g
    · exfalso
      obtain ⟨b, o, s⟩ := a
      cases s with
      | none => subst hb; exact hg o x ha
      | some s =>
        simp only [World.cell?] at ha
        split at ha <;> simp at ha
    · rw [World.cell?_of_block (Below.heap_setCell w ⟨g, i, none⟩ u a.block hb)]; exact ha
  refine ⟨?_, h.le, h.dig⟩
  obtain ⟨h1, h2, h3⟩ := h.reads
  refine ⟨h1, h2, fun hn => ?_⟩
  obtain ⟨ad, e, h4⟩ := h3 hn
  refine ⟨ad, e, fun j p hj => ?_⟩
  obtain ⟨cs, hl, hk, hc⟩ := h4 j p hj
  refine ⟨cs, hl, hk, fun q u' hu => ?_⟩
  have hk' : cs = [Value.int .u32 p] := hk
  subst hk'
  have hq : q = 0 := by have := (List.getElem?_eq_some_iff.1 hu).1; simp at this; exact this
  subst hq
  simp at hu
  subst hu
  exact keep _ _ (hc 0 _ rfl)
theorem two_cells {w : World} {g : Nat} {a b : Value} {t : TypeId} {fr : Nat × Nat} (h : w.heap[g]? = some (.cells #[a, b] t fr)) (ha : ∀ x, a ≠ .int .u32 x) (hb : ∀ x, b ≠ .int .u32 x) : ∀ o x, w.cell? ⟨g, o, none⟩ ≠ some (.int .u32 x) := by
  intro o x he
  simp only [World.cell?, h] at he
  match o, he with
  | 0, he => simp at he; exact ha x he
  | 1, he => simp at he; exact hb x he
  | o + 2, he => simp at he
theorem heap_set1 {w : World} {g i : Nat} {cs : Array Value} {t : TypeId} {fr : Nat × Nat} (h : w.heap[g]? = some (.cells cs t fr)) (u : Value) : (w.setCell ⟨g, i, none⟩ u).heap[g]? = some (.cells (cs.setIfInBounds i u) t fr) := by
  simp [World.setCell, Array.getElem?_modify, h]
theorem Rd.boxed {w : World} {A : Option Addr} {c : Nat} {xs : List Int} (h : Rd w A c xs) {g : Nat} {n0 n : Bool} {A0 A1 : Option Addr} {l0 c0 l1 c1 : Nat} {t : TypeId} {fr : Nat × Nat} (hg : w.heap[g]? = some (.cells #[.bool n0, .slice A0 l0 c0] t fr)) :
    Rd ((w.setCell ⟨g, 0, none⟩ (.bool n)).setCell ⟨g, 1, none⟩ (.slice A1 l1 c1)) A c xs :=
  (h.far (two_cells hg (by simp) (by simp)) _).far (two_cells (a := .bool n) (b := .slice A0 l0 c0) (by simpa using heap_set1 (i := 0) hg (.bool n)) (by simp) (by simp)) _
/-- A store into the row that may be written. -/
theorem grown_set {w W : World} {g i : Nat} {u : Value} (h : w.grownBy W (some g)) : w.grownBy (W.setCell ⟨g, i, none⟩ u) (some g) :=
  ⟨h.os, h.tape, h.output, by have := h.size; simpa [World.setCell] using this, fun k hk hne => by rw [Below.heap_setCell W ⟨g, i, none⟩ u k (fun e => hne (by rw [e]))]; exact h.block k hk hne⟩
theorem Rd.grown {w W : World} {A : Option Addr} {c : Nat} {xs : List Int} (h : Rd w A c xs) {row : Option Nat} (hg : w.grownBy W row) (hA : ∀ ad, A = some ad → some ad.block ≠ row) : Rd W A c xs := by
  refine ⟨?_, h.le, h.dig⟩
  obtain ⟨h1, h2, h3⟩ := h.reads
  refine ⟨h1, h2, fun hn => ?_⟩
  obtain ⟨ad, e, h4⟩ := h3 hn
  refine ⟨ad, e, fun j p hj => ?_⟩
  obtain ⟨cs, hl, hk, hc⟩ := h4 j p hj
  refine ⟨cs, hl, hk, fun q u hu => ?_⟩
  have h5 := hc q u hu
  have hb : ∀ n, (ad.add n).block = ad.block := fun n => by unfold Addr.add; split <;> rfl
  rw [World.cell?_of_block (hg.block _ (World.block_lt_of_cell? w _ h5) (by rw [hb]; exact hA ad e))]
  exact h5
theorem Ow.other {w w1 : World} {base : Nat} {v : Value} {xs : List Int} {row : Option Nat} (h : Ow w base v xs) (hg : w.grownBy w1 row) (hne : v.ownBlock = none ∨ v.ownBlock ≠ row) : Ow w1 base v xs := ⟨⟨h.own.1, h.own.2.other hg hne⟩, h.dig⟩
theorem grown_self (W : World) (g i : Nat) (u : Value) : W.grownBy (W.setCell ⟨g, i, none⟩ u) (some g) := grown_set ⟨rfl, rfl, rfl, Nat.le_refl _, fun _ _ _ => rfl⟩
/-- The integer z handed back in canonical form. -/
def Res (e : Ending) (w w' : World) (z : Int) : Prop := ∃ (A : Option Addr) (c : Nat), e = .returned (.agg #[.bool (ng z), .slice A (mg z).length c]) ∧ Rd w' A c (mg z) ∧ Below w.heap.size w w'
theorem Res.boxed {w W w1 : World} {z : Int} {A : Option Addr} {c g : Nat} (hr : Rd w1 A c (mg z)) (hb : Below (W.alloc (.cells #[.bool false, .slice none 0 0] 24)).heap.size (W.alloc (.cells #[.bool false, .slice none 0 0] 24)) w1) (hW : Below w.heap.size w W) (hg : g = W.heap.size) :
    Res (.returned (.agg #[.bool (ng z), .slice A (mg z).length c])) w ((w1.setCell ⟨g, 0, none⟩ (.bool (ng z))).setCell ⟨g, 1, none⟩ (.slice A (mg z).length c)) z := by
  subst hg
  have h1 : w1.heap[W.heap.size]? = some (.cells #[.bool false, .slice none 0 0] 24 (0, 0)) := (hb.block _ (by simp)).trans (heap_alloc_new W _)
  refine ⟨A, c, rfl, hr.boxed h1, ?_⟩
  have h2 : Below w.heap.size w w1 := (below_alloc hW _).trans (hb.mono (by have := hW.size; simp; omega))
  exact (h2.setCell (by exact hW.size) _).setCell (by exact hW.size) _
theorem keep_cell {W w1 : World} {a : Addr} {v : Value} (hb : Below W.heap.size W w1) (h : W.cell? a = some v) : w1.cell? a = some v := (hb.cell (World.block_lt_of_cell? W _ h)).trans h
theorem keep_below {w W w1 : World} (hb : Below W.heap.size W w1) (h : Below w.heap.size w W) : Below w.heap.size w w1 := h.trans (hb.mono h.size)
theorem far_cell {W : World} {p q : Addr} {u v : Value} (hb : q.block ≠ p.block) (h : W.cell? q = some v) : (W.setCell p u).cell? q = some v := (World.cell?_of_block (Below.heap_setCell W p u q.block hb)).trans h
theorem keep_blk {W w1 : World} {g : Nat} {o : Obj} (hb : Below W.heap.size W w1) (h : W.heap[g]? = some o) : w1.heap[g]? = some o := (hb.block g (Array.getElem?_eq_some_iff.1 h).1).trans h
/-- A variable of two cells. -/
structure Box (w : World) (g : Nat) (a b : Value) (t : TypeId) : Prop where
  blk : w.heap[g]? = some (.cells #[a, b] t (0, 0))
theorem Box.new (w : World) (a b : Value) (t : TypeId) : Box (w.alloc (.cells #[a, b] t)) w.heap.size a b t := ⟨heap_alloc_new w _⟩
theorem Box.below {W w1 : World} {g : Nat} {a b : Value} {t : TypeId} (h : Box W g a b t) (hb : Below W.heap.size W w1) : Box w1 g a b t := ⟨keep_blk hb h.blk⟩
theorem Box.alloc {W : World} {g : Nat} {a b : Value} {t : TypeId} (h : Box W g a b t) (o : Obj) : Box (W.alloc o) g a b t := h.below (below_alloc (Below.refl _ _) o)
theorem Box.drew {W : World} {g : Nat} {a b : Value} {t : TypeId} (h : Box W g a b t) : Box W.drew g a b t := ⟨h.blk⟩
theorem Box.at0 {w : World} {g : Nat} {a b : Value} {t : TypeId} (h : Box w g a b t) : w.cell? ⟨g, 0, none⟩ = some a := by simp [World.cell?, h.blk]
theorem Box.at1 {w : World} {g : Nat} {a b : Value} {t : TypeId} (h : Box w g a b t) : w.cell? ⟨g, 1, none⟩ = some b := by simp [World.cell?, h.blk]
theorem Box.free {w : World} {g : Nat} {a b : Value} {t : TypeId} (h : Box w g a b t) (i : Nat) : w.frozen? ⟨g, i, none⟩ = false := by simp [World.frozen?, h.blk]
/-- Two arguments and a result, each in a variable of its own. -/
theorem boxes3 (w : World) (a0 b0 a1 b1 a2 b2 : Value) (t0 t1 t2 : TypeId) {wb : World} (h : ((w.alloc (.cells #[a0, b0] t0)).alloc (.cells #[a1, b1] t1)).alloc (.cells #[a2, b2] t2) = wb) :
    Below w.heap.size w wb ∧ Box wb w.heap.size a0 b0 t0 ∧ Box wb (w.heap.size + 1) a1 b1 t1 ∧ Box wb (w.heap.size + 1 + 1) a2 b2 t2 := by
  subst h
  refine ⟨below_alloc (below_alloc (below_alloc (Below.refl _ _) _) _) _, ((Box.new w a0 b0 t0).alloc _).alloc _, ?_, ?_⟩
  · have h := (Box.new (w.alloc (.cells #[a0, b0] t0)) a1 b1 t1).alloc (.cells #[a2, b2] t2)
    simpa using h
  · have h := Box.new ((w.alloc (.cells #[a0, b0] t0)).alloc (.cells #[a1, b1] t1)) a2 b2 t2
    simpa using h
theorem boxes2 (w : World) (a0 b0 a1 b1 : Value) (t0 t1 : TypeId) {wb : World} (h : (w.alloc (.cells #[a0, b0] t0)).alloc (.cells #[a1, b1] t1) = wb) :
    Below w.heap.size w wb ∧ Box wb w.heap.size a0 b0 t0 ∧ Box wb (w.heap.size + 1) a1 b1 t1 := by
  subst h
  refine ⟨below_alloc (below_alloc (Below.refl _ _) _) _, (Box.new w a0 b0 t0).alloc _, ?_⟩
  have h := Box.new (w.alloc (.cells #[a0, b0] t0)) a1 b1 t1
  simpa using h
/-- Two arguments and the result, each in a variable of its own, at a later world. -/
structure Two (w w' : World) (a0 b0 a1 b1 : Value) : Prop where
  be : Below w.heap.size w w'
  x : Box w' w.heap.size a0 b0 24
  y : Box w' (w.heap.size + 1) a1 b1 24
  r : Box w' (w.heap.size + 1 + 1) (.bool false) (.slice none 0 0) 24
section
variable {w w' w1 : World} {a0 b0 a1 b1 : Value}
theorem Two.start (w : World) (a0 b0 a1 b1 : Value) {wb : World} (h : ((w.alloc (.cells #[a0, b0] 24)).alloc (.cells #[a1, b1] 24)).alloc (.cells #[.bool false, .slice none 0 0] 24) = wb) : Two w wb a0 b0 a1 b1 := by
  obtain ⟨h1, h2, h3, h4⟩ := boxes3 w _ _ _ _ _ _ _ _ _ h
  exact ⟨h1, h2, h3, h4⟩
theorem Two.drew (h : Two w w' a0 b0 a1 b1) : Two w w'.drew a0 b0 a1 b1 := ⟨below_drew h.be, h.x.drew, h.y.drew, h.r.drew⟩
theorem Two.below (h : Two w w' a0 b0 a1 b1) (hb : Below w'.heap.size w' w1) : Two w w1 a0 b0 a1 b1 := ⟨keep_below hb h.be, h.x.below hb, h.y.below hb, h.r.below hb⟩
theorem Two.cells (h : Two w w' a0 b0 a1 b1) : w'.cell? ⟨w.heap.size, 0, none⟩ = some a0 ∧ w'.cell? ⟨w.heap.size, 1, none⟩ = some b0 ∧ w'.cell? ⟨w.heap.size + 1, 0, none⟩ = some a1 ∧ w'.cell? ⟨w.heap.size + 1, 1, none⟩ = some b1 := ⟨h.x.at0, h.x.at1, h.y.at0, h.y.at1⟩
theorem Two.room (h : Two w w' a0 b0 a1 b1) : w'.cell? ⟨w.heap.size + 1 + 1, 0, none⟩ = some (.bool false) ∧ w'.cell? ⟨w.heap.size + 1 + 1, 1, none⟩ = some (.slice none 0 0) ∧ w'.frozen? ⟨w.heap.size + 1 + 1, 0, none⟩ = false ∧ w'.frozen? ⟨w.heap.size + 1 + 1, 1, none⟩ = false := ⟨h.r.at0, h.r.at1, h.r.free 0, h.r.free 1⟩
theorem Two.res (h : Two w w' a0 b0 a1 b1) {z : Int} {A : Option Addr} {c : Nat} (hr : Rd w' A c (mg z)) : Res (.returned (.agg #[.bool (ng z), .slice A (mg z).length c])) w ((w'.setCell ⟨w.heap.size + 1 + 1, 0, none⟩ (.bool (ng z))).setCell ⟨w.heap.size + 1 + 1, 1, none⟩ (.slice A (mg z).length c)) z :=
  ⟨A, c, rfl, hr.boxed h.r.blk, (h.be.setCell (by simp; omega) _).setCell (by simp; omega) _⟩
theorem Two.after (h : Two w w' a0 b0 a1 b1) (u v : Value) : ∀ q x, q.block = w.heap.size ∨ q.block = w.heap.size + 1 → w'.cell? q = some x → ((w'.setCell ⟨w.heap.size + 1 + 1, 0, none⟩ u).setCell ⟨w.heap.size + 1 + 1, 1, none⟩ v).cell? q = some x :=
  fun q x hq hx => far_cell (by simp; omega) (far_cell (by simp; omega) hx)
end
/-- One argument and the result. -/
structure One (w w' : World) (a0 b0 : Value) : Prop where
  be : Below w.heap.size w w'
  x : Box w' w.heap.size a0 b0 24
  r : Box w' (w.heap.size + 1) (.bool false) (.slice none 0 0) 24
/-- Arguments alone. -/
structure Arg1 (w w' : World) (a0 b0 : Value) : Prop where
  be : Below w.heap.size w w'
  x : Box w' w.heap.size a0 b0 24
structure Arg2 (w w' : World) (a0 b0 a1 b1 : Value) : Prop where
  be : Below w.heap.size w w'
  x : Box w' w.heap.size a0 b0 24
  y : Box w' (w.heap.size + 1) a1 b1 24
section
variable {w w' w1 : World} {a0 b0 a1 b1 : Value}
theorem One.start (w : World) (a0 b0 : Value) {wb : World} (h : (w.alloc (.cells #[a0, b0] 24)).alloc (.cells #[.bool false, .slice none 0 0] 24) = wb) : One w wb a0 b0 := by
  obtain ⟨h1, h2, h3⟩ := boxes2 w _ _ _ _ _ _ h
  exact ⟨h1, h2, h3⟩
theorem One.drew (h : One w w' a0 b0) : One w w'.drew a0 b0 := ⟨below_drew h.be, h.x.drew, h.r.drew⟩
theorem One.below (h : One w w' a0 b0) (hb : Below w'.heap.size w' w1) : One w w1 a0 b0 := ⟨keep_below hb h.be, h.x.below hb, h.r.below hb⟩
theorem One.cells (h : One w w' a0 b0) : w'.cell? ⟨w.heap.size, 0, none⟩ = some a0 ∧ w'.cell? ⟨w.heap.size, 1, none⟩ = some b0 := ⟨h.x.at0, h.x.at1⟩
theorem One.room (h : One w w' a0 b0) : w'.cell? ⟨w.heap.size + 1, 0, none⟩ = some (.bool false) ∧ w'.cell? ⟨w.heap.size + 1, 1, none⟩ = some (.slice none 0 0) ∧ w'.frozen? ⟨w.heap.size + 1, 0, none⟩ = false ∧ w'.frozen? ⟨w.heap.size + 1, 1, none⟩ = false := ⟨h.r.at0, h.r.at1, h.r.free 0, h.r.free 1⟩
theorem One.res (h : One w w' a0 b0) {z : Int} {A : Option Addr} {c : Nat} (hr : Rd w' A c (mg z)) : Res (.returned (.agg #[.bool (ng z), .slice A (mg z).length c])) w ((w'.setCell ⟨w.heap.size + 1, 0, none⟩ (.bool (ng z))).setCell ⟨w.heap.size + 1, 1, none⟩ (.slice A (mg z).length c)) z :=
  ⟨A, c, rfl, hr.boxed h.r.blk, (h.be.setCell (by simp) _).setCell (by simp) _⟩
theorem One.after (h : One w w' a0 b0) (u v : Value) : ∀ q x, q.block = w.heap.size → w'.cell? q = some x → ((w'.setCell ⟨w.heap.size + 1, 0, none⟩ u).setCell ⟨w.heap.size + 1, 1, none⟩ v).cell? q = some x :=
  fun q x hq hx => far_cell (by simp; omega) (far_cell (by simp; omega) hx)
theorem Arg1.start (w : World) (a0 b0 : Value) {wb : World} (h : w.alloc (.cells #[a0, b0] 24) = wb) : Arg1 w wb a0 b0 := by
  subst h; exact ⟨below_alloc (Below.refl _ _) _, Box.new w a0 b0 _⟩
theorem Arg1.drew (h : Arg1 w w' a0 b0) : Arg1 w w'.drew a0 b0 := ⟨below_drew h.be, h.x.drew⟩
theorem Arg1.below (h : Arg1 w w' a0 b0) (hb : Below w'.heap.size w' w1) : Arg1 w w1 a0 b0 := ⟨keep_below hb h.be, h.x.below hb⟩
theorem Arg1.cells (h : Arg1 w w' a0 b0) : w'.cell? ⟨w.heap.size, 0, none⟩ = some a0 ∧ w'.cell? ⟨w.heap.size, 1, none⟩ = some b0 := ⟨h.x.at0, h.x.at1⟩
theorem Arg2.start (w : World) (a0 b0 a1 b1 : Value) {wb : World} (h : (w.alloc (.cells #[a0, b0] 24)).alloc (.cells #[a1, b1] 24) = wb) : Arg2 w wb a0 b0 a1 b1 := by
  obtain ⟨h1, h2, h3⟩ := boxes2 w _ _ _ _ _ _ h
  exact ⟨h1, h2, h3⟩
theorem Arg2.drew (h : Arg2 w w' a0 b0 a1 b1) : Arg2 w w'.drew a0 b0 a1 b1 := ⟨below_drew h.be, h.x.drew, h.y.drew⟩
theorem Arg2.below (h : Arg2 w w' a0 b0 a1 b1) (hb : Below w'.heap.size w' w1) : Arg2 w w1 a0 b0 a1 b1 := ⟨keep_below hb h.be, h.x.below hb, h.y.below hb⟩
theorem Arg2.cells (h : Arg2 w w' a0 b0 a1 b1) : w'.cell? ⟨w.heap.size, 0, none⟩ = some a0 ∧ w'.cell? ⟨w.heap.size, 1, none⟩ = some b0 ∧ w'.cell? ⟨w.heap.size + 1, 0, none⟩ = some a1 ∧ w'.cell? ⟨w.heap.size + 1, 1, none⟩ = some b1 := ⟨h.x.at0, h.x.at1, h.y.at0, h.y.at1⟩
end
end Go.Proofs.YtegnnghoiffmhaaDoor.Big
namespace Go.Proofs.YtegnnghoiffmhaaDoor.Big
open Go.RowKit Go.Proofs.YtegnnghoiffmhaaDoorW.PrintWords
set_option linter.unusedSimpArgs false
theorem top31 (n : Nat) (h : n < 4294967296) : n / 2147483648 = (n.testBit 31).toNat ∧ (n.testBit 31 = true ↔ 2147483648 ≤ n) := by
  rw [Nat.testBit_eq_decide_div_mod_eq]
  constructor
  · have : n / 2 ^ 31 = 0 ∨ n / 2 ^ 31 = 1 := by omega
    rcases this with h | h <;> (have h' : n / 2147483648 = n / 2 ^ 31 := rfl; rw [h', h]; rfl)
  · simp only [decide_eq_true_eq]
    omega
theorem borrow_bits (x y c : Int) (hx : 0 ≤ x ∧ x ≤ 4294967295) (hy : 0 ≤ y ∧ y ≤ 4294967295) (hc : 0 ≤ c ∧ c ≤ 1) :
    bits .or .u32 (bits .and .u32 (bits .xor .u32 IntKind.u32.max x) y) (bits .and .u32 (bits .xor .u32 IntKind.u32.max (bits .xor .u32 x y)) ((x - y - c) % 4294967296)) / 2147483648 = bor x y c := by
  obtain ⟨X, rfl⟩ := Int.eq_ofNat_of_zero_le hx.1
  obtain ⟨Y, rfl⟩ := Int.eq_ofNat_of_zero_le hy.1
  have hX : X < 4294967296 := by omega
  have hY : Y < 4294967296 := by omega
  obtain ⟨D, hD⟩ := Int.eq_ofNat_of_zero_le (show 0 ≤ (((X : Int) - Y - c) % 4294967296) by omega)
  have hDl : D < 4294967296 := by omega
  have hm : IntKind.u32.max = ((4294967295 : Nat) : Int) := by rfl
  have hXY : X ^^^ Y < 4294967296 := Nat.xor_lt_two_pow (n := 32) hX hY
  have h1 : 4294967295 ^^^ X < 4294967296 := Nat.xor_lt_two_pow (n := 32) (by omega) hX
  have h2 : 4294967295 ^^^ (X ^^^ Y) < 4294967296 := Nat.xor_lt_two_pow (n := 32) (by omega) hXY
  have h3 : (4294967295 ^^^ X) &&& Y < 4294967296 := Nat.lt_of_le_of_lt Nat.and_le_right hY
  have h4 : (4294967295 ^^^ (X ^^^ Y)) &&& D < 4294967296 := Nat.lt_of_le_of_lt Nat.and_le_right hDl
  rw [hD, hm, u32_xor_nat _ _ (by omega) hX, u32_and_nat _ _ h1 hY, u32_xor_nat X Y hX hY, u32_xor_nat _ _ (by omega) hXY, u32_and_nat _ _ h2 hDl, u32_or_nat _ _ h3 h4]
  have h5 : ((4294967295 ^^^ X) &&& Y) ||| ((4294967295 ^^^ (X ^^^ Y)) &&& D) < 4294967296 := Nat.or_lt_two_pow (n := 32) h3 h4
  obtain ⟨e, _⟩ := top31 _ h5
  have e2 : (((((4294967295 ^^^ X) &&& Y) ||| ((4294967295 ^^^ (X ^^^ Y)) &&& D) : Nat) : Int) / 2147483648) = ((((4294967295 ^^^ X) &&& Y) ||| ((4294967295 ^^^ (X ^^^ Y)) &&& D)) / 2147483648 : Nat) := by omega
  rw [e2, e]
  simp only [Nat.testBit_or, Nat.testBit_and, Nat.testBit_xor]
  obtain ⟨_, tx⟩ := top31 X hX
  obtain ⟨_, ty⟩ := top31 Y hY
  obtain ⟨_, td⟩ := top31 D hDl
  have tm : Nat.testBit 4294967295 31 = true := by decide
  rw [tm]
  generalize X.testBit 31 = bx at *
  generalize Y.testBit 31 = by_ at *
  generalize D.testBit 31 = bd at *
  unfold bor
  cases bx <;> cases by_ <;> cases bd <;> simp at tx ty td ⊢ <;> omega
theorem sub32_any (x y c : Int) (w : World) (hx : 0 ≤ x ∧ x ≤ 4294967295) (hy : 0 ≤ y ∧ y ≤ 4294967295) (hc : 0 ≤ c ∧ c ≤ 1) :
    Calls Tryd.prog 84 #[.int .u32 x, .int .u32 y, .int .u32 c] w fun e w' => e = .returned (.tuple #[.int .u32 ((x - y - c) % 4294967296), .int .u32 (bor x y c)]) ∧ w = w' := by
  have E := borrow_bits x y c hx hy hc
  go_enter Tryd.func84, Tryd.ntmps84
  go_wp2
  go_ret2
  exact ⟨rfl, rfl⟩
end Go.Proofs.YtegnnghoiffmhaaDoor.Big
namespace Go.Proofs.YtegnnghoiffmhaaDoor.Big
open Go.RowKit Go.Proofs.YtegnnghoiffmhaaDoorW.PrintWords
set_option linter.unusedVariables false
set_option linter.unusedSimpArgs false
theorem minus_next (w wr : World) (g cap gk k : Nat) (c : Int) (cs xs ys : List Int) (hk : k < xs.length) (h : k + gk = xs.length ∧ (0 ≤ c ∧ c ≤ 1) ∧ cs.length = xs.length ∧ cs.take k ++ subL (xs.drop k) (ys.drop k) c = subL xs ys 0 ∧ Ow wr w.heap.size (.slice (some ⟨g, 0, none⟩) cs.length cap) cs ∧ Below w.heap.size w wr) :
    Aside0 (k + 1 + (gk - 1) = xs.length ∧ (0 ≤ bor (dg xs k) (dg ys k) c ∧ bor (dg xs k) (dg ys k) c ≤ 1) ∧ (cs.set k ((dg xs k - dg ys k - c) % 4294967296)).length = xs.length ∧ (cs.set k ((dg xs k - dg ys k - c) % 4294967296)).take (k + 1) ++ subL (xs.drop (k + 1)) (ys.drop (k + 1)) (bor (dg xs k) (dg ys k) c) = subL xs ys 0 ∧
      Ow (wr.setCell ⟨g, k, none⟩ (.int .u32 ((dg xs k - dg ys k - c) % 4294967296))) w.heap.size (.slice (some ⟨g, 0, none⟩) cs.length cap) (cs.set k ((dg xs k - dg ys k - c) % 4294967296)) ∧ Below w.heap.size w (wr.setCell ⟨g, k, none⟩ (.int .u32 ((dg xs k - dg ys k - c) % 4294967296)))) := by
  obtain ⟨h1, h2, h3, h4, h5, h6⟩ := h
  refine ⟨by omega, bor01 _ _ _, by simpa using h3, ?_, h5.put k _ (by omega), ?_⟩
  · rw [set_take cs k _ (by omega), ← h4, subL_step xs ys k c hk]; simp
  · obtain ⟨g', cap', e, hg, _⟩ := h5.form (by omega)
    cases e
    exact below_set h6 hg
set_option maxRecDepth 100000 in
theorem minus_any (A0 A1 : Option Addr) (c0 c1 : Nat) (xs ys : List Int) (w : World) (h0 : Rd w A0 c0 xs) (h1 : Rd w A1 c1 ys) (hl : xs.length ≤ 1099511627776) (hl1 : ys.length ≤ 1099511627776) :
    Calls Tryd.prog 81 #[.slice A0 xs.length c0, .slice A1 ys.length c1] w fun e w' => ∃ v, e = .returned v ∧ Ow w' w.heap.size v (subL xs ys 0) ∧ Below w.heap.size w w' := by
  have H0 := Aside0.mk h0
  have H1 := Aside0.mk h1
  clear h0 h1
  go_enter Tryd.func81, Tryd.ntmps81
  go_wp2_with (first | ((with_reducible refine gate_dst (N := 12) rfl ?_); refine make_u32 rfl rfl _ _ rfl xs.length rfl rfl hl ?_; intro v5 w1 ho hb; have HO := Aside0.mk ho; have HB := Aside0.mk hb; clear ho hb))
  go_loopg [6, 15] xs.length (fun kq v6 v15 w' => ∃ (k : Nat) (c : Int) (cs : List Int), v6 = .int .u32 c ∧ v15 = .int .i64 k ∧ Aside0 (k + kq = xs.length ∧ (0 ≤ c ∧ c ≤ 1) ∧ cs.length = xs.length ∧ cs.take k ++ subL (xs.drop k) (ys.drop k) c = subL xs ys 0 ∧ Ow w' w.heap.size v5 cs ∧ Below w.heap.size w w'))
  case atStart => exact ⟨0, 0, List.replicate xs.length 0, rfl, rfl, ⟨by omega, by omega, by simp, by simp, HO.out, HB.out⟩⟩
  case round =>
    clear HO HB
    obtain ⟨k, c, cs, rfl, rfl, HA⟩ := hrel
    by_cases hk : k < xs.length
    · obtain ⟨ad0, rfl, x0⟩ := H0.out.at_ k hk
      replace x0 := (HA.out.2.2.2.2.2.cell (World.block_lt_of_cell? w _ x0)).trans x0
      have d0 := Aside0.mk (dg_dig H0.out.dig k)
      have d1 := Aside0.mk (dg_dig H1.out.dig k)
      obtain ⟨g, cap, rfl, hg⟩ := HA.out.2.2.2.2.1.form (by have := HA.out.2.2.1; omega)
      obtain ⟨y0, y1⟩ := HA.out.2.2.2.2.1.cell k (by have := HA.out.2.2.1; omega)
      clear hg
      have hcs : k < cs.length := by have := HA.out.2.2.1; omega
      by_cases hm : k < ys.length
      · obtain ⟨ad1, rfl, x1⟩ := H1.out.at_ k hm
        replace x1 := (HA.out.2.2.2.2.2.cell (World.block_lt_of_cell? w _ x1)).trans x1
        go_wp2_with (first | (go_at_call 84; (with_reducible refine (sub32_any (dg xs k) (dg ys k) c _ d0.out d1.out HA.out.2.1).mono ?_); rintro e w' ⟨rfl, rfl⟩))
        go_roundg (gk - 1)
        case measure => have := HA.out; omega
        case rel => exact ⟨k + 1, _, _, rfl, by go_num, minus_next w wr g cap gk k c cs xs ys hk HA.out⟩
      · have z : dg ys k = 0 := dg_ge ys k (by omega)
        have Z := Aside0.mk z
        rw [z] at d1
        clear z
        go_wp2_with (first | (go_at_call 84; (with_reducible refine (sub32_any (dg xs k) 0 c _ d0.out d1.out HA.out.2.1).mono ?_); rintro e w' ⟨rfl, rfl⟩))
        go_roundg (gk - 1)
        case measure => have := HA.out; omega
        case rel => exact ⟨k + 1, _, _, rfl, by go_num, by have h := minus_next w wr g cap gk k c cs xs ys hk HA.out; rw [Z.out, Int.sub_zero] at h; exact h⟩
    · go_wp2
      go_ret
      exact ⟨_, rfl, by have h := HA.out; have e : subL xs ys 0 = cs := (by have h1 := h.2.2.2.1; rw [List.drop_of_length_le (by omega), List.take_of_length_le (by omega)] at h1; simpa [subL] using h1.symm); rw [e]; exact h.2.2.2.2.1, HA.out.2.2.2.2.2⟩
/-- minus, of numbers. -/
theorem minus_val (A0 A1 : Option Addr) (c0 c1 : Nat) (xs ys : List Int) (w : World) (h0 : Rd w A0 c0 xs) (h1 : Rd w A1 c1 ys) (hl : xs.length ≤ 1099511627776) (hle : ys.length ≤ xs.length) (hv : val ys ≤ val xs) :
    Calls Tryd.prog 81 #[.slice A0 xs.length c0, .slice A1 ys.length c1] w fun e w' => ∃ v cs, e = .returned v ∧ Own w w' v cs ∧ val cs = val xs - val ys ∧ cs.length = xs.length := by
  refine (minus_any A0 A1 c0 c1 xs ys w h0 h1 hl (by omega)).mono ?_
  rintro e w' ⟨v, rfl, ho, hb⟩
  obtain ⟨b, hb0, hb1, e⟩ := val_subL xs ys 0 h0.dig h1.dig (by omega) (by omega) hle
  have hlen : (subL xs ys 0).length = xs.length := subL_len xs ys 0
  have h2 := val_bounds _ ho.dig
  have h3 := val_bounds ys h1.dig
  have h4 := val_bounds xs h0.dig
  rw [hlen] at h2
  refine ⟨v, _, rfl, ⟨ho, hb⟩, ?_, hlen⟩
  rcases (show b = 0 ∨ b = 1 by omega) with rfl | rfl <;> omega
end Go.Proofs.YtegnnghoiffmhaaDoor.Big
namespace Go.Proofs.YtegnnghoiffmhaaDoor.Big
open Go.RowKit Go.Proofs.YtegnnghoiffmhaaDoorW.PrintWords
set_option linter.unusedVariables false
set_option linter.unusedSimpArgs false
theorem add32_any (x y c : Int) (w : World) (hx : 0 ≤ x ∧ x ≤ 4294967295) (hy : 0 ≤ y ∧ y ≤ 4294967295) (hc : 0 ≤ c ∧ c ≤ 1) :
    Calls Tryd.prog 85 #[.int .u32 x, .int .u32 y, .int .u32 c] w fun e w' => e = .returned (.tuple #[.int .u32 ((x + y + c) % 4294967296), .int .u32 ((x + y + c) / 4294967296)]) ∧ w = w' := by
  obtain ⟨hx0, hx1⟩ := hx
  obtain ⟨hy0, hy1⟩ := hy
  obtain ⟨hc0, hc1⟩ := hc
  go_enter Tryd.func85, Tryd.ntmps85
  go_wp2
  go_ret2
  exact ⟨rfl, rfl⟩
theorem plus_next (w wr : World) (g n cap gk k : Nat) (c x y : Int) (cs xs ys : List Int) (hk : k < xs.length) (ex : dg xs k = x) (ey : dg ys k = y) (dx : 0 ≤ x ∧ x ≤ 4294967295) (dy : 0 ≤ y ∧ y ≤ 4294967295)
    (h : k + gk = xs.length ∧ (0 ≤ c ∧ c ≤ 1) ∧ cs.length = xs.length + 1 ∧ val (cs.take k) + c * pw k = val (xs.take k) + val (ys.take k) ∧ Own w wr (.slice (some ⟨g, 0, none⟩) n cap) cs) :
    Aside0 (k + 1 + (gk - 1) = xs.length ∧ (0 ≤ (x + y + c) / 4294967296 ∧ (x + y + c) / 4294967296 ≤ 1) ∧ (cs.set k ((x + y + c) % 4294967296)).length = xs.length + 1 ∧ val ((cs.set k ((x + y + c) % 4294967296)).take (k + 1)) + (x + y + c) / 4294967296 * pw (k + 1) = val (xs.take (k + 1)) + val (ys.take (k + 1)) ∧
      Own w (wr.setCell ⟨g, k, none⟩ (.int .u32 ((x + y + c) % 4294967296))) (.slice (some ⟨g, 0, none⟩) n cap) (cs.set k ((x + y + c) % 4294967296))) := by
  obtain ⟨h1, h2, h3, h4, h5⟩ := h
  refine ⟨by omega, by omega, by simpa using h3, ?_, h5.put k _ (by omega) (by omega)⟩
  rw [set_take cs k _ (by omega), val_append, val_take xs, val_take ys, List.length_take, show min k cs.length = k by omega, ex, ey]
  have e := Int.mul_ediv_add_emod (x + y + c) 4294967296
  simp only [val, pw]
  grind
set_option maxRecDepth 100000 in
theorem plus_any (A0 A1 : Option Addr) (c0 c1 : Nat) (xs ys : List Int) (w : World) (h0 : Rd w A0 c0 xs) (h1 : Rd w A1 c1 ys) (hl0 : xs.length ≤ 549755813888) (hl1 : ys.length ≤ 549755813888) :
    Calls Tryd.prog 80 #[.slice A0 xs.length c0, .slice A1 ys.length c1] w fun e w' => ∃ v cs, e = .returned v ∧ Own w w' v cs ∧ val cs = val xs + val ys ∧ cs.length = max xs.length ys.length + 1 := by
  have H := Aside0.mk (And.intro h0 (And.intro h1 (And.intro hl0 hl1)))
  clear h0 h1
  go_enter Tryd.func80, Tryd.ntmps80
  go_upto_if 14 with (fail)
  go_cut [0, 1] (fun v0 v1 wc => ∃ (A0' A1' : Option Addr) (c0' c1' : Nat) (xs' ys' : List Int), v0 = .slice A0' xs'.length c0' ∧ v1 = .slice A1' ys'.length c1' ∧ Aside0 (Rd w A0' c0' xs' ∧ Rd w A1' c1' ys' ∧ xs'.length ≤ 549755813888 ∧ ys'.length ≤ xs'.length ∧ val xs' + val ys' = val xs + val ys ∧ xs'.length + 1 = max xs.length ys.length + 1) ∧ wc = w)
  case first =>
    by_cases hlt : xs.length < ys.length
    · go_wp2
      go_meet
      case rel => exact ⟨A1, A0, c1, c0, ys, xs, rfl, rfl, ⟨H.out.2.1, H.out.1, hl1, by omega, by omega, by omega⟩, rfl⟩
    · go_wp2
      go_meet
      case rel => exact ⟨A0, A1, c0, c1, xs, ys, rfl, rfl, ⟨H.out.1, H.out.2.1, hl0, by omega, by omega, by omega⟩, rfl⟩
  case rest =>
    obtain ⟨B0, B1, d0, d1, us, vs, rfl, rfl, HC, rfl⟩ := hcut
    have hla : us.length ≤ 549755813888 := HC.out.2.2.1
    go_wp2_with (first | ((with_reducible refine gate_dst (N := 20) rfl ?_); refine make_u32 rfl rfl _ _ rfl (us.length + 1) rfl rfl (by omega) ?_; intro v5 w1 ho hb; have HO := Aside0.mk (Own.mk ho hb); clear ho hb))
    go_loopg [6, 23] us.length (fun kq v6 v23 w' => ∃ (k : Nat) (c : Int) (cs : List Int), v6 = .int .u32 c ∧ v23 = .int .i64 k ∧ Aside0 (k + kq = us.length ∧ (0 ≤ c ∧ c ≤ 1) ∧ cs.length = us.length + 1 ∧ val (cs.take k) + c * pw k = val (us.take k) + val (vs.take k) ∧ Own wc w' v5 cs))
    case atStart => exact ⟨0, 0, List.replicate (us.length + 1) 0, rfl, rfl, ⟨by omega, by omega, by simp, by simp [val], HO.out⟩⟩
    case round =>
      clear HO
      obtain ⟨k, c, cs, rfl, rfl, HA⟩ := hrel
      obtain ⟨g, cap, rfl, -⟩ := HA.out.2.2.2.2.ow.form (by have := HA.out; omega)
      have ecs := Aside0.mk HA.out.2.2.1
      by_cases hk : k < us.length
      · obtain ⟨ad0, rfl, x0⟩ := HC.out.1.at_ k hk
        replace x0 := (HA.out.2.2.2.2.be.cell (World.block_lt_of_cell? wc _ x0)).trans x0
        have d0 := Aside0.mk (dg_dig HC.out.1.dig k)
        have hk1 : k < cs.length := by have := ecs.out; omega
        obtain ⟨y0, y1⟩ := HA.out.2.2.2.2.ow.cell k hk1
        by_cases hm : k < vs.length
        · have d1 := Aside0.mk (dg_dig HC.out.2.1.dig k)
          obtain ⟨ad1, rfl, x1⟩ := HC.out.2.1.at_ k hm
          replace x1 := (HA.out.2.2.2.2.be.cell (World.block_lt_of_cell? wc _ x1)).trans x1
          go_wp2_with (first | (go_at_call 85; (with_reducible refine (add32_any (dg us k) (dg vs k) c _ d0.out d1.out HA.out.2.1).mono ?_); rintro e w' ⟨rfl, rfl⟩))
          go_roundg (gk - 1)
          case measure => have := HA.out; omega
          case rel => exact ⟨k + 1, _, _, rfl, by go_num, plus_next wc wr g _ cap gk k c _ _ cs us vs hk rfl rfl d0.out d1.out HA.out⟩
        · have z := Aside0.mk (dg_ge vs k (by omega))
          go_wp2_with (first | (go_at_call 85; (with_reducible refine (add32_any (dg us k) 0 c _ d0.out (by omega) HA.out.2.1).mono ?_); rintro e w' ⟨rfl, rfl⟩))
          go_roundg (gk - 1)
          case measure => have := HA.out; omega
          case rel => exact ⟨k + 1, _, _, rfl, by go_num, by have h := plus_next wc wr g _ cap gk k c _ 0 cs us vs hk rfl z.out d0.out (by omega) HA.out; rw [Int.add_zero] at h; exact h⟩
      · have hn : us.length < cs.length := by have := ecs.out; omega
        obtain ⟨y0, y1⟩ := HA.out.2.2.2.2.ow.cell us.length hn
        go_wp2
        go_ret
        have h := HA.out
        have ek : k = us.length := by omega
        subst ek
        refine ⟨_, cs.set us.length c, rfl, h.2.2.2.2.put us.length c (by omega) (by omega), ?_, by rw [List.length_set, h.2.2.1]; exact HC.out.2.2.2.2.2⟩
        have h4 := h.2.2.2.1
        rw [← List.take_of_length_le (l := cs.set us.length c) (i := us.length + 1) (by simp; omega), set_take cs _ _ (by omega), val_append, List.length_take, show min us.length cs.length = us.length by omega]
        rw [List.take_of_length_le (l := us) (by omega), List.take_of_length_le (l := vs) (by have := HC.out; omega)] at h4
        rw [← HC.out.2.2.2.2.1, ← h4]
        simp only [val]
        grind
end Go.Proofs.YtegnnghoiffmhaaDoor.Big
namespace Go.Proofs.YtegnnghoiffmhaaDoor.Big
open Go.RowKit Go.Proofs.YtegnnghoiffmhaaDoorW.PrintWords
set_option linter.unusedVariables false
set_option linter.unusedSimpArgs false
theorem mag_next (xs : List Int) (m gk : Nat) (hz : dg xs m = 0) (h : m + 1 = gk ∧ m + 1 ≤ xs.length ∧ trimL (xs.take (m + 1)) = trimL xs) : Aside0 (m = gk - 1 ∧ m ≤ xs.length ∧ trimL (xs.take m) = trimL xs) := by
  refine ⟨by omega, by omega, ?_⟩
  rw [← h.2.2, take_dg xs m (by omega), hz, trimL_zero]
theorem mag_end (xs : List Int) (m gk : Nat) (hz : dg xs m ≠ 0) (h : m + 1 = gk ∧ m + 1 ≤ xs.length ∧ trimL (xs.take (m + 1)) = trimL xs) : (trimL xs).length = m + 1 := by
  rw [← h.2.2, take_dg xs m (by omega), trimL_nz hz]
  simp; omega
set_option maxRecDepth 100000 in
theorem magnitude_any (n : Bool) (A : Option Addr) (c : Nat) (xs : List Int) (w : World) (h : Rd w A c xs) (hl : xs.length ≤ 1099511627776) :
    Calls Tryd.prog 50 #[.agg #[.bool n, .slice A xs.length c]] w fun e w' => e = .returned (.slice A (trimL xs).length c) ∧ Below w.heap.size w w' := by
  have H := Aside0.mk h
  clear h
  go_enter Tryd.func50, Tryd.ntmps50
  go_wp2
  obtain ⟨wb, hwb⟩ : ∃ wb : World, wb = w.alloc (.cells #[.bool n, .slice A xs.length c] 24) := ⟨_, rfl⟩
  rw [← hwb]
  have HB := Aside0.mk (show Below w.heap.size w wb by rw [hwb]; exact below_alloc (Below.refl _ _) _)
  clear hwb
  go_loopg [3] xs.length (fun kq v3 w' => ∃ m : Nat, v3 = .slice A m c ∧ Aside0 (m = kq ∧ m ≤ xs.length ∧ trimL (xs.take m) = trimL xs) ∧ w' = wb)
  case atStart => exact ⟨xs.length, rfl, ⟨rfl, Nat.le_refl _, by simp⟩, rfl⟩
  case round =>
    obtain ⟨m, rfl, HA, rfl⟩ := hrel
    cases m with
    | zero =>
      go_wp2
      go_ret
      exact ⟨by rw [← HA.out.2.2]; rfl, HB.out⟩
    | succ m =>
      obtain ⟨ad, rfl, x0⟩ := H.out.at_ m (by have := HA.out; omega)
      replace x0 := (HB.out.cell (World.block_lt_of_cell? w _ x0)).trans x0
      have hm : m < 1099511627776 := by have := HA.out; omega
      have hcap : m + 1 ≤ c := by have := HA.out; have := H.out.le; omega
      by_cases hz : dg xs m = 0
      · go_wp2
        go_roundg (gk - 1)
        case measure => have := HA.out; omega
        case rel => exact ⟨m, rfl, mag_next xs m gk hz HA.out, rfl⟩
      · have hz' : (dg xs m == 0) = false := beq_eq_false_iff_ne.mpr hz
        have Z := Aside0.mk hz
        clear hz
        go_wp2
        go_ret
        exact ⟨by rw [mag_end xs m gk Z.out HA.out]; rfl, HB.out⟩
theorem cut_cap {P : Program} (t e : TypeId) {i : TypeInfo} (ht : P.underlying t = some (.slice e)) (hi : P.info? e = some i) (A : Option Addr) (n c m : Nat) (hm : m ≤ n) (hc : n ≤ c) :
    ∀ W : World, (Instr.slice t (.slice A n c) none (some (.int .i64 (m : Int))) (some (.int .i64 (m : Int)))).run P W = .ok (.slice A m m) W := by
  intro W
  have hel : P.elem t = e := by simp [Program.elem, ht]
  have hu : P.underlying t = some (.slice (P.elem t)) := by rw [hel]; exact ht
  have ha : (A.map fun x => x.add 0) = A := by cases A <;> simp [Addr.add]
  rw [run_slice_hm W t A n c hu .i64 .i64 m m (by omega) (Int.le_refl _) (by omega), hel]
  simp [sizeOf, typeInfo, hi, sliced, Result.andThen, ha]
set_option maxRecDepth 100000 in
theorem canonical_any (n : Bool) (A : Option Addr) (c : Nat) (xs : List Int) (w : World) (h : Rd w A c xs) (hl : xs.length ≤ 1099511627776) :
    Calls Tryd.prog 51 #[.bool n, .slice A xs.length c] w fun e w' => ∃ (A1 : Option Addr) (c1 : Nat), e = .returned (.agg #[.bool (n && !(trimL xs).isEmpty), .slice A1 (trimL xs).length c1]) ∧ Rd w' A1 c1 (trimL xs) ∧ Below w.heap.size w w' := by
  have H := Aside0.mk h
  clear h
  obtain ⟨i0, hi, hz0, hz1, hz2⟩ := info_parts info_u32
  go_enter Tryd.func51, Tryd.ntmps51
  go_wp2
  go_loopg [1] xs.length (fun kq v3 w' => ∃ m : Nat, v3 = .slice A m c ∧ Aside0 (m = kq ∧ m ≤ xs.length ∧ trimL (xs.take m) = trimL xs) ∧ w' = w.alloc (.cells #[.bool false, .slice none 0 0] 24))
  case atStart => exact ⟨xs.length, rfl, ⟨rfl, Nat.le_refl _, by simp⟩, rfl⟩
  case round =>
    obtain ⟨m, rfl, HA, rfl⟩ := hrel
    cases m with
    | zero =>
      have T0 := Aside0.mk (show trimL xs = [] by rw [← HA.out.2.2]; rfl)
      go_wp2
      refine bodyPost_ret (v := .agg #[.bool false, .slice none 0 0]) (by simp [results, Tryd.results51, go_sem]) rfl ⟨none, 0, ?_, ?_, below_alloc (Below.refl _ _) _⟩
      · rw [T0.out]; simp
      · rw [T0.out]; exact Rd.nil _
    | succ m =>
      obtain ⟨ad, rfl, x0⟩ := H.out.at_ m (by have := HA.out; omega)
      replace x0 := ((below_alloc (Below.refl w.heap.size w) (.cells #[.bool false, .slice none 0 0] 24)).cell (World.block_lt_of_cell? w _ x0)).trans x0
      have hm : m < 1099511627776 := by have := HA.out; omega
      have hcap : m + 1 ≤ c := by have := HA.out; have := H.out.le; omega
      by_cases hz : dg xs m = 0
      · go_wp2
        go_roundg (gk - 1)
        case measure => have := HA.out; omega
        case rel => exact ⟨m, rfl, mag_next xs m gk hz HA.out, rfl⟩
      · have hz' : (dg xs m == 0) = false := beq_eq_false_iff_ne.mpr hz
        have Z := Aside0.mk hz
        clear hz
        have hcut := cut_cap (P := Tryd.prog) 22 57 Tryd.underlying22 hi (some ad) (m + 1) c (m + 1) (Nat.le_refl _) hcap
        go_wp2
        have e := mag_end xs m gk Z.out HA.out
        have e2 : trimL xs = xs.take (m + 1) := by rw [trimL_prefix xs, e]
        refine bodyPost_ret (v := .agg #[.bool n, .slice (some ad) (m + 1) (m + 1)]) (by simp [results, Tryd.results51, go_sem]) rfl ⟨some ad, m + 1, ?_, ?_, below_alloc (Below.refl _ _) _⟩
        · have e3 : (trimL xs).isEmpty = false := by rw [List.isEmpty_eq_false_iff]; intro h0; rw [h0] at e; cases e
          rw [e, e3]; simp
        · have h2 := (H.out.trim).below (below_alloc (Below.refl _ _) (.cells #[.bool n, .slice (some ad) (m + 1) (m + 1)] 24))
          exact ⟨h2.reads, Nat.le_of_eq e, h2.dig⟩
/-- canonical, as it hands back an integer. -/
theorem canonical_res (n : Bool) (A : Option Addr) (c : Nat) (xs : List Int) (w : World) (h : Rd w A c xs) (hl : xs.length ≤ 1099511627776) :
    Calls Tryd.prog 51 #[.bool n, .slice A xs.length c] w fun e w' => Res e w w' (iv n xs) := by
  refine (canonical_any n A c xs w h hl).mono ?_
  rintro e w' ⟨A1, c1, rfl, hr, hb⟩
  obtain ⟨e1, e2⟩ := canon_row (n := n) h.dig
  rw [e2, e1]
  rw [e1] at hr
  exact ⟨A1, c1, rfl, hr, hb⟩
set_option maxRecDepth 100000 in
/-- The program's clone: a row of the call's own. -/
theorem clone_any (A : Option Addr) (c : Nat) (xs : List Int) (w : World) (h : Rd w A c xs) (hl : xs.length ≤ 1099511627776) :
    Calls Tryd.prog 59 #[.slice A xs.length c] w fun e w' => ∃ v, e = .returned v ∧ Ow w' w.heap.size v xs ∧ Below w.heap.size w w' := by
  go_enter Tryd.func59, Tryd.ntmps59
  go_wp2_with (first | (at_builtin; refine app_u32 (w0 := w) (base := w.heap.size) rfl _ _ rfl (.slice none 0 0) [] xs A c rfl rfl (Ow.nil _ _) h (Below.refl _ _) (Nat.le_refl _) (by simp; omega) ?_; intro v1 w1 ho hb; rw [List.nil_append] at ho))
  go_ret
  exact ⟨v1, rfl, ho, hb⟩
end Go.Proofs.YtegnnghoiffmhaaDoor.Big
namespace Go.Proofs.YtegnnghoiffmhaaDoor.Big
open Go.RowKit Go.Proofs.YtegnnghoiffmhaaDoorW.PrintWords
set_option linter.unusedVariables false
set_option linter.unusedSimpArgs false
theorem cmp_next (xs ys : List Int) (k gk : Nat) (he : dg xs k = dg ys k) (h : k + 1 = gk ∧ k + 1 ≤ xs.length ∧ val xs - val ys = val (xs.take (k + 1)) - val (ys.take (k + 1))) : Aside0 (k = gk - 1 ∧ k ≤ xs.length ∧ val xs - val ys = val (xs.take k) - val (ys.take k)) := by
  refine ⟨by omega, by omega, ?_⟩
  have h3 := h.2.2
  rw [val_take, val_take, he] at h3
  omega
theorem cmp_end (xs ys : List Int) (k gk : Nat) (hx : ∀ x ∈ xs, 0 ≤ x ∧ x ≤ 4294967295) (hy : ∀ x ∈ ys, 0 ≤ x ∧ x ≤ 4294967295) (hl : dg xs k < dg ys k) (h : k + 1 = gk ∧ k + 1 ≤ xs.length ∧ val xs - val ys = val (xs.take (k + 1)) - val (ys.take (k + 1))) : cmpZ (val xs) (val ys) = -1 :=
  cmpZ_lt (by have := val_take_lt hx hy k hl; have := h.2.2; omega)
theorem cmp_end' (xs ys : List Int) (k gk : Nat) (hx : ∀ x ∈ xs, 0 ≤ x ∧ x ≤ 4294967295) (hy : ∀ x ∈ ys, 0 ≤ x ∧ x ≤ 4294967295) (hl : dg ys k < dg xs k) (h : k + 1 = gk ∧ k + 1 ≤ xs.length ∧ val xs - val ys = val (xs.take (k + 1)) - val (ys.take (k + 1))) : cmpZ (val xs) (val ys) = 1 :=
  cmpZ_gt (by have := val_take_lt hy hx k hl; have := h.2.2; omega)
set_option maxRecDepth 100000 in
theorem compare_any (A0 A1 : Option Addr) (c0 c1 : Nat) (xs ys : List Int) (w : World) (h0 : Rd w A0 c0 xs) (h1 : Rd w A1 c1 ys) (t0 : trimL xs = xs) (t1 : trimL ys = ys) (hl0 : xs.length ≤ 1099511627776) (hl1 : ys.length ≤ 1099511627776) :
    Calls Tryd.prog 58 #[.slice A0 xs.length c0, .slice A1 ys.length c1] w fun e w' => e = .returned (.int .i64 (cmpZ (val xs) (val ys))) ∧ Drawn0 w w' := by
  have H := Aside0.mk (And.intro h0 (And.intro h1 (And.intro t0 t1)))
  clear h0 h1 t0 t1
  by_cases he : xs.length = ys.length
  · have HE := Aside0.mk he
    have hb : (xs.length == ys.length) = true := by simpa using he
    have hb' : (xs.length != ys.length) = false := by simpa using he
    clear he
    go_enter Tryd.func58, Tryd.ntmps58
    go_wp2
    go_loopg [5] xs.length (fun kq v5 w' => ∃ k : Nat, v5 = .int .i64 ((k : Int) - 1) ∧ Aside0 (k = kq ∧ k ≤ xs.length ∧ val xs - val ys = val (xs.take k) - val (ys.take k)) ∧ Aside0 (Drawn0 w w'))
    case atStart => exact ⟨xs.length, rfl, ⟨rfl, Nat.le_refl _, by rw [List.take_of_length_le (Nat.le_refl _), List.take_of_length_le (by have := HE.out; omega)]⟩, ⟨Drawn0.refl _⟩⟩
    case round =>
      obtain ⟨k, rfl, HA, HD⟩ := hrel
      cases k with
      | zero =>
        go_wp2
        go_ret
        exact ⟨by rw [cmpZ_eq (by have := HA.out.2.2; simp [val] at this; omega)]; rfl, HD.out⟩
      | succ k =>
        have hk : k < xs.length := by have := HA.out; omega
        have hk' : k < ys.length := by have := HE.out; omega
        have hk2 : k < 1099511627776 := by omega
        obtain ⟨ad0, rfl, x0⟩ := H.out.1.at_ k hk
        replace x0 := (HD.out.below.cell (World.block_lt_of_cell? w _ x0)).trans x0
        obtain ⟨ad1, rfl, x1⟩ := H.out.2.1.at_ k hk'
        replace x1 := (HD.out.below.cell (World.block_lt_of_cell? w _ x1)).trans x1
        by_cases hz : dg xs k = dg ys k
        · have Z := Aside0.mk hz
          have z1 : (dg xs k != dg ys k) = false := by simpa using hz
          clear hz
          go_wp2
          go_quiet (fail)
          go_wp2
          go_roundg (gk - 1)
          case measure => have := HA.out; omega
          case rel => exact ⟨k, by go_num, cmp_next xs ys k gk Z.out HA.out, ⟨HD.out.step _⟩⟩
        · have z1 : (dg xs k != dg ys k) = true := by simpa using hz
          by_cases hlt : dg xs k < dg ys k
          · have z2 : decide (dg xs k < dg ys k) = true := decide_eq_true hlt
            have Z := Aside0.mk hlt
            clear hz hlt
            go_wp2
            go_quiet (fail)
            go_wp2
            go_quiet (fail)
            go_wp2
            go_ret
            exact ⟨by rw [cmp_end xs ys k gk H.out.1.dig H.out.2.1.dig Z.out HA.out]; rfl, (HD.out.step _).step _⟩
          · have z2 : decide (dg xs k < dg ys k) = false := decide_eq_false hlt
            have Z := Aside0.mk (show dg ys k < dg xs k by omega)
            clear hz hlt
            go_wp2
            go_quiet (fail)
            go_wp2
            go_quiet (fail)
            go_wp2
            go_ret
            exact ⟨by rw [cmp_end' xs ys k gk H.out.1.dig H.out.2.1.dig Z.out HA.out]; rfl, (HD.out.step _).step _⟩
  · have hb : (xs.length == ys.length) = false := by simpa using he
    have hb' : (xs.length != ys.length) = true := by simpa using he
    by_cases hlt : xs.length < ys.length
    · have Z := Aside0.mk (cmpZ_lt (val_lt_len H.out.1.dig H.out.2.1.dig H.out.2.2.2 hlt))
      clear he
      go_enter Tryd.func58, Tryd.ntmps58
      go_wp2
      go_ret
      exact ⟨by rw [Z.out]; rfl, Drawn0.refl _⟩
    · have Z := Aside0.mk (cmpZ_gt (val_lt_len H.out.2.1.dig H.out.1.dig H.out.2.2.1 (show ys.length < xs.length by omega)))
      clear he
      go_enter Tryd.func58, Tryd.ntmps58
      go_wp2
      go_ret
      exact ⟨by rw [Z.out]; rfl, Drawn0.refl _⟩
theorem compare_r (A0 A1 : Option Addr) (c0 c1 : Nat) (xs ys : List Int) (w : World) (h0 : Rd w A0 c0 xs) (h1 : Rd w A1 c1 ys) (t0 : trimL xs = xs) (t1 : trimL ys = ys) (hl0 : xs.length ≤ 1099511627776) (hl1 : ys.length ≤ 1099511627776) (r : Int) (hr : cmpZ (val xs) (val ys) = r) :
    Calls Tryd.prog 58 #[.slice A0 xs.length c0, .slice A1 ys.length c1] w fun e w' => e = .returned (.int .i64 r) ∧ Drawn0 w w' := by
  subst hr; exact compare_any A0 A1 c0 c1 xs ys w h0 h1 t0 t1 hl0 hl1
end Go.Proofs.YtegnnghoiffmhaaDoor.Big
namespace Go.Proofs.YtegnnghoiffmhaaDoor.Big
open Go.RowKit Go.Proofs.YtegnnghoiffmhaaDoorW.PrintWords
set_option linter.unusedVariables false
set_option linter.unusedSimpArgs false
theorem dg_set_ne (xs : List Int) (k j : Nat) (v : Int) (h : k ≠ j) : dg (xs.set k v) j = dg xs j := by
  simp [dg, List.getD_eq_getElem?_getD, List.getElem?_set_ne h]
theorem times_next (w wr : World) (g n cap gk i k : Nat) (c x y o : Int) (cs ds xs ys : List Int) (ex : dg xs i = x) (ey : dg ys k = y) (eo : dg ds (i + k) = o) (dx : 0 ≤ x ∧ x ≤ 4294967295) (dy : 0 ≤ y ∧ y ≤ 4294967295) (hk : k < ys.length) (hi : i < xs.length)
    (h : k + gk = ys.length ∧ (0 ≤ c ∧ c ≤ 4294967295) ∧ ds.length = xs.length + ys.length ∧ val ds + c * pw (i + k) = val (xs.take i) * val ys + dg xs i * pw i * val (ys.take k) ∧ (∀ j, i + ys.length ≤ j → dg ds j = 0) ∧ Own w wr (.slice (some ⟨g, 0, none⟩) n cap) ds) :
    Aside0 (k + 1 + (gk - 1) = ys.length ∧ (0 ≤ (c + (x * y + o)) / 4294967296 ∧ (c + (x * y + o)) / 4294967296 ≤ 4294967295) ∧ (ds.set (i + k) ((c + (x * y + o)) % 4294967296)).length = xs.length + ys.length ∧ val (ds.set (i + k) ((c + (x * y + o)) % 4294967296)) + (c + (x * y + o)) / 4294967296 * pw (i + (k + 1)) = val (xs.take i) * val ys + dg xs i * pw i * val (ys.take (k + 1)) ∧
      (∀ j, i + ys.length ≤ j → dg (ds.set (i + k) ((c + (x * y + o)) % 4294967296)) j = 0) ∧ Own w (wr.setCell ⟨g, i + k, none⟩ (.int .u32 ((c + (x * y + o)) % 4294967296))) (.slice (some ⟨g, 0, none⟩) n cap) (ds.set (i + k) ((c + (x * y + o)) % 4294967296))) := by
  obtain ⟨h1, h2, h3, h4, h5, h6⟩ := h
  have hp0 : 0 ≤ x * y := Int.mul_nonneg dx.1 dy.1
  have hp1 : x * y ≤ 18446744065119617025 := Int.mul_le_mul dx.2 dy.2 dy.1 (by omega)
  have do_ := dg_dig h6.ow.dig (i + k)
  rw [eo] at do_
  refine ⟨by omega, by omega, by simpa using h3, ?_, fun j hj => by rw [dg_set_ne _ _ _ _ (by omega)]; exact h5 j hj, h6.put (i + k) _ (by omega) (by omega)⟩
  rw [val_set _ _ _ (by omega), val_take ys, ex, ey, eo]
  rw [ex] at h4
  have e := Int.mul_ediv_add_emod (c + (x * y + o)) 4294967296
  have ep : pw (i + (k + 1)) = pw (i + k) * 4294967296 := rfl
  rw [ep, pw_add i k] at *
  grind
theorem times_row (w wr : World) (g n cap gk i k : Nat) (c : Int) (ds xs ys : List Int) (hi : i < xs.length) (hk : ys.length ≤ k)
    (h : k + gk = ys.length ∧ (0 ≤ c ∧ c ≤ 4294967295) ∧ ds.length = xs.length + ys.length ∧ val ds + c * pw (i + k) = val (xs.take i) * val ys + dg xs i * pw i * val (ys.take k) ∧ (∀ j, i + ys.length ≤ j → dg ds j = 0) ∧ Own w wr (.slice (some ⟨g, 0, none⟩) n cap) ds) :
    Aside0 (i + 1 + (xs.length - i - 1) = xs.length ∧ (ds.set (i + ys.length) c).length = xs.length + ys.length ∧ val (ds.set (i + ys.length) c) = val (xs.take (i + 1)) * val ys ∧ (∀ j, i + 1 + ys.length ≤ j → dg (ds.set (i + ys.length) c) j = 0) ∧ Own w (wr.setCell ⟨g, i + ys.length, none⟩ (.int .u32 c)) (.slice (some ⟨g, 0, none⟩) n cap) (ds.set (i + ys.length) c)) := by
  obtain ⟨h1, h2, h3, h4, h5, h6⟩ := h
  refine ⟨by omega, by simpa using h3, ?_, fun j hj => by rw [dg_set_ne _ _ _ _ (by omega)]; exact h5 j (by omega), h6.put _ _ (by omega) (by omega)⟩
  obtain rfl : k = ys.length := by omega
  rw [val_set _ _ _ (by omega), h5 _ (Nat.le_refl _), val_take xs]
  rw [List.take_of_length_le (Nat.le_refl _)] at h4
  grind
set_option maxRecDepth 100000 in
theorem times_any (A0 A1 : Option Addr) (c0 c1 : Nat) (xs ys : List Int) (w : World) (h0 : Rd w A0 c0 xs) (h1 : Rd w A1 c1 ys) (hl0 : xs.length ≤ 274877906944) (hl1 : ys.length ≤ 274877906944) :
    Calls Tryd.prog 56 #[.slice A0 xs.length c0, .slice A1 ys.length c1] w fun e w' => ∃ v cs, e = .returned v ∧ Own w w' v cs ∧ val cs = val xs * val ys ∧ cs.length = xs.length + ys.length := by
  have H := Aside0.mk (And.intro h0 h1)
  clear h0 h1
  have ea : (xs.length : Int) + (ys.length : Int) = ((xs.length + ys.length : Nat) : Int) := by omega
  have EA := Aside0.mk ea
  clear ea
  go_enter Tryd.func56, Tryd.ntmps56
  go_wp2_with (first | ((with_reducible refine gate_dst (N := 16) rfl ?_); refine make_u32 rfl rfl _ _ rfl (xs.length + ys.length) (by rw [← EA.out]; rfl) (by rw [← EA.out]; rfl) (by omega) ?_; intro v5 w1 ho hb; have HO := Aside0.mk (Own.mk ho hb); clear ho hb))
  go_loopg [8, 19] xs.length (fun kq v8 v19 w' => ∃ (i : Nat) (cs : List Int), v19 = .int .i64 i ∧ Aside0 (i + kq = xs.length ∧ cs.length = xs.length + ys.length ∧ val cs = val (xs.take i) * val ys ∧ (∀ j, i + ys.length ≤ j → dg cs j = 0) ∧ Own w w' v5 cs))
  case atStart => exact ⟨0, List.replicate (xs.length + ys.length) 0, rfl, ⟨by omega, by simp, by simp [val_zeros, val], fun j _ => by simp [dg, List.getD_eq_getElem?_getD, List.getElem?_replicate]; split <;> rfl, HO.out⟩⟩
  case round =>
    clear HO
    obtain ⟨i, cs, rfl, HA⟩ := hrel
    by_cases hi : i < xs.length
    · obtain ⟨ad0, rfl, x0⟩ := H.out.1.at_ i hi
      replace x0 := (HA.out.2.2.2.2.be.cell (World.block_lt_of_cell? w _ x0)).trans x0
      obtain ⟨g, cap, rfl, -⟩ := HA.out.2.2.2.2.ow.form (by have := HA.out; omega)
      have hi2 : i < 274877906944 := by omega
      go_wp2
      obtain ⟨wo, rfl⟩ : ∃ wo : World, wo = wr := ⟨_, rfl⟩
      go_loopg [8, 26] ys.length (fun kq v8 v26 w' => ∃ (k : Nat) (c : Int) (ds : List Int), v8 = .int .u64 c ∧ v26 = .int .i64 k ∧ Aside0 (k + kq = ys.length ∧ (0 ≤ c ∧ c ≤ 4294967295) ∧ ds.length = xs.length + ys.length ∧ val ds + c * pw (i + k) = val (xs.take i) * val ys + dg xs i * pw i * val (ys.take k) ∧ (∀ j, i + ys.length ≤ j → dg ds j = 0) ∧ Own w w' (.slice (some ⟨g, 0, none⟩) cs.length cap) ds))
      case atStart => exact ⟨0, 0, cs, rfl, rfl, ⟨by omega, by omega, HA.out.2.1, by rw [HA.out.2.2.1]; simp [val], HA.out.2.2.2.1, HA.out.2.2.2.2⟩⟩
      case round =>
        obtain ⟨k, c, ds, rfl, rfl, HB⟩ := hrel
        have DX := Aside0.mk (dg_dig H.out.1.dig i)
        by_cases hk : k < ys.length
        · obtain ⟨ad1, rfl, x1⟩ := H.out.2.at_ k hk
          replace x1 := (HB.out.2.2.2.2.2.be.cell (World.block_lt_of_cell? w _ x1)).trans x1
          have hik : i + k < cs.length := by have := HA.out; omega
          have hk2 : k < 274877906944 := by omega
          obtain ⟨y0, y1⟩ := HB.out.2.2.2.2.2.ow.cell (i + k) hik
          have DY := Aside0.mk (dg_dig H.out.2.dig k)
          have DO := Aside0.mk (dg_dig HB.out.2.2.2.2.2.ow.dig (i + k))
          have hp0 : 0 ≤ dg xs i * dg ys k := Int.mul_nonneg DX.out.1 DY.out.1
          have hp1 : dg xs i * dg ys k ≤ 18446744065119617025 := Int.mul_le_mul DX.out.2 DY.out.2 DY.out.1 (by omega)
          have hx0 := DX.out.1
          have hx1 := DX.out.2
          have hy0 := DY.out.1
          have hy1 := DY.out.2
          have ho0 := DO.out.1
          have ho1 := DO.out.2
          have hc0 := HB.out.2.1.1
          have hc1 := HB.out.2.1.2
          go_wp2
          go_roundg (gk - 1)
          case measure => have := HB.out; omega
          case rel => exact ⟨k + 1, _, _, rfl, by go_num, times_next w wr g _ cap gk i k c _ _ _ cs ds xs ys rfl rfl rfl DX.out DY.out hk hi HB.out⟩
        · have hn : i + ys.length < cs.length := by have := HA.out; omega
          obtain ⟨y0, y1⟩ := HB.out.2.2.2.2.2.ow.cell (i + ys.length) hn
          have hc0 := HB.out.2.1.1
          have hc1 := HB.out.2.1.2
          go_wp2
          go_roundg (xs.length - i - 1)
          case measure => have := HA.out; omega
          case rel => exact ⟨i + 1, _, by go_num, times_row w wr g _ cap _ i k c ds xs ys hi (by omega) HB.out⟩
    · go_wp2
      go_ret
      have h := HA.out
      refine ⟨_, cs, rfl, h.2.2.2.2, ?_, h.2.1⟩
      rw [h.2.2.1, List.take_of_length_le (by omega)]
end Go.Proofs.YtegnnghoiffmhaaDoor.Big
namespace Go.Proofs.YtegnnghoiffmhaaDoor.Big
open Go.RowKit Go.Proofs.YtegnnghoiffmhaaDoorW.PrintWords
set_option linter.unusedVariables false
set_option linter.unusedSimpArgs false
attribute [local go_sem ↓] Go.wp_at_zero Go.wp_at_succ
set_option maxRecDepth 100000 in
theorem sum_any (n0 n1 n2 : Bool) (A0 A1 : Option Addr) (c0 c1 : Nat) (xs ys : List Int) (w : World) (h0 : Rd w A0 c0 xs) (h1 : Rd w A1 c1 ys) (hl0 : xs.length ≤ 274877906944) (hl1 : ys.length ≤ 274877906944) :
    Calls Tryd.prog 55 #[.agg #[.bool n0, .slice A0 xs.length c0], .agg #[.bool n1, .slice A1 ys.length c1], .bool n2] w fun e w' => Res e w w' (iv n0 xs + iv n2 ys) := by
  have H := Aside0.mk (And.intro h0 h1)
  clear h0 h1
  go_enter Tryd.func55, Tryd.ntmps55
  go_wp2
  generalize hwb : World.alloc _ _ = wb
  have hT := (Two.start w _ _ _ _ hwb).drew
  clear hwb
  go_region_held3 (fun w' => w'.cell? ⟨w.heap.size, 0, none⟩ = some (.bool n0) ∧ w'.cell? ⟨w.heap.size, 1, none⟩ = some (.slice A0 xs.length c0) ∧ w'.cell? ⟨w.heap.size + 1, 0, none⟩ = some (.bool n1) ∧ w'.cell? ⟨w.heap.size + 1, 1, none⟩ = some (.slice A1 ys.length c1))
    (exact hT.cells)
    (first | (go_simp; go_at_call 50; (with_reducible refine (magnitude_any n0 A0 c0 xs _ ?_ ?_).mono ?_); (exact H.out.1.below hT.be); (omega); rintro e w1 ⟨rfl, hb⟩; replace hT := hT.below hb; clear hb) | (go_simp; go_at_call 50; (with_reducible refine (magnitude_any n1 A1 c1 ys _ ?_ ?_).mono ?_); (exact H.out.2.below hT.be); (omega); rintro e w1 ⟨rfl, hb⟩; replace hT := hT.below hb; clear hb))
  by_cases hn : n0 = n2
  · subst hn
    go_wp2_with (first | (go_at_call 80; (with_reducible refine (plus_any A0 A1 c0 c1 (trimL xs) (trimL ys) _ (H.out.1.trim.below hT.be) (H.out.2.trim.below hT.be) (by have := trimL_len xs; omega) (by have := trimL_len ys; omega)).mono ?_); rintro e w2 ⟨v, cs, rfl, hO, hv, hl⟩; obtain ⟨A, c, rfl, hR⟩ := hO.ow.rd; replace hT := hT.below hO.be; have HV := Aside0.mk hv; have HL := Aside0.mk hl; clear hv hl hO) | (go_at_call 51; (with_reducible refine (canonical_res n0 A c cs _ hR (by have := HL.out; have := trimL_len xs; have := trimL_len ys; omega)).mono ?_); rintro e w3 ⟨A', c', rfl, hR', hb⟩; replace hT := hT.below hb; have hroom := hT.room))
    have E : iv n0 cs = iv n0 xs + iv n0 ys := by have h := HV.out; rw [val_trim, val_trim] at h; unfold iv; split <;> omega
    rw [← E]
    exact bodyPost_ret (v := .agg #[.bool (ng (iv n0 cs)), .slice A' (mg (iv n0 cs)).length c']) (by simp [results, Tryd.results55, go_sem, hroom]) rfl (hT.res hR')
  · have hnb : (n0 == n2) = false := by simpa using hn
    have hv0 := val_trim xs
    have hv1 := val_trim ys
    obtain ⟨r, hr⟩ : ∃ r, cmpZ (val (trimL xs)) (val (trimL ys)) = r := ⟨_, rfl⟩
    have HN := Aside0.mk (And.intro hn (And.intro hr (And.intro hv0 hv1)))
    have L0 := trimL_len xs
    have L1 := trimL_len ys
    by_cases hge : val ys ≤ val xs
    · have hr0 : 0 ≤ r := by have := cmpZ_nonneg (val (trimL xs)) (val (trimL ys)); rw [hr, hv0, hv1] at this; omega
      have HG := Aside0.mk (show val ys ≤ val xs by omega)
      clear hn hr hv0 hv1 hge
      go_wp2_with (first | (go_at_call 58; (with_reducible refine (compare_r A0 A1 c0 c1 (trimL xs) (trimL ys) _ (H.out.1.trim.below hT.be) (H.out.2.trim.below hT.be) (trimL_trimL _) (trimL_trimL _) (by omega) (by omega) r HN.out.2.1).mono ?_); rintro e w2 ⟨rfl, hd⟩; replace hT := hT.below hd.below; clear hd; have hcl := hT.cells))
      replace hT := hT.drew
      go_region_held3 (fun w' => w'.cell? ⟨w.heap.size, 0, none⟩ = some (.bool n0))
        (first | exact hT.x.at0 | exact hT.after _ _ _ _ (.inl rfl) hT.x.at0)
        (first | (go_simp; go_at_call 81; (with_reducible refine (minus_val A0 A1 c0 c1 (trimL xs) (trimL ys) _ (H.out.1.trim.below hT.be) (H.out.2.trim.below hT.be) (by omega) (len_of_val_le (trim_dig H.out.1.dig) (trim_dig H.out.2.dig) (trimL_trimL _) (by rw [HN.out.2.2.1, HN.out.2.2.2]; exact HG.out)) (by rw [HN.out.2.2.1, HN.out.2.2.2]; exact HG.out)).mono ?_); rintro e w2 ⟨v, cs, rfl, hO, hv, hl⟩; obtain ⟨A, c, rfl, hR⟩ := hO.ow.rd; replace hT := hT.below hO.be; have HV := Aside0.mk hv; have HL := Aside0.mk hl; clear hv hl hO; have hcl := hT.cells) | (go_simp; go_at_call 51; (with_reducible refine (canonical_res n0 A c cs _ hR (by have := HL.out; omega)).mono ?_); rintro e w3 ⟨A', c', rfl, hR', hb⟩; replace hT := hT.below hb; have hroom := hT.room))
      have E : iv n0 cs = iv n0 xs + iv n2 ys := by have h := HV.out; rw [val_trim, val_trim] at h; rw [iv_ne HN.out.1]; have hne := HN.out.1; unfold iv; cases n0 <;> cases n2 <;> simp at hne ⊢ <;> omega
      go_wp2
      rw [← E]
      exact bodyPost_ret (v := .agg #[.bool (ng (iv n0 cs)), .slice A' (mg (iv n0 cs)).length c']) (by simp [results, Tryd.results55, go_sem, hroom]) rfl (hT.res hR')
    · have hr0 : r < 0 := by have := cmpZ_nonneg (val (trimL xs)) (val (trimL ys)); rw [hr, hv0, hv1] at this; omega
      have HG := Aside0.mk (show val xs ≤ val ys by omega)
      clear hn hr hv0 hv1 hge
      go_wp2_with (first | (go_at_call 58; (with_reducible refine (compare_r A0 A1 c0 c1 (trimL xs) (trimL ys) _ (H.out.1.trim.below hT.be) (H.out.2.trim.below hT.be) (trimL_trimL _) (trimL_trimL _) (by omega) (by omega) r HN.out.2.1).mono ?_); rintro e w2 ⟨rfl, hd⟩; replace hT := hT.below hd.below; clear hd; have hcl := hT.cells) | (go_at_call 81; (with_reducible refine (minus_val A1 A0 c1 c0 (trimL ys) (trimL xs) _ (H.out.2.trim.below hT.be) (H.out.1.trim.below hT.be) (by omega) (len_of_val_le (trim_dig H.out.2.dig) (trim_dig H.out.1.dig) (trimL_trimL _) (by rw [HN.out.2.2.1, HN.out.2.2.2]; exact HG.out)) (by rw [HN.out.2.2.1, HN.out.2.2.2]; exact HG.out)).mono ?_); rintro e w2 ⟨v, cs, rfl, hO, hv, hl⟩; obtain ⟨A, c, rfl, hR⟩ := hO.ow.rd; replace hT := hT.below hO.be; have HV := Aside0.mk hv; have HL := Aside0.mk hl; clear hv hl hO; have hcl := hT.cells) | (go_at_call 51; (with_reducible refine (canonical_res n2 A c cs _ hR (by have := HL.out; omega)).mono ?_); rintro e w3 ⟨A', c', rfl, hR', hb⟩; replace hT := hT.below hb; have hroom := hT.room))
      have E : iv n2 cs = iv n0 xs + iv n2 ys := by have h := HV.out; rw [val_trim, val_trim] at h; rw [iv_ne HN.out.1]; have hne := HN.out.1; unfold iv; cases n0 <;> cases n2 <;> simp at hne ⊢ <;> omega
      rw [← E]
      exact bodyPost_ret (v := .agg #[.bool (ng (iv n2 cs)), .slice A' (mg (iv n2 cs)).length c']) (by simp [results, Tryd.results55, go_sem, hroom]) rfl (hT.res hR')
set_option maxRecDepth 100000 in
theorem add_any (n0 n1 : Bool) (A0 A1 : Option Addr) (c0 c1 : Nat) (xs ys : List Int) (w : World) (h0 : Rd w A0 c0 xs) (h1 : Rd w A1 c1 ys) (hl0 : xs.length ≤ 274877906944) (hl1 : ys.length ≤ 274877906944) :
    Calls Tryd.prog 17 #[.agg #[.bool n0, .slice A0 xs.length c0], .agg #[.bool n1, .slice A1 ys.length c1]] w fun e w' => Res e w w' (iv n0 xs + iv n1 ys) := by
  go_enter Tryd.func17, Tryd.ntmps17
  go_wp2_with (first | (go_at_call 55; refine (sum_any n0 n1 n1 A0 A1 c0 c1 xs ys _ (h0.below (by repeat (first | exact Below.refl _ _ | apply below_alloc))) (h1.below (by repeat (first | exact Below.refl _ _ | apply below_alloc))) hl0 hl1).mono ?_; rintro e w1 ⟨A, c, rfl, hr, hb⟩; obtain ⟨hc, hf⟩ := bcell hb; have HR := Aside0.mk hr; have HB := Aside0.mk hb; clear hr hb))
  exact bodyPost_ret (v := .agg #[.bool (ng (iv n0 xs + iv n1 ys)), .slice A (mg (iv n0 xs + iv n1 ys)).length c]) (by simp [results, Tryd.results17, go_sem, hc, hf]) rfl (Res.boxed HR.out HB.out (by repeat (first | exact Below.refl _ _ | apply below_alloc)) (by simp))
end Go.Proofs.YtegnnghoiffmhaaDoor.Big
namespace Go.Proofs.YtegnnghoiffmhaaDoor.Big
open Go.RowKit Go.Proofs.YtegnnghoiffmhaaDoorW.PrintWords
set_option linter.unusedVariables false
set_option linter.unusedSimpArgs false
attribute [local go_sem ↓] Go.wp_at_zero Go.wp_at_succ
set_option maxRecDepth 100000 in
theorem sub_any (n0 n1 : Bool) (A0 A1 : Option Addr) (c0 c1 : Nat) (xs ys : List Int) (w : World) (h0 : Rd w A0 c0 xs) (h1 : Rd w A1 c1 ys) (hl0 : xs.length ≤ 274877906944) (hl1 : ys.length ≤ 274877906944) :
    Calls Tryd.prog 20 #[.agg #[.bool n0, .slice A0 xs.length c0], .agg #[.bool n1, .slice A1 ys.length c1]] w fun e w' => Res e w w' (iv n0 xs - iv n1 ys) := by
  have E : iv n0 xs - iv n1 ys = iv n0 xs + iv (!n1) ys := by rw [iv_neg]; omega
  rw [E]
  clear E
  go_enter Tryd.func20, Tryd.ntmps20
  go_wp2_with (first | (go_at_call 55; generalize hwb : World.alloc _ _ = wb; have hT := Two.start w _ _ _ _ hwb; clear hwb; (with_reducible refine (sum_any n0 n1 (!n1) A0 A1 c0 c1 xs ys _ (h0.below hT.be) (h1.below hT.be) hl0 hl1).mono ?_); rintro e w1 ⟨A, c, rfl, hr, hb⟩; replace hT := hT.below hb; have hroom := hT.room; have HR := Aside0.mk hr; clear hr hb))
  exact bodyPost_ret (v := .agg #[.bool (ng (iv n0 xs + iv (!n1) ys)), .slice A (mg (iv n0 xs + iv (!n1) ys)).length c]) (by simp [results, Tryd.results20, go_sem, hroom]) rfl (hT.res HR.out)
set_option maxRecDepth 100000 in
theorem abs_any (n0 : Bool) (A0 : Option Addr) (c0 : Nat) (xs : List Int) (w : World) (h0 : Rd w A0 c0 xs) (hl0 : xs.length ≤ 274877906944) :
    Calls Tryd.prog 26 #[.agg #[.bool n0, .slice A0 xs.length c0]] w fun e w' => Res e w w' (iv n0 xs).natAbs := by
  rw [← iv_abs n0 h0.dig, ← iv_trim]
  have L0 := trimL_len xs
  go_enter Tryd.func26, Tryd.ntmps26
  go_wp2_with (first | (go_at_call 50; generalize hwb : World.alloc _ _ = wb; have hT := One.start w _ _ hwb; clear hwb; (with_reducible refine (magnitude_any n0 A0 c0 xs _ (h0.below hT.be) (by omega)).mono ?_); rintro e w1 ⟨rfl, hb⟩; replace hT := hT.below hb; clear hb) | (go_at_call 59; (with_reducible refine (clone_any A0 c0 (trimL xs) _ (h0.trim.below hT.be) (by omega)).mono ?_); rintro e w1 ⟨v, rfl, ho, hb⟩; obtain ⟨A, c, rfl, hR⟩ := ho.rd; replace hT := hT.below hb; clear hb ho) | (go_at_call 51; (with_reducible refine (canonical_res false A c (trimL xs) _ hR (by omega)).mono ?_); rintro e w3 ⟨A', c', rfl, hR', hb⟩; replace hT := hT.below hb; have hroom := hT.room))
  exact bodyPost_ret (v := .agg #[.bool (ng (iv false (trimL xs))), .slice A' (mg (iv false (trimL xs))).length c']) (by simp [results, Tryd.results26, go_sem, hroom]) rfl (hT.res hR')
set_option maxRecDepth 100000 in
theorem negate_any (n0 : Bool) (A0 : Option Addr) (c0 : Nat) (xs : List Int) (w : World) (h0 : Rd w A0 c0 xs) (hl0 : xs.length ≤ 274877906944) :
    Calls Tryd.prog 29 #[.agg #[.bool n0, .slice A0 xs.length c0]] w fun e w' => Res e w w' (-iv n0 xs) := by
  rw [← iv_neg, ← iv_trim]
  have L0 := trimL_len xs
  go_enter Tryd.func29, Tryd.ntmps29
  go_wp2
  generalize hwb : World.alloc _ _ = wb
  have hT := (One.start w _ _ hwb).drew
  clear hwb
  go_region_held3 (fun w' => w'.cell? ⟨w.heap.size, 0, none⟩ = some (.bool n0) ∧ w'.cell? ⟨w.heap.size, 1, none⟩ = some (.slice A0 xs.length c0))
    (first | exact hT.cells | exact ⟨hT.after _ _ _ _ rfl hT.x.at0, hT.after _ _ _ _ rfl hT.x.at1⟩)
    (first | (go_simp; go_at_call 50; (with_reducible refine (magnitude_any n0 A0 c0 xs _ (h0.below hT.be) (by omega)).mono ?_); rintro e w1 ⟨rfl, hb⟩; replace hT := hT.below hb; clear hb) | (go_simp; go_at_call 59; (with_reducible refine (clone_any A0 c0 (trimL xs) _ (h0.trim.below hT.be) (by omega)).mono ?_); rintro e w1 ⟨v, rfl, ho, hb⟩; obtain ⟨A, c, rfl, hR⟩ := ho.rd; replace hT := hT.below hb; clear hb ho) | (go_simp; go_at_call 51; (with_reducible refine (canonical_res (!n0) A c (trimL xs) _ hR (by omega)).mono ?_); rintro e w3 ⟨A', c', rfl, hR', hb⟩; replace hT := hT.below hb; have hroom := hT.room))
  go_wp2
  exact bodyPost_ret (v := .agg #[.bool (ng (iv (!n0) (trimL xs))), .slice A' (mg (iv (!n0) (trimL xs))).length c']) (by simp [results, Tryd.results29, go_sem, hroom]) rfl (hT.res hR')
set_option maxRecDepth 100000 in
theorem mul_any (n0 n1 : Bool) (A0 A1 : Option Addr) (c0 c1 : Nat) (xs ys : List Int) (w : World) (h0 : Rd w A0 c0 xs) (h1 : Rd w A1 c1 ys) (hl0 : xs.length ≤ 274877906944) (hl1 : ys.length ≤ 274877906944) :
    Calls Tryd.prog 18 #[.agg #[.bool n0, .slice A0 xs.length c0], .agg #[.bool n1, .slice A1 ys.length c1]] w fun e w' => Res e w w' (iv n0 xs * iv n1 ys) := by
  have L0 := trimL_len xs
  have L1 := trimL_len ys
  go_enter Tryd.func18, Tryd.ntmps18
  go_wp2
  generalize hwb : World.alloc _ _ = wb
  have hT := (Two.start w _ _ _ _ hwb).drew
  clear hwb
  go_region_held3 (fun w' => w'.cell? ⟨w.heap.size, 0, none⟩ = some (.bool n0) ∧ w'.cell? ⟨w.heap.size, 1, none⟩ = some (.slice A0 xs.length c0) ∧ w'.cell? ⟨w.heap.size + 1, 0, none⟩ = some (.bool n1) ∧ w'.cell? ⟨w.heap.size + 1, 1, none⟩ = some (.slice A1 ys.length c1))
    (first | exact hT.cells | exact ⟨hT.after _ _ _ _ (.inl rfl) hT.x.at0, hT.after _ _ _ _ (.inl rfl) hT.x.at1, hT.after _ _ _ _ (.inr rfl) hT.y.at0, hT.after _ _ _ _ (.inr rfl) hT.y.at1⟩)
    (first | (go_simp; go_at_call 50; (with_reducible refine (magnitude_any n0 A0 c0 xs _ (h0.below hT.be) (by omega)).mono ?_); rintro e w1 ⟨rfl, hb⟩; replace hT := hT.below hb; clear hb) | (go_simp; go_at_call 50; (with_reducible refine (magnitude_any n1 A1 c1 ys _ (h1.below hT.be) (by omega)).mono ?_); rintro e w1 ⟨rfl, hb⟩; replace hT := hT.below hb; clear hb) | (go_simp; go_at_call 56; (with_reducible refine (times_any A0 A1 c0 c1 (trimL xs) (trimL ys) _ (h0.trim.below hT.be) (h1.trim.below hT.be) (by omega) (by omega)).mono ?_); rintro e w1 ⟨v, cs, rfl, hO, hv, hl⟩; obtain ⟨A, c, rfl, hR⟩ := hO.ow.rd; replace hT := hT.below hO.be; have HV := Aside0.mk hv; have HL := Aside0.mk hl; clear hO hv hl) | (go_simp; go_at_call 51; (with_reducible refine (canonical_res (!(n0 == n1)) A c cs _ hR (by have := HL.out; omega)).mono ?_); rintro e w3 ⟨A', c', rfl, hR', hb⟩; replace hT := hT.below hb; have hroom := hT.room))
  go_wp2
  have E : iv (!(n0 == n1)) cs = iv n0 xs * iv n1 ys := iv_mul n0 n1 xs ys cs (by rw [HV.out, val_trim, val_trim])
  rw [← E]
  exact bodyPost_ret (v := .agg #[.bool (ng (iv (!(n0 == n1)) cs)), .slice A' (mg (iv (!(n0 == n1)) cs)).length c']) (by simp [results, Tryd.results18, go_sem, hroom]) rfl (hT.res hR')
set_option maxRecDepth 100000 in
theorem sign_any (n0 : Bool) (A0 : Option Addr) (c0 : Nat) (xs : List Int) (w : World) (h0 : Rd w A0 c0 xs) (hl0 : xs.length ≤ 274877906944) (r : Int) (hr : cmpZ (iv n0 xs) 0 = r) :
    Calls Tryd.prog 19 #[.agg #[.bool n0, .slice A0 xs.length c0]] w fun e w' => e = .returned (.int .i64 r) ∧ Below w.heap.size w w' := by
  have H0 := Aside0.mk h0
  by_cases ht : trimL xs = []
  · rw [iv_nil ht, cmpZ_eq rfl] at hr
    subst hr
    clear h0
    have hl : (trimL xs).length = 0 := by rw [ht]; rfl
    clear ht
    go_enter Tryd.func19, Tryd.ntmps19
    go_wp2_with (first | (go_at_call 50; generalize hwb : World.alloc _ _ = wb; have hT := Arg1.start w _ _ hwb; clear hwb; (with_reducible refine (magnitude_any n0 A0 c0 xs _ (H0.out.below hT.be) (by omega)).mono ?_); rintro e w1 ⟨rfl, hb⟩; replace hT := hT.below hb; clear hb; have hcl := hT.cells))
    go_ret
    exact ⟨rfl, hT.be⟩
  · rw [iv_pos h0.dig ht] at hr
    clear h0
    have hl : 0 < (trimL xs).length := List.length_pos_iff.mpr ht
    have hl2 : ((trimL xs).length == 0) = false := by simpa using ht
    have L0 := trimL_len xs
    clear ht
    cases n0
    · have hr' : r = 1 := hr.symm
      subst hr'
      go_enter Tryd.func19, Tryd.ntmps19
      go_wp2_with (first | (go_at_call 50; generalize hwb : World.alloc _ _ = wb; have hT := Arg1.start w _ _ hwb; clear hwb; (with_reducible refine (magnitude_any _ A0 c0 xs _ (H0.out.below hT.be) (by omega)).mono ?_); rintro e w1 ⟨rfl, hb⟩; replace hT := hT.below hb; clear hb; have hcl := hT.cells))
      go_ret
      exact ⟨rfl, hT.be⟩
    · have hr' : r = -1 := hr.symm
      subst hr'
      go_enter Tryd.func19, Tryd.ntmps19
      go_wp2_with (first | (go_at_call 50; generalize hwb : World.alloc _ _ = wb; have hT := Arg1.start w _ _ hwb; clear hwb; (with_reducible refine (magnitude_any _ A0 c0 xs _ (H0.out.below hT.be) (by omega)).mono ?_); rintro e w1 ⟨rfl, hb⟩; replace hT := hT.below hb; clear hb; have hcl := hT.cells))
      go_ret
      exact ⟨rfl, hT.be⟩
end Go.Proofs.YtegnnghoiffmhaaDoor.Big
namespace Go.Proofs.YtegnnghoiffmhaaDoor.Big
open Go.RowKit Go.Proofs.YtegnnghoiffmhaaDoorW.PrintWords
set_option linter.unusedVariables false
set_option linter.unusedSimpArgs false
attribute [local go_sem ↓] Go.wp_at_zero Go.wp_at_succ
theorem ret_int {k : IntKind} {a b : Int} (h : a = b) : Ending.returned (.int k a) = .returned (.int k b) := by rw [h]
set_option maxRecDepth 100000 in
theorem Compare_any (n0 n1 : Bool) (A0 A1 : Option Addr) (c0 c1 : Nat) (xs ys : List Int) (w : World) (h0 : Rd w A0 c0 xs) (h1 : Rd w A1 c1 ys) (hl0 : xs.length ≤ 274877906944) (hl1 : ys.length ≤ 274877906944) (r : Int) (hr : cmpZ (iv n0 xs) (iv n1 ys) = r) :
    Calls Tryd.prog 25 #[.agg #[.bool n0, .slice A0 xs.length c0], .agg #[.bool n1, .slice A1 ys.length c1]] w fun e w' => e = .returned (.int .i64 r) ∧ Below w.heap.size w w' := by
  have L0 := trimL_len xs
  have L1 := trimL_len ys
  obtain ⟨sx, hsx⟩ : ∃ sx, cmpZ (iv n0 xs) 0 = sx := ⟨_, rfl⟩
  obtain ⟨sy, hsy⟩ : ∃ sy, cmpZ (iv n1 ys) 0 = sy := ⟨_, rfl⟩
  obtain ⟨q, hq⟩ : ∃ q, cmpZ (val (trimL xs)) (val (trimL ys)) = q := ⟨_, rfl⟩
  have K := Aside0.mk (cmp_sgn (q := q) h0.dig h1.dig hr hsx hsy (by rw [val_trim, val_trim] at hq; exact hq))
  have HX := Aside0.mk hsx
  have HY := Aside0.mk hsy
  have HQ := Aside0.mk hq
  clear hr hsx hsy hq
  have bx := K.out.2.2.1
  have by_ := K.out.2.2.2.1
  have bq := K.out.2.2.2.2.1
  obtain ⟨bx0, bx1⟩ := bx
  obtain ⟨by0, by1⟩ := by_
  obtain ⟨bq0, bq1⟩ := bq
  go_enter Tryd.func25, Tryd.ntmps25
  go_wp2
  generalize hwb : World.alloc _ _ = wb
  have hT := (Arg2.start w _ _ _ _ hwb).drew
  clear hwb
  go_region_held3 (fun w' => w'.cell? ⟨w.heap.size, 0, none⟩ = some (.bool n0) ∧ w'.cell? ⟨w.heap.size, 1, none⟩ = some (.slice A0 xs.length c0) ∧ w'.cell? ⟨w.heap.size + 1, 0, none⟩ = some (.bool n1) ∧ w'.cell? ⟨w.heap.size + 1, 1, none⟩ = some (.slice A1 ys.length c1))
    (exact hT.cells)
    (first | (go_simp; go_at_call 19; (with_reducible refine (sign_any n0 A0 c0 xs _ (h0.below hT.be) hl0 sx HX.out).mono ?_); rintro e w1 ⟨rfl, hb⟩; replace hT := hT.below hb; clear hb) | (go_simp; go_at_call 19; (with_reducible refine (sign_any n1 A1 c1 ys _ (h1.below hT.be) hl1 sy HY.out).mono ?_); rintro e w1 ⟨rfl, hb⟩; replace hT := hT.below hb; clear hb))
  by_cases hlt : sx < sy
  · go_wp2
    go_ret
    exact ⟨ret_int (K.out.1 hlt).symm, hT.be⟩
  · by_cases hgt : sy < sx
    · go_wp2
      go_ret
      exact ⟨ret_int (K.out.2.1 hgt).symm, hT.be⟩
    · have he : sy = sx := by omega
      subst he
      have KE := Aside0.mk (K.out.2.2.2.2.2 rfl)
      clear hlt hgt
      have hp : -1 ≤ sy * q ∧ sy * q ≤ 1 := by rcases (show sy = -1 ∨ sy = 0 ∨ sy = 1 by omega) with e | e | e <;> subst e <;> omega
      obtain ⟨hp0, hp1⟩ := hp
      go_wp2
      replace hT := hT.drew
      go_region_held3 (fun w' => w'.cell? ⟨w.heap.size, 0, none⟩ = some (.bool n0) ∧ w'.cell? ⟨w.heap.size, 1, none⟩ = some (.slice A0 xs.length c0) ∧ w'.cell? ⟨w.heap.size + 1, 0, none⟩ = some (.bool n1) ∧ w'.cell? ⟨w.heap.size + 1, 1, none⟩ = some (.slice A1 ys.length c1))
        (exact hT.cells)
        (first | (go_simp; go_at_call 50; (with_reducible refine (magnitude_any n0 A0 c0 xs _ (h0.below hT.be) (by omega)).mono ?_); rintro e w1 ⟨rfl, hb⟩; replace hT := hT.below hb; clear hb) | (go_simp; go_at_call 50; (with_reducible refine (magnitude_any n1 A1 c1 ys _ (h1.below hT.be) (by omega)).mono ?_); rintro e w1 ⟨rfl, hb⟩; replace hT := hT.below hb; clear hb) | (go_simp; go_at_call 58; (with_reducible refine (compare_r A0 A1 c0 c1 (trimL xs) (trimL ys) _ (h0.trim.below hT.be) (h1.trim.below hT.be) (trimL_trimL _) (trimL_trimL _) (by omega) (by omega) q HQ.out).mono ?_); rintro e w2 ⟨rfl, hd⟩; replace hT := hT.below hd.below; clear hd))
      go_wp2
      go_ret
      exact ⟨ret_int ((IntWalk.i64_in _ ⟨by omega, by omega⟩).trans KE.out.symm), hT.be⟩
theorem from_val (n u : Int) (b : Bool) (h0 : 0 ≤ u) (h1 : u < 18446744073709551616) (h2 : (if b then -u else u) = n) : (0 ≤ u % 4294967296 ∧ u % 4294967296 ≤ 4294967295) ∧ (0 ≤ u / 4294967296 ∧ u / 4294967296 ≤ 4294967295) ∧ iv b [u % 4294967296, u / 4294967296] = n := by
  refine ⟨by omega, by omega, ?_⟩
  rw [← h2]
  unfold iv
  simp only [val]
  split <;> omega
theorem canonical_two (n : Bool) (A : Option Addr) (c : Nat) (a b : Int) (w : World) (h : Rd w A c [a, b]) : Calls Tryd.prog 51 #[.bool n, .slice A 2 c] w fun e w' => Res e w w' (iv n [a, b]) := canonical_res n A c [a, b] w h (by simp)
theorem lit_start (w : World) (a b : Int) (ha : 0 ≤ a ∧ a ≤ 4294967295) (hb : 0 ≤ b ∧ b ≤ 4294967295) {wb : World} (h : (w.alloc (.cells #[.bool false, .slice none 0 0] 24)).alloc (.cells #[.int .u32 a, .int .u32 b] 57) = wb) :
    Below w.heap.size w wb ∧ Box wb w.heap.size (.bool false) (.slice none 0 0) 24 ∧ Rd wb (some ⟨w.heap.size + 1, 0, none⟩) 2 [a, b] := by
  obtain ⟨h1, h2, _⟩ := boxes2 w _ _ _ _ _ _ h
  refine ⟨h1, h2, ?_⟩
  subst h
  obtain ⟨A, c, e, hr⟩ := (Ow.lit2 (w.alloc (.cells #[.bool false, .slice none 0 0] 24)) w.heap.size a b ha hb (by simp)).rd
  cases e
  simpa using hr
set_option maxRecDepth 100000 in
/-- A row that the call made: two digits. -/
theorem FromInt64_any (n : Int) (w : World) (h0 : -9223372036854775808 ≤ n) (h1 : n ≤ 9223372036854775807) :
    Calls Tryd.prog 21 #[.int .i64 n] w fun e w' => Res e w w' n := by
  by_cases hn : n < 0
  · have e1 : IntKind.u64.wrap n = n + 18446744073709551616 := by rw [IntKind.wrap_u64]; omega
    have e2 : IntKind.u64.wrap (-(n + 18446744073709551616)) = -n := by rw [IntKind.wrap_u64]; omega
    have e3 : (-n) / 4294967296 % 4294967296 = (-n) / 4294967296 := by omega
    have EV := Aside0.mk (from_val n (-n) true (by omega) (by omega) (by simp))
    clear h0 h1
    go_enter Tryd.func21, Tryd.ntmps21
    go_wp2_with (first | (go_at_call 51; generalize hwb : World.alloc (World.alloc _ _) _ = wb; have hT := lit_start w _ _ EV.out.1 EV.out.2.1 hwb; clear hwb; obtain ⟨hbe, hbr, hR⟩ := hT; (with_reducible refine (canonical_two true _ 2 ((-n) % 4294967296) ((-n) / 4294967296) _ hR).mono ?_); rintro e w3 ⟨A', c', rfl, hR', hb⟩; have hB := keep_below hb hbe; replace hbr := hbr.below hb; have r0 := hbr.at0; have r1 := hbr.at1; have f0 := hbr.free 0; have f1 := hbr.free 1))
    rw [EV.out.2.2] at hR' ⊢
    exact bodyPost_ret (v := .agg #[.bool (ng n), .slice A' (mg n).length c']) (by simp [results, Tryd.results21, go_sem, r0, r1, f0, f1]) rfl ⟨A', c', rfl, hR'.boxed hbr.blk, (hB.setCell (by simp) _).setCell (by simp) _⟩
  · have e1 : IntKind.u64.wrap n = n := by rw [IntKind.wrap_u64]; omega
    have e3 : (n) / 4294967296 % 4294967296 = (n) / 4294967296 := by omega
    have EV := Aside0.mk (from_val n (n) false (by omega) (by omega) (by simp))
    clear h0 h1
    go_enter Tryd.func21, Tryd.ntmps21
    go_wp2_with (first | (go_at_call 51; generalize hwb : World.alloc (World.alloc _ _) _ = wb; have hT := lit_start w _ _ EV.out.1 EV.out.2.1 hwb; clear hwb; obtain ⟨hbe, hbr, hR⟩ := hT; (with_reducible refine (canonical_two false _ 2 ((n) % 4294967296) ((n) / 4294967296) _ hR).mono ?_); rintro e w3 ⟨A', c', rfl, hR', hb⟩; have hB := keep_below hb hbe; replace hbr := hbr.below hb; have r0 := hbr.at0; have r1 := hbr.at1; have f0 := hbr.free 0; have f1 := hbr.free 1))
    rw [EV.out.2.2] at hR' ⊢
    exact bodyPost_ret (v := .agg #[.bool (ng n), .slice A' (mg n).length c']) (by simp [results, Tryd.results21, go_sem, r0, r1, f0, f1]) rfl ⟨A', c', rfl, hR'.boxed hbr.blk, (hB.setCell (by simp) _).setCell (by simp) _⟩
end Go.Proofs.YtegnnghoiffmhaaDoor.Big
