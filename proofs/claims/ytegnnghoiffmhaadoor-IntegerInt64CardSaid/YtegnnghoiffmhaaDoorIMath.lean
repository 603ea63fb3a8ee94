/- Numbers as rows of digits to the base 2^32, the least first. Of no program. -/
import Derived.RowKit
namespace Go.Proofs.YtegnnghoiffmhaaDoor.Big
/-- Digit k, 0 beyond the end. -/
def dg (xs : List Int) (k : Nat) : Int := xs.getD k 0
/-- The borrow of x - y - c. -/
def bor (x y c : Int) : Int := if x < y + c then 1 else 0
theorem bor01 (x y c : Int) : 0 ≤ bor x y c ∧ bor x y c ≤ 1 := by unfold bor; split <;> omega
/-- x - y - c, digit by digit. -/
def subL : List Int → List Int → Int → List Int
  | [], _, _ => []
  | x :: xs, ys, c => (x - ys.headD 0 - c) % 4294967296 :: subL xs ys.tail (bor x (ys.headD 0) c)
theorem headD_drop (xs : List Int) (k : Nat) : (xs.drop k).headD 0 = dg xs k := by
  unfold dg
  rw [List.headD_eq_head?_getD, List.head?_drop, List.getD_eq_getElem?_getD]
theorem drop_dg (xs : List Int) (k : Nat) (hk : k < xs.length) : xs.drop k = dg xs k :: xs.drop (k + 1) := by
  unfold dg
  rw [List.drop_eq_getElem_cons hk, List.getD_eq_getElem?_getD, List.getElem?_eq_getElem hk]; rfl
theorem dg_ge (xs : List Int) (k : Nat) (hk : xs.length ≤ k) : dg xs k = 0 := by
  unfold dg
  rw [List.getD_eq_getElem?_getD, List.getElem?_eq_none hk]; rfl
theorem set_take (cs : List Int) (k : Nat) (x : Int) (hk : k < cs.length) : (cs.set k x).take (k + 1) = cs.take k ++ [x] := by
  rw [List.take_succ_eq_append_getElem (by simpa using hk), List.getElem_set_self, List.take_set, List.set_eq_of_length_le (by simp; omega)]
theorem subL_len : ∀ (xs ys : List Int) (c : Int), (subL xs ys c).length = xs.length
  | [], _, _ => rfl
  | x :: xs, ys, c => by simp only [subL, List.length_cons, subL_len xs]
theorem subL_step (xs ys : List Int) (k : Nat) (c : Int) (hk : k < xs.length) : subL (xs.drop k) (ys.drop k) c = (dg xs k - dg ys k - c) % 4294967296 :: subL (xs.drop (k + 1)) (ys.drop (k + 1)) (bor (dg xs k) (dg ys k) c) := by
  rw [drop_dg xs k hk]
  simp only [subL, headD_drop, List.tail_drop]
/-- Without the zeros at the end. -/
def trimL : List Int → List Int
  | [] => []
  | x :: xs => if trimL xs = [] ∧ x = 0 then [] else x :: trimL xs
theorem trimL_zero : ∀ xs : List Int, trimL (xs ++ [0]) = trimL xs
  | [] => by simp [trimL]
  | x :: xs => by simp only [List.cons_append, trimL, trimL_zero xs]
theorem trimL_nz {z : Int} (h : z ≠ 0) : ∀ xs : List Int, trimL (xs ++ [z]) = xs ++ [z]
  | [] => by simp [trimL, h]
  | x :: xs => by
    simp only [List.cons_append, trimL, trimL_nz h xs]
    rw [if_neg (by simp)]
theorem take_dg (xs : List Int) (k : Nat) (hk : k < xs.length) : xs.take (k + 1) = xs.take k ++ [dg xs k] := by
  unfold dg
  rw [List.take_succ_eq_append_getElem hk, List.getD_eq_getElem?_getD, List.getElem?_eq_getElem hk]; rfl
theorem trimL_prefix : ∀ xs : List Int, trimL xs = xs.take (trimL xs).length
  | [] => rfl
  | x :: xs => by
    simp only [trimL]
    split
    · rfl
    · rw [List.length_cons, List.take_succ_cons, ← trimL_prefix xs]
theorem trimL_len (xs : List Int) : (trimL xs).length ≤ xs.length := by
  have h := congrArg List.length (trimL_prefix xs)
  rw [List.length_take] at h
  omega
/-- 2^32 to the k. -/
def pw : Nat → Int
  | 0 => 1
  | k + 1 => pw k * 4294967296
theorem pw_pos : ∀ k, 0 < pw k
  | 0 => by decide
  | k + 1 => by have := pw_pos k; simp only [pw]; omega
theorem pw_add (a : Nat) : ∀ b, pw (a + b) = pw a * pw b
  | 0 => by simp [pw]
  | b + 1 => by rw [← Nat.add_assoc]; simp only [pw, pw_add a b, Int.mul_assoc]
theorem pw_le {a b : Nat} (h : a ≤ b) : pw a ≤ pw b := by
  obtain ⟨d, rfl⟩ := Nat.exists_eq_add_of_le h
  induction d with
  | zero => simp
  | succ d ih =>
    have := ih (by omega)
    rw [← Nat.add_assoc]
    have h2 := pw_pos (a + d)
    simp only [pw]
    omega
/-- The number. -/
def val : List Int → Int
  | [] => 0
  | x :: xs => x + 4294967296 * val xs
theorem val_append : ∀ xs ys : List Int, val (xs ++ ys) = val xs + pw xs.length * val ys
  | [], ys => by simp [val, pw]
  | x :: xs, ys => by
    simp only [List.cons_append, val, val_append xs ys, List.length_cons, pw]
    grind
theorem val_take (xs : List Int) (k : Nat) : val (xs.take (k + 1)) = val (xs.take k) + pw k * dg xs k := by
  by_cases hk : k < xs.length
  · rw [take_dg xs k hk, val_append, List.length_take]
    rw [show min k xs.length = k by omega]
    simp [val]
  · rw [dg_ge xs k (by omega), List.take_of_length_le (by omega), List.take_of_length_le (by omega)]
    simp
theorem val_set : ∀ (xs : List Int) (k : Nat) (v : Int), k < xs.length → val (xs.set k v) = val xs + pw k * (v - dg xs k)
  | [], k, v, h => by simp at h
  | x :: xs, 0, v, _ => by simp [val, pw, dg]; omega
  | x :: xs, k + 1, v, h => by
    have ih := val_set xs k v (by simpa using h)
    have e : dg (x :: xs) (k + 1) = dg xs k := by simp [dg]
    simp only [List.set_cons_succ, val, ih, pw, e]
    grind
theorem val_zeros : ∀ n : Nat, val (List.replicate n 0) = 0
  | 0 => rfl
  | n + 1 => by simp only [List.replicate_succ, val, val_zeros n]; rfl
theorem val_bounds : ∀ xs : List Int, (∀ x ∈ xs, 0 ≤ x ∧ x ≤ 4294967295) → 0 ≤ val xs ∧ val xs < pw xs.length
  | [], _ => by simp [val, pw]
  | x :: xs, h => by
    have h1 := val_bounds xs (fun y hy => h y (List.mem_cons_of_mem _ hy))
    have h2 := h x List.mem_cons_self
    simp only [val, List.length_cons, pw]
    omega
theorem val_trim : ∀ xs : List Int, val (trimL xs) = val xs
  | [] => rfl
  | x :: xs => by
    have ih := val_trim xs
    simp only [trimL]
    split
    · rename_i h
      rw [h.1] at ih
      simp only [val] at ih ⊢
      omega
    · simp only [val, ih]
theorem trimL_trimL : ∀ xs : List Int, trimL (trimL xs) = trimL xs
  | [] => rfl
  | x :: xs => by
    simp only [trimL]
    split
    · rfl
    · rename_i h
      simp only [trimL, trimL_trimL xs]
      rw [if_neg h]
theorem val_zero : ∀ xs : List Int, (∀ x ∈ xs, 0 ≤ x ∧ x ≤ 4294967295) → val xs = 0 → trimL xs = []
  | [], _, _ => rfl
  | x :: xs, h, hv => by
    have h1 := val_bounds xs (fun y hy => h y (List.mem_cons_of_mem _ hy))
    have h2 := h x List.mem_cons_self
    simp only [val] at hv
    have ih := val_zero xs (fun y hy => h y (List.mem_cons_of_mem _ hy)) (by omega)
    simp only [trimL]
    rw [if_pos ⟨ih, by omega⟩]
/-- Rows of one number are one but for zeros at the end. -/
theorem trim_inj : ∀ xs ys : List Int, (∀ x ∈ xs, 0 ≤ x ∧ x ≤ 4294967295) → (∀ x ∈ ys, 0 ≤ x ∧ x ≤ 4294967295) → val xs = val ys → trimL xs = trimL ys
  | [], ys, _, hy, h => (val_zero ys hy h.symm).symm
  | xs, [], hx, _, h => val_zero xs hx h
  | x :: xs, y :: ys, hx, hy, h => by
    have h1 := val_bounds xs (fun z hz => hx z (List.mem_cons_of_mem _ hz))
    have h2 := hx x List.mem_cons_self
    have h3 := val_bounds ys (fun z hz => hy z (List.mem_cons_of_mem _ hz))
    have h4 := hy y List.mem_cons_self
    simp only [val] at h
    have e : x = y := by omega
    have ih := trim_inj xs ys (fun z hz => hx z (List.mem_cons_of_mem _ hz)) (fun z hz => hy z (List.mem_cons_of_mem _ hz)) (by omega)
    simp only [trimL, ih, e]
theorem trim_dig {xs : List Int} (h : ∀ x ∈ xs, 0 ≤ x ∧ x ≤ 4294967295) : ∀ x ∈ trimL xs, 0 ≤ x ∧ x ≤ 4294967295 := fun x hx => h x (by rw [trimL_prefix xs] at hx; exact List.mem_of_mem_take hx)
/-- The digits of a number, the one row without zeros at the end. -/
def dgs : Nat → List Int
  | 0 => []
  | n + 1 => ((n + 1) % 4294967296 : Nat) :: dgs ((n + 1) / 4294967296)
decreasing_by omega
theorem dgs_dig : ∀ n : Nat, ∀ x ∈ dgs n, 0 ≤ x ∧ x ≤ 4294967295 := by
  intro n
  induction n using Nat.strongRecOn with
  | _ n ih =>
    cases n with
    | zero => intro x hx; simp [dgs] at hx
    | succ n =>
      intro x hx
      rw [dgs] at hx
      rcases List.mem_cons.1 hx with rfl | hx
      · omega
      · exact ih _ (by omega) x hx
theorem dgs_val : ∀ n : Nat, val (dgs n) = n := by
  intro n
  induction n using Nat.strongRecOn with
  | _ n ih =>
    cases n with
    | zero => simp [dgs, val]
    | succ n =>
      rw [dgs]
      simp only [val]
      rw [ih _ (by omega)]
      omega
theorem dgs_trim : ∀ n : Nat, trimL (dgs n) = dgs n := by
  intro n
  induction n using Nat.strongRecOn with
  | _ n ih =>
    cases n with
    | zero => simp [dgs, trimL]
    | succ n =>
      rw [dgs]
      simp only [trimL]
      rw [ih _ (by omega), if_neg]
      rintro ⟨h1, h2⟩
      have h3 := dgs_val ((n + 1) / 4294967296)
      rw [h1] at h3
      simp only [val] at h3
      omega
theorem trim_eq_dgs {xs : List Int} (h : ∀ x ∈ xs, 0 ≤ x ∧ x ≤ 4294967295) (n : Nat) (hv : val xs = n) : trimL xs = dgs n := by
  rw [← dgs_trim n]
  exact trim_inj xs (dgs n) h (dgs_dig n) (by rw [dgs_val, hv])
theorem dgs_len {n : Nat} {k : Nat} (h : (n : Int) < pw k) : (dgs n).length ≤ k := by
  induction k generalizing n with
  | zero =>
    simp only [pw] at h
    obtain rfl : n = 0 := by omega
    simp [dgs]
  | succ k ih =>
    cases n with
    | zero => simp [dgs]
    | succ n =>
      rw [dgs, List.length_cons]
      simp only [pw] at h
      have := ih (n := (n + 1) / 4294967296) (by omega)
      omega
theorem dgs_eq_nil {n : Nat} : dgs n = [] ↔ n = 0 := by
  constructor
  · intro h
    have := dgs_val n
    rw [h] at this
    simp only [val] at this
    omega
  · rintro rfl; simp [dgs]
/-- -1, 0 or 1. -/
def cmpZ (a b : Int) : Int := if a < b then -1 else if b < a then 1 else 0
theorem cmpZ_lt {a b : Int} (h : a < b) : cmpZ a b = -1 := by simp [cmpZ, h]
theorem cmpZ_gt {a b : Int} (h : b < a) : cmpZ a b = 1 := by unfold cmpZ; rw [if_neg (by omega), if_pos h]
theorem cmpZ_eq {a b : Int} (h : a = b) : cmpZ a b = 0 := by unfold cmpZ; rw [if_neg (by omega), if_neg (by omega)]
theorem cmpZ_nonneg (a b : Int) : 0 ≤ cmpZ a b ↔ b ≤ a := by
  unfold cmpZ
  split
  · omega
  · split <;> omega
/-- A row without zeros at the end is not small. -/
theorem val_ge : ∀ xs : List Int, (∀ x ∈ xs, 0 ≤ x ∧ x ≤ 4294967295) → trimL xs = xs → 0 < xs.length → pw (xs.length - 1) ≤ val xs
  | [], _, _, h => by simp at h
  | [x], hd, ht, _ => by
    have h2 := hd x List.mem_cons_self
    have : x ≠ 0 := by rintro rfl; simp [trimL] at ht
    simp [val, pw]; omega
  | x :: y :: xs, hd, ht, _ => by
    have h2 := hd x List.mem_cons_self
    have hd' := fun z hz => hd z (List.mem_cons_of_mem _ hz)
    have ht' : trimL (y :: xs) = y :: xs := by
      rw [trimL] at ht
      split at ht
      · cases ht
      · exact (List.cons.inj ht).2
    have ih := val_ge (y :: xs) hd' ht' (by simp)
    simp only [List.length_cons, Nat.add_sub_cancel, pw] at ih ⊢
    rw [val]
    omega
theorem val_lt_len {xs ys : List Int} (hx : ∀ x ∈ xs, 0 ≤ x ∧ x ≤ 4294967295) (hy : ∀ x ∈ ys, 0 ≤ x ∧ x ≤ 4294967295) (ht : trimL ys = ys) (h : xs.length < ys.length) : val xs < val ys := by
  have h1 := (val_bounds xs hx).2
  have h2 := val_ge ys hy ht (by omega)
  have h3 := pw_le (show xs.length ≤ ys.length - 1 by omega)
  omega
theorem take_dig {xs : List Int} (h : ∀ x ∈ xs, 0 ≤ x ∧ x ≤ 4294967295) (k : Nat) : ∀ x ∈ xs.take k, 0 ≤ x ∧ x ≤ 4294967295 := fun x hx => h x (List.mem_of_mem_take hx)
/-- Where the digits part, the greater digit decides. -/
theorem val_take_lt {xs ys : List Int} (hx : ∀ x ∈ xs, 0 ≤ x ∧ x ≤ 4294967295) (hy : ∀ x ∈ ys, 0 ≤ x ∧ x ≤ 4294967295) (k : Nat) (h : dg xs k < dg ys k) : val (xs.take (k + 1)) < val (ys.take (k + 1)) := by
  rw [val_take, val_take]
  have h1 := (val_bounds _ (take_dig hx k)).2
  have h2 := (val_bounds _ (take_dig hy k)).1
  have h3 := pw_le (show (xs.take k).length ≤ k by rw [List.length_take]; omega)
  have h4 : pw k * (dg xs k + 1) ≤ pw k * dg ys k := Int.mul_le_mul_of_nonneg_left (by omega) (by have := pw_pos k; omega)
  rw [Int.mul_add] at h4
  omega
theorem val_subL : ∀ (xs ys : List Int) (c : Int), (∀ x ∈ xs, 0 ≤ x ∧ x ≤ 4294967295) → (∀ x ∈ ys, 0 ≤ x ∧ x ≤ 4294967295) → 0 ≤ c → c ≤ 1 → ys.length ≤ xs.length → ∃ b : Int, 0 ≤ b ∧ b ≤ 1 ∧ val (subL xs ys c) = val xs - val ys - c + b * pw xs.length
  | [], ys, c, _, _, h0, h1, hl => by
    have : ys = [] := List.eq_nil_of_length_eq_zero (by simpa using hl)
    subst this
    exact ⟨c, h0, h1, by simp [subL, val, pw]; omega⟩
  | x :: xs, ys, c, hx, hy, h0, h1, hl => by
    have b1 := bor01 x (ys.headD 0) c
    have hyt : ∀ z ∈ ys.tail, 0 ≤ z ∧ z ≤ 4294967295 := fun z hz => hy z (List.mem_of_mem_tail hz)
    obtain ⟨b, hb0, hb1, hv⟩ := val_subL xs ys.tail (bor x (ys.headD 0) c) (fun z hz => hx z (List.mem_cons_of_mem _ hz)) hyt b1.1 b1.2 (by simp at hl ⊢; omega)
    refine ⟨b, hb0, hb1, ?_⟩
    simp only [subL, val, hv, List.length_cons, pw]
    have hy0 : 0 ≤ ys.headD 0 ∧ ys.headD 0 ≤ 4294967295 := by
      cases ys with
      | nil => simp
      | cons y ys => exact hy y List.mem_cons_self
    have hyv : val ys = ys.headD 0 + 4294967296 * val ys.tail := by
      cases ys with
      | nil => simp [val]
      | cons y ys => simp [val]
    have hx0 := hx x List.mem_cons_self
    have hm : (x - ys.headD 0 - c) % 4294967296 = x - ys.headD 0 - c + 4294967296 * bor x (ys.headD 0) c := by
      unfold bor
      split <;> omega
    rw [hm, hyv]
    grind
/-! ### integers: a sign and digits -/
/-- The integer of a sign and digits. -/
def iv (n : Bool) (xs : List Int) : Int := if n then -val xs else val xs
/-- The sign and the digits of an integer in canonical form. -/
def ng (z : Int) : Bool := decide (z < 0)
def mg (z : Int) : List Int := dgs z.natAbs
theorem mg_dig (z : Int) : ∀ x ∈ mg z, 0 ≤ x ∧ x ≤ 4294967295 := dgs_dig _
theorem mg_trim (z : Int) : trimL (mg z) = mg z := dgs_trim _
theorem mg_val (z : Int) : val (mg z) = z.natAbs := dgs_val _
theorem iv_canon (z : Int) : iv (ng z) (mg z) = z := by
  unfold iv ng
  rw [mg_val]
  by_cases h : z < 0 <;> simp [h] <;> omega
theorem mg_nil (z : Int) : mg z = [] ↔ z = 0 := by unfold mg; rw [dgs_eq_nil]; omega
theorem mg_len {z : Int} {k : Nat} (h1 : -pw k < z) (h2 : z < pw k) : (mg z).length ≤ k := dgs_len (by omega)
theorem mg_lt (z : Int) : -pw (mg z).length < z ∧ z < pw (mg z).length := by
  have h := val_bounds _ (mg_dig z)
  rw [mg_val] at h
  omega
theorem iv_lt (n : Bool) {xs : List Int} (h : ∀ x ∈ xs, 0 ≤ x ∧ x ≤ 4294967295) : -pw xs.length < iv n xs ∧ iv n xs < pw xs.length := by
  have h1 := val_bounds xs h
  unfold iv
  split <;> omega
theorem canon_row {n : Bool} {xs : List Int} (h : ∀ x ∈ xs, 0 ≤ x ∧ x ≤ 4294967295) : trimL xs = mg (iv n xs) ∧ (n && !(trimL xs).isEmpty) = ng (iv n xs) := by
  have hb := val_bounds xs h
  have e : trimL xs = mg (iv n xs) := trim_eq_dgs h _ (by unfold iv; split <;> omega)
  refine ⟨e, ?_⟩
  have h2 : (trimL xs).isEmpty = decide (val xs = 0) := by
    rw [Bool.eq_iff_iff, List.isEmpty_iff, decide_eq_true_eq, e, mg_nil]
    unfold iv
    split <;> omega
  rw [h2]
  unfold ng iv
  cases n
  · rw [Bool.false_and, if_neg (by decide)]; exact (decide_eq_false (by omega)).symm
  · rw [Bool.true_and, if_pos rfl, Bool.eq_iff_iff, decide_eq_true_eq, Bool.not_eq_true', decide_eq_false_iff_not]; omega
theorem iv_neg (n : Bool) (xs : List Int) : iv (!n) xs = -iv n xs := by cases n <;> simp [iv]
theorem iv_abs (n : Bool) {xs : List Int} (h : ∀ x ∈ xs, 0 ≤ x ∧ x ≤ 4294967295) : iv false xs = (iv n xs).natAbs := by
  have := val_bounds xs h
  cases n <;> simp [iv] <;> omega
theorem iv_mul (n0 n1 : Bool) (xs ys cs : List Int) (h : val cs = val xs * val ys) : iv (!(n0 == n1)) cs = iv n0 xs * iv n1 ys := by
  cases n0 <;> cases n1 <;> simp [iv, h, Int.neg_mul, Int.mul_neg]
theorem iv_pos {n : Bool} {xs : List Int} (h : ∀ x ∈ xs, 0 ≤ x ∧ x ≤ 4294967295) (ht : trimL xs ≠ []) : cmpZ (iv n xs) 0 = if n then -1 else 1 := by
  have hb := val_bounds xs h
  have hv : val xs ≠ 0 := fun h0 => ht (val_zero xs h h0)
  cases n
  · exact cmpZ_gt (by simp [iv]; omega)
  · exact cmpZ_lt (by simp [iv]; omega)
theorem iv_nil {n : Bool} {xs : List Int} (ht : trimL xs = []) : iv n xs = 0 := by
  have h := val_trim xs
  rw [ht] at h
  unfold iv
  simp only [val] at h
  split <;> omega
theorem cmpZ_01 (a b : Int) : -1 ≤ cmpZ a b ∧ cmpZ a b ≤ 1 := by
  unfold cmpZ
  split
  · omega
  · split <;> omega
theorem cmp_sgn {n0 n1 : Bool} {xs ys : List Int} (hx : ∀ x ∈ xs, 0 ≤ x ∧ x ≤ 4294967295) (hy : ∀ x ∈ ys, 0 ≤ x ∧ x ≤ 4294967295) {r sx sy q : Int} (hr : cmpZ (iv n0 xs) (iv n1 ys) = r) (hsx : cmpZ (iv n0 xs) 0 = sx) (hsy : cmpZ (iv n1 ys) 0 = sy) (hq : cmpZ (val xs) (val ys) = q) :
    (sx < sy → r = -1) ∧ (sy < sx → r = 1) ∧ (-1 ≤ sx ∧ sx ≤ 1) ∧ (-1 ≤ sy ∧ sy ≤ 1) ∧ (-1 ≤ q ∧ q ≤ 1) ∧ (sy = sx → r = sx * q) := by
  have b0 := val_bounds xs hx
  have b1 := val_bounds ys hy
  have c0 := cmpZ_01 (iv n0 xs) 0
  have c1 := cmpZ_01 (iv n1 ys) 0
  have c2 := cmpZ_01 (val xs) (val ys)
  rw [hsx] at c0
  rw [hsy] at c1
  rw [hq] at c2
  refine ⟨?_, ?_, c0, c1, c2, ?_⟩
  · intro h
    unfold cmpZ at *
    unfold iv at *
    cases n0 <;> cases n1 <;> simp at * <;> (repeat' split at *) <;> omega
  · intro h
    unfold cmpZ at *
    unfold iv at *
    cases n0 <;> cases n1 <;> simp at * <;> (repeat' split at *) <;> omega
  · intro h
    rcases (show sx = -1 ∨ sx = 0 ∨ sx = 1 by omega) with e | e | e <;> subst e <;> (try subst h) <;> unfold cmpZ at * <;> unfold iv at * <;> cases n0 <;> cases n1 <;> simp at * <;> (repeat' split at *) <;> omega
theorem iv_ne {n0 n2 : Bool} (h : ¬ n0 = n2) (xs ys : List Int) : iv n0 xs + iv n2 ys = if n0 then val ys - val xs else val xs - val ys := by
  unfold iv
  cases n0 <;> cases n2 <;> simp at h ⊢ <;> omega
theorem len_of_val_le {xs ys : List Int} (hx : ∀ x ∈ xs, 0 ≤ x ∧ x ≤ 4294967295) (hy : ∀ x ∈ ys, 0 ≤ x ∧ x ≤ 4294967295) (ht : trimL ys = ys) (h : val ys ≤ val xs) : ys.length ≤ xs.length := by
  rcases Nat.lt_or_ge xs.length ys.length with hl | hl
  · have := val_lt_len hx hy ht hl; omega
  · exact hl
theorem iv_trim (n : Bool) (xs : List Int) : iv n (trimL xs) = iv n xs := by unfold iv; rw [val_trim]
end Go.Proofs.YtegnnghoiffmhaaDoor.Big
