/- What the calendar's functions on day numbers compute, program and reference alike. -/
import Derived.Test.YtdpkemjbiengfaaDoorQCal4
import Derived.Test.YtdpkemjbiengfaaDoorQCal10
import Derived.Test.YtdpkemjbiengfaaDoorQCal11
import Derived.Test.YtdpkemjbiengfaaDoorQCal12
import Derived.Test.YtdpkemjbiengfaaDoorCalSpec
namespace Go.Proofs.YtdpkemjbiengfaaDoor.Pure
open Go.RowKit Go.Proofs.YtdpkemjbiengfaaDoor.QCal Go.Proofs.YtdpkemjbiengfaaDoorW.PrintWords Go.Proofs.YtdpkemjbiengfaaDoorW.PrintLast Go.Proofs.YtdpkemjbiengfaaDoor.Mx


/-! numbers of days -/
def cum (y m : Int) : Int := if m = 1 then 0 else if m = 2 then 31 else (if lp y = true then 1 else 0) + (if m = 3 then 59 else if m = 4 then 90 else if m = 5 then 120 else if m = 6 then 151 else if m = 7 then 181 else if m = 8 then 212 else if m = 9 then 243 else if m = 10 then 273 else if m = 11 then 304 else if m = 12 then 334 else 365)
theorem cum_one (y : Int) : cum y 1 = 0 := rfl
theorem cum_succ (y : Int) {m : Int} (h1 : 1 ≤ m) (h2 : m ≤ 12) : cum y (m + 1) = cum y m + dim y m := by
  unfold cum dim
  generalize lp y = b
  rcases months h1 h2 with rfl | rfl | rfl | rfl | rfl | rfl | rfl | rfl | rfl | rfl | rfl | rfl
  all_goals (cases b <;> rfl)
theorem cum_13 (y : Int) : cum y 13 = 365 + (if lp y = true then 1 else 0) := by unfold cum; generalize lp y = b; cases b <;> rfl
theorem cum_mono (y : Int) : ∀ (n : Nat) (a : Int), 1 ≤ a → a + n ≤ 13 → cum y a + 28 * n ≤ cum y (a + n)
  | 0, a, _, _ => by simp
  | n + 1, a, h1, h2 => by
    have h := cum_mono y n a h1 (by omega)
    have e := cum_succ y (m := a + n) (by omega) (by omega)
    have d := dim_lo y (a + n)
    rw [show a + ((n + 1 : Nat) : Int) = a + n + 1 by omega, e]
    omega
theorem cum_le (y : Int) {a b : Int} (h1 : 1 ≤ a) (h : a ≤ b) (h2 : b ≤ 13) : cum y a ≤ cum y b := by
  have := cum_mono y (b - a).toNat a h1 (by omega)
  rw [show a + ((b - a).toNat : Int) = b by omega] at this
  omega
theorem cum_nn (y : Int) {a : Int} (h1 : 1 ≤ a) (h2 : a ≤ 13) : 0 ≤ cum y a ∧ cum y a ≤ 366 := by
  have h3 := cum_le y (Int.le_refl 1) h1 h2
  have h4 := cum_le y h1 h2 (Int.le_refl 13)
  have h5 := cum_13 y
  rw [cum_one] at h3
  split at h5 <;> omega
def ys (y : Int) : Int := 365 * (y - 1600) + ((y - 1600 + 3) / 4 - (y - 1600 + 99) / 100 + (y - 1600 + 399) / 400) - 146097
theorem ys_bd {y : Int} (h1 : 1999 ≤ y) (h2 : y ≤ 2101) : -365 ≤ ys y ∧ ys y ≤ 36890 := by unfold ys; omega
theorem ys_first : ys 1999 = -365 := by decide
theorem ys_last : ys 2101 = 36890 := by decide
theorem ys_succ {y : Int} (h : 1600 ≤ y) : ys (y + 1) = ys y + 365 + (if lp y = true then 1 else 0) := by
  unfold ys lp
  simp only [decide_eq_true_eq]
  split <;> omega
theorem ys_le {a b : Int} (h : 1600 ≤ a) (h2 : a ≤ b) : ys a ≤ ys b := by unfold ys; omega
theorem ys_p {y : Int} (h1 : 1999 ≤ y) (h2 : y ≤ 2101) : calendar_yearStart.f y = some (ys y) := by
  unfold calendar_yearStart.f ys
  rw [w64 (x := y - 1600) (by omega) (by omega)]
  generalize hn : y - 1600 = n
  have n1 : 399 ≤ n := by omega
  have n2 : n ≤ 501 := by omega
  rw [w64 (x := n + 3) (by omega) (by omega), w64 (x := n + 99) (by omega) (by omega), w64 (x := n + 399) (by omega) (by omega), tdiv_nn (a := n + 3) (by omega), tdiv_nn (a := n + 99) (by omega), tdiv_nn (a := n + 399) (by omega),
    w64 (x := (n + 3) / 4) (by omega) (by omega), w64 (x := (n + 99) / 100) (by omega) (by omega), w64 (x := (n + 399) / 400) (by omega) (by omega), w64 (x := (n + 3) / 4 - (n + 99) / 100) (by omega) (by omega),
    w64 (x := (n + 3) / 4 - (n + 99) / 100 + (n + 399) / 400) (by omega) (by omega), w64 (x := 365 * n) (by omega) (by omega), w64 (x := 365 * n + ((n + 3) / 4 - (n + 99) / 100 + (n + 399) / 400)) (by omega) (by omega), w64 (by omega) (by omega)]
def num (y m d : Int) : Int := ys y + cum y m + d - 1
/-- Day number n is the date y-m-d. -/
def IsD (n y m d : Int) : Prop := 1999 ≤ y ∧ y ≤ 2100 ∧ 1 ≤ m ∧ m ≤ 12 ∧ 1 ≤ d ∧ d ≤ dim y m ∧ num y m d = n
theorem IsD.vld {n y m d : Int} (h : IsD n y m d) : vld y m d = true := vld_iff.2 ⟨h.1, h.2.1, h.2.2.1, h.2.2.2.1, h.2.2.2.2.1, h.2.2.2.2.2.1⟩
theorem isD_of {y m d : Int} (h : vld y m d = true) : IsD (num y m d) y m d := by
  obtain ⟨h1, h2, h3, h4, h5, h6⟩ := vld_iff.1 h
  exact ⟨h1, h2, h3, h4, h5, h6, rfl⟩
theorem IsD.year {n y m d : Int} (h : IsD n y m d) : ys y ≤ n ∧ n < ys (y + 1) ∧ ys y + cum y m ≤ n ∧ n < ys y + cum y (m + 1) := by
  obtain ⟨h1, h2, h3, h4, h5, h6, h7⟩ := h
  unfold num at h7
  have a := cum_nn y h3 (show m ≤ 13 by omega)
  have b := cum_succ y h3 h4
  have c := cum_le y (show 1 ≤ m + 1 by omega) (show m + 1 ≤ 13 by omega) (Int.le_refl 13)
  have e := cum_13 y
  have f := ys_succ (show 1600 ≤ y by omega)
  generalize (if lp y = true then (1 : Int) else 0) = z at *
  omega
theorem IsD.unique {n y m d y' m' d' : Int} (h : IsD n y m d) (h' : IsD n y' m' d') : y = y' ∧ m = m' ∧ d = d' := by
  obtain ⟨a1, a2, a3, a4⟩ := h.year
  obtain ⟨b1, b2, b3, b4⟩ := h'.year
  have hy : y = y' := by
    rcases Int.lt_trichotomy y y' with c | c | c
    · have := ys_le (a := y + 1) (b := y') (by have := h.1; omega) (by omega); omega
    · exact c
    · have := ys_le (a := y' + 1) (b := y) (by have := h'.1; omega) (by omega); omega
  subst hy
  obtain ⟨h1, h2, h3, h4, h5, h6, h7⟩ := h
  obtain ⟨g1, g2, g3, g4, g5, g6, g7⟩ := h'
  have hm : m = m' := by
    rcases Int.lt_trichotomy m m' with c | c | c
    · have := cum_le y (a := m + 1) (b := m') (by omega) (by omega) (by omega); omega
    · exact c
    · have := cum_le y (a := m' + 1) (b := m) (by omega) (by omega) (by omega); omega
  subst hm
  unfold num at h7 g7
  exact ⟨rfl, rfl, by omega⟩
theorem IsD.range {n y m d : Int} (h : IsD n y m d) : -365 ≤ n ∧ n < 36890 := by
  obtain ⟨a1, a2, _, _⟩ := h.year
  have b := ys_le (a := 1999) (b := y) (by omega) h.1
  have c := ys_le (a := y + 1) (b := 2101) (by have := h.1; omega) (by have := h.2.1; omega)
  rw [ys_first] at b
  rw [ys_last] at c
  omega
theorem dn_l0 {y m d : Int} (hy : 1999 ≤ y) (hm : m ≤ 12) (x : Int) (hx1 : -1000000 ≤ x) (hx2 : x ≤ 1000000) : ∀ (n k : Nat) (j : Int), 1 ≤ j → j ≤ m → m - j = n → n < k → calendar_DayNumber.l0 k (x + cum y j) j y m d = some (x + cum y m, 0)
  | 0, k, j, h1, h2, h3, hk => by
    obtain ⟨k, rfl⟩ : ∃ q, k = q + 1 := ⟨k - 1, by omega⟩
    obtain rfl : j = m := by omega
    simp only [calendar_DayNumber.l0]
    rw [if_neg (by omega)]
  | n + 1, k, j, h1, h2, h3, hk => by
    obtain ⟨k, rfl⟩ : ∃ q, k = q + 1 := ⟨k - 1, by omega⟩
    have e := cum_succ y (m := j) h1 (by omega)
    have b := cum_nn y (a := j) h1 (by omega)
    have b2 := dim_lo y j
    have b3 := dim_hi y j
    simp only [calendar_DayNumber.l0]
    rw [if_pos (by omega), length_p (by omega) h1 (by omega), Option.bind_some, w64 (x := x + cum y j + dim y j) (by omega) (by omega), w64 (x := j + 1) (by omega) (by omega), show x + cum y j + dim y j = x + cum y (j + 1) by omega]
    exact dn_l0 hy hm x hx1 hx2 n k (j + 1) (by omega) (by omega) (by omega) (by omega)
def dnr (y m d : Int) : Int × Int := if vld y m d = true then (num y m d, 0) else (0, 5)
theorem dn_p (y m d : Int) (k : Nat) : calendar_DayNumber.f (k + 12) y m d = some (dnr y m d) := by
  unfold calendar_DayNumber.f dnr
  rw [vld_p, Option.bind_some]
  cases hv : vld y m d with
  | false => rw [if_neg (by decide), if_neg (by decide)]
  | true =>
    obtain ⟨h1, h2, h3, h4, h5, h6⟩ := vld_iff.1 hv
    have b := ys_bd h1 (show y ≤ 2101 by omega)
    have b2 := dim_hi y m
    rw [if_pos rfl, if_pos rfl, ys_p h1 (by omega), Option.bind_some, w64 (x := ys y + d) (by omega) (by omega), w64 (x := ys y + d - 1) (by omega) (by omega)]
    have := dn_l0 (d := d) h1 h4 (ys y + d - 1) (by omega) (by omega) (m - 1).toNat (k + 12) 1 (by omega) h3 (by omega) (by omega)
    rw [cum_one, Int.add_zero] at this
    rw [this]
    unfold num
    congr 2
    omega
theorem dn_r1 {y m d : Int} (hy : 1999 ≤ y) (hy2 : y ≤ 2100) (hm : m ≤ 12) (hd1 : 1 ≤ d) (hd2 : d ≤ 31) (x : Int) (hx1 : -1000000 ≤ x) (hx2 : x ≤ 1000000) : ∀ (n k : Nat) (j : Int), 1 ≤ j → j ≤ m → m - j = n → n + 2 < k → pairingref5_DayNumber.l1 k (x + cum y j) j y m d = some (x + cum y m + d - 1, 0)
  | 0, k, j, h1, h2, h3, hk => by
    obtain ⟨k, rfl⟩ : ∃ q, k = q + 1 := ⟨k - 1, by omega⟩
    obtain rfl : j = m := by omega
    have b := cum_nn y (a := j) h1 (by omega)
    simp only [pairingref5_DayNumber.l1]
    rw [if_neg (by omega), w64 (x := x + cum y j + d) (by omega) (by omega), w64 (by omega) (by omega)]
  | n + 1, k, j, h1, h2, h3, hk => by
    obtain ⟨k, rfl⟩ : ∃ q, k = q + 1 := ⟨k - 1, by omega⟩
    have e := cum_succ y (m := j) h1 (by omega)
    have b := cum_nn y (a := j) h1 (by omega)
    have b2 := dim_lo y j
    have b3 := dim_hi y j
    simp only [pairingref5_DayNumber.l1]
    obtain ⟨q, rfl⟩ : ∃ q, k = q + 2 := ⟨k - 2, by omega⟩
    rw [if_pos (by omega), dm_r, Option.bind_some, dm_in ⟨hy, hy2, h1, by omega⟩]
    simp only
    rw [w64 (x := x + cum y j + dim y j) (by omega) (by omega), w64 (x := j + 1) (by omega) (by omega), show x + cum y j + dim y j = x + cum y (j + 1) by omega]
    exact dn_r1 hy hy2 hm hd1 hd2 x hx1 hx2 n (q + 2) (j + 1) (by omega) (by omega) (by omega) (by omega)
theorem dn_r0 {y m d : Int} (hy2 : y ≤ 2100) (hm1 : 1 ≤ m) (hm : m ≤ 12) (hd1 : 1 ≤ d) (hd2 : d ≤ 31) : ∀ (n k : Nat) (j : Int), 1999 ≤ j → j ≤ y → y - j = n → n + 15 < k → pairingref5_DayNumber.l0 k (ys j) j y m d = some (num y m d, 0)
  | 0, k, j, h1, h2, h3, hk => by
    obtain ⟨k, rfl⟩ : ∃ q, k = q + 1 := ⟨k - 1, by omega⟩
    obtain rfl : j = y := by omega
    have b := ys_bd h1 (show j ≤ 2101 by omega)
    simp only [pairingref5_DayNumber.l0]
    rw [if_neg (by omega)]
    have := dn_r1 h1 hy2 hm hd1 hd2 (ys j) (by omega) (by omega) (m - 1).toNat k 1 (by omega) hm1 (by omega) (by omega)
    rw [cum_one, Int.add_zero] at this
    exact this
  | n + 1, k, j, h1, h2, h3, hk => by
    obtain ⟨k, rfl⟩ : ∃ q, k = q + 1 := ⟨k - 1, by omega⟩
    have b := ys_bd h1 (show j ≤ 2101 by omega)
    have e := ys_succ (show 1600 ≤ j by omega)
    have ih := dn_r0 hy2 hm1 hm hd1 hd2 n k (j + 1) (by omega) (by omega) (by omega) (by omega)
    simp only [pairingref5_DayNumber.l0]
    rw [if_pos (by omega), leap_r (by omega), Option.bind_some, w64 (x := ys j + 365) (by omega) (by omega), w64 (x := j + 1) (by omega) (by omega), w64 (x := ys j + 365 + 1) (by omega) (by omega)]
    cases hl : lp j with
    | true =>
      rw [hl, if_pos rfl] at e
      rw [if_pos rfl, ← e]
      exact ih
    | false =>
      rw [hl, if_neg (by decide), Int.add_zero] at e
      rw [if_neg (by decide), ← e]
      exact ih
theorem dn_r (y m d : Int) (k : Nat) : pairingref5_DayNumber.f (k + 120) y m d = some (dnr y m d) := by
  unfold pairingref5_DayNumber.f dnr
  rw [vld_r y m d (k + 118), Option.bind_some]
  cases hv : vld y m d with
  | false => rw [if_neg (by decide), if_neg (by decide)]
  | true =>
    obtain ⟨h1, h2, h3, h4, h5, h6⟩ := vld_iff.1 hv
    have b2 := dim_hi y m
    rw [if_pos rfl, if_pos rfl, ← ys_first]
    exact dn_r0 h2 h3 h4 h5 (by omega) (y - 1999).toNat (k + 120) 1999 (by omega) h1 (by omega) (by omega)

/-! dates of numbers -/
theorem do_l1 {y : Int} (hy : 1999 ≤ y) : ∀ (n k : Nat) (m x : Int), 1 ≤ m → 12 - m = n → 0 ≤ x → x + cum y m < cum y 13 → n < k →
    ∃ m' d', calendar_DateOf.l1 k x y m 0 = some (y, m', d', 0) ∧ 1 ≤ m' ∧ m' ≤ 12 ∧ 1 ≤ d' ∧ d' ≤ dim y m' ∧ cum y m' + d' - 1 = cum y m + x
  | n, k, m, x, h1, h2, h3, h4, hk => by
    obtain ⟨k, rfl⟩ : ∃ q, k = q + 1 := ⟨k - 1, by omega⟩
    have e := cum_succ y (m := m) h1 (by omega)
    have b := cum_nn y (a := m) h1 (by omega)
    have c := cum_nn y (a := 13) (by omega) (by omega)
    have b3 := dim_hi y m
    have b4 := dim_lo y m
    simp only [calendar_DateOf.l1]
    rw [length_p (by omega) h1 (by omega), Option.bind_some]
    by_cases hx : x ≥ dim y m
    · rw [if_pos hx, Option.bind_some, w64 (x := x - dim y m) (by omega) (by omega), w64 (x := m + 1) (by omega) (by omega)]
      cases n with
      | zero =>
        obtain rfl : m = 12 := by omega
        have : cum y (12 + 1) = cum y 13 := rfl
        omega
      | succ n =>
        obtain ⟨m', d', g1, g2, g3, g4, g5, g6⟩ := do_l1 hy n k (m + 1) (x - dim y m) (by omega) (by omega) (by omega) (by omega) (by omega)
        exact ⟨m', d', g1, g2, g3, g4, g5, by omega⟩
    · rw [if_neg hx, w64 (x := x + 1) (by omega) (by omega)]
      exact ⟨m, x + 1, rfl, h1, by omega, by omega, by omega, by omega⟩
theorem do_l0 {x : Int} (hx : x < 36890) : ∀ (n k : Nat) (y : Int), 1999 ≤ y → 2100 - y = n → ys y ≤ x → n + 13 < k → ∃ Y M D, calendar_DateOf.l0 k x y 1 0 = some (Y, M, D, 0) ∧ IsD x Y M D
  | n, k, y, h1, h2, h3, hk => by
    obtain ⟨k, rfl⟩ : ∃ q, k = q + 1 := ⟨k - 1, by omega⟩
    have b := ys_bd h1 (show y ≤ 2101 by omega)
    have b2 := ys_bd (y := y + 1) (by omega) (by omega)
    have e := ys_succ (show 1600 ≤ y by omega)
    have f := cum_13 y
    simp only [calendar_DateOf.l0]
    rw [w64 (x := y + 1) (by omega) (by omega), ys_p (y := y + 1) (by omega) (by omega), Option.bind_some]
    by_cases hx2 : x ≥ ys (y + 1)
    · rw [if_pos hx2]
      cases n with
      | zero =>
        obtain rfl : y = 2100 := by omega
        have : ys (2100 + 1) = 36890 := ys_last
        omega
      | succ n => exact do_l0 hx n k (y + 1) (by omega) (by omega) hx2 (by omega)
    · rw [if_neg hx2, ys_p h1 (by omega), Option.bind_some, w64 (x := x - ys y) (by omega) (by omega)]
      generalize (if lp y = true then (1 : Int) else 0) = z at *
      obtain ⟨m', d', g1, g2, g3, g4, g5, g6⟩ := do_l1 h1 11 k 1 (x - ys y) (by omega) (by omega) (by omega) (by rw [cum_one]; omega) (by omega)
      rw [cum_one] at g6
      exact ⟨y, m', d', g1, h1, by omega, g2, g3, g4, g5, by unfold num; omega⟩
theorem do_p (x : Int) (k : Nat) : (∃ Y M D, calendar_DateOf.f (k + 120) x = some (Y, M, D, 0) ∧ IsD x Y M D) ∨ (calendar_DateOf.f (k + 120) x = some (0, 0, 0, 5) ∧ ¬ (-365 ≤ x ∧ x < 36890)) := by
  unfold calendar_DateOf.f
  rw [ys_p (y := 1999) (by decide) (by decide), ys_p (y := 2101) (by decide) (by decide), Option.bind_some, ys_first, ys_last]
  by_cases h1 : x < -365
  · rw [if_pos h1]
    exact .inr ⟨by simp only [calendar_DateOf.j0, if_true], by omega⟩
  · rw [if_neg h1, Option.bind_some]
    by_cases h2 : x ≥ 36890
    · rw [show decide (x ≥ 36890) = true from decide_eq_true h2]
      exact .inr ⟨by simp only [calendar_DateOf.j0, if_true], by omega⟩
    · rw [show decide (x ≥ 36890) = false from decide_eq_false h2]
      simp only [calendar_DateOf.j0, Bool.false_eq_true, if_false]
      exact .inl (do_l0 (by omega) 101 (k + 119) 1999 (by decide) (by decide) (by rw [ys_first]; omega) (by omega))
theorem dr_l1 {n y : Int} (hy : 1999 ≤ y) (hy2 : y ≤ 2100) (K : Nat) (hn : n < 36890) (hnext : n ≥ ys (y + 1) → ∀ k, K ≤ k → ∃ Y M D, pairingref5_DateOf.l0 k (n - ys (y + 1)) (y + 1) = some (Y, M, D, 0) ∧ IsD n Y M D) :
    ∀ (j k : Nat) (m : Int), 1 ≤ m → 13 - m = j → ys y + cum y m ≤ n → K + j + 2 < k → ∃ Y M D, pairingref5_DateOf.l1 k (n - ys y - cum y m) y m = some (Y, M, D, 0) ∧ IsD n Y M D
  | 0, k, m, h1, h2, h3, hk => by
    obtain ⟨k, rfl⟩ : ∃ q, k = q + 1 := ⟨k - 1, by omega⟩
    obtain rfl : m = 13 := by omega
    have e := ys_succ (show 1600 ≤ y by omega)
    have f := cum_13 y
    simp only [pairingref5_DateOf.l1]
    rw [if_neg (by decide), w64 (x := y + 1) (by omega) (by omega), show n - ys y - cum y 13 = n - ys (y + 1) by omega]
    exact hnext (by omega) k (by omega)
  | j + 1, k, m, h1, h2, h3, hk => by
    obtain ⟨k, rfl⟩ : ∃ q, k = q + 1 := ⟨k - 1, by omega⟩
    obtain ⟨k, rfl⟩ : ∃ q, k = q + 2 := ⟨k - 2, by omega⟩
    have b := ys_bd hy (show y ≤ 2101 by omega)
    have e := cum_succ y (m := m) h1 (by omega)
    have c := cum_nn y (a := m) h1 (by omega)
    have b3 := dim_hi y m
    have b4 := dim_lo y m
    simp only [pairingref5_DateOf.l1]
    rw [if_pos (by omega), dm_r, Option.bind_some, dm_in ⟨hy, hy2, h1, by omega⟩]
    simp only
    by_cases hx : n - ys y - cum y m < dim y m
    · rw [if_pos hx, w64 (by omega) (by omega)]
      exact ⟨y, m, n - ys y - cum y m + 1, rfl, hy, hy2, h1, by omega, by omega, by omega, by unfold num; omega⟩
    · rw [if_neg hx, w64 (x := n - ys y - cum y m - dim y m) (by omega) (by omega), w64 (x := m + 1) (by omega) (by omega), show n - ys y - cum y m - dim y m = n - ys y - cum y (m + 1) by omega]
      exact dr_l1 hy hy2 K hn hnext j (k + 2) (m + 1) (by omega) (by omega) (by omega) (by omega)
theorem dr_l0 {n : Int} (hn : n < 36890) : ∀ (j k : Nat) (y : Int), 1999 ≤ y → 2100 - y = j → ys y ≤ n → 20 * j + 20 ≤ k → ∃ Y M D, pairingref5_DateOf.l0 k (n - ys y) y = some (Y, M, D, 0) ∧ IsD n Y M D
  | j, k, y, h1, h2, h3, hk => by
    obtain ⟨k, rfl⟩ : ∃ q, k = q + 1 := ⟨k - 1, by omega⟩
    simp only [pairingref5_DateOf.l0]
    rw [if_pos (by omega)]
    have := dr_l1 h1 (by omega) (20 * j) hn (fun hge k' hk' => by
      cases j with
      | zero =>
        obtain rfl : y = 2100 := by omega
        have : ys (2100 + 1) = 36890 := ys_last
        omega
      | succ j => exact dr_l0 hn j k' (y + 1) (by omega) (by omega) hge (by omega)) 12 k 1 (by omega) (by omega) (by rw [cum_one]; omega) (by omega)
    rw [cum_one, Int.sub_zero] at this
    exact this
theorem do_r (x : Int) (k : Nat) : (∃ Y M D, pairingref5_DateOf.f (k + 2100) x = some (Y, M, D, 0) ∧ IsD x Y M D) ∨ (pairingref5_DateOf.f (k + 2100) x = some (0, 0, 0, 5) ∧ ¬ (-365 ≤ x ∧ x < 36890)) := by
  unfold pairingref5_DateOf.f
  have hl : dnr 2100 12 31 = (36889, 0) := by decide
  rw [dn_r 2100 12 31 (k + 1980), Option.bind_some, hl]
  simp only
  by_cases h1 : x < -365
  · rw [if_pos h1]
    exact .inr ⟨by simp only [pairingref5_DateOf.j0, if_true], by omega⟩
  · rw [if_neg h1]
    by_cases h2 : x > 36889
    · rw [show decide (x > 36889) = true from decide_eq_true h2]
      exact .inr ⟨by simp only [pairingref5_DateOf.j0, if_true], by omega⟩
    · rw [show decide (x > 36889) = false from decide_eq_false h2]
      simp only [pairingref5_DateOf.j0, Bool.false_eq_true, if_false]
      rw [w64 (x := x + 365) (by omega) (by omega)]
      have := dr_l0 (n := x) (by omega) 101 (k + 2099) 1999 (by decide) (by decide) (by rw [ys_first]; omega) (by omega)
      rw [ys_first, show x - -365 = x + 365 by omega] at this
      exact .inl this
theorem wd_eq {n : Int} : ∃ r, calendar_Weekday.f n = some r ∧ pairingref5_Weekday.f n = some r := by
  unfold calendar_Weekday.f pairingref5_Weekday.f
  obtain ⟨a1, a2, a3, _, _⟩ := tdm n 7 (by decide)
  generalize Int.tmod n 7 = m at *
  rw [w64 (x := m + 12) (by omega) (by omega), w64 (x := m + 5) (by omega) (by omega)]
  obtain ⟨b1, b2, b3, b4, b5⟩ := tdm (m + 12) 7 (by decide)
  obtain ⟨c1, c2, c3, c4, c5⟩ := tdm (m + 5) 7 (by decide)
  generalize Int.tmod (m + 12) 7 = p at *
  generalize Int.tdiv (m + 12) 7 = p' at *
  generalize Int.tmod (m + 5) 7 = q at *
  generalize Int.tdiv (m + 5) 7 = q' at *
  have := b4 (by omega)
  by_cases h : q < 0
  · rw [if_pos h, w64 (by omega) (by omega)]
    exact ⟨_, rfl, by congr 1; omega⟩
  · rw [if_neg h]
    exact ⟨_, rfl, by congr 1; omega⟩

end Go.Proofs.YtdpkemjbiengfaaDoor.Pure
