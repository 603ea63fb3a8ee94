/- What the calendar's functions on dates compute, program and reference alike: leap years, lengths of months. -/
import Derived.Test.YtdpkemjbiengfaaDoorQCal4
import Derived.Test.YtdpkemjbiengfaaDoorQCal6
import Derived.Test.YtdpkemjbiengfaaDoorMath
namespace Go.Proofs.YtdpkemjbiengfaaDoor.Pure
open Go.RowKit Go.Proofs.YtdpkemjbiengfaaDoor.QCal Go.Proofs.YtdpkemjbiengfaaDoorW.PrintWords Go.Proofs.YtdpkemjbiengfaaDoorW.PrintLast Go.Proofs.YtdpkemjbiengfaaDoor.Mx

theorem awake6 (k : Nat) : pairinglaw6_awake.f (k + 4) = some true := by
  have h : pairinglaw6_awake.f 4 = some true := by decide +kernel
  induction k with
  | zero => exact h
  | succ k ih => exact pairinglaw6_awake.mono _ _ ih

/-! leap years, lengths of months -/
def lp (y : Int) : Bool := decide (y % 4 = 0 ∧ (¬ y % 100 = 0 ∨ y % 400 = 0))
theorem leap_p {y : Int} (h : 0 ≤ y) : calendar_leap.f y = some (lp y) := by
  unfold calendar_leap.f lp
  rw [tmod_nn h, tmod_nn h, tmod_nn h]
  by_cases a : y % 4 = 0
  · by_cases b : y % 100 = 0
    · by_cases c : y % 400 = 0 <;> simp [a, b, c]
    · simp [a, b]
  · simp [a]
theorem leap_r {y : Int} (h : 0 ≤ y) : pairingref5_leap.f y = some (lp y) := by
  unfold pairingref5_leap.f lp
  rw [tmod_nn h, tmod_nn h, tmod_nn h]
  by_cases a : y % 4 = 0
  · by_cases b : y % 100 = 0
    · by_cases c : y % 400 = 0 <;> simp [a, b, c]
    · simp [a, b]
  · have c : ¬ y % 400 = 0 := by omega
    simp [a, c]
def dim (y m : Int) : Int := if m = 2 then (if lp y = true then 29 else 28) else if m = 4 ∨ m = 6 ∨ m = 9 ∨ m = 11 then 30 else 31
theorem dim_lo (y m : Int) : 28 ≤ dim y m := by unfold dim; repeat' split; all_goals omega
theorem dim_hi (y m : Int) : dim y m ≤ 31 := by unfold dim; repeat' split; all_goals omega
theorem months {m : Int} (h1 : 1 ≤ m) (h2 : m ≤ 12) : m = 1 ∨ m = 2 ∨ m = 3 ∨ m = 4 ∨ m = 5 ∨ m = 6 ∨ m = 7 ∨ m = 8 ∨ m = 9 ∨ m = 10 ∨ m = 11 ∨ m = 12 := by omega
theorem length_p {y m : Int} (hy : 0 ≤ y) (h1 : 1 ≤ m) (h2 : m ≤ 12) : calendar_length.f y m = some (dim y m) := by
  unfold calendar_length.f dim
  rw [leap_p hy]
  rcases months h1 h2 with rfl | rfl | rfl | rfl | rfl | rfl | rfl | rfl | rfl | rfl | rfl | rfl
  all_goals first | rfl | (cases lp y <;> rfl)
def dm (y m : Int) : Int × Int := if 1999 ≤ y ∧ y ≤ 2100 ∧ 1 ≤ m ∧ m ≤ 12 then (dim y m, 0) else (0, 5)
theorem dm_in {y m : Int} (h : 1999 ≤ y ∧ y ≤ 2100 ∧ 1 ≤ m ∧ m ≤ 12) : dm y m = (dim y m, 0) := if_pos h
theorem dm_out {y m : Int} (h : ¬ (1999 ≤ y ∧ y ≤ 2100 ∧ 1 ≤ m ∧ m ≤ 12)) : dm y m = (0, 5) := if_neg h
theorem dm_p (y m : Int) : calendar_DaysInMonth.f y m = some (dm y m) := by
  unfold calendar_DaysInMonth.f
  by_cases h : 1999 ≤ y ∧ y ≤ 2100 ∧ 1 ≤ m ∧ m ≤ 12
  · rw [dm_in h, if_neg (by omega), if_neg (by omega), if_neg (by omega), if_neg (by omega), length_p (by omega) (by omega) (by omega)]
    rfl
  · rw [dm_out h]
    repeat' split
    all_goals first | rfl | omega
theorem dm_r (y m : Int) (k : Nat) : pairingref5_DaysInMonth.f (k + 2) y m = some (dm y m) := by
  unfold pairingref5_DaysInMonth.f
  by_cases h : 1999 ≤ y ∧ y ≤ 2100 ∧ 1 ≤ m ∧ m ≤ 12
  · rw [dm_in h, if_neg (by omega), if_neg (by omega), if_neg (by omega), show decide (m > 12) = false from decide_eq_false (by omega)]
    simp only [pairingref5_DaysInMonth.j0, pairingref5_DaysInMonth.j1, leap_r (show 0 ≤ y by omega)]
    unfold dim
    rcases months h.2.2.1 h.2.2.2 with rfl | rfl | rfl | rfl | rfl | rfl | rfl | rfl | rfl | rfl | rfl | rfl
    all_goals first | rfl | (cases lp y <;> rfl)
  · rw [dm_out h]
    have e : ∀ b : Bool, b = true → pairingref5_DaysInMonth.j0 (k + 2) y m b = some (0, 5) := by
      intro b hb
      subst hb
      simp only [pairingref5_DaysInMonth.j0, if_true]
    by_cases h1 : y < 1999
    · rw [if_pos h1]; exact e _ rfl
    · rw [if_neg h1]
      by_cases h2 : y > 2100
      · rw [if_pos h2]; exact e _ rfl
      · rw [if_neg h2]
        by_cases h3 : m < 1
        · rw [if_pos h3]; exact e _ rfl
        · rw [if_neg h3]; exact e _ (decide_eq_true (by omega))
def vld (y m d : Int) : Bool := decide (1999 ≤ y ∧ y ≤ 2100 ∧ 1 ≤ m ∧ m ≤ 12 ∧ 1 ≤ d ∧ d ≤ dim y m)
theorem vld_iff {y m d : Int} : vld y m d = true ↔ 1999 ≤ y ∧ y ≤ 2100 ∧ 1 ≤ m ∧ m ≤ 12 ∧ 1 ≤ d ∧ d ≤ dim y m := by unfold vld; exact decide_eq_true_iff
theorem vld_no {y m d : Int} (h : vld y m d = false) : ¬ (1999 ≤ y ∧ y ≤ 2100 ∧ 1 ≤ m ∧ m ≤ 12 ∧ 1 ≤ d ∧ d ≤ dim y m) := of_decide_eq_false h
theorem vld_of (y m d : Int) (t : Option Bool) (h : t = if (dm y m).2 = 0 then (if d ≥ 1 then some (decide (d ≤ (dm y m).1)) else some false) else some false) : t = some (vld y m d) := by
  subst h
  by_cases h : 1999 ≤ y ∧ y ≤ 2100 ∧ 1 ≤ m ∧ m ≤ 12
  · rw [dm_in h]
    simp only [if_true]
    by_cases hd : d ≥ 1
    · rw [if_pos hd]; unfold vld; congr 1; exact decide_eq_decide.2 ⟨fun h2 => ⟨h.1, h.2.1, h.2.2.1, h.2.2.2, hd, h2⟩, fun h2 => h2.2.2.2.2.2⟩
    · rw [if_neg hd]; unfold vld; congr 1; exact (decide_eq_false (fun h2 => hd h2.2.2.2.2.1)).symm
  · rw [dm_out h, if_neg (by decide)]
    unfold vld; congr 1; exact (decide_eq_false (fun h2 => h ⟨h2.1, h2.2.1, h2.2.2.1, h2.2.2.2.1⟩)).symm
theorem vld_p (y m d : Int) : calendar_valid.f y m d = some (vld y m d) := by
  unfold calendar_valid.f
  rw [dm_p, Option.bind_some]
  exact vld_of y m d _ rfl
theorem vld_r (y m d : Int) (k : Nat) : pairingref5_IsDate.f (k + 2) y m d = some (vld y m d) := by
  unfold pairingref5_IsDate.f
  rw [dm_r, Option.bind_some]
  exact vld_of y m d _ rfl

end Go.Proofs.YtdpkemjbiengfaaDoor.Pure
