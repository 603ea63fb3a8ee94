/- DayNumber and DateOf are inverse to each other, successive days have successive numbers, and weekdays repeat after seven days: for all numbers. -/
import Derived.Test.YtdpkemjbiengfaaDoorQCal25
import Derived.Test.YtdpkemjbiengfaaDoorCalDays
namespace Go.Proofs.YtdpkemjbiengfaaDoor.Pure
open Go.RowKit Go.Proofs.YtdpkemjbiengfaaDoor.QCal Go.Proofs.YtdpkemjbiengfaaDoorW.PrintWords Go.Proofs.YtdpkemjbiengfaaDoorW.PrintLast Go.Proofs.YtdpkemjbiengfaaDoor.Mx

theorem do_at {k : Nat} (x : Int) (hk : 120 ≤ k) : (∃ Y M D, calendar_DateOf.f k x = some (Y, M, D, 0) ∧ IsD x Y M D) ∨ (calendar_DateOf.f k x = some (0, 0, 0, 5) ∧ ¬ (-365 ≤ x ∧ x < 36890)) := by
  obtain ⟨q, rfl⟩ : ∃ q, k = q + 120 := ⟨k - 120, by omega⟩
  exact do_p x q
theorem dn_at {k : Nat} (y m d : Int) (hk : 12 ≤ k) : calendar_DayNumber.f k y m d = some (dnr y m d) := by
  obtain ⟨q, rfl⟩ : ∃ q, k = q + 12 := ⟨k - 12, by omega⟩
  exact dn_p y m d q
theorem awake_at {k : Nat} (hk : 4 ≤ k) : pairinglaw6_awake.f k = some true := by
  obtain ⟨q, rfl⟩ : ∃ q, k = q + 4 := ⟨k - 4, by omega⟩
  exact awake6 q
def wd (n : Int) : Int := (n + 5) % 7
theorem wd_p {n : Int} (h1 : -1000000 ≤ n) (h2 : n ≤ 1000000) : calendar_Weekday.f n = some (wd n) := by
  unfold calendar_Weekday.f wd
  obtain ⟨a1, a2, a3, _, _⟩ := tdm n 7 (by decide)
  generalize Int.tmod n 7 = m at *
  generalize Int.tdiv n 7 = q at *
  rw [w64 (x := m + 12) (by omega) (by omega), tmod_nn (by omega)]
  congr 1
  omega
theorem CalendarBack : pairinglaw6_CalendarBack.Pure := by
  intro n hn
  have hb := wf64 hn
  refine ⟨130, ?_⟩
  unfold pairinglaw6_CalendarBack.f
  rcases do_at (k := 130) n (by decide) with ⟨Y, M, D, e, g⟩ | ⟨e, g⟩
  · have hr := g.range
    rw [e, Option.bind_some]
    simp only [if_true]
    rw [dn_at Y M D (by decide), Option.bind_some, w64 (x := n + 1) (by omega) (by omega)]
    have hd : dnr Y M D = (n, 0) := by unfold dnr; rw [if_pos g.vld]; obtain ⟨_, _, _, _, _, _, h⟩ := g; rw [h]
    rw [hd, w64 (x := n + 7) (by omega) (by omega), wd_p (n := n + 7) (by omega) (by omega), wd_p (n := n) (by omega) (by omega), wd_p (n := n + 1) (by omega) (by omega)]
    have hw1 : 0 ≤ wd n ∧ wd n < 7 := by unfold wd; omega
    have hw : wd (n + 7) = wd n := by unfold wd; omega
    have hw2 : (wd (n + 1) != Int.tmod (wrap64 (wd n + 1)) 7) = false := by
      rw [w64 (by omega) (by omega), tmod_nn (by omega)]
      have : wd (n + 1) = (wd n + 1) % 7 := by unfold wd; omega
      rw [this]; simp
    simp only [Option.bind_some, if_true, hw, hw2]
    obtain ⟨g1, g2, g3, g4, g5, g6, g7⟩ := id g
    rcases do_at (k := 130) (n + 1) (by decide) with ⟨Y', M', D', e', g'⟩ | ⟨e', g'⟩
    · rw [e', Option.bind_some]
      simp only [pairinglaw6_CalendarBack.j0, Bool.false_eq_true, if_false, if_true]
      rw [dm_p, Option.bind_some, dm_in ⟨g1, g2, g3, g4⟩]
      simp only
      have c1 := cum_succ Y g3 g4
      have c2 := cum_13 Y
      have c3 := ys_succ (show 1600 ≤ Y by omega)
      unfold num at g7
      by_cases hD : D < dim Y M
      · have u : IsD (n + 1) Y M (D + 1) := ⟨g1, g2, g3, g4, by omega, by omega, by unfold num; omega⟩
        obtain ⟨rfl, rfl, rfl⟩ := u.unique g'
        have b := dim_hi Y M
        rw [if_pos hD, w64 (x := D + 1) (by omega) (by omega), awake_at (by decide)]
        simp
      · rw [if_neg hD]
        by_cases hM : M < 12
        · have u : IsD (n + 1) Y (M + 1) 1 := ⟨g1, g2, by omega, by omega, by omega, by have := dim_lo Y (M + 1); omega, by unfold num; omega⟩
          obtain ⟨rfl, rfl, rfl⟩ := u.unique g'
          rw [if_pos hM, w64 (x := M + 1) (by omega) (by omega), awake_at (by decide)]
          simp
        · obtain rfl : M = 12 := by omega
          have c4 : cum Y (12 + 1) = cum Y 13 := rfl
          have g2' := g'.range
          have hY : Y < 2100 := by
            rcases (show Y < 2100 ∨ 2100 ≤ Y by omega) with h | h
            · exact h
            · exfalso
              obtain rfl : Y = 2100 := by omega
              have : ys (2100 + 1) = 36890 := ys_last
              omega
          have u : IsD (n + 1) (Y + 1) 1 1 := ⟨by omega, by omega, by omega, by omega, by omega, by have := dim_lo (Y + 1) 1; omega, by unfold num; rw [cum_one]; omega⟩
          obtain ⟨rfl, rfl, rfl⟩ := u.unique g'
          rw [if_neg hM, w64 (x := Y + 1) (by omega) (by omega), awake_at (by decide)]
          simp
    · rw [e', Option.bind_some]
      simp only [pairinglaw6_CalendarBack.j0, Bool.false_eq_true, if_false]
      have hlast : IsD n 2100 12 31 := by
        obtain rfl : n = 36889 := by omega
        unfold IsD
        decide
      obtain ⟨rfl, rfl, rfl⟩ := hlast.unique g
      rw [if_neg (by decide), awake_at (by decide)]
      decide
  · rw [e, Option.bind_some]
    simp only [show ¬ ((5 : Int) = 0) by decide, if_false, if_true]
    rw [awake_at (by decide)]
    decide
end Go.Proofs.YtdpkemjbiengfaaDoor.Pure
