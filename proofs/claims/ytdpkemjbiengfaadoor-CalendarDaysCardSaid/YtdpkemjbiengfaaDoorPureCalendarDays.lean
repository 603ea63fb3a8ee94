/- DayNumber, DateOf and Weekday answer as the reference does, for all dates and all numbers. -/
import Derived.Test.YtdpkemjbiengfaaDoorQCal24
import Derived.Test.YtdpkemjbiengfaaDoorCalDays
namespace Go.Proofs.YtdpkemjbiengfaaDoor.Pure
open Go.RowKit Go.Proofs.YtdpkemjbiengfaaDoor.QCal Go.Proofs.YtdpkemjbiengfaaDoorW.PrintWords Go.Proofs.YtdpkemjbiengfaaDoorW.PrintLast Go.Proofs.YtdpkemjbiengfaaDoor.Mx

theorem awake6_at {k : Nat} (h : 4 ≤ k) : pairinglaw6_awake.f k = some true := by
  obtain ⟨q, rfl⟩ : ∃ q, k = q + 4 := ⟨k - 4, by omega⟩
  exact awake6 q
theorem CalendarDays : pairinglaw6_CalendarDays.Pure := by
  rintro ⟨y, m, d⟩ n ⟨h1, h2, h3⟩ hn
  refine ⟨2100, ?_⟩
  unfold pairinglaw6_CalendarDays.f
  simp only
  have key : ∃ r : Int × Int × Int × Int, calendar_DateOf.f 2100 n = some r ∧ pairingref5_DateOf.f 2100 n = some r := by
    rcases do_p n 1980 with ⟨Y, M, D, e, g⟩ | ⟨e, g⟩
    · rcases do_r n 0 with ⟨Y', M', D', e', g'⟩ | ⟨e', g'⟩
      · obtain ⟨rfl, rfl, rfl⟩ := g.unique g'
        exact ⟨_, e, e'⟩
      · exact absurd g.range g'
    · rcases do_r n 0 with ⟨Y', M', D', e', g'⟩ | ⟨e', g'⟩
      · exact absurd g'.range g
      · exact ⟨_, e, e'⟩
  obtain ⟨r, e1, e2⟩ := key
  obtain ⟨w, e3, e4⟩ := wd_eq (n := n)
  rw [dn_p y m d 2088, dn_r y m d 1980, e1, e2, e3, e4, awake6_at (by decide)]
  simp

end Go.Proofs.YtdpkemjbiengfaaDoor.Pure
