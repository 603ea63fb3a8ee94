/- DaysInMonth and AddMonths answer as the reference does, for all dates and all numbers. -/
import Derived.Test.YtdpkemjbiengfaaDoorQCal19
import Derived.Test.YtdpkemjbiengfaaDoorCalSpec
namespace Go.Proofs.YtdpkemjbiengfaaDoor.Pure
open Go.RowKit Go.Proofs.YtdpkemjbiengfaaDoor.QCal Go.Proofs.YtdpkemjbiengfaaDoorW.PrintWords Go.Proofs.YtdpkemjbiengfaaDoorW.PrintLast Go.Proofs.YtdpkemjbiengfaaDoor.Mx

theorem CalendarMonths : pairinglaw6_CalendarMonths.Pure := by
  rintro ⟨y, m, d⟩ n ⟨h1, h2, h3⟩ hn
  have b1 := wf64 h1; have b2 := wf64 h2; have b3 := wf64 h3; have b4 := wf64 hn
  refine ⟨8, ?_⟩
  unfold pairinglaw6_CalendarMonths.f
  simp only
  rw [dm_p, dm_r y m 6, Option.bind_some, Option.bind_some]
  have key : ∃ r : Int × Int × Int × Int, calendar_AddMonths.f 8 y m d n = some r ∧ pairingref5_AddMonths.f 8 y m d n = some r := by
    unfold calendar_AddMonths.f pairingref5_AddMonths.f
    rw [vld_p, vld_r y m d 6, Option.bind_some, Option.bind_some]
    have e1 : ∀ b : Bool, b = true → calendar_AddMonths.j0 8 n b y m d = some (0, 0, 0, 5) := by intro b hb; subst hb; simp only [calendar_AddMonths.j0, if_true]
    have e2 : ∀ b : Bool, b = true → pairingref5_AddMonths.j0 8 n b y m d = some (0, 0, 0, 5) := by intro b hb; subst hb; simp only [pairingref5_AddMonths.j0, if_true]
    cases hv : vld y m d with
    | false => exact ⟨_, by rw [if_neg (by decide)]; exact e1 _ rfl, by rw [if_neg (by decide)]; exact e2 _ rfl⟩
    | true =>
      rw [if_pos rfl, if_pos rfl]
      by_cases c1 : n < -1300
      · exact ⟨_, by rw [if_pos c1]; exact e1 _ rfl, by rw [if_pos c1]; exact e2 _ rfl⟩
      · rw [if_neg c1, if_neg c1]
        by_cases c2 : n > 1300
        · exact ⟨_, e1 _ (decide_eq_true c2), e2 _ (decide_eq_true c2)⟩
        · rw [show decide (n > 1300) = false from decide_eq_false c2]
          obtain ⟨v1, v2, v3, v4, v5, v6⟩ := vld_iff.1 hv
          simp only [calendar_AddMonths.j0, pairingref5_AddMonths.j0, Bool.false_eq_true, if_false]
          have w1 : wrap64 (wrap64 (wrap64 (wrap64 (12 * y) + m) - 1) + n) = 12 * y + m - 1 + n := by
            rw [w64 (x := 12 * y) (by omega) (by omega), w64 (x := 12 * y + m) (by omega) (by omega), w64 (x := 12 * y + m - 1) (by omega) (by omega), w64 (by omega) (by omega)]
          rw [w1]
          have hM : 0 ≤ 12 * y + m - 1 + n := by omega
          obtain ⟨t1, t2, t3, t4, t5⟩ := tdm (12 * y + m - 1 + n) 12 (by decide)
          have t6 := t4 hM
          generalize hq : Int.tdiv (12 * y + m - 1 + n) 12 = q at *
          generalize hr : Int.tmod (12 * y + m - 1 + n) 12 = r at *
          have w2 : wrap64 q = q := w64 (by omega) (by omega)
          have w3 : wrap64 (r + 1) = r + 1 := w64 (by omega) (by omega)
          have hf : pairingref5_floor.f (12 * y + m - 1 + n) 12 = some q := by
            unfold pairingref5_floor.f
            rw [if_neg (by decide), hr, hq, if_neg (by omega), w2]
          have w4 : wrap64 (wrap64 (12 * y + m - 1 + n - wrap64 (12 * q)) + 1) = r + 1 := by
            rw [w64 (x := 12 * q) (by omega) (by omega), w64 (x := 12 * y + m - 1 + n - 12 * q) (by omega) (by omega), w64 (by omega) (by omega)]
            omega
          rw [hf]
          simp only [Option.bind_some]
          rw [w4, w2, w3, dm_p, dm_r _ _ 5, Option.bind_some]
          split
          · exact ⟨_, rfl, rfl⟩
          · exact ⟨_, rfl, rfl⟩
  obtain ⟨r, e1, e2⟩ := key
  rw [e1, e2, awake6 4]
  simp

end Go.Proofs.YtdpkemjbiengfaaDoor.Pure
