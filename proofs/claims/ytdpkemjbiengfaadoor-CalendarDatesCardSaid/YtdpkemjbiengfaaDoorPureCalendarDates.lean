/- ParseDate, FormatDate, ParseClock and FormatClock answer as the reference says, and reading inverts writing. -/
import Derived.Test.YtdpkemjbiengfaaDoorQCal27
import Derived.Test.YtdpkemjbiengfaaDoorCalDates
namespace Go.Proofs.YtdpkemjbiengfaaDoor.Pure
open Go.RowKit Go.Proofs.YtdpkemjbiengfaaDoor.QCal Go.Proofs.YtdpkemjbiengfaaDoorW.PrintWords Go.Proofs.YtdpkemjbiengfaaDoorW.PrintLast Go.Proofs.YtdpkemjbiengfaaDoor.Mx

theorem CalendarDates : pairinglaw6_CalendarDates.Pure := by
  intro s r d c hs hr hd hc
  refine ⟨60, ?_⟩
  unfold pairinglaw6_CalendarDates.f
  rw [pd_p (by decide), pd_r (by decide), fd_p _ _ _ (by decide), fd_r _ _ _ (by decide)]
  simp only [Option.bind_some, if_true, beq_self_eq_true, Bool.not_true, Bool.or_false, Bool.false_eq_true, if_false, bne_self_eq_false]
  rw [pairinglaw6_CalendarDates.j0]
  rw [if_neg (by decide), pc_p (by decide), pc_r (by decide), fc_p _ (by decide), fc_r _ (by decide)]
  simp only [Option.bind_some, if_true, bne_self_eq_false]
  simp only [pairinglaw6_CalendarDates.j1]
  rw [if_neg (by decide), pd_p (by decide)]
  have ha : pairinglaw6_awake.f 57 = some true := awake6 53
  have hj : pairinglaw6_CalendarDates.j2 58 c (fc c).1 (fc c).2 = some true := by
    simp only [pairinglaw6_CalendarDates.j2]
    rw [ha, pc_p (by decide)]
    unfold fc
    by_cases h : 0 ≤ c ∧ c < 1440
    · rw [if_pos h]
      simp only [if_true, Option.bind_some, mk_l, fcl_pc h.1 h.2]
    · rw [if_neg h]
      simp
  rw [hj]
  unfold fd
  by_cases h : vld d.f0 d.f1 d.f2 = true
  · rw [if_pos h]
    simp only [if_true, Option.bind_some, mk_l, fdl_pd h]
    simp
  · rw [if_neg h]
    simp
end Go.Proofs.YtdpkemjbiengfaaDoor.Pure
