import Derived.Test.YtdpkemjbiengfaaDoorQCal13
import Derived.Test.YtdpkemjbiengfaaDoorMath
namespace Go.Proofs.YtdpkemjbiengfaaDoor.Pure
open Go.RowKit Go.Proofs.YtdpkemjbiengfaaDoor.QCal Go.Proofs.YtdpkemjbiengfaaDoorW.PrintWords Go.Proofs.YtdpkemjbiengfaaDoorW.PrintLast
open Go.Proofs.YtdpkemjbiengfaaDoor.Mx

theorem CalendarMinutes : pairinglaw6_CalendarMinutes.Pure := by
  intro t ht
  have hb := wf64 ht
  refine ⟨5, ?_⟩
  have ha : pairinglaw6_awake.f 5 = some true := by decide +kernel
  unfold pairinglaw6_CalendarMinutes.f calendar_SplitMinute.f pairingref5_SplitMinute.f pairingref5_floor.f
  obtain ⟨h1, h2, h3, h4, h5⟩ := tdm t 1440 (by decide)
  generalize Int.tdiv t 1440 = d at *
  generalize Int.tmod t 1440 = m at *
  rw [ha]
  have w1 : wrap64 d = d := w64 (by omega) (by omega)
  by_cases hm : m < 0
  · have w2 : wrap64 (d - 1) = d - 1 := w64 (by omega) (by omega)
    have w3 : wrap64 (m + 1440) = m + 1440 := w64 (by omega) (by omega)
    have w5 : wrap64 (t - wrap64 (1440 * (d - 1))) = m + 1440 := by unfold wrap64; omega
    have g1 : m + 1440 ≥ 0 := by omega
    have g2 : m + 1440 < 1440 := by omega
    simp [hm, w1, w2, w3, w5, g1, g2]
  · have w5 : wrap64 (t - wrap64 (1440 * d)) = m := by unfold wrap64; omega
    have g1 : m ≥ 0 := by omega
    simp [hm, w1, w5, g1, h3]
end Go.Proofs.YtdpkemjbiengfaaDoor.Pure
