/- Fields answers as the reference does, for every string. -/
import Derived.Test.YtpgmodghkamihaaDoorQTxt13
import Derived.Test.YtpgmodghkamihaaDoorTxtFields
namespace Go.Proofs.YtpgmodghkamihaaDoor.Pure
open Go.RowKit Go.Proofs.YtpgmodghkamihaaDoor.QTxt Go.Proofs.YtpgmodghkamihaaDoorW.PrintWords Go.Proofs.YtpgmodghkamihaaDoorW.PrintLast Go.Proofs.YtpgmodghkamihaaDoor.Mx

theorem TextFields : pairinglaw5_TextFields.Pure := by
  intro s hs
  refine ⟨5 * s.size + 200, ?_⟩
  unfold pairinglaw5_TextFields.f
  by_cases h : (s.size : Int) > 5000
  · rw [if_pos h, awake5 (by omega)]; rfl
  · have hc := cutl_len s.data.toList
    rw [← sz] at hc
    have hl : (fields s).length ≤ s.size + 1 := by unfold fields; rw [List.length_map, sz]; exact fl_len _ _
    rw [if_neg h, fields_p s hs (by omega) (by omega), fields_r s (by omega) (by omega), Option.bind_some, Option.bind_some, same_p (by omega) (by omega), awake5 (by omega)]; rfl
end Go.Proofs.YtpgmodghkamihaaDoor.Pure
