/- Written by a program (wip/myprint.py): the Go functions that the laws reach, each as a plain Lean function, and a proof that the machine's call answers as that function says. -/
import Derived.Test.YtdpkemjbiengfaaDoorQCal0
import Derived.Test.YtdpkemjbiengfaaDoorQCal5
namespace Go.Proofs.YtdpkemjbiengfaaDoor.QCal
open Go.RowKit Go.Proofs.YtdpkemjbiengfaaDoorW.PrintWords Go.Proofs.YtdpkemjbiengfaaDoorW.PrintLast Go.Proofs.YtdpkemjbiengfaaDoorW.PrintMore
attribute [local go_sem] max2_int min2_int max_two min_two max_three min_three max_four min_four   -- for this text's walks alone
set_option linter.unusedVariables false
set_option linter.unusedSimpArgs false

/-! ### calendar_length: function 40: given by hand -/
def calendar_length.f (a0 a1 : Int) : Option Int := if a1 = 2 then (calendar_leap.f a0).bind fun t => (if t = true then some 29 else some 28) else if 1 ≤ a1 ∧ a1 ≤ 12 then some (([31, 28, 31, 30, 31, 30, 31, 31, 30, 31, 30, 31] : List Int).getD (a1.toNat - 1) 0) else none
set_option maxHeartbeats 400000 in
theorem calendar_length.calls (a0 : Int) (a1 : Int) (r : Int) (w : World) (hT_md : Tab_md w) (h : calendar_length.f a0 a1 = some r) :
    Calls Tryd.prog 40 #[.int .i64 a0, .int .i64 a1] w fun e w' => e = .returned (.int .i64 r) ∧ Drawn0 w w' := by
  have hg : Tryd.prog.globalNamed "pairing/calendar.monthDays" = some 0 := by kernel_rfl
  unfold calendar_length.f at h
  split at h
  · rename_i h2
    subst h2
    obtain ⟨t, ht, h⟩ := Option.bind_eq_some_iff.1 h
    have hc := Lib.TabIs.cell hT_md hg 1 (by decide)
    cases t with
    | true =>
      obtain rfl : 29 = r := by simpa using h
      go_enter Tryd.func40, Tryd.ntmps40
      go_wp2_with (go_at_call 54; refine (calendar_leap.calls _ _ _ ht).mono ?_; rintro e w' ⟨rfl, ⟨nd, rfl⟩⟩)
      go_ret
      exact ⟨rfl, by repeat (first | exact Drawn0.refl _ | apply Drawn0.step)⟩
    | false =>
      obtain rfl : 28 = r := by simpa using h
      go_enter Tryd.func40, Tryd.ntmps40
      go_wp2_with (go_at_call 54; refine (calendar_leap.calls _ _ _ ht).mono ?_; rintro e w' ⟨rfl, ⟨nd, rfl⟩⟩)
      go_ret
      exact ⟨rfl, by repeat (first | exact Drawn0.refl _ | apply Drawn0.step)⟩
  · rename_i h2
    split at h
    · rename_i h3
      obtain ⟨h0, h1⟩ := h3
      injection h with h
      have hc := Lib.TabIs.cell hT_md hg (a1.toNat - 1) (by simp; omega)
      have hl : ([31, 28, 31, 30, 31, 30, 31, 31, 30, 31, 30, 31] : List Int).getD (a1.toNat - 1) 0 = r := h
      rw [hl] at hc
      clear hl h
      have hb : (a1 == 2) = false := beq_eq_false_iff_ne.mpr h2
      clear h2
      go_enter Tryd.func40, Tryd.ntmps40
      go_wp2
      go_ret
      exact ⟨rfl, by repeat (first | exact Drawn0.refl _ | apply Drawn0.step)⟩
    · cases h


end Go.Proofs.YtdpkemjbiengfaaDoor.QCal
