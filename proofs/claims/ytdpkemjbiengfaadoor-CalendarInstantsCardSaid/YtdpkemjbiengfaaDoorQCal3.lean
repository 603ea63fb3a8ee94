/- Written by a program (wip/myprint.py): the Go functions that the laws reach, each as a plain Lean function, and a proof that the machine's call answers as that function says. -/
import Derived.Test.YtdpkemjbiengfaaDoorQCal0
import Derived.Test.YtdpkemjbiengfaaDoorQCal2
namespace Go.Proofs.YtdpkemjbiengfaaDoor.QCal
open Go.RowKit Go.Proofs.YtdpkemjbiengfaaDoorW.PrintWords Go.Proofs.YtdpkemjbiengfaaDoorW.PrintLast Go.Proofs.YtdpkemjbiengfaaDoorW.PrintMore
attribute [local go_sem] max2_int min2_int max_two min_two max_three min_three max_four min_four   -- for this text's walks alone
set_option linter.unusedVariables false
set_option linter.unusedSimpArgs false

/-! ### calendar_SplitMinute: function 10 -/
def calendar_SplitMinute.f (a0 : Int) : Option (Int × Int) := if (Int.tmod a0 1440) < 0 then (some (wrap64 ((wrap64 (Int.tdiv a0 1440)) - 1), wrap64 ((Int.tmod a0 1440) + 1440))) else (some (wrap64 (Int.tdiv a0 1440), Int.tmod a0 1440))
set_option maxHeartbeats 8000000 in
set_option maxRecDepth 100000 in
theorem calendar_SplitMinute.calls (a0 : Int) (r1 : Int) (r2 : Int) (w : World) (h : calendar_SplitMinute.f a0 = some (r1, r2)) :
    Calls Tryd.prog 10 #[.int .i64 a0] w fun e w' => e = .returned (.tuple #[.int .i64 r1, .int .i64 r2]) ∧ Drawn0 w w' := by
  have H : (if (Int.tmod a0 1440) < 0 then (some (wrap64 ((wrap64 (Int.tdiv a0 1440)) - 1), wrap64 ((Int.tmod a0 1440) + 1440))) else (some (wrap64 (Int.tdiv a0 1440), Int.tmod a0 1440))) = some (r1, r2) := h
  clear h
  by_cases c2 : (Int.tmod a0 1440) < 0
  · rw [if_pos c2] at H
    have c2b0 : decide ((Int.tmod a0 1440) < 0) = true := decide_eq_true c2
    clear c2
    simp only [Option.some.injEq, Prod.mk.injEq] at H
    obtain ⟨rfl, rfl⟩ := H
    go_enter Tryd.func10, Tryd.ntmps10
    go_wp2
    go_ret2
    exact ⟨by first | rfl | (simp; done) | (simp [*]; done), by repeat (first | exact Drawn0.refl _ | apply Drawn0.step)⟩
  · rw [if_neg c2] at H
    have c2b0 : decide ((Int.tmod a0 1440) < 0) = false := decide_eq_false c2
    clear c2
    simp only [Option.some.injEq, Prod.mk.injEq] at H
    obtain ⟨rfl, rfl⟩ := H
    go_enter Tryd.func10, Tryd.ntmps10
    go_wp2
    go_ret2
    exact ⟨by first | rfl | (simp; done) | (simp [*]; done), by repeat (first | exact Drawn0.refl _ | apply Drawn0.step)⟩

/-! ### pairingref5_SplitMinute: function 11 -/
def pairingref5_SplitMinute.f (a0 : Int) : Option (Int × Int) := (pairingref5_floor.f a0 1440).bind fun t101 => (some (t101, wrap64 (a0 - (wrap64 (1440 * t101)))))
set_option maxHeartbeats 8000000 in
set_option maxRecDepth 100000 in
theorem pairingref5_SplitMinute.calls (a0 : Int) (r1 : Int) (r2 : Int) (w : World) (h : pairingref5_SplitMinute.f a0 = some (r1, r2)) :
    Calls Tryd.prog 11 #[.int .i64 a0] w fun e w' => e = .returned (.tuple #[.int .i64 r1, .int .i64 r2]) ∧ Drawn0 w w' := by
  have H : ((pairingref5_floor.f a0 1440).bind fun t101 => (some (t101, wrap64 (a0 - (wrap64 (1440 * t101)))))) = some (r1, r2) := h
  clear h
  replace H := Option.bind_eq_some_iff.mp H
  obtain ⟨t101, A20, H⟩ := H
  replace H : (some (t101, wrap64 (a0 - (wrap64 (1440 * t101))))) = some (r1, r2) := H
  have A2 := Aside0.mk A20
  clear A20
  simp only [Option.some.injEq, Prod.mk.injEq] at H
  obtain ⟨rfl, rfl⟩ := H
  go_enter Tryd.func11, Tryd.ntmps11
  go_wp2_with (first | ((with_reducible refine gate_callee (f := 39) rfl ?_); refine goesL_ (some 6) rfl rfl Tryd.func39 (by kernel_rfl) rfl #[.int .i64 a0, .int .i64 1440] rfl (by (try simp only [List.map_toArray, List.map_cons, List.map_nil]); first | done | rfl | (simp only [List.length_drop, List.length_take]; rfl)) ?_; (with_reducible refine (pairingref5_floor.calls a0 1440 t101 _ A2.out).mono ?_); rintro e w' ⟨rfl, ⟨nd, rfl⟩⟩; refine ⟨_, rfl, ?_⟩))
  go_ret2
  exact ⟨by first | rfl | (simp; done) | (simp [*]; done), by repeat (first | exact Drawn0.refl _ | apply Drawn0.step)⟩

end Go.Proofs.YtdpkemjbiengfaaDoor.QCal
