/- Written by a program (wip/myprint.py): the Go functions that the laws reach, each as a plain Lean function, and a proof that the machine's call answers as that function says. -/
import Derived.Test.YtdpkemjbiengfaaDoorQCal0
namespace Go.Proofs.YtdpkemjbiengfaaDoor.QCal
open Go.RowKit Go.Proofs.YtdpkemjbiengfaaDoorW.PrintWords Go.Proofs.YtdpkemjbiengfaaDoorW.PrintLast Go.Proofs.YtdpkemjbiengfaaDoorW.PrintMore
attribute [local go_sem] max2_int min2_int max_two min_two max_three min_three max_four min_four   -- for this text's walks alone
set_option linter.unusedVariables false
set_option linter.unusedSimpArgs false

/-! ### calendar_SplitMinute: function 10 -/
def calendar_SplitMinute.f (a0 : Int) : Option (Int × Int) := if (Int.tmod a0 1440) < 0 then (some (wrap64 ((wrap64 (Int.tdiv a0 1440)) - 1), wrap64 ((Int.tmod a0 1440) + 1440))) else (some (wrap64 (Int.tdiv a0 1440), Int.tmod a0 1440))
set_option maxHeartbeats 8000000 in
set_option maxRecDepth 100000 in
theorem calendar_SplitMinute.calls (a0 : Int) (r1 : Int) (r2 : Int) (w : World) (h : calendar_SplitMinute.f a0 = some (r1, r2)) :
    Calls Tryd.prog 10 #[.int .i64 a0] w fun e w' => e = .returned (.tuple #[.int .i64 r1, .int .i64 r2]) ∧ Drawn0 w w' := by
  have H : (if (Int.tmod a0 1440) < 0 then (some (wrap64 ((wrap64 (Int.tdiv a0 1440)) - 1), wrap64 ((Int.tmod a0 1440) + 1440))) else (some (wrap64 (Int.tdiv a0 1440), Int.tmod a0 1440))) = some (r1, r2) := h
  clear h
  by_cases c2 : (Int.tmod a0 1440) < 0
  · rw [if_pos c2] at H
    have c2b0 : decide ((Int.tmod a0 1440) < 0) = true := decide_eq_true c2
    clear c2
    simp only [Option.some.injEq, Prod.mk.injEq] at H
    obtain ⟨rfl, rfl⟩ := H
    go_enter Tryd.func10, Tryd.ntmps10
    go_wp2
    go_ret2
    exact ⟨by first | rfl | (simp; done) | (simp [*]; done), by repeat (first | exact Drawn0.refl _ | apply Drawn0.step)⟩
  · rw [if_neg c2] at H
    have c2b0 : decide ((Int.tmod a0 1440) < 0) = false := decide_eq_false c2
    clear c2
    simp only [Option.some.injEq, Prod.mk.injEq] at H
    obtain ⟨rfl, rfl⟩ := H
    go_enter Tryd.func10, Tryd.ntmps10
    go_wp2
    go_ret2
    exact ⟨by first | rfl | (simp; done) | (simp [*]; done), by repeat (first | exact Drawn0.refl _ | apply Drawn0.step)⟩

/-! ### pairingref5_floor: function 39 -/
def pairingref5_floor.f (a0 : Int) (a1 : Int) : Option (Int) := if a1 = 0 then (none) else (if (Int.tmod a0 a1) < 0 then (some (wrap64 ((wrap64 (Int.tdiv a0 a1)) - 1))) else (some (wrap64 (Int.tdiv a0 a1))))
set_option maxHeartbeats 8000000 in
set_option maxRecDepth 100000 in
theorem pairingref5_floor.calls (a0 : Int) (a1 : Int) (r : Int) (w : World) (h : pairingref5_floor.f a0 a1 = some r) :
    Calls Tryd.prog 39 #[.int .i64 a0, .int .i64 a1] w fun e w' => e = .returned (.int .i64 r) ∧ Drawn0 w w' := by
  have H : (if a1 = 0 then (none) else (if (Int.tmod a0 a1) < 0 then (some (wrap64 ((wrap64 (Int.tdiv a0 a1)) - 1))) else (some (wrap64 (Int.tdiv a0 a1))))) = some r := h
  clear h
  by_cases c3 : a1 = 0
  · rw [if_pos c3] at H
    exact absurd H (by simp)
  · rw [if_neg c3] at H
    have c3b0 : (a1 == 0) = false := beq_eq_false_iff_ne.mpr c3
    have c3b1 : (a1 != 0) = true := bne_iff_ne.mpr c3
    by_cases c4 : (Int.tmod a0 a1) < 0
    · rw [if_pos c4] at H
      have c4b0 : decide ((Int.tmod a0 a1) < 0) = true := decide_eq_true c4
      clear c4
      obtain rfl := Option.some.inj H
      go_enter Tryd.func39, Tryd.ntmps39
      go_wp2
      go_ret
      exact ⟨by first | rfl | (simp; done) | (simp [*]; done), by repeat (first | exact Drawn0.refl _ | apply Drawn0.step)⟩
    · rw [if_neg c4] at H
      have c4b0 : decide ((Int.tmod a0 a1) < 0) = false := decide_eq_false c4
      clear c4
      obtain rfl := Option.some.inj H
      go_enter Tryd.func39, Tryd.ntmps39
      go_wp2
      go_ret
      exact ⟨by first | rfl | (simp; done) | (simp [*]; done), by repeat (first | exact Drawn0.refl _ | apply Drawn0.step)⟩

/-! ### pairingref5_SplitMinute: function 11 -/
def pairingref5_SplitMinute.f (a0 : Int) : Option (Int × Int) := (pairingref5_floor.f a0 1440).bind fun t101 => (some (t101, wrap64 (a0 - (wrap64 (1440 * t101)))))
set_option maxHeartbeats 8000000 in
set_option maxRecDepth 100000 in
theorem pairingref5_SplitMinute.calls (a0 : Int) (r1 : Int) (r2 : Int) (w : World) (h : pairingref5_SplitMinute.f a0 = some (r1, r2)) :
    Calls Tryd.prog 11 #[.int .i64 a0] w fun e w' => e = .returned (.tuple #[.int .i64 r1, .int .i64 r2]) ∧ Drawn0 w w' := by
  have H : ((pairingref5_floor.f a0 1440).bind fun t101 => (some (t101, wrap64 (a0 - (wrap64 (1440 * t101)))))) = some (r1, r2) := h
  clear h
  replace H := Option.bind_eq_some_iff.mp H
  obtain ⟨t101, A20, H⟩ := H
  replace H : (some (t101, wrap64 (a0 - (wrap64 (1440 * t101))))) = some (r1, r2) := H
  have A2 := Aside0.mk A20
  clear A20
  simp only [Option.some.injEq, Prod.mk.injEq] at H
  obtain ⟨rfl, rfl⟩ := H
  go_enter Tryd.func11, Tryd.ntmps11
  go_wp2_with (first | ((with_reducible refine gate_callee (f := 39) rfl ?_); refine goesL_ (some 6) rfl rfl Tryd.func39 (by kernel_rfl) rfl #[.int .i64 a0, .int .i64 1440] rfl (by (try simp only [List.map_toArray, List.map_cons, List.map_nil]); first | done | rfl | (simp only [List.length_drop, List.length_take]; rfl)) ?_; (with_reducible refine (pairingref5_floor.calls a0 1440 t101 _ A2.out).mono ?_); rintro e w' ⟨rfl, ⟨nd, rfl⟩⟩; refine ⟨_, rfl, ?_⟩))
  go_ret2
  exact ⟨by first | rfl | (simp; done) | (simp [*]; done), by repeat (first | exact Drawn0.refl _ | apply Drawn0.step)⟩

/-! ### calendar_leap: function 54 -/
def calendar_leap.f (a0 : Int) : Option (Bool) := if (Int.tmod a0 4) = 0 then (if (Int.tmod a0 100) = 0 then (some ((Int.tmod a0 400) == 0)) else (some true)) else (some false)
set_option maxHeartbeats 8000000 in
set_option maxRecDepth 100000 in
theorem calendar_leap.calls (a0 : Int) (r : Bool) (w : World) (h : calendar_leap.f a0 = some r) :
    Calls Tryd.prog 54 #[.int .i64 a0] w fun e w' => e = .returned (.bool r) ∧ Drawn0 w w' := by
  have H : (if (Int.tmod a0 4) = 0 then (if (Int.tmod a0 100) = 0 then (some ((Int.tmod a0 400) == 0)) else (some true)) else (some false)) = some r := h
  clear h
  by_cases c2 : (Int.tmod a0 4) = 0
  · rw [if_pos c2] at H
    have c2b0 : ((Int.tmod a0 4) == 0) = true := beq_iff_eq.mpr c2
    have c2b1 : ((Int.tmod a0 4) != 0) = false := bne_eq_false_iff_eq.mpr c2
    clear c2
    by_cases c3 : (Int.tmod a0 100) = 0
    · rw [if_pos c3] at H
      have c3b0 : ((Int.tmod a0 100) == 0) = true := beq_iff_eq.mpr c3
      have c3b1 : ((Int.tmod a0 100) != 0) = false := bne_eq_false_iff_eq.mpr c3
      clear c3
      obtain rfl := Option.some.inj H
      go_enter Tryd.func54, Tryd.ntmps54
      go_wp2
      go_ret
      exact ⟨by first | rfl | (simp; done) | (simp [*]; done), by repeat (first | exact Drawn0.refl _ | apply Drawn0.step)⟩
    · rw [if_neg c3] at H
      have c3b0 : ((Int.tmod a0 100) == 0) = false := beq_eq_false_iff_ne.mpr c3
      have c3b1 : ((Int.tmod a0 100) != 0) = true := bne_iff_ne.mpr c3
      obtain rfl := Option.some.inj H
      go_enter Tryd.func54, Tryd.ntmps54
      go_wp2
      go_ret
      exact ⟨by first | rfl | (simp; done) | (simp [*]; done), by repeat (first | exact Drawn0.refl _ | apply Drawn0.step)⟩
  · rw [if_neg c2] at H
    have c2b0 : ((Int.tmod a0 4) == 0) = false := beq_eq_false_iff_ne.mpr c2
    have c2b1 : ((Int.tmod a0 4) != 0) = true := bne_iff_ne.mpr c2
    obtain rfl := Option.some.inj H
    go_enter Tryd.func54, Tryd.ntmps54
    go_wp2
    go_ret
    exact ⟨by first | rfl | (simp; done) | (simp [*]; done), by repeat (first | exact Drawn0.refl _ | apply Drawn0.step)⟩

/-! ### calendar_length: function 40: given by hand -/
def calendar_length.f (a0 a1 : Int) : Option Int := if a1 = 2 then (calendar_leap.f a0).bind fun t => (if t = true then some 29 else some 28) else if 1 ≤ a1 ∧ a1 ≤ 12 then some (([31, 28, 31, 30, 31, 30, 31, 31, 30, 31, 30, 31] : List Int).getD (a1.toNat - 1) 0) else none
set_option maxHeartbeats 400000 in
theorem calendar_length.calls (a0 : Int) (a1 : Int) (r : Int) (w : World) (hT_md : Tab_md w) (h : calendar_length.f a0 a1 = some r) :
    Calls Tryd.prog 40 #[.int .i64 a0, .int .i64 a1] w fun e w' => e = .returned (.int .i64 r) ∧ Drawn0 w w' := by
  have hg : Tryd.prog.globalNamed "pairing/calendar.monthDays" = some 0 := by kernel_rfl
  unfold calendar_length.f at h
  split at h
  · rename_i h2
    subst h2
    obtain ⟨t, ht, h⟩ := Option.bind_eq_some_iff.1 h
    have hc := Lib.TabIs.cell hT_md hg 1 (by decide)
    cases t with
    | true =>
      obtain rfl : 29 = r := by simpa using h
      go_enter Tryd.func40, Tryd.ntmps40
      go_wp2_with (go_at_call 54; refine (calendar_leap.calls _ _ _ ht).mono ?_; rintro e w' ⟨rfl, ⟨nd, rfl⟩⟩)
      go_ret
      exact ⟨rfl, by repeat (first | exact Drawn0.refl _ | apply Drawn0.step)⟩
    | false =>
      obtain rfl : 28 = r := by simpa using h
      go_enter Tryd.func40, Tryd.ntmps40
      go_wp2_with (go_at_call 54; refine (calendar_leap.calls _ _ _ ht).mono ?_; rintro e w' ⟨rfl, ⟨nd, rfl⟩⟩)
      go_ret
      exact ⟨rfl, by repeat (first | exact Drawn0.refl _ | apply Drawn0.step)⟩
  · rename_i h2
    split at h
    · rename_i h3
      obtain ⟨h0, h1⟩ := h3
      injection h with h
      have hc := Lib.TabIs.cell hT_md hg (a1.toNat - 1) (by simp; omega)
      have hl : ([31, 28, 31, 30, 31, 30, 31, 31, 30, 31, 30, 31] : List Int).getD (a1.toNat - 1) 0 = r := h
      rw [hl] at hc
      clear hl h
      have hb : (a1 == 2) = false := beq_eq_false_iff_ne.mpr h2
      clear h2
      go_enter Tryd.func40, Tryd.ntmps40
      go_wp2
      go_ret
      exact ⟨rfl, by repeat (first | exact Drawn0.refl _ | apply Drawn0.step)⟩
    · cases h


/-! ### calendar_DaysInMonth: function 13 -/
def calendar_DaysInMonth.f (a0 : Int) (a1 : Int) : Option (Int × Int) := if a0 < 1999 then (some (0, 5)) else (if a0 > 2100 then (some (0, 5)) else (if a1 < 1 then (some (0, 5)) else (if a1 > 12 then (some (0, 5)) else ((calendar_length.f a0 a1).bind fun t102 => (some (t102, 0))))))
set_option maxHeartbeats 8000000 in
set_option maxRecDepth 100000 in
theorem calendar_DaysInMonth.calls (a0 : Int) (a1 : Int) (r1 : Int) (r2 : Int) (w : World) (hT_md : Tab_md w) (h : calendar_DaysInMonth.f a0 a1 = some (r1, r2)) :
    Calls Tryd.prog 13 #[.int .i64 a0, .int .i64 a1] w fun e w' => e = .returned (.tuple #[.int .i64 r1, .int .i64 r2]) ∧ Drawn0 w w' := by
  have H : (if a0 < 1999 then (some (0, 5)) else (if a0 > 2100 then (some (0, 5)) else (if a1 < 1 then (some (0, 5)) else (if a1 > 12 then (some (0, 5)) else ((calendar_length.f a0 a1).bind fun t102 => (some (t102, 0))))))) = some (r1, r2) := h
  clear h
  by_cases c3 : a0 < 1999
  · rw [if_pos c3] at H
    have c3b0 : decide (a0 < 1999) = true := decide_eq_true c3
    clear c3
    simp only [Option.some.injEq, Prod.mk.injEq] at H
    obtain ⟨rfl, rfl⟩ := H
    go_enter Tryd.func13, Tryd.ntmps13
    go_wp2
    go_ret2
    exact ⟨by first | rfl | (simp; done) | (simp [*]; done), by repeat (first | exact Drawn0.refl _ | apply Drawn0.step)⟩
  · rw [if_neg c3] at H
    have c3b0 : decide (a0 < 1999) = false := decide_eq_false c3
    clear c3
    by_cases c4 : a0 > 2100
    · rw [if_pos c4] at H
      have c4b0 : decide (2100 < a0) = true := decide_eq_true c4
      clear c4
      simp only [Option.some.injEq, Prod.mk.injEq] at H
      obtain ⟨rfl, rfl⟩ := H
      go_enter Tryd.func13, Tryd.ntmps13
      go_wp2
      go_ret2
      exact ⟨by first | rfl | (simp; done) | (simp [*]; done), by repeat (first | exact Drawn0.refl _ | apply Drawn0.step)⟩
    · rw [if_neg c4] at H
      have c4b0 : decide (2100 < a0) = false := decide_eq_false c4
      clear c4
      by_cases c5 : a1 < 1
      · rw [if_pos c5] at H
        have c5b0 : decide (a1 < 1) = true := decide_eq_true c5
        clear c5
        simp only [Option.some.injEq, Prod.mk.injEq] at H
        obtain ⟨rfl, rfl⟩ := H
        go_enter Tryd.func13, Tryd.ntmps13
        go_wp2
        go_ret2
        exact ⟨by first | rfl | (simp; done) | (simp [*]; done), by repeat (first | exact Drawn0.refl _ | apply Drawn0.step)⟩
      · rw [if_neg c5] at H
        have c5b0 : decide (a1 < 1) = false := decide_eq_false c5
        clear c5
        by_cases c6 : a1 > 12
        · rw [if_pos c6] at H
          have c6b0 : decide (12 < a1) = true := decide_eq_true c6
          clear c6
          simp only [Option.some.injEq, Prod.mk.injEq] at H
          obtain ⟨rfl, rfl⟩ := H
          go_enter Tryd.func13, Tryd.ntmps13
          go_wp2
          go_ret2
          exact ⟨by first | rfl | (simp; done) | (simp [*]; done), by repeat (first | exact Drawn0.refl _ | apply Drawn0.step)⟩
        · rw [if_neg c6] at H
          have c6b0 : decide (12 < a1) = false := decide_eq_false c6
          clear c6
          replace H := Option.bind_eq_some_iff.mp H
          obtain ⟨t102, A70, H⟩ := H
          replace H : (some (t102, 0)) = some (r1, r2) := H
          have A7 := Aside0.mk A70
          clear A70
          simp only [Option.some.injEq, Prod.mk.injEq] at H
          obtain ⟨rfl, rfl⟩ := H
          go_enter Tryd.func13, Tryd.ntmps13
          go_wp2_with (first | ((with_reducible refine gate_callee (f := 40) rfl ?_); refine goesL_ (some 22) rfl rfl Tryd.func40 (by kernel_rfl) rfl #[.int .i64 a0, .int .i64 a1] rfl (by (try simp only [List.map_toArray, List.map_cons, List.map_nil]); first | done | rfl | (simp only [List.length_drop, List.length_take]; rfl)) ?_; (with_reducible refine (calendar_length.calls a0 a1 t102 _ ?side1 A7.out).mono ?_); (case side1 => first | (with_reducible exact hT_md) | exact Tab_md.drewN hT_md _ | exact Tab_md.drewN (Tab_md.drewN hT_md _) _); rintro e w' ⟨rfl, ⟨nd, rfl⟩⟩; refine ⟨_, rfl, ?_⟩))
          go_ret2
          exact ⟨by first | rfl | (simp; done) | (simp [*]; done), by repeat (first | exact Drawn0.refl _ | apply Drawn0.step)⟩

end Go.Proofs.YtdpkemjbiengfaaDoor.QCal
