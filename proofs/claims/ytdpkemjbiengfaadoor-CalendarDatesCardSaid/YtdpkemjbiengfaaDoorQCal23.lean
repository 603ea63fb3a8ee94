/- Written by a program (wip/myprint.py): the Go functions that the laws reach, each as a plain Lean function, and a proof that the machine's call answers as that function says. -/
import Derived.Test.YtdpkemjbiengfaaDoorQCal0
import Derived.Test.YtdpkemjbiengfaaDoorQCal15
namespace Go.Proofs.YtdpkemjbiengfaaDoor.QCal
open Go.RowKit Go.Proofs.YtdpkemjbiengfaaDoorW.PrintWords Go.Proofs.YtdpkemjbiengfaaDoorW.PrintLast Go.Proofs.YtdpkemjbiengfaaDoorW.PrintMore
attribute [local go_sem] max2_int min2_int max_two min_two max_three min_three max_four min_four   -- for this text's walks alone
set_option linter.unusedVariables false
set_option linter.unusedSimpArgs false

/-! ### calendar_ParseClock: function 27 -/
mutual
def calendar_ParseClock.j0 : Nat → ByteArray → Bool → Option (Int × Int)
  | 0, _, _ => none
  | k + 1, x0, x15 => if x15 = true then (some (0, 1)) else (if 0 ≤ 2 then (if 2 ≤ (x0.size : Int) then ((calendar_number.f k (x0.extract 0 2)).bind fun bt242 => (if 3 ≤ (x0.size : Int) then ((calendar_number.f k (x0.extract 3 x0.size)).bind fun bt244 => (if bt242.2 = true then (calendar_ParseClock.j1 k bt242.1 bt244.1 (!bt244.2)) else (calendar_ParseClock.j1 k bt242.1 bt244.1 true))) else (none))) else (none)) else (none))
def calendar_ParseClock.j1 : Nat → Int → Int → Bool → Option (Int × Int)
  | 0, _, _, _ => none
  | k + 1, x4, x6, x28 => if x28 = true then (some (0, 1)) else (if x4 > 23 then (some (0, 5)) else (if x6 > 59 then (some (0, 5)) else (some (wrap64 ((wrap64 (60 * x4)) + x6), 0))))
end
def calendar_ParseClock.f (k : Nat) (a0 : ByteArray) : Option (Int × Int) := if (a0.size : Int) = 5 then (if 2 < (a0.size : Int) then (calendar_ParseClock.j0 k a0 ((bt a0 2) != 58)) else (none)) else (calendar_ParseClock.j0 k a0 true)
theorem calendar_ParseClock.mono_l : ∀ k, (∀ y0 y1, LeO (calendar_ParseClock.j0 k y0 y1) (calendar_ParseClock.j0 (k + 1) y0 y1)) ∧ (∀ y0 y1 y2, LeO (calendar_ParseClock.j1 k y0 y1 y2) (calendar_ParseClock.j1 (k + 1) y0 y1 y2))
  | 0 => ⟨fun _ _ r h => by simp [calendar_ParseClock.j0] at h, fun _ _ _ r h => by simp [calendar_ParseClock.j1] at h⟩
  | k + 1 => by
    obtain ⟨ih0, ih1⟩ := calendar_ParseClock.mono_l k
    refine ⟨?_, ?_⟩
    · intro y0 y1
      unfold calendar_ParseClock.j0
      repeat' first
      | (with_reducible exact ih0 _ _)
      | (with_reducible exact ih1 _ _ _)
      | (with_reducible exact calendar_number.mono _ _)
      | (with_reducible exact LeO.refl _)
      | (with_reducible exact LeO.none _)
      | (with_reducible refine LeO.ite ?_ ?_)
      | (with_reducible refine LeO.bind ?_ (fun _ => ?_))
      | exact ih0 _ _
      | exact ih1 _ _ _
      | exact calendar_number.mono _ _
      | exact LeO.none _
      | refine LeO.ite ?_ ?_
      | refine LeO.bind ?_ (fun _ => ?_)
    · intro y0 y1 y2
      unfold calendar_ParseClock.j1
      repeat' first
      | (with_reducible exact ih0 _ _)
      | (with_reducible exact ih1 _ _ _)
      | (with_reducible exact calendar_number.mono _ _)
      | (with_reducible exact LeO.refl _)
      | (with_reducible exact LeO.none _)
      | (with_reducible refine LeO.ite ?_ ?_)
      | (with_reducible refine LeO.bind ?_ (fun _ => ?_))
      | exact ih0 _ _
      | exact ih1 _ _ _
      | exact calendar_number.mono _ _
      | exact LeO.none _
      | refine LeO.ite ?_ ?_
      | refine LeO.bind ?_ (fun _ => ?_)
theorem calendar_ParseClock.mono : ∀ a0 k, LeO (calendar_ParseClock.f k a0) (calendar_ParseClock.f (k + 1) a0) := by
  intro a0 k
  obtain ⟨ih0, ih1⟩ := calendar_ParseClock.mono_l k
  unfold calendar_ParseClock.f
  repeat' first
      | (with_reducible exact ih0 _ _)
      | (with_reducible exact ih1 _ _ _)
      | (with_reducible exact calendar_number.mono _ _)
      | (with_reducible exact LeO.refl _)
      | (with_reducible exact LeO.none _)
      | (with_reducible refine LeO.ite ?_ ?_)
      | (with_reducible refine LeO.bind ?_ (fun _ => ?_))
      | exact ih0 _ _
      | exact ih1 _ _ _
      | exact calendar_number.mono _ _
      | exact LeO.none _
      | refine LeO.ite ?_ ?_
      | refine LeO.bind ?_ (fun _ => ?_)
set_option maxHeartbeats 8000000 in
set_option maxRecDepth 100000 in
theorem calendar_ParseClock.calls (k : Nat) (a0 : ByteArray) (r1 : Int) (r2 : Int) (w : World) (h : calendar_ParseClock.f k a0 = some (r1, r2)) :
    Calls Tryd.prog 27 #[.string a0] w fun e w' => e = .returned (.tuple #[.int .i64 r1, .int .i64 r2]) ∧ Drawn0 w w' := by
  have H : (if (a0.size : Int) = 5 then (if 2 < (a0.size : Int) then (calendar_ParseClock.j0 k a0 ((bt a0 2) != 58)) else (none)) else (calendar_ParseClock.j0 k a0 true)) = some (r1, r2) := h
  clear h
  have HC2 := Aside0.mk H
  clear H
  go_enter Tryd.func27, Tryd.ntmps27
  go_upto_region 1 with (fail)
  go_cut [15] (fun v15 wc => ∃ (kq : Nat) (x15_1 : Bool), v15 = .bool x15_1 ∧ Aside0 (calendar_ParseClock.j0 kq a0 x15_1 = some (r1, r2)) ∧ Aside0 (kq ≤ k) ∧ Drawn0 w wc)
  case first =>
    have H := HC2.out
    clear HC2
    by_cases c3 : (a0.size : Int) = 5
    · rw [if_pos c3] at H
      have c3b0 : ((a0.size : Int) == 5) = true := beq_iff_eq.mpr c3
      have c3b1 : ((a0.size : Int) != 5) = false := bne_eq_false_iff_eq.mpr c3
      clear c3
      (first | rw [c3b0] | (simp only [i64_w, i32_w]; rw [c3b0]) | skip)
      by_cases c4 : 2 < (a0.size : Int)
      · rw [if_pos c4] at H
        have c4b0 : decide (2 < (a0.size : Int)) = true := decide_eq_true c4
        have c4b1 : decide (2 < a0.size) = true := decide_eq_true (by omega)
        clear c4
        have H' := Aside0.mk H
        clear H
        have p5 : 0 ≤ (2 : Int) := (by omega)
        have q5 : 2 < a0.size := (by have : (2 : Int) < (a0.size : Int) := of_decide_eq_true (by first | (with_reducible assumption) | assumption); omega)
        have hx5 : ∀ h : 2 < a0.size, ((a0[2]'h).toNat : Int) = bt a0 2 := bt_at a0 2
        clear p5
        have qi5 : (2 < (a0.size : Int)) = True := eq_true (of_decide_eq_true (by first | (with_reducible assumption) | assumption))
        replace q5 := eq_true q5
        go_wp2
        go_meet
        case rel => exact ⟨_, (((bt a0 2) != 58)), (by first | rfl | (simp; done) | (simp [*]; done)), H', ⟨by first | omega | exact Nat.le_refl _⟩, by repeat (first | exact Drawn0.refl _ | apply Drawn0.step)⟩
      · rw [if_neg c4] at H
        exact absurd H (by simp)
    · rw [if_neg c3] at H
      have c3b0 : ((a0.size : Int) == 5) = false := beq_eq_false_iff_ne.mpr c3
      have c3b1 : ((a0.size : Int) != 5) = true := bne_iff_ne.mpr c3
      (first | rw [c3b0] | (simp only [i64_w, i32_w]; rw [c3b0]) | skip)
      have H' := Aside0.mk H
      clear H
      go_wp2
      go_meet
      case rel => exact ⟨_, (true), (by first | rfl | (simp; done) | (simp [*]; done)), H', ⟨by first | omega | exact Nat.le_refl _⟩, by repeat (first | exact Drawn0.refl _ | apply Drawn0.step)⟩
  case rest =>
    clear HC2
    try clear c2
    try clear p2
    try clear c3
    try clear c3b0
    try clear c3b1
    try clear c4
    try clear c4b0
    try clear c4b1
    try clear p5
    try clear q5
    try clear hx5
    try clear qi5
    try clear p5
    try clear q5
    obtain ⟨kq, x15_1, rfl, HA, HJ1, ⟨mc1, rfl⟩⟩ := hcut
    cases kq with
    | zero => exact absurd HA.out (by simp [calendar_ParseClock.j0])
    | succ kj1 =>
      have H := HA.out
      clear HA
      simp only [calendar_ParseClock.j0] at H
      by_cases c6 : x15_1 = true
      · subst c6
        have H1 : (some (0, 1)) = some (r1, r2) := by rw [if_pos rfl] at H; exact H
        clear H
        have H := H1
        clear H1
        simp only [Option.some.injEq, Prod.mk.injEq] at H
        obtain ⟨rfl, rfl⟩ := H
        go_wp2
        go_ret2
        exact ⟨by first | rfl | (simp; done) | (simp [*]; done), by repeat (first | exact Drawn0.refl _ | apply Drawn0.step)⟩
      · replace c6 := Bool.eq_false_iff.mpr c6
        subst c6
        have H1 : (if 0 ≤ 2 then (if 2 ≤ (a0.size : Int) then ((calendar_number.f kj1 (a0.extract 0 2)).bind fun bt242 => (if 3 ≤ (a0.size : Int) then ((calendar_number.f kj1 (a0.extract 3 a0.size)).bind fun bt244 => (if bt242.2 = true then (calendar_ParseClock.j1 kj1 bt242.1 bt244.1 (!bt244.2)) else (calendar_ParseClock.j1 kj1 bt242.1 bt244.1 true))) else (none))) else (none)) else (none)) = some (r1, r2) := by rw [if_neg (show ¬ (false = true) by decide)] at H; exact H
        clear H
        have H := H1
        clear H1
        by_cases c7 : 0 ≤ 2
        · rw [if_pos c7] at H
          have c7b0 := eq_true c7
          have c7b1 : decide (0 ≤ 2) = true := decide_eq_true c7
          clear c7
          by_cases c8 : 2 ≤ (a0.size : Int)
          · rw [if_pos c8] at H
            have c8b0 := eq_true c8
            have c8b1 : decide (2 ≤ (a0.size : Int)) = true := decide_eq_true c8
            clear c8
            replace H := Option.bind_eq_some_iff.mp H
            obtain ⟨⟨t242, t243⟩, A90, H⟩ := H
            replace H : (if 3 ≤ (a0.size : Int) then ((calendar_number.f kj1 (a0.extract 3 a0.size)).bind fun bt244 => (if t243 = true then (calendar_ParseClock.j1 kj1 t242 bt244.1 (!bt244.2)) else (calendar_ParseClock.j1 kj1 t242 bt244.1 true))) else (none)) = some (r1, r2) := H
            have A9 := Aside0.mk A90
            clear A90
            by_cases c10 : 3 ≤ (a0.size : Int)
            · rw [if_pos c10] at H
              have c10b0 := eq_true c10
              have c10b1 : decide (3 ≤ (a0.size : Int)) = true := decide_eq_true c10
              clear c10
              replace H := Option.bind_eq_some_iff.mp H
              obtain ⟨⟨t244, t245⟩, A110, H⟩ := H
              replace H : (if t243 = true then (calendar_ParseClock.j1 kj1 t242 t244 (!t245)) else (calendar_ParseClock.j1 kj1 t242 t244 true)) = some (r1, r2) := H
              have A11 := Aside0.mk A110
              clear A110
              have HC12 := Aside0.mk H
              clear H
              go_upto_region 5 with (first | ((with_reducible refine gate_callee (f := 45) rfl ?_); refine goesL_ (some 19) rfl rfl Tryd.func45 (by kernel_rfl) rfl #[.string (a0.extract 0 2)] rfl (by (try simp only [List.map_toArray, List.map_cons, List.map_nil]); first | done | rfl | (simp only [List.length_drop, List.length_take]; rfl)) ?_; (with_reducible refine (calendar_number.calls kj1 (a0.extract 0 2) t242 t243 _ A9.out).mono ?_); rintro e w' ⟨rfl, ⟨nd, rfl⟩⟩; refine ⟨_, rfl, ?_⟩) | ((with_reducible refine gate_callee (f := 45) rfl ?_); refine goesL_ (some 25) rfl rfl Tryd.func45 (by kernel_rfl) rfl #[.string (a0.extract 3 a0.size)] rfl (by (try simp only [List.map_toArray, List.map_cons, List.map_nil]); first | done | rfl | (simp only [List.length_drop, List.length_take]; rfl)) ?_; (with_reducible refine (calendar_number.calls kj1 (a0.extract 3 a0.size) t244 t245 _ A11.out).mono ?_); rintro e w' ⟨rfl, ⟨nd, rfl⟩⟩; refine ⟨_, rfl, ?_⟩))
              (try simp only [Act.put, List.setIfInBounds_toArray, List.set_cons_zero, List.set_cons_succ])
              go_cut [28] (fun v28 wc => ∃ (kq : Nat) (x28_11 : Bool), v28 = .bool x28_11 ∧ Aside0 (calendar_ParseClock.j1 kq t242 t244 x28_11 = some (r1, r2)) ∧ Aside0 (kq ≤ kj1) ∧ Drawn0 w wc)
              case first =>
                have H := HC12.out
                clear HC12
                by_cases c13 : t243 = true
                · subst c13
                  have H1 : (calendar_ParseClock.j1 kj1 t242 t244 (!t245)) = some (r1, r2) := by rw [if_pos rfl] at H; exact H
                  clear H
                  have H := H1
                  clear H1
                  have H' := Aside0.mk H
                  clear H
                  go_wp2
                  go_meet
                  case rel => exact ⟨_, (!t245), (by first | rfl | (simp; done) | (simp [*]; done)), H', ⟨by have := HJ1.out; first | omega | exact Nat.le_refl _⟩, by repeat (first | exact Drawn0.refl _ | apply Drawn0.step)⟩
                · replace c13 := Bool.eq_false_iff.mpr c13
                  subst c13
                  have H1 : (calendar_ParseClock.j1 kj1 t242 t244 true) = some (r1, r2) := by rw [if_neg (show ¬ (false = true) by decide)] at H; exact H
                  clear H
                  have H := H1
                  clear H1
                  have H' := Aside0.mk H
                  clear H
                  go_wp2
                  go_meet
                  case rel => exact ⟨_, (true), (by first | rfl | (simp; done) | (simp [*]; done)), H', ⟨by have := HJ1.out; first | omega | exact Nat.le_refl _⟩, by repeat (first | exact Drawn0.refl _ | apply Drawn0.step)⟩
              case rest =>
                clear HC12
                try clear c1
                try clear c2
                try clear p2
                try clear c3
                try clear c3b0
                try clear c3b1
                try clear c4
                try clear c4b0
                try clear c4b1
                try clear p5
                try clear q5
                try clear hx5
                try clear qi5
                try clear c6
                try clear c7
                try clear c7b0
                try clear c7b1
                try clear c8
                try clear c8b0
                try clear c8b1
                try clear c10
                try clear c10b0
                try clear c10b1
                try clear c13
                try clear p2
                try clear p5
                try clear q5
                obtain ⟨kq, x28_11, rfl, HA, HJ11, ⟨mc11, rfl⟩⟩ := hcut
                cases kq with
                | zero => exact absurd HA.out (by simp [calendar_ParseClock.j1])
                | succ kj11 =>
                  have H := HA.out
                  clear HA
                  simp only [calendar_ParseClock.j1] at H
                  by_cases c14 : x28_11 = true
                  · subst c14
                    have H1 : (some (0, 1)) = some (r1, r2) := by rw [if_pos rfl] at H; exact H
                    clear H
                    have H := H1
                    clear H1
                    simp only [Option.some.injEq, Prod.mk.injEq] at H
                    obtain ⟨rfl, rfl⟩ := H
                    go_wp2
                    go_ret2
                    exact ⟨by first | rfl | (simp; done) | (simp [*]; done), by repeat (first | exact Drawn0.refl _ | apply Drawn0.step)⟩
                  · replace c14 := Bool.eq_false_iff.mpr c14
                    subst c14
                    have H1 : (if t242 > 23 then (some (0, 5)) else (if t244 > 59 then (some (0, 5)) else (some (wrap64 ((wrap64 (60 * t242)) + t244), 0)))) = some (r1, r2) := by rw [if_neg (show ¬ (false = true) by decide)] at H; exact H
                    clear H
                    have H := H1
                    clear H1
                    by_cases c15 : t242 > 23
                    · rw [if_pos c15] at H
                      have c15b0 : decide (23 < t242) = true := decide_eq_true c15
                      clear c15
                      simp only [Option.some.injEq, Prod.mk.injEq] at H
                      obtain ⟨rfl, rfl⟩ := H
                      go_wp2
                      go_ret2
                      exact ⟨by first | rfl | (simp; done) | (simp [*]; done), by repeat (first | exact Drawn0.refl _ | apply Drawn0.step)⟩
                    · rw [if_neg c15] at H
                      have c15b0 : decide (23 < t242) = false := decide_eq_false c15
                      clear c15
                      by_cases c16 : t244 > 59
                      · rw [if_pos c16] at H
                        have c16b0 : decide (59 < t244) = true := decide_eq_true c16
                        clear c16
                        simp only [Option.some.injEq, Prod.mk.injEq] at H
                        obtain ⟨rfl, rfl⟩ := H
                        go_wp2
                        go_ret2
                        exact ⟨by first | rfl | (simp; done) | (simp [*]; done), by repeat (first | exact Drawn0.refl _ | apply Drawn0.step)⟩
                      · rw [if_neg c16] at H
                        have c16b0 : decide (59 < t244) = false := decide_eq_false c16
                        clear c16
                        simp only [Option.some.injEq, Prod.mk.injEq] at H
                        obtain ⟨rfl, rfl⟩ := H
                        go_wp2
                        go_ret2
                        exact ⟨by first | rfl | (simp; done) | (simp [*]; done), by repeat (first | exact Drawn0.refl _ | apply Drawn0.step)⟩
            · rw [if_neg c10] at H
              exact absurd H (by simp)
          · rw [if_neg c8] at H
            exact absurd H (by simp)
        · rw [if_neg c7] at H
          exact absurd H (by simp)

end Go.Proofs.YtdpkemjbiengfaaDoor.QCal
