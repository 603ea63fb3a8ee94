/- Written by a program (wip/myprint.py): the Go functions that the laws reach, each as a plain Lean function, and a proof that the machine's call answers as that function says. -/
import Derived.Test.YtdpkemjbiengfaaDoorQCal0
import Derived.Test.YtdpkemjbiengfaaDoorQCal19
namespace Go.Proofs.YtdpkemjbiengfaaDoor.QCal
open Go.RowKit Go.Proofs.YtdpkemjbiengfaaDoorW.PrintWords Go.Proofs.YtdpkemjbiengfaaDoorW.PrintLast Go.Proofs.YtdpkemjbiengfaaDoorW.PrintMore
attribute [local go_sem] max2_int min2_int max_two min_two max_three min_three max_four min_four   -- for this text's walks alone
set_option linter.unusedVariables false
set_option linter.unusedSimpArgs false

/-! ### calendar_FormatClock: function 29 -/
def calendar_FormatClock.j0 : Nat → Int → Bool → Option (ByteArray × Int)
  | 0, _, _ => none
  | k + 1, x0, x9 => if x9 = true then (some ((⟨#[]⟩ : ByteArray), 5)) else ((calendar_pad.f k (wrap64 (Int.tdiv x0 60)) 2).bind fun t250 => (if t250.size + 1 ≤ 9223372036854775807 then ((calendar_pad.f k (Int.tmod x0 60) 2).bind fun t251 => (if t250.size + 1 + t251.size ≤ 9223372036854775807 then (some ((t250 ++ (⟨#[58]⟩ : ByteArray)) ++ t251, 0)) else (none))) else (none)))
def calendar_FormatClock.f (k : Nat) (a0 : Int) : Option (ByteArray × Int) := if a0 < 0 then (calendar_FormatClock.j0 k a0 true) else (calendar_FormatClock.j0 k a0 (decide (a0 ≥ 1440)))
theorem calendar_FormatClock.mono_l : ∀ k, (∀ y0 y1, LeO (calendar_FormatClock.j0 k y0 y1) (calendar_FormatClock.j0 (k + 1) y0 y1))
  | 0 => fun _ _ r h => by simp [calendar_FormatClock.j0] at h
  | k + 1 => by
    have ih0 := calendar_FormatClock.mono_l k
    · intro y0 y1
      unfold calendar_FormatClock.j0
      repeat' first
      | (with_reducible exact ih0 _ _)
      | (with_reducible exact calendar_pad.mono _ _ _)
      | (with_reducible exact LeO.refl _)
      | (with_reducible exact LeO.none _)
      | (with_reducible refine LeO.ite ?_ ?_)
      | (with_reducible refine LeO.bind ?_ (fun _ => ?_))
      | exact ih0 _ _
      | exact calendar_pad.mono _ _ _
      | exact LeO.none _
      | refine LeO.ite ?_ ?_
      | refine LeO.bind ?_ (fun _ => ?_)
theorem calendar_FormatClock.mono : ∀ a0 k, LeO (calendar_FormatClock.f k a0) (calendar_FormatClock.f (k + 1) a0) := by
  intro a0 k
  have ih0 := calendar_FormatClock.mono_l k
  unfold calendar_FormatClock.f
  repeat' first
      | (with_reducible exact ih0 _ _)
      | (with_reducible exact calendar_pad.mono _ _ _)
      | (with_reducible exact LeO.refl _)
      | (with_reducible exact LeO.none _)
      | (with_reducible refine LeO.ite ?_ ?_)
      | (with_reducible refine LeO.bind ?_ (fun _ => ?_))
      | exact ih0 _ _
      | exact calendar_pad.mono _ _ _
      | exact LeO.none _
      | refine LeO.ite ?_ ?_
      | refine LeO.bind ?_ (fun _ => ?_)
set_option maxHeartbeats 8000000 in
set_option maxRecDepth 100000 in
theorem calendar_FormatClock.calls (k : Nat) (a0 : Int) (r1 : ByteArray) (r2 : Int) (w : World) (hT_p10 : Tab_p10 w) (h : calendar_FormatClock.f k a0 = some (r1, r2)) :
    Calls Tryd.prog 29 #[.int .i64 a0] w fun e w' => e = .returned (.tuple #[.string r1, .int .i64 r2]) ∧ Below w.heap.size w w' := by
  have HB := Aside0.mk (Below.refl w.heap.size w)
  have H : (if a0 < 0 then (calendar_FormatClock.j0 k a0 true) else (calendar_FormatClock.j0 k a0 (decide (a0 ≥ 1440)))) = some (r1, r2) := h
  clear h
  have HC2 := Aside0.mk H
  clear H
  go_enter Tryd.func29, Tryd.ntmps29
  go_upto_region 1 with (fail)
  go_cut [9] (fun v9 wc => ∃ (kq : Nat) (x9_1 : Bool), v9 = .bool x9_1 ∧ Aside0 (calendar_FormatClock.j0 kq a0 x9_1 = some (r1, r2)) ∧ Aside0 (kq ≤ k) ∧ Aside0 (Below w.heap.size w wc))
  case first =>
    have H := HC2.out
    clear HC2
    by_cases c3 : a0 < 0
    · rw [if_pos c3] at H
      have c3b0 : decide (a0 < 0) = true := decide_eq_true c3
      clear c3
      (first | rw [c3b0] | (simp only [i64_w, i32_w]; rw [c3b0]) | skip)
      have H' := Aside0.mk H
      clear H
      go_wp2
      go_meet
      case rel => exact ⟨_, (true), (by first | rfl | (simp; done) | (simp [*]; done)), H', ⟨by first | omega | exact Nat.le_refl _⟩, ⟨by repeat (first | (with_reducible first | exact HB.out | apply below_alloc | apply pw_below_drewN | apply below_drew1) | exact HB.out)⟩⟩
    · rw [if_neg c3] at H
      have c3b0 : decide (a0 < 0) = false := decide_eq_false c3
      clear c3
      (first | rw [c3b0] | (simp only [i64_w, i32_w]; rw [c3b0]) | skip)
      have H' := Aside0.mk H
      clear H
      go_wp2
      go_meet
      case rel => exact ⟨_, (decide (a0 ≥ 1440)), (by first | rfl | (simp; done) | (simp [*]; done)), H', ⟨by first | omega | exact Nat.le_refl _⟩, ⟨by repeat (first | (with_reducible first | exact HB.out | apply below_alloc | apply pw_below_drewN | apply below_drew1) | exact HB.out)⟩⟩
  case rest =>
    clear HC2
    try clear c2
    try clear p2
    try clear c3
    try clear c3b0
    obtain ⟨kq, x9_1, rfl, HA, HJ1, HB⟩ := hcut
    cases kq with
    | zero => exact absurd HA.out (by simp [calendar_FormatClock.j0])
    | succ kj1 =>
      have H := HA.out
      clear HA
      simp only [calendar_FormatClock.j0] at H
      by_cases c4 : x9_1 = true
      · subst c4
        have H1 : (some ((⟨#[]⟩ : ByteArray), 5)) = some (r1, r2) := by rw [if_pos rfl] at H; exact H
        clear H
        have H := H1
        clear H1
        simp only [Option.some.injEq, Prod.mk.injEq] at H
        obtain ⟨rfl, rfl⟩ := H
        go_wp2
        go_ret2
        exact ⟨by first | rfl | (simp [errW_none, errW_some] <;> rfl) | (simp [*, errW_none, errW_some] <;> rfl), by repeat (first | (with_reducible first | exact HB.out | apply below_alloc | apply pw_below_drewN | apply below_drew1) | exact HB.out)⟩
      · replace c4 := Bool.eq_false_iff.mpr c4
        subst c4
        have H1 : ((calendar_pad.f kj1 (wrap64 (Int.tdiv a0 60)) 2).bind fun t250 => (if t250.size + 1 ≤ 9223372036854775807 then ((calendar_pad.f kj1 (Int.tmod a0 60) 2).bind fun t251 => (if t250.size + 1 + t251.size ≤ 9223372036854775807 then (some ((t250 ++ (⟨#[58]⟩ : ByteArray)) ++ t251, 0)) else (none))) else (none))) = some (r1, r2) := by rw [if_neg (show ¬ (false = true) by decide)] at H; exact H
        clear H
        have H := H1
        clear H1
        replace H := Option.bind_eq_some_iff.mp H
        obtain ⟨t250, A50, H⟩ := H
        replace H : (if t250.size + 1 ≤ 9223372036854775807 then ((calendar_pad.f kj1 (Int.tmod a0 60) 2).bind fun t251 => (if t250.size + 1 + t251.size ≤ 9223372036854775807 then (some ((t250 ++ (⟨#[58]⟩ : ByteArray)) ++ t251, 0)) else (none))) else (none)) = some (r1, r2) := H
        have A5 := Aside0.mk A50
        clear A50
        by_cases c6 : t250.size + 1 ≤ 9223372036854775807
        · rw [if_pos c6] at H
          have c6b0 := eq_true c6
          have c6b1 : decide (t250.size + 1 ≤ 9223372036854775807) = true := decide_eq_true c6
          try have c6b2 : (9223372036854775807 < t250.size + 1) = False := eq_false (Nat.not_lt.2 c6)
          replace H := Option.bind_eq_some_iff.mp H
          obtain ⟨t251, A70, H⟩ := H
          replace H : (if t250.size + 1 + t251.size ≤ 9223372036854775807 then (some ((t250 ++ (⟨#[58]⟩ : ByteArray)) ++ t251, 0)) else (none)) = some (r1, r2) := H
          have A7 := Aside0.mk A70
          clear A70
          by_cases c8 : t250.size + 1 + t251.size ≤ 9223372036854775807
          · rw [if_pos c8] at H
            have c8b0 := eq_true c8
            have c8b1 : decide (t250.size + 1 + t251.size ≤ 9223372036854775807) = true := decide_eq_true c8
            try have c8b2 : (9223372036854775807 < t250.size + 1 + t251.size) = False := eq_false (Nat.not_lt.2 c8)
            simp only [Option.some.injEq, Prod.mk.injEq] at H
            obtain ⟨rfl, rfl⟩ := H
            go_wp2_with (first | ((with_reducible refine gate_callee (f := 47) rfl ?_); refine goesL_ (some 12) rfl rfl Tryd.func47 (by kernel_rfl) rfl #[.int .i64 (wrap64 (Int.tdiv a0 60)), .int .i64 2] rfl (by (try simp only [List.map_toArray, List.map_cons, List.map_nil]); first | done | rfl | (simp only [List.length_drop, List.length_take]; rfl)) ?_; (with_reducible refine (calendar_pad.calls kj1 (wrap64 (Int.tdiv a0 60)) 2 t250 _ ?side1 A5.out).mono ?_); (case side1 => first | (with_reducible exact hT_p10) | exact Tab_p10.below hT_p10 (by repeat (first | (with_reducible first | exact HB.out | apply below_alloc | apply pw_below_drewN | apply below_drew1) | exact HB.out))); rintro e w9 ⟨rfl, hb⟩; refine ⟨_, rfl, ?_⟩; have n0_ := Aside0.mk (below_step (by repeat (first | (with_reducible first | exact HB.out | apply below_alloc | apply pw_below_drewN | apply below_drew1) | exact HB.out)) hb); clear HB; have HB := n0_; clear n0_; (try clear hb); (try clear hb2); (try clear hk); (try clear hi)) | ((with_reducible refine gate_callee (f := 47) rfl ?_); refine goesL_ (some 16) rfl rfl Tryd.func47 (by kernel_rfl) rfl #[.int .i64 (Int.tmod a0 60), .int .i64 2] rfl (by (try simp only [List.map_toArray, List.map_cons, List.map_nil]); first | done | rfl | (simp only [List.length_drop, List.length_take]; rfl)) ?_; (with_reducible refine (calendar_pad.calls kj1 (Int.tmod a0 60) 2 t251 _ ?side1 A7.out).mono ?_); (case side1 => first | (with_reducible exact hT_p10) | exact Tab_p10.below hT_p10 (by repeat (first | (with_reducible first | exact HB.out | apply below_alloc | apply pw_below_drewN | apply below_drew1) | exact HB.out))); rintro e w10 ⟨rfl, hb⟩; refine ⟨_, rfl, ?_⟩; have n0_ := Aside0.mk (below_step (by repeat (first | (with_reducible first | exact HB.out | apply below_alloc | apply pw_below_drewN | apply below_drew1) | exact HB.out)) hb); clear HB; have HB := n0_; clear n0_; (try clear hb); (try clear hb2); (try clear hk); (try clear hi)))
            go_ret2
            exact ⟨by first | rfl | (simp [errW_none, errW_some] <;> rfl) | (simp [*, errW_none, errW_some] <;> rfl), by repeat (first | (with_reducible first | exact HB.out | apply below_alloc | apply pw_below_drewN | apply below_drew1) | exact HB.out)⟩
          · rw [if_neg c8] at H
            exact absurd H (by simp)
        · rw [if_neg c6] at H
          exact absurd H (by simp)

end Go.Proofs.YtdpkemjbiengfaaDoor.QCal
