/- Written by a program (wip/myprint.py): the Go functions that the laws reach, each as a plain Lean function, and a proof that the machine's call answers as that function says. -/
import Derived.Test.YtdpkemjbiengfaaDoorQCal0
import Derived.Test.YtdpkemjbiengfaaDoorQCal4
import Derived.Test.YtdpkemjbiengfaaDoorQCal19
namespace Go.Proofs.YtdpkemjbiengfaaDoor.QCal
open Go.RowKit Go.Proofs.YtdpkemjbiengfaaDoorW.PrintWords Go.Proofs.YtdpkemjbiengfaaDoorW.PrintLast Go.Proofs.YtdpkemjbiengfaaDoorW.PrintMore
attribute [local go_sem] max2_int min2_int max_two min_two max_three min_three max_four min_four   -- for this text's walks alone
set_option linter.unusedVariables false
set_option linter.unusedSimpArgs false

/-! ### pairinglaw6_CalendarDurations: function 9 -/
def pairinglaw6_CalendarDurations.j0 : Nat → Int → ByteArray → Int → Bool → Option (Bool)
  | 0, _, _, _, _ => none
  | k + 1, x1, x9, x10, x52 => if x52 = true then (some false) else (if x10 = 0 then ((calendar_ParseDuration.f k x9).bind fun bt377 => (if bt377.2 = 0 then (if bt377.1 = x1 then ((pairinglaw6_awake.f k).bind fun t379 => (some t379)) else (some false)) else (some false))) else ((pairinglaw6_awake.f k).bind fun t380 => (some t380)))
def pairinglaw6_CalendarDurations.f (k : Nat) (a0 : ByteArray) (a1 : Int) : Option (Bool) := (calendar_ParseDuration.f k a0).bind fun bt369 => ((pairingref5_ParseDuration.f k a0).bind fun bt371 => ((calendar_FormatDuration.f k a1).bind fun bt373 => ((pairingref5_FormatDuration.f k a1).bind fun bt375 => (if bt369.2 = bt371.2 then (if bt369.1 = bt371.1 then (if bt373.2 = bt375.2 then (pairinglaw6_CalendarDurations.j0 k a1 bt373.1 bt373.2 (bt373.1.toList != bt375.1.toList)) else (pairinglaw6_CalendarDurations.j0 k a1 bt373.1 bt373.2 true)) else (pairinglaw6_CalendarDurations.j0 k a1 bt373.1 bt373.2 true)) else (pairinglaw6_CalendarDurations.j0 k a1 bt373.1 bt373.2 true)))))
theorem pairinglaw6_CalendarDurations.mono_l : ∀ k, (∀ y0 y1 y2 y3, LeO (pairinglaw6_CalendarDurations.j0 k y0 y1 y2 y3) (pairinglaw6_CalendarDurations.j0 (k + 1) y0 y1 y2 y3))
  | 0 => fun _ _ _ _ r h => by simp [pairinglaw6_CalendarDurations.j0] at h
  | k + 1 => by
    have ih0 := pairinglaw6_CalendarDurations.mono_l k
    · intro y0 y1 y2 y3
      unfold pairinglaw6_CalendarDurations.j0
      repeat' first
      | (with_reducible exact ih0 _ _ _ _)
      | (with_reducible exact calendar_FormatDuration.mono _ _)
      | (with_reducible exact calendar_ParseDuration.mono _ _)
      | (with_reducible exact pairinglaw6_awake.mono _)
      | (with_reducible exact pairingref5_FormatDuration.mono _ _)
      | (with_reducible exact pairingref5_ParseDuration.mono _ _)
      | (with_reducible exact LeO.refl _)
      | (with_reducible exact LeO.none _)
      | (with_reducible refine LeO.ite ?_ ?_)
      | (with_reducible refine LeO.bind ?_ (fun _ => ?_))
      | exact ih0 _ _ _ _
      | exact calendar_FormatDuration.mono _ _
      | exact calendar_ParseDuration.mono _ _
      | exact pairinglaw6_awake.mono _
      | exact pairingref5_FormatDuration.mono _ _
      | exact pairingref5_ParseDuration.mono _ _
      | exact LeO.none _
      | refine LeO.ite ?_ ?_
      | refine LeO.bind ?_ (fun _ => ?_)
theorem pairinglaw6_CalendarDurations.mono : ∀ a0 a1 k, LeO (pairinglaw6_CalendarDurations.f k a0 a1) (pairinglaw6_CalendarDurations.f (k + 1) a0 a1) := by
  intro a0 a1 k
  have ih0 := pairinglaw6_CalendarDurations.mono_l k
  unfold pairinglaw6_CalendarDurations.f
  repeat' first
      | (with_reducible exact ih0 _ _ _ _)
      | (with_reducible exact calendar_FormatDuration.mono _ _)
      | (with_reducible exact calendar_ParseDuration.mono _ _)
      | (with_reducible exact pairinglaw6_awake.mono _)
      | (with_reducible exact pairingref5_FormatDuration.mono _ _)
      | (with_reducible exact pairingref5_ParseDuration.mono _ _)
      | (with_reducible exact LeO.refl _)
      | (with_reducible exact LeO.none _)
      | (with_reducible refine LeO.ite ?_ ?_)
      | (with_reducible refine LeO.bind ?_ (fun _ => ?_))
      | exact ih0 _ _ _ _
      | exact calendar_FormatDuration.mono _ _
      | exact calendar_ParseDuration.mono _ _
      | exact pairinglaw6_awake.mono _
      | exact pairingref5_FormatDuration.mono _ _
      | exact pairingref5_ParseDuration.mono _ _
      | exact LeO.none _
      | refine LeO.ite ?_ ?_
      | refine LeO.bind ?_ (fun _ => ?_)
set_option maxHeartbeats 8000000 in
set_option maxRecDepth 100000 in
theorem pairinglaw6_CalendarDurations.calls (k : Nat) (a0 : ByteArray) (a1 : Int) (r : Bool) (w : World) (hT_md : Tab_md w) (hT_p10 : Tab_p10 w) (h : pairinglaw6_CalendarDurations.f k a0 a1 = some r) :
    Calls Tryd.prog 9 #[.string a0, .int .i64 a1] w fun e w' => e = .returned (.bool r) ∧ Below w.heap.size w w' := by
  have HB := Aside0.mk (Below.refl w.heap.size w)
  have H : ((calendar_ParseDuration.f k a0).bind fun bt369 => ((pairingref5_ParseDuration.f k a0).bind fun bt371 => ((calendar_FormatDuration.f k a1).bind fun bt373 => ((pairingref5_FormatDuration.f k a1).bind fun bt375 => (if bt369.2 = bt371.2 then (if bt369.1 = bt371.1 then (if bt373.2 = bt375.2 then (pairinglaw6_CalendarDurations.j0 k a1 bt373.1 bt373.2 (bt373.1.toList != bt375.1.toList)) else (pairinglaw6_CalendarDurations.j0 k a1 bt373.1 bt373.2 true)) else (pairinglaw6_CalendarDurations.j0 k a1 bt373.1 bt373.2 true)) else (pairinglaw6_CalendarDurations.j0 k a1 bt373.1 bt373.2 true)))))) = some r := h
  clear h
  replace H := Option.bind_eq_some_iff.mp H
  obtain ⟨⟨t369, t370⟩, A30, H⟩ := H
  replace H : ((pairingref5_ParseDuration.f k a0).bind fun bt371 => ((calendar_FormatDuration.f k a1).bind fun bt373 => ((pairingref5_FormatDuration.f k a1).bind fun bt375 => (if t370 = bt371.2 then (if t369 = bt371.1 then (if bt373.2 = bt375.2 then (pairinglaw6_CalendarDurations.j0 k a1 bt373.1 bt373.2 (bt373.1.toList != bt375.1.toList)) else (pairinglaw6_CalendarDurations.j0 k a1 bt373.1 bt373.2 true)) else (pairinglaw6_CalendarDurations.j0 k a1 bt373.1 bt373.2 true)) else (pairinglaw6_CalendarDurations.j0 k a1 bt373.1 bt373.2 true))))) = some r := H
  have A3 := Aside0.mk A30
  clear A30
  replace H := Option.bind_eq_some_iff.mp H
  obtain ⟨⟨t371, t372⟩, A40, H⟩ := H
  replace H : ((calendar_FormatDuration.f k a1).bind fun bt373 => ((pairingref5_FormatDuration.f k a1).bind fun bt375 => (if t370 = t372 then (if t369 = t371 then (if bt373.2 = bt375.2 then (pairinglaw6_CalendarDurations.j0 k a1 bt373.1 bt373.2 (bt373.1.toList != bt375.1.toList)) else (pairinglaw6_CalendarDurations.j0 k a1 bt373.1 bt373.2 true)) else (pairinglaw6_CalendarDurations.j0 k a1 bt373.1 bt373.2 true)) else (pairinglaw6_CalendarDurations.j0 k a1 bt373.1 bt373.2 true)))) = some r := H
  have A4 := Aside0.mk A40
  clear A40
  replace H := Option.bind_eq_some_iff.mp H
  obtain ⟨⟨t373, t374⟩, A50, H⟩ := H
  replace H : ((pairingref5_FormatDuration.f k a1).bind fun bt375 => (if t370 = t372 then (if t369 = t371 then (if t374 = bt375.2 then (pairinglaw6_CalendarDurations.j0 k a1 t373 t374 (t373.toList != bt375.1.toList)) else (pairinglaw6_CalendarDurations.j0 k a1 t373 t374 true)) else (pairinglaw6_CalendarDurations.j0 k a1 t373 t374 true)) else (pairinglaw6_CalendarDurations.j0 k a1 t373 t374 true))) = some r := H
  have A5 := Aside0.mk A50
  clear A50
  replace H := Option.bind_eq_some_iff.mp H
  obtain ⟨⟨t375, t376⟩, A60, H⟩ := H
  replace H : (if t370 = t372 then (if t369 = t371 then (if t374 = t376 then (pairinglaw6_CalendarDurations.j0 k a1 t373 t374 (t373.toList != t375.toList)) else (pairinglaw6_CalendarDurations.j0 k a1 t373 t374 true)) else (pairinglaw6_CalendarDurations.j0 k a1 t373 t374 true)) else (pairinglaw6_CalendarDurations.j0 k a1 t373 t374 true)) = some r := H
  have A6 := Aside0.mk A60
  clear A60
  have HC7 := Aside0.mk H
  clear H
  go_enter Tryd.func9, Tryd.ntmps9
  go_upto_region 5 with (first | ((with_reducible refine gate_callee (f := 35) rfl ?_); refine goesL_ (some 17) rfl rfl Tryd.func35 (by kernel_rfl) rfl #[.string a0] rfl (by (try simp only [List.map_toArray, List.map_cons, List.map_nil]); first | done | rfl | (simp only [List.length_drop, List.length_take]; rfl)) ?_; (with_reducible refine (calendar_ParseDuration.calls k a0 t369 t370 _ A3.out).mono ?_); rintro e w' ⟨rfl, ⟨nd, rfl⟩⟩; refine ⟨_, rfl, ?_⟩) | ((with_reducible refine gate_callee (f := 36) rfl ?_); refine goesL_ (some 22) rfl rfl Tryd.func36 (by kernel_rfl) rfl #[.string a0] rfl (by (try simp only [List.map_toArray, List.map_cons, List.map_nil]); first | done | rfl | (simp only [List.length_drop, List.length_take]; rfl)) ?_; (with_reducible refine (pairingref5_ParseDuration.calls k a0 t371 t372 _ A4.out).mono ?_); rintro e w' ⟨rfl, ⟨nd, rfl⟩⟩; refine ⟨_, rfl, ?_⟩) | ((with_reducible refine gate_callee (f := 37) rfl ?_); refine goesL_ (some 27) rfl rfl Tryd.func37 (by kernel_rfl) rfl #[.int .i64 a1] rfl (by (try simp only [List.map_toArray, List.map_cons, List.map_nil]); first | done | rfl | (simp only [List.length_drop, List.length_take]; rfl)) ?_; (with_reducible refine (calendar_FormatDuration.calls k a1 t373 t374 _ ?side1 A5.out).mono ?_); (case side1 => first | (with_reducible exact hT_p10) | exact Tab_p10.below hT_p10 (by repeat (first | (with_reducible first | exact HB.out | apply below_alloc | apply pw_below_drewN | apply below_drew1) | exact HB.out))); rintro e w8 ⟨rfl, hb⟩; refine ⟨_, rfl, ?_⟩; have n0_ := Aside0.mk (below_step (by repeat (first | (with_reducible first | exact HB.out | apply below_alloc | apply pw_below_drewN | apply below_drew1) | exact HB.out)) hb); clear HB; have HB := n0_; clear n0_; (try clear hb); (try clear hb2); (try clear hk); (try clear hi)) | ((with_reducible refine gate_callee (f := 38) rfl ?_); refine goesL_ (some 32) rfl rfl Tryd.func38 (by kernel_rfl) rfl #[.int .i64 a1] rfl (by (try simp only [List.map_toArray, List.map_cons, List.map_nil]); first | done | rfl | (simp only [List.length_drop, List.length_take]; rfl)) ?_; (with_reducible refine (pairingref5_FormatDuration.calls k a1 t375 t376 _ ?side1 A6.out).mono ?_); (case side1 => first | (with_reducible exact hT_p10) | exact Tab_p10.below hT_p10 (by repeat (first | (with_reducible first | exact HB.out | apply below_alloc | apply pw_below_drewN | apply below_drew1) | exact HB.out))); rintro e w9 ⟨rfl, hb⟩; refine ⟨_, rfl, ?_⟩; have n0_ := Aside0.mk (below_step (by repeat (first | (with_reducible first | exact HB.out | apply below_alloc | apply pw_below_drewN | apply below_drew1) | exact HB.out)) hb); clear HB; have HB := n0_; clear n0_; (try clear hb); (try clear hb2); (try clear hk); (try clear hi)))
  (try simp only [Act.put, List.setIfInBounds_toArray, List.set_cons_zero, List.set_cons_succ])
  go_cut [52] (fun v52 wc => ∃ (kq : Nat) (x52_6 : Bool), v52 = .bool x52_6 ∧ Aside0 (pairinglaw6_CalendarDurations.j0 kq a1 t373 t374 x52_6 = some r) ∧ Aside0 (kq ≤ k) ∧ Aside0 (Below w.heap.size w wc))
  case first =>
    have H := HC7.out
    clear HC7
    by_cases c10 : t370 = t372
    · rw [if_pos c10] at H
      have c10b0 : (t370 == t372) = true := beq_iff_eq.mpr c10
      have c10b1 : (t370 != t372) = false := bne_eq_false_iff_eq.mpr c10
      clear c10
      (first | rw [c10b0] | (simp only [i64_w, i32_w]; rw [c10b0]) | skip)
      by_cases c11 : t369 = t371
      · rw [if_pos c11] at H
        have c11b0 : (t369 == t371) = true := beq_iff_eq.mpr c11
        have c11b1 : (t369 != t371) = false := bne_eq_false_iff_eq.mpr c11
        clear c11
        by_cases c12 : t374 = t376
        · rw [if_pos c12] at H
          have c12b0 : (t374 == t376) = true := beq_iff_eq.mpr c12
          have c12b1 : (t374 != t376) = false := bne_eq_false_iff_eq.mpr c12
          clear c12
          have H' := Aside0.mk H
          clear H
          go_wp2
          go_meet
          case rel => exact ⟨_, ((t373.toList != t375.toList)), (by first | rfl | (simp; done) | (simp [*]; done)), H', ⟨by first | omega | exact Nat.le_refl _⟩, ⟨by repeat (first | (with_reducible first | exact HB.out | apply below_alloc | apply pw_below_drewN | apply below_drew1) | exact HB.out)⟩⟩
        · rw [if_neg c12] at H
          have c12b0 : (t374 == t376) = false := beq_eq_false_iff_ne.mpr c12
          have c12b1 : (t374 != t376) = true := bne_iff_ne.mpr c12
          have H' := Aside0.mk H
          clear H
          go_wp2
          go_meet
          case rel => exact ⟨_, (true), (by first | rfl | (simp; done) | (simp [*]; done)), H', ⟨by first | omega | exact Nat.le_refl _⟩, ⟨by repeat (first | (with_reducible first | exact HB.out | apply below_alloc | apply pw_below_drewN | apply below_drew1) | exact HB.out)⟩⟩
      · rw [if_neg c11] at H
        have c11b0 : (t369 == t371) = false := beq_eq_false_iff_ne.mpr c11
        have c11b1 : (t369 != t371) = true := bne_iff_ne.mpr c11
        have H' := Aside0.mk H
        clear H
        go_wp2
        go_meet
        case rel => exact ⟨_, (true), (by first | rfl | (simp; done) | (simp [*]; done)), H', ⟨by first | omega | exact Nat.le_refl _⟩, ⟨by repeat (first | (with_reducible first | exact HB.out | apply below_alloc | apply pw_below_drewN | apply below_drew1) | exact HB.out)⟩⟩
    · rw [if_neg c10] at H
      have c10b0 : (t370 == t372) = false := beq_eq_false_iff_ne.mpr c10
      have c10b1 : (t370 != t372) = true := bne_iff_ne.mpr c10
      (first | rw [c10b0] | (simp only [i64_w, i32_w]; rw [c10b0]) | skip)
      have H' := Aside0.mk H
      clear H
      go_wp2
      go_meet
      case rel => exact ⟨_, (true), (by first | rfl | (simp; done) | (simp [*]; done)), H', ⟨by first | omega | exact Nat.le_refl _⟩, ⟨by repeat (first | (with_reducible first | exact HB.out | apply below_alloc | apply pw_below_drewN | apply below_drew1) | exact HB.out)⟩⟩
  case rest =>
    clear HC7
    try clear c1
    try clear p1
    try clear p2
    try clear c3
    try clear c9
    try clear c10
    try clear c10b0
    try clear c10b1
    try clear p10
    try clear c11
    try clear c11b0
    try clear c11b1
    try clear c12
    try clear c12b0
    try clear c12b1
    obtain ⟨kq, x52_6, rfl, HA, HJ6, HB⟩ := hcut
    cases kq with
    | zero => exact absurd HA.out (by simp [pairinglaw6_CalendarDurations.j0])
    | succ kj6 =>
      have H := HA.out
      clear HA
      simp only [pairinglaw6_CalendarDurations.j0] at H
      by_cases c13 : x52_6 = true
      · subst c13
        have H1 : (some false) = some r := by rw [if_pos rfl] at H; exact H
        clear H
        have H := H1
        clear H1
        obtain rfl := Option.some.inj H
        go_wp2
        go_ret
        exact ⟨by first | rfl | (simp [errW_none, errW_some] <;> rfl) | (simp [*, errW_none, errW_some] <;> rfl), by repeat (first | (with_reducible first | exact HB.out | apply below_alloc | apply pw_below_drewN | apply below_drew1) | exact HB.out)⟩
      · replace c13 := Bool.eq_false_iff.mpr c13
        subst c13
        have H1 : (if t374 = 0 then ((calendar_ParseDuration.f kj6 t373).bind fun bt377 => (if bt377.2 = 0 then (if bt377.1 = a1 then ((pairinglaw6_awake.f kj6).bind fun t379 => (some t379)) else (some false)) else (some false))) else ((pairinglaw6_awake.f kj6).bind fun t380 => (some t380))) = some r := by rw [if_neg (show ¬ (false = true) by decide)] at H; exact H
        clear H
        have H := H1
        clear H1
        by_cases c14 : t374 = 0
        · rw [if_pos c14] at H
          have c14b0 : (t374 == 0) = true := beq_iff_eq.mpr c14
          have c14b1 : (t374 != 0) = false := bne_eq_false_iff_eq.mpr c14
          clear c14
          replace H := Option.bind_eq_some_iff.mp H
          obtain ⟨⟨t377, t378⟩, A150, H⟩ := H
          replace H : (if t378 = 0 then (if t377 = a1 then ((pairinglaw6_awake.f kj6).bind fun t379 => (some t379)) else (some false)) else (some false)) = some r := H
          have A15 := Aside0.mk A150
          clear A150
          by_cases c16 : t378 = 0
          · rw [if_pos c16] at H
            have c16b0 : (t378 == 0) = true := beq_iff_eq.mpr c16
            have c16b1 : (t378 != 0) = false := bne_eq_false_iff_eq.mpr c16
            clear c16
            by_cases c17 : t377 = a1
            · rw [if_pos c17] at H
              have c17b0 : (t377 == a1) = true := beq_iff_eq.mpr c17
              have c17b1 : (t377 != a1) = false := bne_eq_false_iff_eq.mpr c17
              clear c17
              replace H := Option.bind_eq_some_iff.mp H
              obtain ⟨t379, A180, H⟩ := H
              replace H : (some t379) = some r := H
              have A18 := Aside0.mk A180
              clear A180
              obtain rfl := Option.some.inj H
              go_wp2_with (first | ((with_reducible refine gate_callee (f := 35) rfl ?_); refine goesL_ (some 57) rfl rfl Tryd.func35 (by kernel_rfl) rfl #[.string t373] rfl (by (try simp only [List.map_toArray, List.map_cons, List.map_nil]); first | done | rfl | (simp only [List.length_drop, List.length_take]; rfl)) ?_; (with_reducible refine (calendar_ParseDuration.calls kj6 t373 t377 t378 _ A15.out).mono ?_); rintro e w' ⟨rfl, ⟨nd, rfl⟩⟩; refine ⟨_, rfl, ?_⟩) | ((with_reducible refine gate_callee (f := 12) rfl ?_); refine goesL_ (some 67) rfl rfl Tryd.func12 (by kernel_rfl) rfl #[] rfl (by (try simp only [List.map_toArray, List.map_cons, List.map_nil]); first | done | rfl | (simp only [List.length_drop, List.length_take]; rfl)) ?_; (with_reducible refine (pairinglaw6_awake.calls kj6  t379 _ ?side1 A18.out).mono ?_); (case side1 => first | (with_reducible exact hT_md) | exact Tab_md.below hT_md (by repeat (first | (with_reducible first | exact HB.out | apply below_alloc | apply pw_below_drewN | apply below_drew1) | exact HB.out))); rintro e w19 ⟨rfl, hb⟩; refine ⟨_, rfl, ?_⟩; have n0_ := Aside0.mk (below_step (by repeat (first | (with_reducible first | exact HB.out | apply below_alloc | apply pw_below_drewN | apply below_drew1) | exact HB.out)) hb); clear HB; have HB := n0_; clear n0_; (try clear hb); (try clear hb2); (try clear hk); (try clear hi)))
              go_ret
              exact ⟨by first | rfl | (simp [errW_none, errW_some] <;> rfl) | (simp [*, errW_none, errW_some] <;> rfl), by repeat (first | (with_reducible first | exact HB.out | apply below_alloc | apply pw_below_drewN | apply below_drew1) | exact HB.out)⟩
            · rw [if_neg c17] at H
              have c17b0 : (t377 == a1) = false := beq_eq_false_iff_ne.mpr c17
              have c17b1 : (t377 != a1) = true := bne_iff_ne.mpr c17
              obtain rfl := Option.some.inj H
              go_wp2_with (first | ((with_reducible refine gate_callee (f := 35) rfl ?_); refine goesL_ (some 57) rfl rfl Tryd.func35 (by kernel_rfl) rfl #[.string t373] rfl (by (try simp only [List.map_toArray, List.map_cons, List.map_nil]); first | done | rfl | (simp only [List.length_drop, List.length_take]; rfl)) ?_; (with_reducible refine (calendar_ParseDuration.calls kj6 t373 t377 t378 _ A15.out).mono ?_); rintro e w' ⟨rfl, ⟨nd, rfl⟩⟩; refine ⟨_, rfl, ?_⟩))
              go_ret
              exact ⟨by first | rfl | (simp [errW_none, errW_some] <;> rfl) | (simp [*, errW_none, errW_some] <;> rfl), by repeat (first | (with_reducible first | exact HB.out | apply below_alloc | apply pw_below_drewN | apply below_drew1) | exact HB.out)⟩
          · rw [if_neg c16] at H
            have c16b0 : (t378 == 0) = false := beq_eq_false_iff_ne.mpr c16
            have c16b1 : (t378 != 0) = true := bne_iff_ne.mpr c16
            obtain rfl := Option.some.inj H
            go_wp2_with (first | ((with_reducible refine gate_callee (f := 35) rfl ?_); refine goesL_ (some 57) rfl rfl Tryd.func35 (by kernel_rfl) rfl #[.string t373] rfl (by (try simp only [List.map_toArray, List.map_cons, List.map_nil]); first | done | rfl | (simp only [List.length_drop, List.length_take]; rfl)) ?_; (with_reducible refine (calendar_ParseDuration.calls kj6 t373 t377 t378 _ A15.out).mono ?_); rintro e w' ⟨rfl, ⟨nd, rfl⟩⟩; refine ⟨_, rfl, ?_⟩))
            go_ret
            exact ⟨by first | rfl | (simp [errW_none, errW_some] <;> rfl) | (simp [*, errW_none, errW_some] <;> rfl), by repeat (first | (with_reducible first | exact HB.out | apply below_alloc | apply pw_below_drewN | apply below_drew1) | exact HB.out)⟩
        · rw [if_neg c14] at H
          have c14b0 : (t374 == 0) = false := beq_eq_false_iff_ne.mpr c14
          have c14b1 : (t374 != 0) = true := bne_iff_ne.mpr c14
          replace H := Option.bind_eq_some_iff.mp H
          obtain ⟨t380, A200, H⟩ := H
          replace H : (some t380) = some r := H
          have A20 := Aside0.mk A200
          clear A200
          obtain rfl := Option.some.inj H
          go_wp2_with (first | ((with_reducible refine gate_callee (f := 12) rfl ?_); refine goesL_ (some 67) rfl rfl Tryd.func12 (by kernel_rfl) rfl #[] rfl (by (try simp only [List.map_toArray, List.map_cons, List.map_nil]); first | done | rfl | (simp only [List.length_drop, List.length_take]; rfl)) ?_; (with_reducible refine (pairinglaw6_awake.calls kj6  t380 _ ?side1 A20.out).mono ?_); (case side1 => first | (with_reducible exact hT_md) | exact Tab_md.below hT_md (by repeat (first | (with_reducible first | exact HB.out | apply below_alloc | apply pw_below_drewN | apply below_drew1) | exact HB.out))); rintro e w21 ⟨rfl, hb⟩; refine ⟨_, rfl, ?_⟩; have n0_ := Aside0.mk (below_step (by repeat (first | (with_reducible first | exact HB.out | apply below_alloc | apply pw_below_drewN | apply below_drew1) | exact HB.out)) hb); clear HB; have HB := n0_; clear n0_; (try clear hb); (try clear hb2); (try clear hk); (try clear hi)))
          go_ret
          exact ⟨by first | rfl | (simp [errW_none, errW_some] <;> rfl) | (simp [*, errW_none, errW_some] <;> rfl), by repeat (first | (with_reducible first | exact HB.out | apply below_alloc | apply pw_below_drewN | apply below_drew1) | exact HB.out)⟩

/-- THE ONE PURE STATEMENT of pairinglaw6_CalendarDurations. -/
def pairinglaw6_CalendarDurations.Pure : Prop := ∀ (a0 : ByteArray) (a1 : Int), a0.size ≤ 140737488351232 → (Lit.int .i64 a1).wf = true → ∃ k, pairinglaw6_CalendarDurations.f k a0 a1 = some true

end Go.Proofs.YtdpkemjbiengfaaDoor.QCal
