/- Written by a program (wip/myprint.py): the Go functions that the laws reach, each as a plain Lean function, and a proof that the machine's call answers as that function says. -/
import Derived.Test.YtdpkemjbiengfaaDoorQCal0
import Derived.Test.YtdpkemjbiengfaaDoorQCal4
import Derived.Test.YtdpkemjbiengfaaDoorQCal6
import Derived.Test.YtdpkemjbiengfaaDoorQCal14
namespace Go.Proofs.YtdpkemjbiengfaaDoor.QCal
open Go.RowKit Go.Proofs.YtdpkemjbiengfaaDoorW.PrintWords Go.Proofs.YtdpkemjbiengfaaDoorW.PrintLast Go.Proofs.YtdpkemjbiengfaaDoorW.PrintMore
attribute [local go_sem] max2_int min2_int max_two min_two max_three min_three max_four min_four   -- for this text's walks alone
set_option linter.unusedVariables false
set_option linter.unusedSimpArgs false

/-! ### calendar_ParseDate: function 23 -/
mutual
def calendar_ParseDate.j0 : Nat → ByteArray → Bool → Option (Int × Int × Int × Int)
  | 0, _, _ => none
  | k + 1, x0, x23 => if x23 = true then (some (0, 0, 0, 1)) else (if 0 ≤ 4 then (if 4 ≤ (x0.size : Int) then ((calendar_number.f k (x0.extract 0 4)).bind fun bt211 => (if 5 ≤ 7 then (if 7 ≤ (x0.size : Int) then ((calendar_number.f k (x0.extract 5 7)).bind fun bt213 => (if 8 ≤ (x0.size : Int) then ((calendar_number.f k (x0.extract 8 x0.size)).bind fun bt215 => (if bt211.2 = true then (if bt213.2 = true then (calendar_ParseDate.j1 k bt211.1 bt213.1 bt215.1 (!bt215.2)) else (calendar_ParseDate.j1 k bt211.1 bt213.1 bt215.1 true)) else (calendar_ParseDate.j1 k bt211.1 bt213.1 bt215.1 true))) else (none))) else (none)) else (none))) else (none)) else (none))
def calendar_ParseDate.j1 : Nat → Int → Int → Int → Bool → Option (Int × Int × Int × Int)
  | 0, _, _, _, _ => none
  | k + 1, x4, x6, x8, x52 => if x52 = true then (some (0, 0, 0, 1)) else ((calendar_valid.f x4 x6 x8).bind fun t218 => (if t218 = true then (some (x4, x6, x8, 0)) else (some (0, 0, 0, 5))))
end
def calendar_ParseDate.f (k : Nat) (a0 : ByteArray) : Option (Int × Int × Int × Int) := if (a0.size : Int) = 10 then (if 4 < (a0.size : Int) then (if (bt a0 4) = 45 then (if 7 < (a0.size : Int) then (calendar_ParseDate.j0 k a0 ((bt a0 7) != 45)) else (none)) else (calendar_ParseDate.j0 k a0 true)) else (none)) else (calendar_ParseDate.j0 k a0 true)
theorem calendar_ParseDate.mono_l : ∀ k, (∀ y0 y1, LeO (calendar_ParseDate.j0 k y0 y1) (calendar_ParseDate.j0 (k + 1) y0 y1)) ∧ (∀ y0 y1 y2 y3, LeO (calendar_ParseDate.j1 k y0 y1 y2 y3) (calendar_ParseDate.j1 (k + 1) y0 y1 y2 y3))
  | 0 => ⟨fun _ _ r h => by simp [calendar_ParseDate.j0] at h, fun _ _ _ _ r h => by simp [calendar_ParseDate.j1] at h⟩
  | k + 1 => by
    obtain ⟨ih0, ih1⟩ := calendar_ParseDate.mono_l k
    refine ⟨?_, ?_⟩
    · intro y0 y1
      unfold calendar_ParseDate.j0
      repeat' first
      | (with_reducible exact ih0 _ _)
      | (with_reducible exact ih1 _ _ _ _)
      | (with_reducible exact calendar_number.mono _ _)
      | (with_reducible exact LeO.refl _)
      | (with_reducible exact LeO.none _)
      | (with_reducible refine LeO.ite ?_ ?_)
      | (with_reducible refine LeO.bind ?_ (fun _ => ?_))
      | exact ih0 _ _
      | exact ih1 _ _ _ _
      | exact calendar_number.mono _ _
      | exact LeO.none _
      | refine LeO.ite ?_ ?_
      | refine LeO.bind ?_ (fun _ => ?_)
    · intro y0 y1 y2 y3
      unfold calendar_ParseDate.j1
      repeat' first
      | (with_reducible exact ih0 _ _)
      | (with_reducible exact ih1 _ _ _ _)
      | (with_reducible exact calendar_number.mono _ _)
      | (with_reducible exact LeO.refl _)
      | (with_reducible exact LeO.none _)
      | (with_reducible refine LeO.ite ?_ ?_)
      | (with_reducible refine LeO.bind ?_ (fun _ => ?_))
      | exact ih0 _ _
      | exact ih1 _ _ _ _
      | exact calendar_number.mono _ _
      | exact LeO.none _
      | refine LeO.ite ?_ ?_
      | refine LeO.bind ?_ (fun _ => ?_)
theorem calendar_ParseDate.mono : ∀ a0 k, LeO (calendar_ParseDate.f k a0) (calendar_ParseDate.f (k + 1) a0) := by
  intro a0 k
  obtain ⟨ih0, ih1⟩ := calendar_ParseDate.mono_l k
  unfold calendar_ParseDate.f
  repeat' first
      | (with_reducible exact ih0 _ _)
      | (with_reducible exact ih1 _ _ _ _)
      | (with_reducible exact calendar_number.mono _ _)
      | (with_reducible exact LeO.refl _)
      | (with_reducible exact LeO.none _)
      | (with_reducible refine LeO.ite ?_ ?_)
      | (with_reducible refine LeO.bind ?_ (fun _ => ?_))
      | exact ih0 _ _
      | exact ih1 _ _ _ _
      | exact calendar_number.mono _ _
      | exact LeO.none _
      | refine LeO.ite ?_ ?_
      | refine LeO.bind ?_ (fun _ => ?_)
set_option maxHeartbeats 8000000 in
set_option maxRecDepth 100000 in
theorem calendar_ParseDate.calls (k : Nat) (a0 : ByteArray) (r1 : Int) (r2 : Int) (r3 : Int) (r4 : Int) (w : World) (hT_md : Tab_md w) (h : calendar_ParseDate.f k a0 = some (r1, r2, r3, r4)) :
    Calls Tryd.prog 23 #[.string a0] w fun e w' => e = .returned (.tuple #[.agg #[.int .i64 r1, .int .i64 r2, .int .i64 r3], .int .i64 r4]) ∧ Below w.heap.size w w' := by
  have hu27 := Tryd.underlying27
  have HB := Aside0.mk (Below.refl w.heap.size w)
  have H : (if (a0.size : Int) = 10 then (if 4 < (a0.size : Int) then (if (bt a0 4) = 45 then (if 7 < (a0.size : Int) then (calendar_ParseDate.j0 k a0 ((bt a0 7) != 45)) else (none)) else (calendar_ParseDate.j0 k a0 true)) else (none)) else (calendar_ParseDate.j0 k a0 true)) = some (r1, r2, r3, r4) := h
  clear h
  have HC2 := Aside0.mk H
  clear H
  go_enter Tryd.func23, Tryd.ntmps23
  go_upto_region 1 with (first | ((with_reducible refine gate_dst (N := 2) rfl ?_); refine box_event ?hg (N := 2) ?hd (cs := #[.int .i64 0, .int .i64 0, .int .i64 0]) (t := 27) ?hr ?_; (case hd => rfl); (case hg => rfl); (case hr => first | (go_simp; done) | (go_simp; rfl)); intro gb210 hg w3 hbox hb; have n0_ := Aside0.mk (below_step (by repeat (first | (with_reducible first | exact HB.out | apply below_alloc | apply pw_below_drewN | apply below_drew1) | exact HB.out)) hb); have n1_ := Aside0.mk (hbox); have n2_ := Aside0.mk ((by rw [hg]; exact (below_size (by repeat (first | (with_reducible first | exact HB.out | apply below_alloc | apply pw_below_drewN | apply below_drew1) | exact HB.out))) : w.heap.size ≤ gb210)); have n3_ := Aside0.mk ((by rw [hg]; exact (below_size (by repeat (first | (with_reducible first | exact HB.out | apply below_alloc | apply pw_below_drewN | apply below_drew1) | exact HB.out))) : w.heap.size ≤ gb210)); clear HB; have HB := n0_; have BK210 := n1_; have GW210 := n2_; have GE210 := n3_; clear n0_ n1_ n2_ n3_; clear hb hbox hg))
  (try simp only [Act.put, List.setIfInBounds_toArray, List.set_cons_zero, List.set_cons_succ])
  go_cut [23] (fun v23 wc => ∃ (kq : Nat) (x23_1 : Bool), v23 = .bool x23_1 ∧ Aside0 (calendar_ParseDate.j0 kq a0 x23_1 = some (r1, r2, r3, r4)) ∧ Aside0 (kq ≤ k) ∧ Aside0 (wc.heap[gb210]? = some (.cells #[.int .i64 0, .int .i64 0, .int .i64 0] 27 (0, 0))) ∧ Aside0 (Below w.heap.size w wc))
  case first =>
    have H := HC2.out
    clear HC2
    by_cases c4 : (a0.size : Int) = 10
    · rw [if_pos c4] at H
      have c4b0 : ((a0.size : Int) == 10) = true := beq_iff_eq.mpr c4
      have c4b1 : ((a0.size : Int) != 10) = false := bne_eq_false_iff_eq.mpr c4
      clear c4
      (first | rw [c4b0] | (simp only [i64_w, i32_w]; rw [c4b0]) | skip)
      by_cases c5 : 4 < (a0.size : Int)
      · rw [if_pos c5] at H
        have c5b0 : decide (4 < (a0.size : Int)) = true := decide_eq_true c5
        have c5b1 : decide (4 < a0.size) = true := decide_eq_true (by omega)
        clear c5
        by_cases c7 : (bt a0 4) = 45
        · rw [if_pos c7] at H
          have c7b0 : ((bt a0 4) == 45) = true := beq_iff_eq.mpr c7
          have c7b1 : ((bt a0 4) != 45) = false := bne_eq_false_iff_eq.mpr c7
          clear c7
          by_cases c8 : 7 < (a0.size : Int)
          · rw [if_pos c8] at H
            have c8b0 : decide (7 < (a0.size : Int)) = true := decide_eq_true c8
            have c8b1 : decide (7 < a0.size) = true := decide_eq_true (by omega)
            clear c8
            have H' := Aside0.mk H
            clear H
            have p6 : 0 ≤ (4 : Int) := (by omega)
            have q6 : 4 < a0.size := (by have : (4 : Int) < (a0.size : Int) := of_decide_eq_true (by first | (with_reducible assumption) | assumption); omega)
            have hx6 : ∀ h : 4 < a0.size, ((a0[4]'h).toNat : Int) = bt a0 4 := bt_at a0 4
            clear p6
            have qi6 : (4 < (a0.size : Int)) = True := eq_true (of_decide_eq_true (by first | (with_reducible assumption) | assumption))
            replace q6 := eq_true q6
            have p9 : 0 ≤ (7 : Int) := (by omega)
            have q9 : 7 < a0.size := (by have : (7 : Int) < (a0.size : Int) := of_decide_eq_true (by first | (with_reducible assumption) | assumption); omega)
            have hx9 : ∀ h : 7 < a0.size, ((a0[7]'h).toNat : Int) = bt a0 7 := bt_at a0 7
            clear p9
            have qi9 : (7 < (a0.size : Int)) = True := eq_true (of_decide_eq_true (by first | (with_reducible assumption) | assumption))
            replace q9 := eq_true q9
            go_wp2
            go_meet
            case rel => exact ⟨_, (((bt a0 7) != 45)), (by first | rfl | (simp; done) | (simp [*]; done)), H', ⟨by first | omega | exact Nat.le_refl _⟩, ⟨by (with_reducible repeat (first | refine blk_drewN ?_ _ | refine blk_drew ?_ | refine blk_alloc ?_ _)); exact BK210.out⟩, ⟨by repeat (first | (with_reducible first | exact HB.out | apply below_alloc | apply pw_below_drewN | apply below_drew1 | refine below_set ?_ GE210.out) | exact HB.out)⟩⟩
          · rw [if_neg c8] at H
            exact absurd H (by simp)
        · rw [if_neg c7] at H
          have c7b0 : ((bt a0 4) == 45) = false := beq_eq_false_iff_ne.mpr c7
          have c7b1 : ((bt a0 4) != 45) = true := bne_iff_ne.mpr c7
          have H' := Aside0.mk H
          clear H
          have p6 : 0 ≤ (4 : Int) := (by omega)
          have q6 : 4 < a0.size := (by have : (4 : Int) < (a0.size : Int) := of_decide_eq_true (by first | (with_reducible assumption) | assumption); omega)
          have hx6 : ∀ h : 4 < a0.size, ((a0[4]'h).toNat : Int) = bt a0 4 := bt_at a0 4
          clear p6
          have qi6 : (4 < (a0.size : Int)) = True := eq_true (of_decide_eq_true (by first | (with_reducible assumption) | assumption))
          replace q6 := eq_true q6
          go_wp2
          go_meet
          case rel => exact ⟨_, (true), (by first | rfl | (simp; done) | (simp [*]; done)), H', ⟨by first | omega | exact Nat.le_refl _⟩, ⟨by (with_reducible repeat (first | refine blk_drewN ?_ _ | refine blk_drew ?_ | refine blk_alloc ?_ _)); exact BK210.out⟩, ⟨by repeat (first | (with_reducible first | exact HB.out | apply below_alloc | apply pw_below_drewN | apply below_drew1 | refine below_set ?_ GE210.out) | exact HB.out)⟩⟩
      · rw [if_neg c5] at H
        exact absurd H (by simp)
    · rw [if_neg c4] at H
      have c4b0 : ((a0.size : Int) == 10) = false := beq_eq_false_iff_ne.mpr c4
      have c4b1 : ((a0.size : Int) != 10) = true := bne_iff_ne.mpr c4
      (first | rw [c4b0] | (simp only [i64_w, i32_w]; rw [c4b0]) | skip)
      have H' := Aside0.mk H
      clear H
      go_wp2
      go_meet
      case rel => exact ⟨_, (true), (by first | rfl | (simp; done) | (simp [*]; done)), H', ⟨by first | omega | exact Nat.le_refl _⟩, ⟨by (with_reducible repeat (first | refine blk_drewN ?_ _ | refine blk_drew ?_ | refine blk_alloc ?_ _)); exact BK210.out⟩, ⟨by repeat (first | (with_reducible first | exact HB.out | apply below_alloc | apply pw_below_drewN | apply below_drew1 | refine below_set ?_ GE210.out) | exact HB.out)⟩⟩
  case rest =>
    clear HC2
    try clear c2
    try clear p2
    try clear c4
    try clear c4b0
    try clear c4b1
    try clear c5
    try clear c5b0
    try clear c5b1
    try clear p6
    try clear q6
    try clear hx6
    try clear qi6
    try clear c7
    try clear c7b0
    try clear c7b1
    try clear c8
    try clear c8b0
    try clear c8b1
    try clear p9
    try clear q9
    try clear hx9
    try clear qi9
    try clear p6
    try clear p9
    try clear q6
    try clear q9
    obtain ⟨kq, x23_1, rfl, HA, HJ1, BK210, HB⟩ := hcut
    cases kq with
    | zero => exact absurd HA.out (by simp [calendar_ParseDate.j0])
    | succ kj1 =>
      have H := HA.out
      clear HA
      simp only [calendar_ParseDate.j0] at H
      by_cases c10 : x23_1 = true
      · subst c10
        have H1 : (some (0, 0, 0, 1)) = some (r1, r2, r3, r4) := by rw [if_pos rfl] at H; exact H
        clear H
        have H := H1
        clear H1
        simp only [Option.some.injEq, Prod.mk.injEq] at H
        obtain ⟨rfl, rfl, rfl, rfl⟩ := H
        have hcz11_0 : wc.cell? ⟨gb210, 0, none⟩ = some (.int .i64 0) := (blk_cell BK210.out 0).trans rfl
        have hcz11_1 : wc.cell? ⟨gb210, 1, none⟩ = some (.int .i64 0) := (blk_cell BK210.out 1).trans rfl
        have hcz11_2 : wc.cell? ⟨gb210, 2, none⟩ = some (.int .i64 0) := (blk_cell BK210.out 2).trans rfl
        have hfz11_0 := blk_frozen BK210.out 0
        have hfz11_1 := blk_frozen BK210.out 1
        have hfz11_2 := blk_frozen BK210.out 2
        go_wp2
        refine bodyPost_ret (results_ct rfl _ _ gb210 27 #[.int .i64 0, .int .i64 0, .int .i64 0] (0, 0) _ rfl (by (with_reducible repeat (first | refine blk_drewN ?_ _ | refine blk_drew ?_ | refine blk_alloc ?_ _)); refine blk_put (cs := #[.int .i64 0, .int .i64 0, .int .i64 0]) ?_ 2 _ rfl; (with_reducible repeat (first | refine blk_drewN ?_ _ | refine blk_drew ?_ | refine blk_alloc ?_ _)); refine blk_put (cs := #[.int .i64 0, .int .i64 0, .int .i64 0]) ?_ 1 _ rfl; (with_reducible repeat (first | refine blk_drewN ?_ _ | refine blk_drew ?_ | refine blk_alloc ?_ _)); refine blk_put (cs := #[.int .i64 0, .int .i64 0, .int .i64 0]) ?_ 0 _ rfl; (with_reducible repeat (first | refine blk_drewN ?_ _ | refine blk_drew ?_ | refine blk_alloc ?_ _)); exact BK210.out) Tryd.underlying27 rfl (by kernel_rfl)) rfl ?_
        exact ⟨by first | rfl | (simp [errW_none, errW_some] <;> rfl) | (simp [*, errW_none, errW_some] <;> rfl), by repeat (first | (with_reducible first | exact HB.out | apply below_alloc | apply pw_below_drewN | apply below_drew1 | refine below_set ?_ GE210.out) | exact HB.out)⟩
      · replace c10 := Bool.eq_false_iff.mpr c10
        subst c10
        have H1 : (if 0 ≤ 4 then (if 4 ≤ (a0.size : Int) then ((calendar_number.f kj1 (a0.extract 0 4)).bind fun bt211 => (if 5 ≤ 7 then (if 7 ≤ (a0.size : Int) then ((calendar_number.f kj1 (a0.extract 5 7)).bind fun bt213 => (if 8 ≤ (a0.size : Int) then ((calendar_number.f kj1 (a0.extract 8 a0.size)).bind fun bt215 => (if bt211.2 = true then (if bt213.2 = true then (calendar_ParseDate.j1 kj1 bt211.1 bt213.1 bt215.1 (!bt215.2)) else (calendar_ParseDate.j1 kj1 bt211.1 bt213.1 bt215.1 true)) else (calendar_ParseDate.j1 kj1 bt211.1 bt213.1 bt215.1 true))) else (none))) else (none)) else (none))) else (none)) else (none)) = some (r1, r2, r3, r4) := by rw [if_neg (show ¬ (false = true) by decide)] at H; exact H
        clear H
        have H := H1
        clear H1
        by_cases c12 : 0 ≤ 4
        · rw [if_pos c12] at H
          have c12b0 := eq_true c12
          have c12b1 : decide (0 ≤ 4) = true := decide_eq_true c12
          clear c12
          by_cases c13 : 4 ≤ (a0.size : Int)
          · rw [if_pos c13] at H
            have c13b0 := eq_true c13
            have c13b1 : decide (4 ≤ (a0.size : Int)) = true := decide_eq_true c13
            clear c13
            replace H := Option.bind_eq_some_iff.mp H
            obtain ⟨⟨t211, t212⟩, A140, H⟩ := H
            replace H : (if 5 ≤ 7 then (if 7 ≤ (a0.size : Int) then ((calendar_number.f kj1 (a0.extract 5 7)).bind fun bt213 => (if 8 ≤ (a0.size : Int) then ((calendar_number.f kj1 (a0.extract 8 a0.size)).bind fun bt215 => (if t212 = true then (if bt213.2 = true then (calendar_ParseDate.j1 kj1 t211 bt213.1 bt215.1 (!bt215.2)) else (calendar_ParseDate.j1 kj1 t211 bt213.1 bt215.1 true)) else (calendar_ParseDate.j1 kj1 t211 bt213.1 bt215.1 true))) else (none))) else (none)) else (none)) = some (r1, r2, r3, r4) := H
            have A14 := Aside0.mk A140
            clear A140
            by_cases c15 : 5 ≤ 7
            · rw [if_pos c15] at H
              have c15b0 := eq_true c15
              have c15b1 : decide (5 ≤ 7) = true := decide_eq_true c15
              clear c15
              by_cases c16 : 7 ≤ (a0.size : Int)
              · rw [if_pos c16] at H
                have c16b0 := eq_true c16
                have c16b1 : decide (7 ≤ (a0.size : Int)) = true := decide_eq_true c16
                clear c16
                replace H := Option.bind_eq_some_iff.mp H
                obtain ⟨⟨t213, t214⟩, A170, H⟩ := H
                replace H : (if 8 ≤ (a0.size : Int) then ((calendar_number.f kj1 (a0.extract 8 a0.size)).bind fun bt215 => (if t212 = true then (if t214 = true then (calendar_ParseDate.j1 kj1 t211 t213 bt215.1 (!bt215.2)) else (calendar_ParseDate.j1 kj1 t211 t213 bt215.1 true)) else (calendar_ParseDate.j1 kj1 t211 t213 bt215.1 true))) else (none)) = some (r1, r2, r3, r4) := H
                have A17 := Aside0.mk A170
                clear A170
                by_cases c18 : 8 ≤ (a0.size : Int)
                · rw [if_pos c18] at H
                  have c18b0 := eq_true c18
                  have c18b1 : decide (8 ≤ (a0.size : Int)) = true := decide_eq_true c18
                  clear c18
                  replace H := Option.bind_eq_some_iff.mp H
                  obtain ⟨⟨t215, t216⟩, A190, H⟩ := H
                  replace H : (if t212 = true then (if t214 = true then (calendar_ParseDate.j1 kj1 t211 t213 t215 (!t216)) else (calendar_ParseDate.j1 kj1 t211 t213 t215 true)) else (calendar_ParseDate.j1 kj1 t211 t213 t215 true)) = some (r1, r2, r3, r4) := H
                  have A19 := Aside0.mk A190
                  clear A190
                  have HC20 := Aside0.mk H
                  clear H
                  go_upto_region 6 with (first | ((with_reducible refine gate_callee (f := 45) rfl ?_); refine goesL_ (some 28) rfl rfl Tryd.func45 (by kernel_rfl) rfl #[.string (a0.extract 0 4)] rfl (by (try simp only [List.map_toArray, List.map_cons, List.map_nil]); first | done | rfl | (simp only [List.length_drop, List.length_take]; rfl)) ?_; (with_reducible refine (calendar_number.calls kj1 (a0.extract 0 4) t211 t212 _ A14.out).mono ?_); rintro e w' ⟨rfl, ⟨nd, rfl⟩⟩; refine ⟨_, rfl, ?_⟩) | ((with_reducible refine gate_callee (f := 45) rfl ?_); refine goesL_ (some 34) rfl rfl Tryd.func45 (by kernel_rfl) rfl #[.string (a0.extract 5 7)] rfl (by (try simp only [List.map_toArray, List.map_cons, List.map_nil]); first | done | rfl | (simp only [List.length_drop, List.length_take]; rfl)) ?_; (with_reducible refine (calendar_number.calls kj1 (a0.extract 5 7) t213 t214 _ A17.out).mono ?_); rintro e w' ⟨rfl, ⟨nd, rfl⟩⟩; refine ⟨_, rfl, ?_⟩) | ((with_reducible refine gate_callee (f := 45) rfl ?_); refine goesL_ (some 40) rfl rfl Tryd.func45 (by kernel_rfl) rfl #[.string (a0.extract 8 a0.size)] rfl (by (try simp only [List.map_toArray, List.map_cons, List.map_nil]); first | done | rfl | (simp only [List.length_drop, List.length_take]; rfl)) ?_; (with_reducible refine (calendar_number.calls kj1 (a0.extract 8 a0.size) t215 t216 _ A19.out).mono ?_); rintro e w' ⟨rfl, ⟨nd, rfl⟩⟩; refine ⟨_, rfl, ?_⟩))
                  (try simp only [Act.put, List.setIfInBounds_toArray, List.set_cons_zero, List.set_cons_succ])
                  go_cut [52] (fun v52 wc => ∃ (kq : Nat) (x52_19 : Bool), v52 = .bool x52_19 ∧ Aside0 (calendar_ParseDate.j1 kq t211 t213 t215 x52_19 = some (r1, r2, r3, r4)) ∧ Aside0 (kq ≤ kj1) ∧ Aside0 (wc.heap[gb210]? = some (.cells #[.int .i64 0, .int .i64 0, .int .i64 0] 27 (0, 0))) ∧ Aside0 (Below w.heap.size w wc))
                  case first =>
                    have H := HC20.out
                    clear HC20
                    by_cases c21 : t212 = true
                    · subst c21
                      have H1 : (if t214 = true then (calendar_ParseDate.j1 kj1 t211 t213 t215 (!t216)) else (calendar_ParseDate.j1 kj1 t211 t213 t215 true)) = some (r1, r2, r3, r4) := by rw [if_pos rfl] at H; exact H
                      clear H
                      have H := H1
                      clear H1
                      by_cases c22 : t214 = true
                      · subst c22
                        have H1 : (calendar_ParseDate.j1 kj1 t211 t213 t215 (!t216)) = some (r1, r2, r3, r4) := by rw [if_pos rfl] at H; exact H
                        clear H
                        have H := H1
                        clear H1
                        have H' := Aside0.mk H
                        clear H
                        go_wp2
                        go_meet
                        case rel => exact ⟨_, (!t216), (by first | rfl | (simp; done) | (simp [*]; done)), H', ⟨by have := HJ1.out; first | omega | exact Nat.le_refl _⟩, ⟨by (with_reducible repeat (first | refine blk_drewN ?_ _ | refine blk_drew ?_ | refine blk_alloc ?_ _)); exact BK210.out⟩, ⟨by repeat (first | (with_reducible first | exact HB.out | apply below_alloc | apply pw_below_drewN | apply below_drew1 | refine below_set ?_ GE210.out) | exact HB.out)⟩⟩
                      · replace c22 := Bool.eq_false_iff.mpr c22
                        subst c22
                        have H1 : (calendar_ParseDate.j1 kj1 t211 t213 t215 true) = some (r1, r2, r3, r4) := by rw [if_neg (show ¬ (false = true) by decide)] at H; exact H
                        clear H
                        have H := H1
                        clear H1
                        have H' := Aside0.mk H
                        clear H
                        go_wp2
                        go_meet
                        case rel => exact ⟨_, (true), (by first | rfl | (simp; done) | (simp [*]; done)), H', ⟨by have := HJ1.out; first | omega | exact Nat.le_refl _⟩, ⟨by (with_reducible repeat (first | refine blk_drewN ?_ _ | refine blk_drew ?_ | refine blk_alloc ?_ _)); exact BK210.out⟩, ⟨by repeat (first | (with_reducible first | exact HB.out | apply below_alloc | apply pw_below_drewN | apply below_drew1 | refine below_set ?_ GE210.out) | exact HB.out)⟩⟩
                    · replace c21 := Bool.eq_false_iff.mpr c21
                      subst c21
                      have H1 : (calendar_ParseDate.j1 kj1 t211 t213 t215 true) = some (r1, r2, r3, r4) := by rw [if_neg (show ¬ (false = true) by decide)] at H; exact H
                      clear H
                      have H := H1
                      clear H1
                      have H' := Aside0.mk H
                      clear H
                      go_wp2
                      go_meet
                      case rel => exact ⟨_, (true), (by first | rfl | (simp; done) | (simp [*]; done)), H', ⟨by have := HJ1.out; first | omega | exact Nat.le_refl _⟩, ⟨by (with_reducible repeat (first | refine blk_drewN ?_ _ | refine blk_drew ?_ | refine blk_alloc ?_ _)); exact BK210.out⟩, ⟨by repeat (first | (with_reducible first | exact HB.out | apply below_alloc | apply pw_below_drewN | apply below_drew1 | refine below_set ?_ GE210.out) | exact HB.out)⟩⟩
                  case rest =>
                    clear HC20
                    try clear c1
                    try clear c2
                    try clear p2
                    try clear c4
                    try clear c4b0
                    try clear c4b1
                    try clear c5
                    try clear c5b0
                    try clear c5b1
                    try clear p6
                    try clear q6
                    try clear hx6
                    try clear qi6
                    try clear c7
                    try clear c7b0
                    try clear c7b1
                    try clear c8
                    try clear c8b0
                    try clear c8b1
                    try clear p9
                    try clear q9
                    try clear hx9
                    try clear qi9
                    try clear c10
                    try clear c12
                    try clear c12b0
                    try clear c12b1
                    try clear c13
                    try clear c13b0
                    try clear c13b1
                    try clear c15
                    try clear c15b0
                    try clear c15b1
                    try clear c16
                    try clear c16b0
                    try clear c16b1
                    try clear c18
                    try clear c18b0
                    try clear c18b1
                    try clear c21
                    try clear c22
                    try clear hcz11_0
                    try clear hcz11_1
                    try clear hcz11_2
                    try clear hfz11_0
                    try clear hfz11_1
                    try clear hfz11_2
                    try clear p2
                    try clear p6
                    try clear p9
                    try clear q6
                    try clear q9
                    obtain ⟨kq, x52_19, rfl, HA, HJ19, BK210, HB⟩ := hcut
                    cases kq with
                    | zero => exact absurd HA.out (by simp [calendar_ParseDate.j1])
                    | succ kj19 =>
                      have H := HA.out
                      clear HA
                      simp only [calendar_ParseDate.j1] at H
                      by_cases c23 : x52_19 = true
                      · subst c23
                        have H1 : (some (0, 0, 0, 1)) = some (r1, r2, r3, r4) := by rw [if_pos rfl] at H; exact H
                        clear H
                        have H := H1
                        clear H1
                        simp only [Option.some.injEq, Prod.mk.injEq] at H
                        obtain ⟨rfl, rfl, rfl, rfl⟩ := H
                        have hcz24_0 : wc.cell? ⟨gb210, 0, none⟩ = some (.int .i64 0) := (blk_cell BK210.out 0).trans rfl
                        have hcz24_1 : wc.cell? ⟨gb210, 1, none⟩ = some (.int .i64 0) := (blk_cell BK210.out 1).trans rfl
                        have hcz24_2 : wc.cell? ⟨gb210, 2, none⟩ = some (.int .i64 0) := (blk_cell BK210.out 2).trans rfl
                        have hfz24_0 := blk_frozen BK210.out 0
                        have hfz24_1 := blk_frozen BK210.out 1
                        have hfz24_2 := blk_frozen BK210.out 2
                        go_wp2
                        refine bodyPost_ret (results_ct rfl _ _ gb210 27 #[.int .i64 0, .int .i64 0, .int .i64 0] (0, 0) _ rfl (by (with_reducible repeat (first | refine blk_drewN ?_ _ | refine blk_drew ?_ | refine blk_alloc ?_ _)); refine blk_put (cs := #[.int .i64 0, .int .i64 0, .int .i64 0]) ?_ 2 _ rfl; (with_reducible repeat (first | refine blk_drewN ?_ _ | refine blk_drew ?_ | refine blk_alloc ?_ _)); refine blk_put (cs := #[.int .i64 0, .int .i64 0, .int .i64 0]) ?_ 1 _ rfl; (with_reducible repeat (first | refine blk_drewN ?_ _ | refine blk_drew ?_ | refine blk_alloc ?_ _)); refine blk_put (cs := #[.int .i64 0, .int .i64 0, .int .i64 0]) ?_ 0 _ rfl; (with_reducible repeat (first | refine blk_drewN ?_ _ | refine blk_drew ?_ | refine blk_alloc ?_ _)); exact BK210.out) Tryd.underlying27 rfl (by kernel_rfl)) rfl ?_
                        exact ⟨by first | rfl | (simp [errW_none, errW_some] <;> rfl) | (simp [*, errW_none, errW_some] <;> rfl), by repeat (first | (with_reducible first | exact HB.out | apply below_alloc | apply pw_below_drewN | apply below_drew1 | refine below_set ?_ GE210.out) | exact HB.out)⟩
                      · replace c23 := Bool.eq_false_iff.mpr c23
                        subst c23
                        have H1 : ((calendar_valid.f t211 t213 t215).bind fun t218 => (if t218 = true then (some (t211, t213, t215, 0)) else (some (0, 0, 0, 5)))) = some (r1, r2, r3, r4) := by rw [if_neg (show ¬ (false = true) by decide)] at H; exact H
                        clear H
                        have H := H1
                        clear H1
                        replace H := Option.bind_eq_some_iff.mp H
                        obtain ⟨t218, A250, H⟩ := H
                        replace H : (if t218 = true then (some (t211, t213, t215, 0)) else (some (0, 0, 0, 5))) = some (r1, r2, r3, r4) := H
                        have A25 := Aside0.mk A250
                        clear A250
                        by_cases c26 : t218 = true
                        · subst c26
                          have H1 : (some (t211, t213, t215, 0)) = some (r1, r2, r3, r4) := by rw [if_pos rfl] at H; exact H
                          clear H
                          have H := H1
                          clear H1
                          simp only [Option.some.injEq, Prod.mk.injEq] at H
                          obtain ⟨rfl, rfl, rfl, rfl⟩ := H
                          go_wp2_with (first | ((with_reducible refine gate_dst (N := 10) rfl ?_); refine box_event ?hg (N := 10) ?hd (cs := #[.int .i64 0, .int .i64 0, .int .i64 0]) (t := 27) ?hr ?_; (case hd => rfl); (case hg => rfl); (case hr => first | (go_simp; done) | (go_simp; rfl)); intro gb217 hg w27 hbox hb; have n0_ := Aside0.mk (blk_below (g := gb210) (o := .cells #[.int .i64 0, .int .i64 0, .int .i64 0] 27 (0, 0)) (by (with_reducible repeat (first | refine blk_drewN ?_ _ | refine blk_drew ?_ | refine blk_alloc ?_ _)); exact BK210.out) hb); have n1_ := Aside0.mk (below_step (by repeat (first | (with_reducible first | exact HB.out | apply below_alloc | apply pw_below_drewN | apply below_drew1 | refine below_set ?_ GE210.out) | exact HB.out)) hb); have n2_ := Aside0.mk (hbox); have n3_ := Aside0.mk ((by rw [hg]; exact (below_size (by repeat (first | (with_reducible first | exact HB.out | apply below_alloc | apply pw_below_drewN | apply below_drew1 | refine below_set ?_ GE210.out) | exact HB.out))) : w.heap.size ≤ gb217)); have n4_ := Aside0.mk ((by rw [hg]; exact (below_size (by repeat (first | (with_reducible first | exact HB.out | apply below_alloc | apply pw_below_drewN | apply below_drew1 | refine below_set ?_ GE210.out) | exact HB.out))) : w.heap.size ≤ gb217)); have n5_ := Aside0.mk ((by rw [hg]; exact Nat.ne_of_lt (blk_lt (g := gb210) (o := .cells #[.int .i64 0, .int .i64 0, .int .i64 0] 27 (0, 0)) (by (with_reducible repeat (first | refine blk_drewN ?_ _ | refine blk_drew ?_ | refine blk_alloc ?_ _)); exact BK210.out)) : gb210 ≠ gb217)); have n6_ := Aside0.mk ((by rw [hg]; exact Nat.ne_of_gt (blk_lt (g := gb210) (o := .cells #[.int .i64 0, .int .i64 0, .int .i64 0] 27 (0, 0)) (by (with_reducible repeat (first | refine blk_drewN ?_ _ | refine blk_drew ?_ | refine blk_alloc ?_ _)); exact BK210.out)) : gb217 ≠ gb210)); clear BK210; clear HB; have BK210 := n0_; have HB := n1_; have BK217 := n2_; have GW217 := n3_; have GE217 := n4_; have NB210_217 := n5_; have NB217_210 := n6_; clear n0_ n1_ n2_ n3_ n4_ n5_ n6_; clear hb hbox hg; have hnb28 := NB217_210.out; have hnc28 := NB210_217.out; have hcz29_0 : w27.cell? ⟨gb217, 0, none⟩ = some (.int .i64 0) := (blk_cell BK217.out 0).trans rfl; have hcz29_1 : w27.cell? ⟨gb217, 1, none⟩ = some (.int .i64 0) := (blk_cell BK217.out 1).trans rfl; have hcz29_2 : w27.cell? ⟨gb217, 2, none⟩ = some (.int .i64 0) := (blk_cell BK217.out 2).trans rfl; have hfz29_0 := blk_frozen BK217.out 0; have hfz29_1 := blk_frozen BK217.out 1; have hfz29_2 := blk_frozen BK217.out 2) | ((with_reducible refine gate_callee (f := 42) rfl ?_); refine goesL_ (some 59) rfl rfl Tryd.func42 (by kernel_rfl) rfl #[.agg #[.int .i64 t211, .int .i64 t213, .int .i64 t215]] rfl (by (try simp only [List.map_toArray, List.map_cons, List.map_nil]); first | done | rfl | (simp only [List.length_drop, List.length_take]; rfl)) ?_; (with_reducible refine (calendar_valid.calls t211 t213 t215 true _ ?side1 A25.out).mono ?_); (case side1 => first | (with_reducible exact hT_md) | exact Tab_md.below hT_md (by repeat (first | (with_reducible first | exact HB.out | apply below_alloc | apply pw_below_drewN | apply below_drew1 | refine below_set ?_ GE210.out | refine below_set ?_ GE217.out) | exact HB.out))); rintro e w30 ⟨rfl, hb⟩; refine ⟨_, rfl, ?_⟩; have n0_ := Aside0.mk (blk_below (g := gb210) (o := .cells #[.int .i64 0, .int .i64 0, .int .i64 0] 27 (0, 0)) (by (with_reducible repeat (first | refine blk_drewN ?_ _ | refine blk_drew ?_ | refine blk_alloc ?_ _)); refine blk_far ?_ NB210_217.out _; (with_reducible repeat (first | refine blk_drewN ?_ _ | refine blk_drew ?_ | refine blk_alloc ?_ _)); refine blk_far ?_ NB210_217.out _; (with_reducible repeat (first | refine blk_drewN ?_ _ | refine blk_drew ?_ | refine blk_alloc ?_ _)); refine blk_far ?_ NB210_217.out _; (with_reducible repeat (first | refine blk_drewN ?_ _ | refine blk_drew ?_ | refine blk_alloc ?_ _)); exact BK210.out) hb); have n1_ := Aside0.mk (blk_below (g := gb217) (o := .cells #[.int .i64 t211, .int .i64 t213, .int .i64 t215] 27 (0, 0)) (by (with_reducible repeat (first | refine blk_drewN ?_ _ | refine blk_drew ?_ | refine blk_alloc ?_ _)); refine blk_put (cs := #[.int .i64 t211, .int .i64 t213, .int .i64 0]) ?_ 2 _ rfl; (with_reducible repeat (first | refine blk_drewN ?_ _ | refine blk_drew ?_ | refine blk_alloc ?_ _)); refine blk_put (cs := #[.int .i64 t211, .int .i64 0, .int .i64 0]) ?_ 1 _ rfl; (with_reducible repeat (first | refine blk_drewN ?_ _ | refine blk_drew ?_ | refine blk_alloc ?_ _)); refine blk_put (cs := #[.int .i64 0, .int .i64 0, .int .i64 0]) ?_ 0 _ rfl; (with_reducible repeat (first | refine blk_drewN ?_ _ | refine blk_drew ?_ | refine blk_alloc ?_ _)); exact BK217.out) hb); have n2_ := Aside0.mk (below_step (by repeat (first | (with_reducible first | exact HB.out | apply below_alloc | apply pw_below_drewN | apply below_drew1 | refine below_set ?_ GE210.out | refine below_set ?_ GE217.out) | exact HB.out)) hb); clear BK210; clear BK217; clear HB; have BK210 := n0_; have BK217 := n1_; have HB := n2_; clear n0_ n1_ n2_; (try clear hb); (try clear hb2); (try clear hk); (try clear hi); have hcz31_0 : w30.cell? ⟨gb217, 0, none⟩ = some (.int .i64 t211) := (blk_cell BK217.out 0).trans rfl; have hcz31_1 : w30.cell? ⟨gb217, 1, none⟩ = some (.int .i64 t213) := (blk_cell BK217.out 1).trans rfl; have hcz31_2 : w30.cell? ⟨gb217, 2, none⟩ = some (.int .i64 t215) := (blk_cell BK217.out 2).trans rfl; have hfz31_0 := blk_frozen BK217.out 0; have hfz31_1 := blk_frozen BK217.out 1; have hfz31_2 := blk_frozen BK217.out 2; have hcz32_0 : w30.cell? ⟨gb210, 0, none⟩ = some (.int .i64 0) := (blk_cell BK210.out 0).trans rfl; have hcz32_1 : w30.cell? ⟨gb210, 1, none⟩ = some (.int .i64 0) := (blk_cell BK210.out 1).trans rfl; have hcz32_2 : w30.cell? ⟨gb210, 2, none⟩ = some (.int .i64 0) := (blk_cell BK210.out 2).trans rfl; have hfz32_0 := blk_frozen BK210.out 0; have hfz32_1 := blk_frozen BK210.out 1; have hfz32_2 := blk_frozen BK210.out 2))
                          refine bodyPost_ret (results_ct rfl _ _ gb210 27 #[.int .i64 t211, .int .i64 t213, .int .i64 t215] (0, 0) _ rfl (by (with_reducible repeat (first | refine blk_drewN ?_ _ | refine blk_drew ?_ | refine blk_alloc ?_ _)); refine blk_put (cs := #[.int .i64 t211, .int .i64 t213, .int .i64 0]) ?_ 2 _ rfl; (with_reducible repeat (first | refine blk_drewN ?_ _ | refine blk_drew ?_ | refine blk_alloc ?_ _)); refine blk_put (cs := #[.int .i64 t211, .int .i64 0, .int .i64 0]) ?_ 1 _ rfl; (with_reducible repeat (first | refine blk_drewN ?_ _ | refine blk_drew ?_ | refine blk_alloc ?_ _)); refine blk_put (cs := #[.int .i64 0, .int .i64 0, .int .i64 0]) ?_ 0 _ rfl; (with_reducible repeat (first | refine blk_drewN ?_ _ | refine blk_drew ?_ | refine blk_alloc ?_ _)); exact BK210.out) Tryd.underlying27 rfl (by kernel_rfl)) rfl ?_
                          exact ⟨by first | rfl | (simp [errW_none, errW_some] <;> rfl) | (simp [*, errW_none, errW_some] <;> rfl), by repeat (first | (with_reducible first | exact HB.out | apply below_alloc | apply pw_below_drewN | apply below_drew1 | refine below_set ?_ GE210.out | refine below_set ?_ GE217.out) | exact HB.out)⟩
                        · replace c26 := Bool.eq_false_iff.mpr c26
                          subst c26
                          have H1 : (some (0, 0, 0, 5)) = some (r1, r2, r3, r4) := by rw [if_neg (show ¬ (false = true) by decide)] at H; exact H
                          clear H
                          have H := H1
                          clear H1
                          simp only [Option.some.injEq, Prod.mk.injEq] at H
                          obtain ⟨rfl, rfl, rfl, rfl⟩ := H
                          go_wp2_with (first | ((with_reducible refine gate_dst (N := 10) rfl ?_); refine box_event ?hg (N := 10) ?hd (cs := #[.int .i64 0, .int .i64 0, .int .i64 0]) (t := 27) ?hr ?_; (case hd => rfl); (case hg => rfl); (case hr => first | (go_simp; done) | (go_simp; rfl)); intro gb217 hg w33 hbox hb; have n0_ := Aside0.mk (blk_below (g := gb210) (o := .cells #[.int .i64 0, .int .i64 0, .int .i64 0] 27 (0, 0)) (by (with_reducible repeat (first | refine blk_drewN ?_ _ | refine blk_drew ?_ | refine blk_alloc ?_ _)); exact BK210.out) hb); have n1_ := Aside0.mk (below_step (by repeat (first | (with_reducible first | exact HB.out | apply below_alloc | apply pw_below_drewN | apply below_drew1 | refine below_set ?_ GE210.out) | exact HB.out)) hb); have n2_ := Aside0.mk (hbox); have n3_ := Aside0.mk ((by rw [hg]; exact (below_size (by repeat (first | (with_reducible first | exact HB.out | apply below_alloc | apply pw_below_drewN | apply below_drew1 | refine below_set ?_ GE210.out) | exact HB.out))) : w.heap.size ≤ gb217)); have n4_ := Aside0.mk ((by rw [hg]; exact (below_size (by repeat (first | (with_reducible first | exact HB.out | apply below_alloc | apply pw_below_drewN | apply below_drew1 | refine below_set ?_ GE210.out) | exact HB.out))) : w.heap.size ≤ gb217)); have n5_ := Aside0.mk ((by rw [hg]; exact Nat.ne_of_lt (blk_lt (g := gb210) (o := .cells #[.int .i64 0, .int .i64 0, .int .i64 0] 27 (0, 0)) (by (with_reducible repeat (first | refine blk_drewN ?_ _ | refine blk_drew ?_ | refine blk_alloc ?_ _)); exact BK210.out)) : gb210 ≠ gb217)); have n6_ := Aside0.mk ((by rw [hg]; exact Nat.ne_of_gt (blk_lt (g := gb210) (o := .cells #[.int .i64 0, .int .i64 0, .int .i64 0] 27 (0, 0)) (by (with_reducible repeat (first | refine blk_drewN ?_ _ | refine blk_drew ?_ | refine blk_alloc ?_ _)); exact BK210.out)) : gb217 ≠ gb210)); clear BK210; clear HB; have BK210 := n0_; have HB := n1_; have BK217 := n2_; have GW217 := n3_; have GE217 := n4_; have NB210_217 := n5_; have NB217_210 := n6_; clear n0_ n1_ n2_ n3_ n4_ n5_ n6_; clear hb hbox hg; have hnb34 := NB217_210.out; have hnc34 := NB210_217.out; have hcz35_0 : w33.cell? ⟨gb217, 0, none⟩ = some (.int .i64 0) := (blk_cell BK217.out 0).trans rfl; have hcz35_1 : w33.cell? ⟨gb217, 1, none⟩ = some (.int .i64 0) := (blk_cell BK217.out 1).trans rfl; have hcz35_2 : w33.cell? ⟨gb217, 2, none⟩ = some (.int .i64 0) := (blk_cell BK217.out 2).trans rfl; have hfz35_0 := blk_frozen BK217.out 0; have hfz35_1 := blk_frozen BK217.out 1; have hfz35_2 := blk_frozen BK217.out 2) | ((with_reducible refine gate_callee (f := 42) rfl ?_); refine goesL_ (some 59) rfl rfl Tryd.func42 (by kernel_rfl) rfl #[.agg #[.int .i64 t211, .int .i64 t213, .int .i64 t215]] rfl (by (try simp only [List.map_toArray, List.map_cons, List.map_nil]); first | done | rfl | (simp only [List.length_drop, List.length_take]; rfl)) ?_; (with_reducible refine (calendar_valid.calls t211 t213 t215 false _ ?side1 A25.out).mono ?_); (case side1 => first | (with_reducible exact hT_md) | exact Tab_md.below hT_md (by repeat (first | (with_reducible first | exact HB.out | apply below_alloc | apply pw_below_drewN | apply below_drew1 | refine below_set ?_ GE210.out | refine below_set ?_ GE217.out) | exact HB.out))); rintro e w36 ⟨rfl, hb⟩; refine ⟨_, rfl, ?_⟩; have n0_ := Aside0.mk (blk_below (g := gb210) (o := .cells #[.int .i64 0, .int .i64 0, .int .i64 0] 27 (0, 0)) (by (with_reducible repeat (first | refine blk_drewN ?_ _ | refine blk_drew ?_ | refine blk_alloc ?_ _)); refine blk_far ?_ NB210_217.out _; (with_reducible repeat (first | refine blk_drewN ?_ _ | refine blk_drew ?_ | refine blk_alloc ?_ _)); refine blk_far ?_ NB210_217.out _; (with_reducible repeat (first | refine blk_drewN ?_ _ | refine blk_drew ?_ | refine blk_alloc ?_ _)); refine blk_far ?_ NB210_217.out _; (with_reducible repeat (first | refine blk_drewN ?_ _ | refine blk_drew ?_ | refine blk_alloc ?_ _)); exact BK210.out) hb); have n1_ := Aside0.mk (blk_below (g := gb217) (o := .cells #[.int .i64 t211, .int .i64 t213, .int .i64 t215] 27 (0, 0)) (by (with_reducible repeat (first | refine blk_drewN ?_ _ | refine blk_drew ?_ | refine blk_alloc ?_ _)); refine blk_put (cs := #[.int .i64 t211, .int .i64 t213, .int .i64 0]) ?_ 2 _ rfl; (with_reducible repeat (first | refine blk_drewN ?_ _ | refine blk_drew ?_ | refine blk_alloc ?_ _)); refine blk_put (cs := #[.int .i64 t211, .int .i64 0, .int .i64 0]) ?_ 1 _ rfl; (with_reducible repeat (first | refine blk_drewN ?_ _ | refine blk_drew ?_ | refine blk_alloc ?_ _)); refine blk_put (cs := #[.int .i64 0, .int .i64 0, .int .i64 0]) ?_ 0 _ rfl; (with_reducible repeat (first | refine blk_drewN ?_ _ | refine blk_drew ?_ | refine blk_alloc ?_ _)); exact BK217.out) hb); have n2_ := Aside0.mk (below_step (by repeat (first | (with_reducible first | exact HB.out | apply below_alloc | apply pw_below_drewN | apply below_drew1 | refine below_set ?_ GE210.out | refine below_set ?_ GE217.out) | exact HB.out)) hb); clear BK210; clear BK217; clear HB; have BK210 := n0_; have BK217 := n1_; have HB := n2_; clear n0_ n1_ n2_; (try clear hb); (try clear hb2); (try clear hk); (try clear hi); have hcz37_0 : w36.cell? ⟨gb210, 0, none⟩ = some (.int .i64 0) := (blk_cell BK210.out 0).trans rfl; have hcz37_1 : w36.cell? ⟨gb210, 1, none⟩ = some (.int .i64 0) := (blk_cell BK210.out 1).trans rfl; have hcz37_2 : w36.cell? ⟨gb210, 2, none⟩ = some (.int .i64 0) := (blk_cell BK210.out 2).trans rfl; have hfz37_0 := blk_frozen BK210.out 0; have hfz37_1 := blk_frozen BK210.out 1; have hfz37_2 := blk_frozen BK210.out 2))
                          refine bodyPost_ret (results_ct rfl _ _ gb210 27 #[.int .i64 0, .int .i64 0, .int .i64 0] (0, 0) _ rfl (by (with_reducible repeat (first | refine blk_drewN ?_ _ | refine blk_drew ?_ | refine blk_alloc ?_ _)); refine blk_put (cs := #[.int .i64 0, .int .i64 0, .int .i64 0]) ?_ 2 _ rfl; (with_reducible repeat (first | refine blk_drewN ?_ _ | refine blk_drew ?_ | refine blk_alloc ?_ _)); refine blk_put (cs := #[.int .i64 0, .int .i64 0, .int .i64 0]) ?_ 1 _ rfl; (with_reducible repeat (first | refine blk_drewN ?_ _ | refine blk_drew ?_ | refine blk_alloc ?_ _)); refine blk_put (cs := #[.int .i64 0, .int .i64 0, .int .i64 0]) ?_ 0 _ rfl; (with_reducible repeat (first | refine blk_drewN ?_ _ | refine blk_drew ?_ | refine blk_alloc ?_ _)); exact BK210.out) Tryd.underlying27 rfl (by kernel_rfl)) rfl ?_
                          exact ⟨by first | rfl | (simp [errW_none, errW_some] <;> rfl) | (simp [*, errW_none, errW_some] <;> rfl), by repeat (first | (with_reducible first | exact HB.out | apply below_alloc | apply pw_below_drewN | apply below_drew1 | refine below_set ?_ GE210.out | refine below_set ?_ GE217.out) | exact HB.out)⟩
                · rw [if_neg c18] at H
                  exact absurd H (by simp)
              · rw [if_neg c16] at H
                exact absurd H (by simp)
            · rw [if_neg c15] at H
              exact absurd H (by simp)
          · rw [if_neg c13] at H
            exact absurd H (by simp)
        · rw [if_neg c12] at H
          exact absurd H (by simp)

/-! ### pairingref5_ParseDate: function 24 -/
mutual
def pairingref5_ParseDate.j0 : Nat → ByteArray → Bool → Option (Int × Int × Int × Int)
  | 0, _, _ => none
  | k + 1, x0, x23 => if x23 = true then (some (0, 0, 0, 1)) else (if 0 ≤ 4 then (if 4 ≤ (x0.size : Int) then ((pairingref5_Digits.f k (x0.extract 0 4) 4 4).bind fun bt221 => (if 5 ≤ 7 then (if 7 ≤ (x0.size : Int) then ((pairingref5_Digits.f k (x0.extract 5 7) 2 2).bind fun bt223 => (if 8 ≤ (x0.size : Int) then ((pairingref5_Digits.f k (x0.extract 8 x0.size) 2 2).bind fun bt225 => (if bt221.2 = true then (if bt223.2 = true then (pairingref5_ParseDate.j1 k bt221.1 bt223.1 bt225.1 (!bt225.2)) else (pairingref5_ParseDate.j1 k bt221.1 bt223.1 bt225.1 true)) else (pairingref5_ParseDate.j1 k bt221.1 bt223.1 bt225.1 true))) else (none))) else (none)) else (none))) else (none)) else (none))
def pairingref5_ParseDate.j1 : Nat → Int → Int → Int → Bool → Option (Int × Int × Int × Int)
  | 0, _, _, _, _ => none
  | k + 1, x4, x6, x8, x52 => if x52 = true then (some (0, 0, 0, 1)) else ((pairingref5_IsDate.f k x4 x6 x8).bind fun t228 => (if t228 = true then (some (x4, x6, x8, 0)) else (some (0, 0, 0, 5))))
end
def pairingref5_ParseDate.f (k : Nat) (a0 : ByteArray) : Option (Int × Int × Int × Int) := if (a0.size : Int) = 10 then (if 4 < (a0.size : Int) then (if (bt a0 4) = 45 then (if 7 < (a0.size : Int) then (pairingref5_ParseDate.j0 k a0 ((bt a0 7) != 45)) else (none)) else (pairingref5_ParseDate.j0 k a0 true)) else (none)) else (pairingref5_ParseDate.j0 k a0 true)
theorem pairingref5_ParseDate.mono_l : ∀ k, (∀ y0 y1, LeO (pairingref5_ParseDate.j0 k y0 y1) (pairingref5_ParseDate.j0 (k + 1) y0 y1)) ∧ (∀ y0 y1 y2 y3, LeO (pairingref5_ParseDate.j1 k y0 y1 y2 y3) (pairingref5_ParseDate.j1 (k + 1) y0 y1 y2 y3))
  | 0 => ⟨fun _ _ r h => by simp [pairingref5_ParseDate.j0] at h, fun _ _ _ _ r h => by simp [pairingref5_ParseDate.j1] at h⟩
  | k + 1 => by
    obtain ⟨ih0, ih1⟩ := pairingref5_ParseDate.mono_l k
    refine ⟨?_, ?_⟩
    · intro y0 y1
      unfold pairingref5_ParseDate.j0
      repeat' first
      | (with_reducible exact ih0 _ _)
      | (with_reducible exact ih1 _ _ _ _)
      | (with_reducible exact pairingref5_Digits.mono _ _ _ _)
      | (with_reducible exact pairingref5_IsDate.mono _ _ _ _)
      | (with_reducible exact LeO.refl _)
      | (with_reducible exact LeO.none _)
      | (with_reducible refine LeO.ite ?_ ?_)
      | (with_reducible refine LeO.bind ?_ (fun _ => ?_))
      | exact ih0 _ _
      | exact ih1 _ _ _ _
      | exact pairingref5_Digits.mono _ _ _ _
      | exact pairingref5_IsDate.mono _ _ _ _
      | exact LeO.none _
      | refine LeO.ite ?_ ?_
      | refine LeO.bind ?_ (fun _ => ?_)
    · intro y0 y1 y2 y3
      unfold pairingref5_ParseDate.j1
      repeat' first
      | (with_reducible exact ih0 _ _)
      | (with_reducible exact ih1 _ _ _ _)
      | (with_reducible exact pairingref5_Digits.mono _ _ _ _)
      | (with_reducible exact pairingref5_IsDate.mono _ _ _ _)
      | (with_reducible exact LeO.refl _)
      | (with_reducible exact LeO.none _)
      | (with_reducible refine LeO.ite ?_ ?_)
      | (with_reducible refine LeO.bind ?_ (fun _ => ?_))
      | exact ih0 _ _
      | exact ih1 _ _ _ _
      | exact pairingref5_Digits.mono _ _ _ _
      | exact pairingref5_IsDate.mono _ _ _ _
      | exact LeO.none _
      | refine LeO.ite ?_ ?_
      | refine LeO.bind ?_ (fun _ => ?_)
theorem pairingref5_ParseDate.mono : ∀ a0 k, LeO (pairingref5_ParseDate.f k a0) (pairingref5_ParseDate.f (k + 1) a0) := by
  intro a0 k
  obtain ⟨ih0, ih1⟩ := pairingref5_ParseDate.mono_l k
  unfold pairingref5_ParseDate.f
  repeat' first
      | (with_reducible exact ih0 _ _)
      | (with_reducible exact ih1 _ _ _ _)
      | (with_reducible exact pairingref5_Digits.mono _ _ _ _)
      | (with_reducible exact pairingref5_IsDate.mono _ _ _ _)
      | (with_reducible exact LeO.refl _)
      | (with_reducible exact LeO.none _)
      | (with_reducible refine LeO.ite ?_ ?_)
      | (with_reducible refine LeO.bind ?_ (fun _ => ?_))
      | exact ih0 _ _
      | exact ih1 _ _ _ _
      | exact pairingref5_Digits.mono _ _ _ _
      | exact pairingref5_IsDate.mono _ _ _ _
      | exact LeO.none _
      | refine LeO.ite ?_ ?_
      | refine LeO.bind ?_ (fun _ => ?_)
set_option maxHeartbeats 8000000 in
set_option maxRecDepth 100000 in
theorem pairingref5_ParseDate.calls (k : Nat) (a0 : ByteArray) (r1 : Int) (r2 : Int) (r3 : Int) (r4 : Int) (w : World) (h : pairingref5_ParseDate.f k a0 = some (r1, r2, r3, r4)) :
    Calls Tryd.prog 24 #[.string a0] w fun e w' => e = .returned (.tuple #[.agg #[.int .i64 r1, .int .i64 r2, .int .i64 r3], .int .i64 r4]) ∧ Below w.heap.size w w' := by
  have hu27 := Tryd.underlying27
  have HB := Aside0.mk (Below.refl w.heap.size w)
  have H : (if (a0.size : Int) = 10 then (if 4 < (a0.size : Int) then (if (bt a0 4) = 45 then (if 7 < (a0.size : Int) then (pairingref5_ParseDate.j0 k a0 ((bt a0 7) != 45)) else (none)) else (pairingref5_ParseDate.j0 k a0 true)) else (none)) else (pairingref5_ParseDate.j0 k a0 true)) = some (r1, r2, r3, r4) := h
  clear h
  have HC2 := Aside0.mk H
  clear H
  go_enter Tryd.func24, Tryd.ntmps24
  go_upto_region 1 with (first | ((with_reducible refine gate_dst (N := 2) rfl ?_); refine box_event ?hg (N := 2) ?hd (cs := #[.int .i64 0, .int .i64 0, .int .i64 0]) (t := 27) ?hr ?_; (case hd => rfl); (case hg => rfl); (case hr => first | (go_simp; done) | (go_simp; rfl)); intro gb220 hg w3 hbox hb; have n0_ := Aside0.mk (below_step (by repeat (first | (with_reducible first | exact HB.out | apply below_alloc | apply pw_below_drewN | apply below_drew1) | exact HB.out)) hb); have n1_ := Aside0.mk (hbox); have n2_ := Aside0.mk ((by rw [hg]; exact (below_size (by repeat (first | (with_reducible first | exact HB.out | apply below_alloc | apply pw_below_drewN | apply below_drew1) | exact HB.out))) : w.heap.size ≤ gb220)); have n3_ := Aside0.mk ((by rw [hg]; exact (below_size (by repeat (first | (with_reducible first | exact HB.out | apply below_alloc | apply pw_below_drewN | apply below_drew1) | exact HB.out))) : w.heap.size ≤ gb220)); clear HB; have HB := n0_; have BK220 := n1_; have GW220 := n2_; have GE220 := n3_; clear n0_ n1_ n2_ n3_; clear hb hbox hg))
  (try simp only [Act.put, List.setIfInBounds_toArray, List.set_cons_zero, List.set_cons_succ])
  go_cut [23] (fun v23 wc => ∃ (kq : Nat) (x23_1 : Bool), v23 = .bool x23_1 ∧ Aside0 (pairingref5_ParseDate.j0 kq a0 x23_1 = some (r1, r2, r3, r4)) ∧ Aside0 (kq ≤ k) ∧ Aside0 (wc.heap[gb220]? = some (.cells #[.int .i64 0, .int .i64 0, .int .i64 0] 27 (0, 0))) ∧ Aside0 (Below w.heap.size w wc))
  case first =>
    have H := HC2.out
    clear HC2
    by_cases c4 : (a0.size : Int) = 10
    · rw [if_pos c4] at H
      have c4b0 : ((a0.size : Int) == 10) = true := beq_iff_eq.mpr c4
      have c4b1 : ((a0.size : Int) != 10) = false := bne_eq_false_iff_eq.mpr c4
      clear c4
      (first | rw [c4b0] | (simp only [i64_w, i32_w]; rw [c4b0]) | skip)
      by_cases c5 : 4 < (a0.size : Int)
      · rw [if_pos c5] at H
        have c5b0 : decide (4 < (a0.size : Int)) = true := decide_eq_true c5
        have c5b1 : decide (4 < a0.size) = true := decide_eq_true (by omega)
        clear c5
        by_cases c7 : (bt a0 4) = 45
        · rw [if_pos c7] at H
          have c7b0 : ((bt a0 4) == 45) = true := beq_iff_eq.mpr c7
          have c7b1 : ((bt a0 4) != 45) = false := bne_eq_false_iff_eq.mpr c7
          clear c7
          by_cases c8 : 7 < (a0.size : Int)
          · rw [if_pos c8] at H
            have c8b0 : decide (7 < (a0.size : Int)) = true := decide_eq_true c8
            have c8b1 : decide (7 < a0.size) = true := decide_eq_true (by omega)
            clear c8
            have H' := Aside0.mk H
            clear H
            have p6 : 0 ≤ (4 : Int) := (by omega)
            have q6 : 4 < a0.size := (by have : (4 : Int) < (a0.size : Int) := of_decide_eq_true (by first | (with_reducible assumption) | assumption); omega)
            have hx6 : ∀ h : 4 < a0.size, ((a0[4]'h).toNat : Int) = bt a0 4 := bt_at a0 4
            clear p6
            have qi6 : (4 < (a0.size : Int)) = True := eq_true (of_decide_eq_true (by first | (with_reducible assumption) | assumption))
            replace q6 := eq_true q6
            have p9 : 0 ≤ (7 : Int) := (by omega)
            have q9 : 7 < a0.size := (by have : (7 : Int) < (a0.size : Int) := of_decide_eq_true (by first | (with_reducible assumption) | assumption); omega)
            have hx9 : ∀ h : 7 < a0.size, ((a0[7]'h).toNat : Int) = bt a0 7 := bt_at a0 7
            clear p9
            have qi9 : (7 < (a0.size : Int)) = True := eq_true (of_decide_eq_true (by first | (with_reducible assumption) | assumption))
            replace q9 := eq_true q9
            go_wp2
            go_meet
            case rel => exact ⟨_, (((bt a0 7) != 45)), (by first | rfl | (simp; done) | (simp [*]; done)), H', ⟨by first | omega | exact Nat.le_refl _⟩, ⟨by (with_reducible repeat (first | refine blk_drewN ?_ _ | refine blk_drew ?_ | refine blk_alloc ?_ _)); exact BK220.out⟩, ⟨by repeat (first | (with_reducible first | exact HB.out | apply below_alloc | apply pw_below_drewN | apply below_drew1 | refine below_set ?_ GE220.out) | exact HB.out)⟩⟩
          · rw [if_neg c8] at H
            exact absurd H (by simp)
        · rw [if_neg c7] at H
          have c7b0 : ((bt a0 4) == 45) = false := beq_eq_false_iff_ne.mpr c7
          have c7b1 : ((bt a0 4) != 45) = true := bne_iff_ne.mpr c7
          have H' := Aside0.mk H
          clear H
          have p6 : 0 ≤ (4 : Int) := (by omega)
          have q6 : 4 < a0.size := (by have : (4 : Int) < (a0.size : Int) := of_decide_eq_true (by first | (with_reducible assumption) | assumption); omega)
          have hx6 : ∀ h : 4 < a0.size, ((a0[4]'h).toNat : Int) = bt a0 4 := bt_at a0 4
          clear p6
          have qi6 : (4 < (a0.size : Int)) = True := eq_true (of_decide_eq_true (by first | (with_reducible assumption) | assumption))
          replace q6 := eq_true q6
          go_wp2
          go_meet
          case rel => exact ⟨_, (true), (by first | rfl | (simp; done) | (simp [*]; done)), H', ⟨by first | omega | exact Nat.le_refl _⟩, ⟨by (with_reducible repeat (first | refine blk_drewN ?_ _ | refine blk_drew ?_ | refine blk_alloc ?_ _)); exact BK220.out⟩, ⟨by repeat (first | (with_reducible first | exact HB.out | apply below_alloc | apply pw_below_drewN | apply below_drew1 | refine below_set ?_ GE220.out) | exact HB.out)⟩⟩
      · rw [if_neg c5] at H
        exact absurd H (by simp)
    · rw [if_neg c4] at H
      have c4b0 : ((a0.size : Int) == 10) = false := beq_eq_false_iff_ne.mpr c4
      have c4b1 : ((a0.size : Int) != 10) = true := bne_iff_ne.mpr c4
      (first | rw [c4b0] | (simp only [i64_w, i32_w]; rw [c4b0]) | skip)
      have H' := Aside0.mk H
      clear H
      go_wp2
      go_meet
      case rel => exact ⟨_, (true), (by first | rfl | (simp; done) | (simp [*]; done)), H', ⟨by first | omega | exact Nat.le_refl _⟩, ⟨by (with_reducible repeat (first | refine blk_drewN ?_ _ | refine blk_drew ?_ | refine blk_alloc ?_ _)); exact BK220.out⟩, ⟨by repeat (first | (with_reducible first | exact HB.out | apply below_alloc | apply pw_below_drewN | apply below_drew1 | refine below_set ?_ GE220.out) | exact HB.out)⟩⟩
  case rest =>
    clear HC2
    try clear c2
    try clear p2
    try clear c4
    try clear c4b0
    try clear c4b1
    try clear c5
    try clear c5b0
    try clear c5b1
    try clear p6
    try clear q6
    try clear hx6
    try clear qi6
    try clear c7
    try clear c7b0
    try clear c7b1
    try clear c8
    try clear c8b0
    try clear c8b1
    try clear p9
    try clear q9
    try clear hx9
    try clear qi9
    try clear p6
    try clear p9
    try clear q6
    try clear q9
    obtain ⟨kq, x23_1, rfl, HA, HJ1, BK220, HB⟩ := hcut
    cases kq with
    | zero => exact absurd HA.out (by simp [pairingref5_ParseDate.j0])
    | succ kj1 =>
      have H := HA.out
      clear HA
      simp only [pairingref5_ParseDate.j0] at H
      by_cases c10 : x23_1 = true
      · subst c10
        have H1 : (some (0, 0, 0, 1)) = some (r1, r2, r3, r4) := by rw [if_pos rfl] at H; exact H
        clear H
        have H := H1
        clear H1
        simp only [Option.some.injEq, Prod.mk.injEq] at H
        obtain ⟨rfl, rfl, rfl, rfl⟩ := H
        have hcz11_0 : wc.cell? ⟨gb220, 0, none⟩ = some (.int .i64 0) := (blk_cell BK220.out 0).trans rfl
        have hcz11_1 : wc.cell? ⟨gb220, 1, none⟩ = some (.int .i64 0) := (blk_cell BK220.out 1).trans rfl
        have hcz11_2 : wc.cell? ⟨gb220, 2, none⟩ = some (.int .i64 0) := (blk_cell BK220.out 2).trans rfl
        have hfz11_0 := blk_frozen BK220.out 0
        have hfz11_1 := blk_frozen BK220.out 1
        have hfz11_2 := blk_frozen BK220.out 2
        go_wp2
        refine bodyPost_ret (results_ct rfl _ _ gb220 27 #[.int .i64 0, .int .i64 0, .int .i64 0] (0, 0) _ rfl (by (with_reducible repeat (first | refine blk_drewN ?_ _ | refine blk_drew ?_ | refine blk_alloc ?_ _)); refine blk_put (cs := #[.int .i64 0, .int .i64 0, .int .i64 0]) ?_ 2 _ rfl; (with_reducible repeat (first | refine blk_drewN ?_ _ | refine blk_drew ?_ | refine blk_alloc ?_ _)); refine blk_put (cs := #[.int .i64 0, .int .i64 0, .int .i64 0]) ?_ 1 _ rfl; (with_reducible repeat (first | refine blk_drewN ?_ _ | refine blk_drew ?_ | refine blk_alloc ?_ _)); refine blk_put (cs := #[.int .i64 0, .int .i64 0, .int .i64 0]) ?_ 0 _ rfl; (with_reducible repeat (first | refine blk_drewN ?_ _ | refine blk_drew ?_ | refine blk_alloc ?_ _)); exact BK220.out) Tryd.underlying27 rfl (by kernel_rfl)) rfl ?_
        exact ⟨by first | rfl | (simp [errW_none, errW_some] <;> rfl) | (simp [*, errW_none, errW_some] <;> rfl), by repeat (first | (with_reducible first | exact HB.out | apply below_alloc | apply pw_below_drewN | apply below_drew1 | refine below_set ?_ GE220.out) | exact HB.out)⟩
      · replace c10 := Bool.eq_false_iff.mpr c10
        subst c10
        have H1 : (if 0 ≤ 4 then (if 4 ≤ (a0.size : Int) then ((pairingref5_Digits.f kj1 (a0.extract 0 4) 4 4).bind fun bt221 => (if 5 ≤ 7 then (if 7 ≤ (a0.size : Int) then ((pairingref5_Digits.f kj1 (a0.extract 5 7) 2 2).bind fun bt223 => (if 8 ≤ (a0.size : Int) then ((pairingref5_Digits.f kj1 (a0.extract 8 a0.size) 2 2).bind fun bt225 => (if bt221.2 = true then (if bt223.2 = true then (pairingref5_ParseDate.j1 kj1 bt221.1 bt223.1 bt225.1 (!bt225.2)) else (pairingref5_ParseDate.j1 kj1 bt221.1 bt223.1 bt225.1 true)) else (pairingref5_ParseDate.j1 kj1 bt221.1 bt223.1 bt225.1 true))) else (none))) else (none)) else (none))) else (none)) else (none)) = some (r1, r2, r3, r4) := by rw [if_neg (show ¬ (false = true) by decide)] at H; exact H
        clear H
        have H := H1
        clear H1
        by_cases c12 : 0 ≤ 4
        · rw [if_pos c12] at H
          have c12b0 := eq_true c12
          have c12b1 : decide (0 ≤ 4) = true := decide_eq_true c12
          clear c12
          by_cases c13 : 4 ≤ (a0.size : Int)
          · rw [if_pos c13] at H
            have c13b0 := eq_true c13
            have c13b1 : decide (4 ≤ (a0.size : Int)) = true := decide_eq_true c13
            clear c13
            replace H := Option.bind_eq_some_iff.mp H
            obtain ⟨⟨t221, t222⟩, A140, H⟩ := H
            replace H : (if 5 ≤ 7 then (if 7 ≤ (a0.size : Int) then ((pairingref5_Digits.f kj1 (a0.extract 5 7) 2 2).bind fun bt223 => (if 8 ≤ (a0.size : Int) then ((pairingref5_Digits.f kj1 (a0.extract 8 a0.size) 2 2).bind fun bt225 => (if t222 = true then (if bt223.2 = true then (pairingref5_ParseDate.j1 kj1 t221 bt223.1 bt225.1 (!bt225.2)) else (pairingref5_ParseDate.j1 kj1 t221 bt223.1 bt225.1 true)) else (pairingref5_ParseDate.j1 kj1 t221 bt223.1 bt225.1 true))) else (none))) else (none)) else (none)) = some (r1, r2, r3, r4) := H
            have A14 := Aside0.mk A140
            clear A140
            by_cases c15 : 5 ≤ 7
            · rw [if_pos c15] at H
              have c15b0 := eq_true c15
              have c15b1 : decide (5 ≤ 7) = true := decide_eq_true c15
              clear c15
              by_cases c16 : 7 ≤ (a0.size : Int)
              · rw [if_pos c16] at H
                have c16b0 := eq_true c16
                have c16b1 : decide (7 ≤ (a0.size : Int)) = true := decide_eq_true c16
                clear c16
                replace H := Option.bind_eq_some_iff.mp H
                obtain ⟨⟨t223, t224⟩, A170, H⟩ := H
                replace H : (if 8 ≤ (a0.size : Int) then ((pairingref5_Digits.f kj1 (a0.extract 8 a0.size) 2 2).bind fun bt225 => (if t222 = true then (if t224 = true then (pairingref5_ParseDate.j1 kj1 t221 t223 bt225.1 (!bt225.2)) else (pairingref5_ParseDate.j1 kj1 t221 t223 bt225.1 true)) else (pairingref5_ParseDate.j1 kj1 t221 t223 bt225.1 true))) else (none)) = some (r1, r2, r3, r4) := H
                have A17 := Aside0.mk A170
                clear A170
                by_cases c18 : 8 ≤ (a0.size : Int)
                · rw [if_pos c18] at H
                  have c18b0 := eq_true c18
                  have c18b1 : decide (8 ≤ (a0.size : Int)) = true := decide_eq_true c18
                  clear c18
                  replace H := Option.bind_eq_some_iff.mp H
                  obtain ⟨⟨t225, t226⟩, A190, H⟩ := H
                  replace H : (if t222 = true then (if t224 = true then (pairingref5_ParseDate.j1 kj1 t221 t223 t225 (!t226)) else (pairingref5_ParseDate.j1 kj1 t221 t223 t225 true)) else (pairingref5_ParseDate.j1 kj1 t221 t223 t225 true)) = some (r1, r2, r3, r4) := H
                  have A19 := Aside0.mk A190
                  clear A190
                  have HC20 := Aside0.mk H
                  clear H
                  go_upto_region 6 with (first | ((with_reducible refine gate_callee (f := 46) rfl ?_); refine goesL_ (some 28) rfl rfl Tryd.func46 (by kernel_rfl) rfl #[.string (a0.extract 0 4), .int .i64 4, .int .i64 4] rfl (by (try simp only [List.map_toArray, List.map_cons, List.map_nil]); first | done | rfl | (simp only [List.length_drop, List.length_take]; rfl)) ?_; (with_reducible refine (pairingref5_Digits.calls kj1 (a0.extract 0 4) 4 4 t221 t222 _ A14.out).mono ?_); rintro e w' ⟨rfl, ⟨nd, rfl⟩⟩; refine ⟨_, rfl, ?_⟩) | ((with_reducible refine gate_callee (f := 46) rfl ?_); refine goesL_ (some 34) rfl rfl Tryd.func46 (by kernel_rfl) rfl #[.string (a0.extract 5 7), .int .i64 2, .int .i64 2] rfl (by (try simp only [List.map_toArray, List.map_cons, List.map_nil]); first | done | rfl | (simp only [List.length_drop, List.length_take]; rfl)) ?_; (with_reducible refine (pairingref5_Digits.calls kj1 (a0.extract 5 7) 2 2 t223 t224 _ A17.out).mono ?_); rintro e w' ⟨rfl, ⟨nd, rfl⟩⟩; refine ⟨_, rfl, ?_⟩) | ((with_reducible refine gate_callee (f := 46) rfl ?_); refine goesL_ (some 40) rfl rfl Tryd.func46 (by kernel_rfl) rfl #[.string (a0.extract 8 a0.size), .int .i64 2, .int .i64 2] rfl (by (try simp only [List.map_toArray, List.map_cons, List.map_nil]); first | done | rfl | (simp only [List.length_drop, List.length_take]; rfl)) ?_; (with_reducible refine (pairingref5_Digits.calls kj1 (a0.extract 8 a0.size) 2 2 t225 t226 _ A19.out).mono ?_); rintro e w' ⟨rfl, ⟨nd, rfl⟩⟩; refine ⟨_, rfl, ?_⟩))
                  (try simp only [Act.put, List.setIfInBounds_toArray, List.set_cons_zero, List.set_cons_succ])
                  go_cut [52] (fun v52 wc => ∃ (kq : Nat) (x52_19 : Bool), v52 = .bool x52_19 ∧ Aside0 (pairingref5_ParseDate.j1 kq t221 t223 t225 x52_19 = some (r1, r2, r3, r4)) ∧ Aside0 (kq ≤ kj1) ∧ Aside0 (wc.heap[gb220]? = some (.cells #[.int .i64 0, .int .i64 0, .int .i64 0] 27 (0, 0))) ∧ Aside0 (Below w.heap.size w wc))
                  case first =>
                    have H := HC20.out
                    clear HC20
                    by_cases c21 : t222 = true
                    · subst c21
                      have H1 : (if t224 = true then (pairingref5_ParseDate.j1 kj1 t221 t223 t225 (!t226)) else (pairingref5_ParseDate.j1 kj1 t221 t223 t225 true)) = some (r1, r2, r3, r4) := by rw [if_pos rfl] at H; exact H
                      clear H
                      have H := H1
                      clear H1
                      by_cases c22 : t224 = true
                      · subst c22
                        have H1 : (pairingref5_ParseDate.j1 kj1 t221 t223 t225 (!t226)) = some (r1, r2, r3, r4) := by rw [if_pos rfl] at H; exact H
                        clear H
                        have H := H1
                        clear H1
                        have H' := Aside0.mk H
                        clear H
                        go_wp2
                        go_meet
                        case rel => exact ⟨_, (!t226), (by first | rfl | (simp; done) | (simp [*]; done)), H', ⟨by have := HJ1.out; first | omega | exact Nat.le_refl _⟩, ⟨by (with_reducible repeat (first | refine blk_drewN ?_ _ | refine blk_drew ?_ | refine blk_alloc ?_ _)); exact BK220.out⟩, ⟨by repeat (first | (with_reducible first | exact HB.out | apply below_alloc | apply pw_below_drewN | apply below_drew1 | refine below_set ?_ GE220.out) | exact HB.out)⟩⟩
                      · replace c22 := Bool.eq_false_iff.mpr c22
                        subst c22
                        have H1 : (pairingref5_ParseDate.j1 kj1 t221 t223 t225 true) = some (r1, r2, r3, r4) := by rw [if_neg (show ¬ (false = true) by decide)] at H; exact H
                        clear H
                        have H := H1
                        clear H1
                        have H' := Aside0.mk H
                        clear H
                        go_wp2
                        go_meet
                        case rel => exact ⟨_, (true), (by first | rfl | (simp; done) | (simp [*]; done)), H', ⟨by have := HJ1.out; first | omega | exact Nat.le_refl _⟩, ⟨by (with_reducible repeat (first | refine blk_drewN ?_ _ | refine blk_drew ?_ | refine blk_alloc ?_ _)); exact BK220.out⟩, ⟨by repeat (first | (with_reducible first | exact HB.out | apply below_alloc | apply pw_below_drewN | apply below_drew1 | refine below_set ?_ GE220.out) | exact HB.out)⟩⟩
                    · replace c21 := Bool.eq_false_iff.mpr c21
                      subst c21
                      have H1 : (pairingref5_ParseDate.j1 kj1 t221 t223 t225 true) = some (r1, r2, r3, r4) := by rw [if_neg (show ¬ (false = true) by decide)] at H; exact H
                      clear H
                      have H := H1
                      clear H1
                      have H' := Aside0.mk H
                      clear H
                      go_wp2
                      go_meet
                      case rel => exact ⟨_, (true), (by first | rfl | (simp; done) | (simp [*]; done)), H', ⟨by have := HJ1.out; first | omega | exact Nat.le_refl _⟩, ⟨by (with_reducible repeat (first | refine blk_drewN ?_ _ | refine blk_drew ?_ | refine blk_alloc ?_ _)); exact BK220.out⟩, ⟨by repeat (first | (with_reducible first | exact HB.out | apply below_alloc | apply pw_below_drewN | apply below_drew1 | refine below_set ?_ GE220.out) | exact HB.out)⟩⟩
                  case rest =>
                    clear HC20
                    try clear c1
                    try clear c2
                    try clear p2
                    try clear c4
                    try clear c4b0
                    try clear c4b1
                    try clear c5
                    try clear c5b0
                    try clear c5b1
                    try clear p6
                    try clear q6
                    try clear hx6
                    try clear qi6
                    try clear c7
                    try clear c7b0
                    try clear c7b1
                    try clear c8
                    try clear c8b0
                    try clear c8b1
                    try clear p9
                    try clear q9
                    try clear hx9
                    try clear qi9
                    try clear c10
                    try clear c12
                    try clear c12b0
                    try clear c12b1
                    try clear c13
                    try clear c13b0
                    try clear c13b1
                    try clear c15
                    try clear c15b0
                    try clear c15b1
                    try clear c16
                    try clear c16b0
                    try clear c16b1
                    try clear c18
                    try clear c18b0
                    try clear c18b1
                    try clear c21
                    try clear c22
                    try clear hcz11_0
                    try clear hcz11_1
                    try clear hcz11_2
                    try clear hfz11_0
                    try clear hfz11_1
                    try clear hfz11_2
                    try clear p2
                    try clear p6
                    try clear p9
                    try clear q6
                    try clear q9
                    obtain ⟨kq, x52_19, rfl, HA, HJ19, BK220, HB⟩ := hcut
                    cases kq with
                    | zero => exact absurd HA.out (by simp [pairingref5_ParseDate.j1])
                    | succ kj19 =>
                      have H := HA.out
                      clear HA
                      simp only [pairingref5_ParseDate.j1] at H
                      by_cases c23 : x52_19 = true
                      · subst c23
                        have H1 : (some (0, 0, 0, 1)) = some (r1, r2, r3, r4) := by rw [if_pos rfl] at H; exact H
                        clear H
                        have H := H1
                        clear H1
                        simp only [Option.some.injEq, Prod.mk.injEq] at H
                        obtain ⟨rfl, rfl, rfl, rfl⟩ := H
                        have hcz24_0 : wc.cell? ⟨gb220, 0, none⟩ = some (.int .i64 0) := (blk_cell BK220.out 0).trans rfl
                        have hcz24_1 : wc.cell? ⟨gb220, 1, none⟩ = some (.int .i64 0) := (blk_cell BK220.out 1).trans rfl
                        have hcz24_2 : wc.cell? ⟨gb220, 2, none⟩ = some (.int .i64 0) := (blk_cell BK220.out 2).trans rfl
                        have hfz24_0 := blk_frozen BK220.out 0
                        have hfz24_1 := blk_frozen BK220.out 1
                        have hfz24_2 := blk_frozen BK220.out 2
                        go_wp2
                        refine bodyPost_ret (results_ct rfl _ _ gb220 27 #[.int .i64 0, .int .i64 0, .int .i64 0] (0, 0) _ rfl (by (with_reducible repeat (first | refine blk_drewN ?_ _ | refine blk_drew ?_ | refine blk_alloc ?_ _)); refine blk_put (cs := #[.int .i64 0, .int .i64 0, .int .i64 0]) ?_ 2 _ rfl; (with_reducible repeat (first | refine blk_drewN ?_ _ | refine blk_drew ?_ | refine blk_alloc ?_ _)); refine blk_put (cs := #[.int .i64 0, .int .i64 0, .int .i64 0]) ?_ 1 _ rfl; (with_reducible repeat (first | refine blk_drewN ?_ _ | refine blk_drew ?_ | refine blk_alloc ?_ _)); refine blk_put (cs := #[.int .i64 0, .int .i64 0, .int .i64 0]) ?_ 0 _ rfl; (with_reducible repeat (first | refine blk_drewN ?_ _ | refine blk_drew ?_ | refine blk_alloc ?_ _)); exact BK220.out) Tryd.underlying27 rfl (by kernel_rfl)) rfl ?_
                        exact ⟨by first | rfl | (simp [errW_none, errW_some] <;> rfl) | (simp [*, errW_none, errW_some] <;> rfl), by repeat (first | (with_reducible first | exact HB.out | apply below_alloc | apply pw_below_drewN | apply below_drew1 | refine below_set ?_ GE220.out) | exact HB.out)⟩
                      · replace c23 := Bool.eq_false_iff.mpr c23
                        subst c23
                        have H1 : ((pairingref5_IsDate.f kj19 t221 t223 t225).bind fun t228 => (if t228 = true then (some (t221, t223, t225, 0)) else (some (0, 0, 0, 5)))) = some (r1, r2, r3, r4) := by rw [if_neg (show ¬ (false = true) by decide)] at H; exact H
                        clear H
                        have H := H1
                        clear H1
                        replace H := Option.bind_eq_some_iff.mp H
                        obtain ⟨t228, A250, H⟩ := H
                        replace H : (if t228 = true then (some (t221, t223, t225, 0)) else (some (0, 0, 0, 5))) = some (r1, r2, r3, r4) := H
                        have A25 := Aside0.mk A250
                        clear A250
                        by_cases c26 : t228 = true
                        · subst c26
                          have H1 : (some (t221, t223, t225, 0)) = some (r1, r2, r3, r4) := by rw [if_pos rfl] at H; exact H
                          clear H
                          have H := H1
                          clear H1
                          simp only [Option.some.injEq, Prod.mk.injEq] at H
                          obtain ⟨rfl, rfl, rfl, rfl⟩ := H
                          go_wp2_with (first | ((with_reducible refine gate_dst (N := 10) rfl ?_); refine box_event ?hg (N := 10) ?hd (cs := #[.int .i64 0, .int .i64 0, .int .i64 0]) (t := 27) ?hr ?_; (case hd => rfl); (case hg => rfl); (case hr => first | (go_simp; done) | (go_simp; rfl)); intro gb227 hg w27 hbox hb; have n0_ := Aside0.mk (blk_below (g := gb220) (o := .cells #[.int .i64 0, .int .i64 0, .int .i64 0] 27 (0, 0)) (by (with_reducible repeat (first | refine blk_drewN ?_ _ | refine blk_drew ?_ | refine blk_alloc ?_ _)); exact BK220.out) hb); have n1_ := Aside0.mk (below_step (by repeat (first | (with_reducible first | exact HB.out | apply below_alloc | apply pw_below_drewN | apply below_drew1 | refine below_set ?_ GE220.out) | exact HB.out)) hb); have n2_ := Aside0.mk (hbox); have n3_ := Aside0.mk ((by rw [hg]; exact (below_size (by repeat (first | (with_reducible first | exact HB.out | apply below_alloc | apply pw_below_drewN | apply below_drew1 | refine below_set ?_ GE220.out) | exact HB.out))) : w.heap.size ≤ gb227)); have n4_ := Aside0.mk ((by rw [hg]; exact (below_size (by repeat (first | (with_reducible first | exact HB.out | apply below_alloc | apply pw_below_drewN | apply below_drew1 | refine below_set ?_ GE220.out) | exact HB.out))) : w.heap.size ≤ gb227)); have n5_ := Aside0.mk ((by rw [hg]; exact Nat.ne_of_lt (blk_lt (g := gb220) (o := .cells #[.int .i64 0, .int .i64 0, .int .i64 0] 27 (0, 0)) (by (with_reducible repeat (first | refine blk_drewN ?_ _ | refine blk_drew ?_ | refine blk_alloc ?_ _)); exact BK220.out)) : gb220 ≠ gb227)); have n6_ := Aside0.mk ((by rw [hg]; exact Nat.ne_of_gt (blk_lt (g := gb220) (o := .cells #[.int .i64 0, .int .i64 0, .int .i64 0] 27 (0, 0)) (by (with_reducible repeat (first | refine blk_drewN ?_ _ | refine blk_drew ?_ | refine blk_alloc ?_ _)); exact BK220.out)) : gb227 ≠ gb220)); clear BK220; clear HB; have BK220 := n0_; have HB := n1_; have BK227 := n2_; have GW227 := n3_; have GE227 := n4_; have NB220_227 := n5_; have NB227_220 := n6_; clear n0_ n1_ n2_ n3_ n4_ n5_ n6_; clear hb hbox hg; have hnb28 := NB227_220.out; have hnc28 := NB220_227.out; have hcz29_0 : w27.cell? ⟨gb227, 0, none⟩ = some (.int .i64 0) := (blk_cell BK227.out 0).trans rfl; have hcz29_1 : w27.cell? ⟨gb227, 1, none⟩ = some (.int .i64 0) := (blk_cell BK227.out 1).trans rfl; have hcz29_2 : w27.cell? ⟨gb227, 2, none⟩ = some (.int .i64 0) := (blk_cell BK227.out 2).trans rfl; have hfz29_0 := blk_frozen BK227.out 0; have hfz29_1 := blk_frozen BK227.out 1; have hfz29_2 := blk_frozen BK227.out 2) | ((with_reducible refine gate_callee (f := 43) rfl ?_); refine goesL_ (some 59) rfl rfl Tryd.func43 (by kernel_rfl) rfl #[.agg #[.int .i64 t221, .int .i64 t223, .int .i64 t225]] rfl (by (try simp only [List.map_toArray, List.map_cons, List.map_nil]); first | done | rfl | (simp only [List.length_drop, List.length_take]; rfl)) ?_; (with_reducible refine (pairingref5_IsDate.calls kj19 t221 t223 t225 true _ A25.out).mono ?_); rintro e w30 ⟨rfl, hb⟩; refine ⟨_, rfl, ?_⟩; have n0_ := Aside0.mk (blk_below (g := gb220) (o := .cells #[.int .i64 0, .int .i64 0, .int .i64 0] 27 (0, 0)) (by (with_reducible repeat (first | refine blk_drewN ?_ _ | refine blk_drew ?_ | refine blk_alloc ?_ _)); refine blk_far ?_ NB220_227.out _; (with_reducible repeat (first | refine blk_drewN ?_ _ | refine blk_drew ?_ | refine blk_alloc ?_ _)); refine blk_far ?_ NB220_227.out _; (with_reducible repeat (first | refine blk_drewN ?_ _ | refine blk_drew ?_ | refine blk_alloc ?_ _)); refine blk_far ?_ NB220_227.out _; (with_reducible repeat (first | refine blk_drewN ?_ _ | refine blk_drew ?_ | refine blk_alloc ?_ _)); exact BK220.out) hb); have n1_ := Aside0.mk (blk_below (g := gb227) (o := .cells #[.int .i64 t221, .int .i64 t223, .int .i64 t225] 27 (0, 0)) (by (with_reducible repeat (first | refine blk_drewN ?_ _ | refine blk_drew ?_ | refine blk_alloc ?_ _)); refine blk_put (cs := #[.int .i64 t221, .int .i64 t223, .int .i64 0]) ?_ 2 _ rfl; (with_reducible repeat (first | refine blk_drewN ?_ _ | refine blk_drew ?_ | refine blk_alloc ?_ _)); refine blk_put (cs := #[.int .i64 t221, .int .i64 0, .int .i64 0]) ?_ 1 _ rfl; (with_reducible repeat (first | refine blk_drewN ?_ _ | refine blk_drew ?_ | refine blk_alloc ?_ _)); refine blk_put (cs := #[.int .i64 0, .int .i64 0, .int .i64 0]) ?_ 0 _ rfl; (with_reducible repeat (first | refine blk_drewN ?_ _ | refine blk_drew ?_ | refine blk_alloc ?_ _)); exact BK227.out) hb); have n2_ := Aside0.mk (below_step (by repeat (first | (with_reducible first | exact HB.out | apply below_alloc | apply pw_below_drewN | apply below_drew1 | refine below_set ?_ GE220.out | refine below_set ?_ GE227.out) | exact HB.out)) hb); clear BK220; clear BK227; clear HB; have BK220 := n0_; have BK227 := n1_; have HB := n2_; clear n0_ n1_ n2_; (try clear hb); (try clear hb2); (try clear hk); (try clear hi); have hcz31_0 : w30.cell? ⟨gb227, 0, none⟩ = some (.int .i64 t221) := (blk_cell BK227.out 0).trans rfl; have hcz31_1 : w30.cell? ⟨gb227, 1, none⟩ = some (.int .i64 t223) := (blk_cell BK227.out 1).trans rfl; have hcz31_2 : w30.cell? ⟨gb227, 2, none⟩ = some (.int .i64 t225) := (blk_cell BK227.out 2).trans rfl; have hfz31_0 := blk_frozen BK227.out 0; have hfz31_1 := blk_frozen BK227.out 1; have hfz31_2 := blk_frozen BK227.out 2; have hcz32_0 : w30.cell? ⟨gb220, 0, none⟩ = some (.int .i64 0) := (blk_cell BK220.out 0).trans rfl; have hcz32_1 : w30.cell? ⟨gb220, 1, none⟩ = some (.int .i64 0) := (blk_cell BK220.out 1).trans rfl; have hcz32_2 : w30.cell? ⟨gb220, 2, none⟩ = some (.int .i64 0) := (blk_cell BK220.out 2).trans rfl; have hfz32_0 := blk_frozen BK220.out 0; have hfz32_1 := blk_frozen BK220.out 1; have hfz32_2 := blk_frozen BK220.out 2))
                          refine bodyPost_ret (results_ct rfl _ _ gb220 27 #[.int .i64 t221, .int .i64 t223, .int .i64 t225] (0, 0) _ rfl (by (with_reducible repeat (first | refine blk_drewN ?_ _ | refine blk_drew ?_ | refine blk_alloc ?_ _)); refine blk_put (cs := #[.int .i64 t221, .int .i64 t223, .int .i64 0]) ?_ 2 _ rfl; (with_reducible repeat (first | refine blk_drewN ?_ _ | refine blk_drew ?_ | refine blk_alloc ?_ _)); refine blk_put (cs := #[.int .i64 t221, .int .i64 0, .int .i64 0]) ?_ 1 _ rfl; (with_reducible repeat (first | refine blk_drewN ?_ _ | refine blk_drew ?_ | refine blk_alloc ?_ _)); refine blk_put (cs := #[.int .i64 0, .int .i64 0, .int .i64 0]) ?_ 0 _ rfl; (with_reducible repeat (first | refine blk_drewN ?_ _ | refine blk_drew ?_ | refine blk_alloc ?_ _)); exact BK220.out) Tryd.underlying27 rfl (by kernel_rfl)) rfl ?_
                          exact ⟨by first | rfl | (simp [errW_none, errW_some] <;> rfl) | (simp [*, errW_none, errW_some] <;> rfl), by repeat (first | (with_reducible first | exact HB.out | apply below_alloc | apply pw_below_drewN | apply below_drew1 | refine below_set ?_ GE220.out | refine below_set ?_ GE227.out) | exact HB.out)⟩
                        · replace c26 := Bool.eq_false_iff.mpr c26
                          subst c26
                          have H1 : (some (0, 0, 0, 5)) = some (r1, r2, r3, r4) := by rw [if_neg (show ¬ (false = true) by decide)] at H; exact H
                          clear H
                          have H := H1
                          clear H1
                          simp only [Option.some.injEq, Prod.mk.injEq] at H
                          obtain ⟨rfl, rfl, rfl, rfl⟩ := H
                          go_wp2_with (first | ((with_reducible refine gate_dst (N := 10) rfl ?_); refine box_event ?hg (N := 10) ?hd (cs := #[.int .i64 0, .int .i64 0, .int .i64 0]) (t := 27) ?hr ?_; (case hd => rfl); (case hg => rfl); (case hr => first | (go_simp; done) | (go_simp; rfl)); intro gb227 hg w33 hbox hb; have n0_ := Aside0.mk (blk_below (g := gb220) (o := .cells #[.int .i64 0, .int .i64 0, .int .i64 0] 27 (0, 0)) (by (with_reducible repeat (first | refine blk_drewN ?_ _ | refine blk_drew ?_ | refine blk_alloc ?_ _)); exact BK220.out) hb); have n1_ := Aside0.mk (below_step (by repeat (first | (with_reducible first | exact HB.out | apply below_alloc | apply pw_below_drewN | apply below_drew1 | refine below_set ?_ GE220.out) | exact HB.out)) hb); have n2_ := Aside0.mk (hbox); have n3_ := Aside0.mk ((by rw [hg]; exact (below_size (by repeat (first | (with_reducible first | exact HB.out | apply below_alloc | apply pw_below_drewN | apply below_drew1 | refine below_set ?_ GE220.out) | exact HB.out))) : w.heap.size ≤ gb227)); have n4_ := Aside0.mk ((by rw [hg]; exact (below_size (by repeat (first | (with_reducible first | exact HB.out | apply below_alloc | apply pw_below_drewN | apply below_drew1 | refine below_set ?_ GE220.out) | exact HB.out))) : w.heap.size ≤ gb227)); have n5_ := Aside0.mk ((by rw [hg]; exact Nat.ne_of_lt (blk_lt (g := gb220) (o := .cells #[.int .i64 0, .int .i64 0, .int .i64 0] 27 (0, 0)) (by (with_reducible repeat (first | refine blk_drewN ?_ _ | refine blk_drew ?_ | refine blk_alloc ?_ _)); exact BK220.out)) : gb220 ≠ gb227)); have n6_ := Aside0.mk ((by rw [hg]; exact Nat.ne_of_gt (blk_lt (g := gb220) (o := .cells #[.int .i64 0, .int .i64 0, .int .i64 0] 27 (0, 0)) (by (with_reducible repeat (first | refine blk_drewN ?_ _ | refine blk_drew ?_ | refine blk_alloc ?_ _)); exact BK220.out)) : gb227 ≠ gb220)); clear BK220; clear HB; have BK220 := n0_; have HB := n1_; have BK227 := n2_; have GW227 := n3_; have GE227 := n4_; have NB220_227 := n5_; have NB227_220 := n6_; clear n0_ n1_ n2_ n3_ n4_ n5_ n6_; clear hb hbox hg; have hnb34 := NB227_220.out; have hnc34 := NB220_227.out; have hcz35_0 : w33.cell? ⟨gb227, 0, none⟩ = some (.int .i64 0) := (blk_cell BK227.out 0).trans rfl; have hcz35_1 : w33.cell? ⟨gb227, 1, none⟩ = some (.int .i64 0) := (blk_cell BK227.out 1).trans rfl; have hcz35_2 : w33.cell? ⟨gb227, 2, none⟩ = some (.int .i64 0) := (blk_cell BK227.out 2).trans rfl; have hfz35_0 := blk_frozen BK227.out 0; have hfz35_1 := blk_frozen BK227.out 1; have hfz35_2 := blk_frozen BK227.out 2) | ((with_reducible refine gate_callee (f := 43) rfl ?_); refine goesL_ (some 59) rfl rfl Tryd.func43 (by kernel_rfl) rfl #[.agg #[.int .i64 t221, .int .i64 t223, .int .i64 t225]] rfl (by (try simp only [List.map_toArray, List.map_cons, List.map_nil]); first | done | rfl | (simp only [List.length_drop, List.length_take]; rfl)) ?_; (with_reducible refine (pairingref5_IsDate.calls kj19 t221 t223 t225 false _ A25.out).mono ?_); rintro e w36 ⟨rfl, hb⟩; refine ⟨_, rfl, ?_⟩; have n0_ := Aside0.mk (blk_below (g := gb220) (o := .cells #[.int .i64 0, .int .i64 0, .int .i64 0] 27 (0, 0)) (by (with_reducible repeat (first | refine blk_drewN ?_ _ | refine blk_drew ?_ | refine blk_alloc ?_ _)); refine blk_far ?_ NB220_227.out _; (with_reducible repeat (first | refine blk_drewN ?_ _ | refine blk_drew ?_ | refine blk_alloc ?_ _)); refine blk_far ?_ NB220_227.out _; (with_reducible repeat (first | refine blk_drewN ?_ _ | refine blk_drew ?_ | refine blk_alloc ?_ _)); refine blk_far ?_ NB220_227.out _; (with_reducible repeat (first | refine blk_drewN ?_ _ | refine blk_drew ?_ | refine blk_alloc ?_ _)); exact BK220.out) hb); have n1_ := Aside0.mk (blk_below (g := gb227) (o := .cells #[.int .i64 t221, .int .i64 t223, .int .i64 t225] 27 (0, 0)) (by (with_reducible repeat (first | refine blk_drewN ?_ _ | refine blk_drew ?_ | refine blk_alloc ?_ _)); refine blk_put (cs := #[.int .i64 t221, .int .i64 t223, .int .i64 0]) ?_ 2 _ rfl; (with_reducible repeat (first | refine blk_drewN ?_ _ | refine blk_drew ?_ | refine blk_alloc ?_ _)); refine blk_put (cs := #[.int .i64 t221, .int .i64 0, .int .i64 0]) ?_ 1 _ rfl; (with_reducible repeat (first | refine blk_drewN ?_ _ | refine blk_drew ?_ | refine blk_alloc ?_ _)); refine blk_put (cs := #[.int .i64 0, .int .i64 0, .int .i64 0]) ?_ 0 _ rfl; (with_reducible repeat (first | refine blk_drewN ?_ _ | refine blk_drew ?_ | refine blk_alloc ?_ _)); exact BK227.out) hb); have n2_ := Aside0.mk (below_step (by repeat (first | (with_reducible first | exact HB.out | apply below_alloc | apply pw_below_drewN | apply below_drew1 | refine below_set ?_ GE220.out | refine below_set ?_ GE227.out) | exact HB.out)) hb); clear BK220; clear BK227; clear HB; have BK220 := n0_; have BK227 := n1_; have HB := n2_; clear n0_ n1_ n2_; (try clear hb); (try clear hb2); (try clear hk); (try clear hi); have hcz37_0 : w36.cell? ⟨gb220, 0, none⟩ = some (.int .i64 0) := (blk_cell BK220.out 0).trans rfl; have hcz37_1 : w36.cell? ⟨gb220, 1, none⟩ = some (.int .i64 0) := (blk_cell BK220.out 1).trans rfl; have hcz37_2 : w36.cell? ⟨gb220, 2, none⟩ = some (.int .i64 0) := (blk_cell BK220.out 2).trans rfl; have hfz37_0 := blk_frozen BK220.out 0; have hfz37_1 := blk_frozen BK220.out 1; have hfz37_2 := blk_frozen BK220.out 2))
                          refine bodyPost_ret (results_ct rfl _ _ gb220 27 #[.int .i64 0, .int .i64 0, .int .i64 0] (0, 0) _ rfl (by (with_reducible repeat (first | refine blk_drewN ?_ _ | refine blk_drew ?_ | refine blk_alloc ?_ _)); refine blk_put (cs := #[.int .i64 0, .int .i64 0, .int .i64 0]) ?_ 2 _ rfl; (with_reducible repeat (first | refine blk_drewN ?_ _ | refine blk_drew ?_ | refine blk_alloc ?_ _)); refine blk_put (cs := #[.int .i64 0, .int .i64 0, .int .i64 0]) ?_ 1 _ rfl; (with_reducible repeat (first | refine blk_drewN ?_ _ | refine blk_drew ?_ | refine blk_alloc ?_ _)); refine blk_put (cs := #[.int .i64 0, .int .i64 0, .int .i64 0]) ?_ 0 _ rfl; (with_reducible repeat (first | refine blk_drewN ?_ _ | refine blk_drew ?_ | refine blk_alloc ?_ _)); exact BK220.out) Tryd.underlying27 rfl (by kernel_rfl)) rfl ?_
                          exact ⟨by first | rfl | (simp [errW_none, errW_some] <;> rfl) | (simp [*, errW_none, errW_some] <;> rfl), by repeat (first | (with_reducible first | exact HB.out | apply below_alloc | apply pw_below_drewN | apply below_drew1 | refine below_set ?_ GE220.out | refine below_set ?_ GE227.out) | exact HB.out)⟩
                · rw [if_neg c18] at H
                  exact absurd H (by simp)
              · rw [if_neg c16] at H
                exact absurd H (by simp)
            · rw [if_neg c15] at H
              exact absurd H (by simp)
          · rw [if_neg c13] at H
            exact absurd H (by simp)
        · rw [if_neg c12] at H
          exact absurd H (by simp)

/-! ### calendar_FormatDate: function 25 -/
def calendar_FormatDate.f (k : Nat) (a0_0 : Int) (a0_1 : Int) (a0_2 : Int) : Option (ByteArray × Int) := (calendar_valid.f a0_0 a0_1 a0_2).bind fun t231 => (if t231 = true then ((calendar_pad.f k a0_0 4).bind fun t232 => (if t232.size + 1 ≤ 9223372036854775807 then ((calendar_pad.f k a0_1 2).bind fun t233 => (if t232.size + 1 + t233.size ≤ 9223372036854775807 then (if t232.size + 1 + t233.size + 1 ≤ 9223372036854775807 then ((calendar_pad.f k a0_2 2).bind fun t234 => (if t232.size + 1 + t233.size + 1 + t234.size ≤ 9223372036854775807 then (some ((((t232 ++ (⟨#[45]⟩ : ByteArray)) ++ t233) ++ (⟨#[45]⟩ : ByteArray)) ++ t234, 0)) else (none))) else (none)) else (none))) else (none))) else (some ((⟨#[]⟩ : ByteArray), 5)))
theorem calendar_FormatDate.mono : ∀ a0 a1 a2 k, LeO (calendar_FormatDate.f k a0 a1 a2) (calendar_FormatDate.f (k + 1) a0 a1 a2) := by
  intro a0 a1 a2 k
  unfold calendar_FormatDate.f
  repeat' first
      | (with_reducible exact calendar_pad.mono _ _ _)
      | (with_reducible exact LeO.refl _)
      | (with_reducible exact LeO.none _)
      | (with_reducible refine LeO.ite ?_ ?_)
      | (with_reducible refine LeO.bind ?_ (fun _ => ?_))
      | exact calendar_pad.mono _ _ _
      | exact LeO.none _
      | refine LeO.ite ?_ ?_
      | refine LeO.bind ?_ (fun _ => ?_)
def calendar_FormatDate.T3 : Bool × List (List Nat × List Nat) := (true, [([], []), ([0], [0]), ([1], [1]), ([2], [2]), ([], []), ([4], [4]), ([5, 2], [5]), ([3, 6], [3, 6]), ([7], [7]), ([], []), ([9], [9]), ([10, 6], [10]), ([8, 11], [8, 11]), ([12, 11, 0, 1, 2, 3, 4, 5, 6, 7, 8, 9, 10, 11, 12], [12]), ([13, 0, 1, 2, 3, 4, 5, 6, 7, 8, 9, 10, 11, 12, 13], [])])
def calendar_FormatDate.B3 : List Nat := [0, 1, 3, 7, 0, 16, 55, 127, 255, 0, 512, 1655, 4095, 8191, 16383]
theorem calendar_FormatDate.tab3 : rtab .any (opsOf Tryd.f25 3) = calendar_FormatDate.T3 := by kernel_rfl
theorem calendar_FormatDate.bits3 : waitsOk calendar_FormatDate.T3.2 calendar_FormatDate.B3 = true := by kernel_rfl
set_option maxHeartbeats 8000000 in
set_option maxRecDepth 100000 in
theorem calendar_FormatDate.calls (k : Nat) (a0_0 : Int) (a0_1 : Int) (a0_2 : Int) (r1 : ByteArray) (r2 : Int) (w : World) (hT_md : Tab_md w) (hT_p10 : Tab_p10 w) (h : calendar_FormatDate.f k a0_0 a0_1 a0_2 = some (r1, r2)) :
    Calls Tryd.prog 25 #[.agg #[.int .i64 a0_0, .int .i64 a0_1, .int .i64 a0_2]] w fun e w' => e = .returned (.tuple #[.string r1, .int .i64 r2]) ∧ Below w.heap.size w w' := by
  have hu27 := Tryd.underlying27
  have HB := Aside0.mk (Below.refl w.heap.size w)
  have H : ((calendar_valid.f a0_0 a0_1 a0_2).bind fun t231 => (if t231 = true then ((calendar_pad.f k a0_0 4).bind fun t232 => (if t232.size + 1 ≤ 9223372036854775807 then ((calendar_pad.f k a0_1 2).bind fun t233 => (if t232.size + 1 + t233.size ≤ 9223372036854775807 then (if t232.size + 1 + t233.size + 1 ≤ 9223372036854775807 then ((calendar_pad.f k a0_2 2).bind fun t234 => (if t232.size + 1 + t233.size + 1 + t234.size ≤ 9223372036854775807 then (some ((((t232 ++ (⟨#[45]⟩ : ByteArray)) ++ t233) ++ (⟨#[45]⟩ : ByteArray)) ++ t234, 0)) else (none))) else (none)) else (none))) else (none))) else (some ((⟨#[]⟩ : ByteArray), 5)))) = some (r1, r2) := h
  clear h
  replace H := Option.bind_eq_some_iff.mp H
  obtain ⟨t231, A20, H⟩ := H
  replace H : (if t231 = true then ((calendar_pad.f k a0_0 4).bind fun t232 => (if t232.size + 1 ≤ 9223372036854775807 then ((calendar_pad.f k a0_1 2).bind fun t233 => (if t232.size + 1 + t233.size ≤ 9223372036854775807 then (if t232.size + 1 + t233.size + 1 ≤ 9223372036854775807 then ((calendar_pad.f k a0_2 2).bind fun t234 => (if t232.size + 1 + t233.size + 1 + t234.size ≤ 9223372036854775807 then (some ((((t232 ++ (⟨#[45]⟩ : ByteArray)) ++ t233) ++ (⟨#[45]⟩ : ByteArray)) ++ t234, 0)) else (none))) else (none)) else (none))) else (none))) else (some ((⟨#[]⟩ : ByteArray), 5))) = some (r1, r2) := H
  have A2 := Aside0.mk A20
  clear A20
  by_cases c3 : t231 = true
  · subst c3
    have H1 : ((calendar_pad.f k a0_0 4).bind fun t232 => (if t232.size + 1 ≤ 9223372036854775807 then ((calendar_pad.f k a0_1 2).bind fun t233 => (if t232.size + 1 + t233.size ≤ 9223372036854775807 then (if t232.size + 1 + t233.size + 1 ≤ 9223372036854775807 then ((calendar_pad.f k a0_2 2).bind fun t234 => (if t232.size + 1 + t233.size + 1 + t234.size ≤ 9223372036854775807 then (some ((((t232 ++ (⟨#[45]⟩ : ByteArray)) ++ t233) ++ (⟨#[45]⟩ : ByteArray)) ++ t234, 0)) else (none))) else (none)) else (none))) else (none))) = some (r1, r2) := by rw [if_pos rfl] at H; exact H
    clear H
    have H := H1
    clear H1
    replace H := Option.bind_eq_some_iff.mp H
    obtain ⟨t232, A40, H⟩ := H
    replace H : (if t232.size + 1 ≤ 9223372036854775807 then ((calendar_pad.f k a0_1 2).bind fun t233 => (if t232.size + 1 + t233.size ≤ 9223372036854775807 then (if t232.size + 1 + t233.size + 1 ≤ 9223372036854775807 then ((calendar_pad.f k a0_2 2).bind fun t234 => (if t232.size + 1 + t233.size + 1 + t234.size ≤ 9223372036854775807 then (some ((((t232 ++ (⟨#[45]⟩ : ByteArray)) ++ t233) ++ (⟨#[45]⟩ : ByteArray)) ++ t234, 0)) else (none))) else (none)) else (none))) else (none)) = some (r1, r2) := H
    have A4 := Aside0.mk A40
    clear A40
    by_cases c5 : t232.size + 1 ≤ 9223372036854775807
    · rw [if_pos c5] at H
      have c5b0 := eq_true c5
      have c5b1 : decide (t232.size + 1 ≤ 9223372036854775807) = true := decide_eq_true c5
      try have c5b2 : (9223372036854775807 < t232.size + 1) = False := eq_false (Nat.not_lt.2 c5)
      replace H := Option.bind_eq_some_iff.mp H
      obtain ⟨t233, A60, H⟩ := H
      replace H : (if t232.size + 1 + t233.size ≤ 9223372036854775807 then (if t232.size + 1 + t233.size + 1 ≤ 9223372036854775807 then ((calendar_pad.f k a0_2 2).bind fun t234 => (if t232.size + 1 + t233.size + 1 + t234.size ≤ 9223372036854775807 then (some ((((t232 ++ (⟨#[45]⟩ : ByteArray)) ++ t233) ++ (⟨#[45]⟩ : ByteArray)) ++ t234, 0)) else (none))) else (none)) else (none)) = some (r1, r2) := H
      have A6 := Aside0.mk A60
      clear A60
      by_cases c7 : t232.size + 1 + t233.size ≤ 9223372036854775807
      · rw [if_pos c7] at H
        have c7b0 := eq_true c7
        have c7b1 : decide (t232.size + 1 + t233.size ≤ 9223372036854775807) = true := decide_eq_true c7
        try have c7b2 : (9223372036854775807 < t232.size + 1 + t233.size) = False := eq_false (Nat.not_lt.2 c7)
        by_cases c8 : t232.size + 1 + t233.size + 1 ≤ 9223372036854775807
        · rw [if_pos c8] at H
          have c8b0 := eq_true c8
          have c8b1 : decide (t232.size + 1 + t233.size + 1 ≤ 9223372036854775807) = true := decide_eq_true c8
          try have c8b2 : (9223372036854775807 < t232.size + 1 + t233.size + 1) = False := eq_false (Nat.not_lt.2 c8)
          replace H := Option.bind_eq_some_iff.mp H
          obtain ⟨t234, A90, H⟩ := H
          replace H : (if t232.size + 1 + t233.size + 1 + t234.size ≤ 9223372036854775807 then (some ((((t232 ++ (⟨#[45]⟩ : ByteArray)) ++ t233) ++ (⟨#[45]⟩ : ByteArray)) ++ t234, 0)) else (none)) = some (r1, r2) := H
          have A9 := Aside0.mk A90
          clear A90
          by_cases c10 : t232.size + 1 + t233.size + 1 + t234.size ≤ 9223372036854775807
          · rw [if_pos c10] at H
            have c10b0 := eq_true c10
            have c10b1 : decide (t232.size + 1 + t233.size + 1 + t234.size ≤ 9223372036854775807) = true := decide_eq_true c10
            try have c10b2 : (9223372036854775807 < t232.size + 1 + t233.size + 1 + t234.size) = False := eq_false (Nat.not_lt.2 c10)
            simp only [Option.some.injEq, Prod.mk.injEq] at H
            obtain ⟨rfl, rfl⟩ := H
            go_enter Tryd.func25, Tryd.ntmps25
            try go_wp2_with (first | ((with_reducible refine gate_dst (N := 1) rfl ?_); refine box_event ?hg (N := 1) ?hd (cs := #[.int .i64 a0_0, .int .i64 a0_1, .int .i64 a0_2]) (t := 27) ?hr ?_; (case hd => rfl); (case hg => rfl); (case hr => first | (go_simp; done) | (go_simp; rfl)); intro gb230 hg w11 hbox hb; have n0_ := Aside0.mk (below_step (by repeat (first | (with_reducible first | exact HB.out | apply below_alloc | apply pw_below_drewN | apply below_drew1) | exact HB.out)) hb); have n1_ := Aside0.mk (hbox); have n2_ := Aside0.mk ((by rw [hg]; exact (below_size (by repeat (first | (with_reducible first | exact HB.out | apply below_alloc | apply pw_below_drewN | apply below_drew1) | exact HB.out))) : w.heap.size ≤ gb230)); have n3_ := Aside0.mk ((by rw [hg]; exact (below_size (by repeat (first | (with_reducible first | exact HB.out | apply below_alloc | apply pw_below_drewN | apply below_drew1) | exact HB.out))) : w.heap.size ≤ gb230)); clear HB; have HB := n0_; have BK230 := n1_; have GW230 := n2_; have GE230 := n3_; clear n0_ n1_ n2_ n3_; clear hb hbox hg; have hcz12_0 : w11.cell? ⟨gb230, 0, none⟩ = some (.int .i64 a0_0) := (blk_cell BK230.out 0).trans rfl; have hcz12_1 : w11.cell? ⟨gb230, 1, none⟩ = some (.int .i64 a0_1) := (blk_cell BK230.out 1).trans rfl; have hcz12_2 : w11.cell? ⟨gb230, 2, none⟩ = some (.int .i64 a0_2) := (blk_cell BK230.out 2).trans rfl; have hfz12_0 := blk_frozen BK230.out 0; have hfz12_1 := blk_frozen BK230.out 1; have hfz12_2 := blk_frozen BK230.out 2) | ((with_reducible refine gate_callee (f := 42) rfl ?_); refine goesL_ (some 5) rfl rfl Tryd.func42 (by kernel_rfl) rfl #[.agg #[.int .i64 a0_0, .int .i64 a0_1, .int .i64 a0_2]] rfl (by (try simp only [List.map_toArray, List.map_cons, List.map_nil]); first | done | rfl | (simp only [List.length_drop, List.length_take]; rfl)) ?_; (with_reducible refine (calendar_valid.calls a0_0 a0_1 a0_2 true _ ?side1 A2.out).mono ?_); (case side1 => first | (with_reducible exact hT_md) | exact Tab_md.below hT_md (by repeat (first | (with_reducible first | exact HB.out | apply below_alloc | apply pw_below_drewN | apply below_drew1 | refine below_set ?_ GE230.out) | exact HB.out))); rintro e w13 ⟨rfl, hb⟩; refine ⟨_, rfl, ?_⟩; have n0_ := Aside0.mk (blk_below (g := gb230) (o := .cells #[.int .i64 a0_0, .int .i64 a0_1, .int .i64 a0_2] 27 (0, 0)) (by (with_reducible repeat (first | refine blk_drewN ?_ _ | refine blk_drew ?_ | refine blk_alloc ?_ _)); exact BK230.out) hb); have n1_ := Aside0.mk (below_step (by repeat (first | (with_reducible first | exact HB.out | apply below_alloc | apply pw_below_drewN | apply below_drew1 | refine below_set ?_ GE230.out) | exact HB.out)) hb); clear BK230; clear HB; have BK230 := n0_; have HB := n1_; clear n0_ n1_; (try clear hb); (try clear hb2); (try clear hk); (try clear hi)))
            have n0_ := Aside0.mk (blk_drew BK230.out)
            have n1_ := Aside0.mk (below_drew1 HB.out)
            clear BK230
            clear HB
            have BK230 := n0_
            have HB := n1_
            clear n0_ n1_
            refine start_ (n := 15) (S := fun w' => w'.cell? ⟨gb230, 0, none⟩ = some (.int .i64 a0_0) ∧ w'.cell? ⟨gb230, 1, none⟩ = some (.int .i64 a0_1) ∧ w'.cell? ⟨gb230, 2, none⟩ = some (.int .i64 a0_2)) (ds := []) #[false, false, false, false, false, false, false, false, false, false, false, false, false, false, false] (by kernel_rfl) rfl rfl ⟨(blk_cell BK230.out 0).trans rfl, (blk_cell BK230.out 1).trans rfl, (blk_cell BK230.out 2).trans rfl⟩ (fun hHeld => ?_); refine with_tabW calendar_FormatDate.tab3 calendar_FormatDate.bits3 (fun HT_ HW_ => ?_)
            generalize w13.drew = w14 at BK230 HB hHeld ⊢
            refine pure_ (i := 0) (N := some 7) (v := ?_) (a' := ?_) #[true, false, false, false, false, false, false, false, false, false, false, false, false, false, false] rfl rfl (any_of HT_.out (by kernel_rfl)) (fun _ _ _ h => h) (Or.inl ⟨by rfl, ?_⟩) ?_ ?_
            rotate_left
            · intro w'
              go_simp
              with_reducible rfl
            rotate_left
            · simp only [Act.put, List.setIfInBounds_toArray, List.set_cons_zero, List.set_cons_succ, i64_w, i32_w]
              rfl
            refine pure_ (i := 4) (N := some 11) (v := ?_) (a' := ?_) #[true, false, false, false, true, false, false, false, false, false, false, false, false, false, false] rfl rfl (any_of HT_.out (by kernel_rfl)) (fun _ _ _ h => h) (Or.inl ⟨by rfl, ?_⟩) ?_ ?_
            rotate_left
            · intro w'
              go_simp
              with_reducible rfl
            rotate_left
            · simp only [Act.put, List.setIfInBounds_toArray, List.set_cons_zero, List.set_cons_succ, i64_w, i32_w]
              rfl
            refine pure_ (i := 9) (N := some 16) (v := ?_) (a' := ?_) #[true, false, false, false, true, false, false, false, false, true, false, false, false, false, false] rfl rfl (any_of HT_.out (by kernel_rfl)) (fun _ _ _ h => h) (Or.inl ⟨by rfl, ?_⟩) ?_ ?_
            rotate_left
            · intro w'
              go_simp
              with_reducible rfl
            rotate_left
            · simp only [Act.put, List.setIfInBounds_toArray, List.set_cons_zero, List.set_cons_succ, i64_w, i32_w]
              rfl
            refine take_ (i := 1) (N := some 8) (v := ?_) (a' := ?_) #[true, true, false, false, true, false, false, false, false, true, false, false, false, false, false] rfl rfl (take_ofW HT_.out HW_.out (by kernel_rfl)) (fun _ _ _ h => h) (Or.inl ⟨by rfl, ?_⟩) hHeld ?_ ?_
            rotate_left
            · rintro w' ⟨s0, s1, s2⟩
              go_simp
              with_reducible rfl
            rotate_left
            · simp only [Act.put, List.setIfInBounds_toArray, List.set_cons_zero, List.set_cons_succ, i64_w, i32_w]
              rfl
            refine take_ (i := 5) (N := some 12) (v := ?_) (a' := ?_) #[true, true, false, false, true, true, false, false, false, true, false, false, false, false, false] rfl rfl (take_ofW HT_.out HW_.out (by kernel_rfl)) (fun _ _ _ h => h) (Or.inl ⟨by rfl, ?_⟩) hHeld ?_ ?_
            rotate_left
            · rintro w' ⟨s0, s1, s2⟩
              go_simp
              with_reducible rfl
            rotate_left
            · simp only [Act.put, List.setIfInBounds_toArray, List.set_cons_zero, List.set_cons_succ, i64_w, i32_w]
              rfl
            refine take_ (i := 10) (N := some 17) (v := ?_) (a' := ?_) #[true, true, false, false, true, true, false, false, false, true, true, false, false, false, false] rfl rfl (take_ofW HT_.out HW_.out (by kernel_rfl)) (fun _ _ _ h => h) (Or.inl ⟨by rfl, ?_⟩) hHeld ?_ ?_
            rotate_left
            · rintro w' ⟨s0, s1, s2⟩
              go_simp
              with_reducible rfl
            rotate_left
            · simp only [Act.put, List.setIfInBounds_toArray, List.set_cons_zero, List.set_cons_succ, i64_w, i32_w]
              rfl
            refine one_ (i := 2) (N := some 9) #[true, true, true, false, true, true, false, false, false, true, true, false, false, false, false] rfl rfl (one_of HT_.out (by kernel_rfl)) (by decide) (fun K hK => ?_)
            refine goes_ Tryd.func47 (by kernel_rfl) rfl #[.int .i64 a0_0, .int .i64 4] (by rfl) rfl rfl (by (try simp only [List.map_toArray, List.map_cons, List.map_nil]); first | done | rfl | (simp only [List.length_drop, List.length_take]; rfl)) ?_
            with_reducible refine (calendar_pad.calls k a0_0 4 t232 _ ?side1 A4.out).mono ?_
            (case side1 => first | (with_reducible exact hT_p10) | exact Tab_p10.below hT_p10 (by repeat (first | (with_reducible first | exact HB.out | apply below_alloc | apply pw_below_drewN | apply below_drew1 | refine below_set ?_ GE230.out) | exact HB.out)))
            rintro e w15 ⟨rfl, hb⟩
            refine ⟨_, rfl, ?_⟩
            have n0_ := Aside0.mk (blk_below (g := gb230) (o := .cells #[.int .i64 a0_0, .int .i64 a0_1, .int .i64 a0_2] 27 (0, 0)) (by (with_reducible repeat (first | refine blk_drewN ?_ _ | refine blk_drew ?_ | refine blk_alloc ?_ _)); exact BK230.out) hb)
            have n1_ := Aside0.mk (below_step (by repeat (first | (with_reducible first | exact HB.out | apply below_alloc | apply pw_below_drewN | apply below_drew1 | refine below_set ?_ GE230.out) | exact HB.out)) hb)
            clear BK230
            clear HB
            have BK230 := n0_
            have HB := n1_
            clear n0_ n1_
            (try clear hb)
            (try clear hb2)
            (try clear hk)
            (try clear hi)
            refine hK.out _ _ ⟨(blk_cell BK230.out 0).trans rfl, (blk_cell BK230.out 1).trans rfl, (blk_cell BK230.out 2).trans rfl⟩ (fun hHeld => ?_)
            clear hK K
            refine norm_ (a' := ?_) ?_ ?_
            rotate_left
            · show Act.put _ (some 9) _ = _
              simp only [Act.put, List.setIfInBounds_toArray, List.set_cons_zero, List.set_cons_succ, i64_w, i32_w]
              rfl
            refine pure_ (i := 3) (N := some 10) (v := ?_) (a' := ?_) #[true, true, true, true, true, true, false, false, false, true, true, false, false, false, false] rfl rfl (any_of HT_.out (by kernel_rfl)) (fun _ _ _ h => h) (Or.inl ⟨by rfl, ?_⟩) ?_ ?_
            rotate_left
            · intro w'
              go_simp
              with_reducible rfl
            rotate_left
            · simp only [Act.put, List.setIfInBounds_toArray, List.set_cons_zero, List.set_cons_succ, i64_w, i32_w]
              rfl
            refine one_ (i := 6) (N := some 13) #[true, true, true, true, true, true, true, false, false, true, true, false, false, false, false] rfl rfl (one_of HT_.out (by kernel_rfl)) (by decide) (fun K hK => ?_)
            refine goes_ Tryd.func47 (by kernel_rfl) rfl #[.int .i64 a0_1, .int .i64 2] (by rfl) rfl rfl (by (try simp only [List.map_toArray, List.map_cons, List.map_nil]); first | done | rfl | (simp only [List.length_drop, List.length_take]; rfl)) ?_
            with_reducible refine (calendar_pad.calls k a0_1 2 t233 _ ?side1 A6.out).mono ?_
            (case side1 => first | (with_reducible exact hT_p10) | exact Tab_p10.below hT_p10 (by repeat (first | (with_reducible first | exact HB.out | apply below_alloc | apply pw_below_drewN | apply below_drew1 | refine below_set ?_ GE230.out) | exact HB.out)))
            rintro e w16 ⟨rfl, hb⟩
            refine ⟨_, rfl, ?_⟩
            have n0_ := Aside0.mk (blk_below (g := gb230) (o := .cells #[.int .i64 a0_0, .int .i64 a0_1, .int .i64 a0_2] 27 (0, 0)) (by (with_reducible repeat (first | refine blk_drewN ?_ _ | refine blk_drew ?_ | refine blk_alloc ?_ _)); exact BK230.out) hb)
            have n1_ := Aside0.mk (below_step (by repeat (first | (with_reducible first | exact HB.out | apply below_alloc | apply pw_below_drewN | apply below_drew1 | refine below_set ?_ GE230.out) | exact HB.out)) hb)
            clear BK230
            clear HB
            have BK230 := n0_
            have HB := n1_
            clear n0_ n1_
            (try clear hb)
            (try clear hb2)
            (try clear hk)
            (try clear hi)
            refine hK.out _ _ ⟨(blk_cell BK230.out 0).trans rfl, (blk_cell BK230.out 1).trans rfl, (blk_cell BK230.out 2).trans rfl⟩ (fun hHeld => ?_)
            clear hK K
            refine norm_ (a' := ?_) ?_ ?_
            rotate_left
            · show Act.put _ (some 13) _ = _
              simp only [Act.put, List.setIfInBounds_toArray, List.set_cons_zero, List.set_cons_succ, i64_w, i32_w]
              rfl
            refine pure_ (i := 7) (N := some 14) (v := ?_) (a' := ?_) #[true, true, true, true, true, true, true, true, false, true, true, false, false, false, false] rfl rfl (any_of HT_.out (by kernel_rfl)) (fun _ _ _ h => h) (Or.inl ⟨by rfl, ?_⟩) ?_ ?_
            rotate_left
            · intro w'
              go_simp
              with_reducible rfl
            rotate_left
            · simp only [Act.put, List.setIfInBounds_toArray, List.set_cons_zero, List.set_cons_succ, i64_w, i32_w]
              rfl
            refine pure_ (i := 8) (N := some 15) (v := ?_) (a' := ?_) #[true, true, true, true, true, true, true, true, true, true, true, false, false, false, false] rfl rfl (any_of HT_.out (by kernel_rfl)) (fun _ _ _ h => h) (Or.inl ⟨by rfl, ?_⟩) ?_ ?_
            rotate_left
            · intro w'
              go_simp
              with_reducible rfl
            rotate_left
            · simp only [Act.put, List.setIfInBounds_toArray, List.set_cons_zero, List.set_cons_succ, i64_w, i32_w]
              rfl
            refine one_ (i := 11) (N := some 18) #[true, true, true, true, true, true, true, true, true, true, true, true, false, false, false] rfl rfl (one_of HT_.out (by kernel_rfl)) (by decide) (fun K hK => ?_)
            refine goes_ Tryd.func47 (by kernel_rfl) rfl #[.int .i64 a0_2, .int .i64 2] (by rfl) rfl rfl (by (try simp only [List.map_toArray, List.map_cons, List.map_nil]); first | done | rfl | (simp only [List.length_drop, List.length_take]; rfl)) ?_
            with_reducible refine (calendar_pad.calls k a0_2 2 t234 _ ?side1 A9.out).mono ?_
            (case side1 => first | (with_reducible exact hT_p10) | exact Tab_p10.below hT_p10 (by repeat (first | (with_reducible first | exact HB.out | apply below_alloc | apply pw_below_drewN | apply below_drew1 | refine below_set ?_ GE230.out) | exact HB.out)))
            rintro e w17 ⟨rfl, hb⟩
            refine ⟨_, rfl, ?_⟩
            have n0_ := Aside0.mk (blk_below (g := gb230) (o := .cells #[.int .i64 a0_0, .int .i64 a0_1, .int .i64 a0_2] 27 (0, 0)) (by (with_reducible repeat (first | refine blk_drewN ?_ _ | refine blk_drew ?_ | refine blk_alloc ?_ _)); exact BK230.out) hb)
            have n1_ := Aside0.mk (below_step (by repeat (first | (with_reducible first | exact HB.out | apply below_alloc | apply pw_below_drewN | apply below_drew1 | refine below_set ?_ GE230.out) | exact HB.out)) hb)
            clear BK230
            clear HB
            have BK230 := n0_
            have HB := n1_
            clear n0_ n1_
            (try clear hb)
            (try clear hb2)
            (try clear hk)
            (try clear hi)
            refine hK.out _ _ ⟨(blk_cell BK230.out 0).trans rfl, (blk_cell BK230.out 1).trans rfl, (blk_cell BK230.out 2).trans rfl⟩ (fun hHeld => ?_)
            clear hK K
            refine norm_ (a' := ?_) ?_ ?_
            rotate_left
            · show Act.put _ (some 18) _ = _
              simp only [Act.put, List.setIfInBounds_toArray, List.set_cons_zero, List.set_cons_succ, i64_w, i32_w]
              rfl
            refine pure_ (i := 12) (N := some 19) (v := ?_) (a' := ?_) #[true, true, true, true, true, true, true, true, true, true, true, true, true, false, false] rfl rfl (any_of HT_.out (by kernel_rfl)) (fun _ _ _ h => h) (Or.inl ⟨by rfl, ?_⟩) ?_ ?_
            rotate_left
            · intro w'
              go_simp
              with_reducible rfl
            rotate_left
            · simp only [Act.put, List.setIfInBounds_toArray, List.set_cons_zero, List.set_cons_succ, i64_w, i32_w]
              rfl
            refine pure_ (i := 13) (N := some 2) (v := ?_) (a' := ?_) #[true, true, true, true, true, true, true, true, true, true, true, true, true, true, false] rfl rfl (any_of HT_.out (by kernel_rfl)) (fun _ _ _ h => h) (Or.inl ⟨by rfl, ?_⟩) ?_ ?_
            rotate_left
            · intro w'
              go_simp
              with_reducible rfl
            rotate_left
            · simp only [Act.put, List.setIfInBounds_toArray, List.set_cons_zero, List.set_cons_succ, i64_w, i32_w]
              rfl
            refine pure_ (i := 14) (N := some 3) (v := ?_) (a' := ?_) #[true, true, true, true, true, true, true, true, true, true, true, true, true, true, true] rfl rfl (any_of HT_.out (by kernel_rfl)) (fun _ _ _ h => h) (Or.inl ⟨by rfl, ?_⟩) ?_ ?_
            rotate_left
            · intro w'
              go_simp
              with_reducible rfl
            rotate_left
            · simp only [Act.put, List.setIfInBounds_toArray, List.set_cons_zero, List.set_cons_succ, i64_w, i32_w]
              rfl
            refine done_ (done_of HT_.out (by kernel_rfl)) ?_
            try go_wp2
            go_ret2
            exact ⟨by first | rfl | (simp [errW_none, errW_some] <;> rfl) | (simp [*, errW_none, errW_some] <;> rfl), by repeat (first | (with_reducible first | exact HB.out | apply below_alloc | apply pw_below_drewN | apply below_drew1 | refine below_set ?_ GE230.out) | exact HB.out)⟩
          · rw [if_neg c10] at H
            exact absurd H (by simp)
        · rw [if_neg c8] at H
          exact absurd H (by simp)
      · rw [if_neg c7] at H
        exact absurd H (by simp)
    · rw [if_neg c5] at H
      exact absurd H (by simp)
  · replace c3 := Bool.eq_false_iff.mpr c3
    subst c3
    have H1 : (some ((⟨#[]⟩ : ByteArray), 5)) = some (r1, r2) := by rw [if_neg (show ¬ (false = true) by decide)] at H; exact H
    clear H
    have H := H1
    clear H1
    simp only [Option.some.injEq, Prod.mk.injEq] at H
    obtain ⟨rfl, rfl⟩ := H
    go_enter Tryd.func25, Tryd.ntmps25
    go_wp2_with (first | ((with_reducible refine gate_dst (N := 1) rfl ?_); refine box_event ?hg (N := 1) ?hd (cs := #[.int .i64 a0_0, .int .i64 a0_1, .int .i64 a0_2]) (t := 27) ?hr ?_; (case hd => rfl); (case hg => rfl); (case hr => first | (go_simp; done) | (go_simp; rfl)); intro gb230 hg w18 hbox hb; have n0_ := Aside0.mk (below_step (by repeat (first | (with_reducible first | exact HB.out | apply below_alloc | apply pw_below_drewN | apply below_drew1) | exact HB.out)) hb); have n1_ := Aside0.mk (hbox); have n2_ := Aside0.mk ((by rw [hg]; exact (below_size (by repeat (first | (with_reducible first | exact HB.out | apply below_alloc | apply pw_below_drewN | apply below_drew1) | exact HB.out))) : w.heap.size ≤ gb230)); have n3_ := Aside0.mk ((by rw [hg]; exact (below_size (by repeat (first | (with_reducible first | exact HB.out | apply below_alloc | apply pw_below_drewN | apply below_drew1) | exact HB.out))) : w.heap.size ≤ gb230)); clear HB; have HB := n0_; have BK230 := n1_; have GW230 := n2_; have GE230 := n3_; clear n0_ n1_ n2_ n3_; clear hb hbox hg; have hcz19_0 : w18.cell? ⟨gb230, 0, none⟩ = some (.int .i64 a0_0) := (blk_cell BK230.out 0).trans rfl; have hcz19_1 : w18.cell? ⟨gb230, 1, none⟩ = some (.int .i64 a0_1) := (blk_cell BK230.out 1).trans rfl; have hcz19_2 : w18.cell? ⟨gb230, 2, none⟩ = some (.int .i64 a0_2) := (blk_cell BK230.out 2).trans rfl; have hfz19_0 := blk_frozen BK230.out 0; have hfz19_1 := blk_frozen BK230.out 1; have hfz19_2 := blk_frozen BK230.out 2) | ((with_reducible refine gate_callee (f := 42) rfl ?_); refine goesL_ (some 5) rfl rfl Tryd.func42 (by kernel_rfl) rfl #[.agg #[.int .i64 a0_0, .int .i64 a0_1, .int .i64 a0_2]] rfl (by (try simp only [List.map_toArray, List.map_cons, List.map_nil]); first | done | rfl | (simp only [List.length_drop, List.length_take]; rfl)) ?_; (with_reducible refine (calendar_valid.calls a0_0 a0_1 a0_2 false _ ?side1 A2.out).mono ?_); (case side1 => first | (with_reducible exact hT_md) | exact Tab_md.below hT_md (by repeat (first | (with_reducible first | exact HB.out | apply below_alloc | apply pw_below_drewN | apply below_drew1 | refine below_set ?_ GE230.out) | exact HB.out))); rintro e w20 ⟨rfl, hb⟩; refine ⟨_, rfl, ?_⟩; have n0_ := Aside0.mk (blk_below (g := gb230) (o := .cells #[.int .i64 a0_0, .int .i64 a0_1, .int .i64 a0_2] 27 (0, 0)) (by (with_reducible repeat (first | refine blk_drewN ?_ _ | refine blk_drew ?_ | refine blk_alloc ?_ _)); exact BK230.out) hb); have n1_ := Aside0.mk (below_step (by repeat (first | (with_reducible first | exact HB.out | apply below_alloc | apply pw_below_drewN | apply below_drew1 | refine below_set ?_ GE230.out) | exact HB.out)) hb); clear BK230; clear HB; have BK230 := n0_; have HB := n1_; clear n0_ n1_; (try clear hb); (try clear hb2); (try clear hk); (try clear hi)))
    go_ret2
    exact ⟨by first | rfl | (simp [errW_none, errW_some] <;> rfl) | (simp [*, errW_none, errW_some] <;> rfl), by repeat (first | (with_reducible first | exact HB.out | apply below_alloc | apply pw_below_drewN | apply below_drew1 | refine below_set ?_ GE230.out) | exact HB.out)⟩

/-! ### pairingref5_FormatDate: function 26 -/
def pairingref5_FormatDate.f (k : Nat) (a0_0 : Int) (a0_1 : Int) (a0_2 : Int) : Option (ByteArray × Int) := (pairingref5_IsDate.f k a0_0 a0_1 a0_2).bind fun t238 => (if t238 = true then ((pairingref5_two.f k a0_0 4).bind fun t239 => (if t239.size + 1 ≤ 9223372036854775807 then ((pairingref5_two.f k a0_1 2).bind fun t240 => (if t239.size + 1 + t240.size ≤ 9223372036854775807 then (if t239.size + 1 + t240.size + 1 ≤ 9223372036854775807 then ((pairingref5_two.f k a0_2 2).bind fun t241 => (if t239.size + 1 + t240.size + 1 + t241.size ≤ 9223372036854775807 then (some ((((t239 ++ (⟨#[45]⟩ : ByteArray)) ++ t240) ++ (⟨#[45]⟩ : ByteArray)) ++ t241, 0)) else (none))) else (none)) else (none))) else (none))) else (some ((⟨#[]⟩ : ByteArray), 5)))
theorem pairingref5_FormatDate.mono : ∀ a0 a1 a2 k, LeO (pairingref5_FormatDate.f k a0 a1 a2) (pairingref5_FormatDate.f (k + 1) a0 a1 a2) := by
  intro a0 a1 a2 k
  unfold pairingref5_FormatDate.f
  repeat' first
      | (with_reducible exact pairingref5_IsDate.mono _ _ _ _)
      | (with_reducible exact pairingref5_two.mono _ _ _)
      | (with_reducible exact LeO.refl _)
      | (with_reducible exact LeO.none _)
      | (with_reducible refine LeO.ite ?_ ?_)
      | (with_reducible refine LeO.bind ?_ (fun _ => ?_))
      | exact pairingref5_IsDate.mono _ _ _ _
      | exact pairingref5_two.mono _ _ _
      | exact LeO.none _
      | refine LeO.ite ?_ ?_
      | refine LeO.bind ?_ (fun _ => ?_)
def pairingref5_FormatDate.T3 : Bool × List (List Nat × List Nat) := (true, [([], []), ([0], [0]), ([1], [1]), ([2], [2]), ([], []), ([4], [4]), ([5, 2], [5]), ([3, 6], [3, 6]), ([7], [7]), ([], []), ([9], [9]), ([10, 6], [10]), ([8, 11], [8, 11]), ([12, 11, 0, 1, 2, 3, 4, 5, 6, 7, 8, 9, 10, 11, 12], [12]), ([13, 0, 1, 2, 3, 4, 5, 6, 7, 8, 9, 10, 11, 12, 13], [])])
def pairingref5_FormatDate.B3 : List Nat := [0, 1, 3, 7, 0, 16, 55, 127, 255, 0, 512, 1655, 4095, 8191, 16383]
theorem pairingref5_FormatDate.tab3 : rtab .any (opsOf Tryd.f26 3) = pairingref5_FormatDate.T3 := by kernel_rfl
theorem pairingref5_FormatDate.bits3 : waitsOk pairingref5_FormatDate.T3.2 pairingref5_FormatDate.B3 = true := by kernel_rfl
set_option maxHeartbeats 8000000 in
set_option maxRecDepth 100000 in
theorem pairingref5_FormatDate.calls (k : Nat) (a0_0 : Int) (a0_1 : Int) (a0_2 : Int) (r1 : ByteArray) (r2 : Int) (w : World) (hT_p10 : Tab_p10 w) (h : pairingref5_FormatDate.f k a0_0 a0_1 a0_2 = some (r1, r2)) :
    Calls Tryd.prog 26 #[.agg #[.int .i64 a0_0, .int .i64 a0_1, .int .i64 a0_2]] w fun e w' => e = .returned (.tuple #[.string r1, .int .i64 r2]) ∧ Below w.heap.size w w' := by
  have hu27 := Tryd.underlying27
  have HB := Aside0.mk (Below.refl w.heap.size w)
  have H : ((pairingref5_IsDate.f k a0_0 a0_1 a0_2).bind fun t238 => (if t238 = true then ((pairingref5_two.f k a0_0 4).bind fun t239 => (if t239.size + 1 ≤ 9223372036854775807 then ((pairingref5_two.f k a0_1 2).bind fun t240 => (if t239.size + 1 + t240.size ≤ 9223372036854775807 then (if t239.size + 1 + t240.size + 1 ≤ 9223372036854775807 then ((pairingref5_two.f k a0_2 2).bind fun t241 => (if t239.size + 1 + t240.size + 1 + t241.size ≤ 9223372036854775807 then (some ((((t239 ++ (⟨#[45]⟩ : ByteArray)) ++ t240) ++ (⟨#[45]⟩ : ByteArray)) ++ t241, 0)) else (none))) else (none)) else (none))) else (none))) else (some ((⟨#[]⟩ : ByteArray), 5)))) = some (r1, r2) := h
  clear h
  replace H := Option.bind_eq_some_iff.mp H
  obtain ⟨t238, A20, H⟩ := H
  replace H : (if t238 = true then ((pairingref5_two.f k a0_0 4).bind fun t239 => (if t239.size + 1 ≤ 9223372036854775807 then ((pairingref5_two.f k a0_1 2).bind fun t240 => (if t239.size + 1 + t240.size ≤ 9223372036854775807 then (if t239.size + 1 + t240.size + 1 ≤ 9223372036854775807 then ((pairingref5_two.f k a0_2 2).bind fun t241 => (if t239.size + 1 + t240.size + 1 + t241.size ≤ 9223372036854775807 then (some ((((t239 ++ (⟨#[45]⟩ : ByteArray)) ++ t240) ++ (⟨#[45]⟩ : ByteArray)) ++ t241, 0)) else (none))) else (none)) else (none))) else (none))) else (some ((⟨#[]⟩ : ByteArray), 5))) = some (r1, r2) := H
  have A2 := Aside0.mk A20
  clear A20
  by_cases c3 : t238 = true
  · subst c3
    have H1 : ((pairingref5_two.f k a0_0 4).bind fun t239 => (if t239.size + 1 ≤ 9223372036854775807 then ((pairingref5_two.f k a0_1 2).bind fun t240 => (if t239.size + 1 + t240.size ≤ 9223372036854775807 then (if t239.size + 1 + t240.size + 1 ≤ 9223372036854775807 then ((pairingref5_two.f k a0_2 2).bind fun t241 => (if t239.size + 1 + t240.size + 1 + t241.size ≤ 9223372036854775807 then (some ((((t239 ++ (⟨#[45]⟩ : ByteArray)) ++ t240) ++ (⟨#[45]⟩ : ByteArray)) ++ t241, 0)) else (none))) else (none)) else (none))) else (none))) = some (r1, r2) := by rw [if_pos rfl] at H; exact H
    clear H
    have H := H1
    clear H1
    replace H := Option.bind_eq_some_iff.mp H
    obtain ⟨t239, A40, H⟩ := H
    replace H : (if t239.size + 1 ≤ 9223372036854775807 then ((pairingref5_two.f k a0_1 2).bind fun t240 => (if t239.size + 1 + t240.size ≤ 9223372036854775807 then (if t239.size + 1 + t240.size + 1 ≤ 9223372036854775807 then ((pairingref5_two.f k a0_2 2).bind fun t241 => (if t239.size + 1 + t240.size + 1 + t241.size ≤ 9223372036854775807 then (some ((((t239 ++ (⟨#[45]⟩ : ByteArray)) ++ t240) ++ (⟨#[45]⟩ : ByteArray)) ++ t241, 0)) else (none))) else (none)) else (none))) else (none)) = some (r1, r2) := H
    have A4 := Aside0.mk A40
    clear A40
    by_cases c5 : t239.size + 1 ≤ 9223372036854775807
    · rw [if_pos c5] at H
      have c5b0 := eq_true c5
      have c5b1 : decide (t239.size + 1 ≤ 9223372036854775807) = true := decide_eq_true c5
      try have c5b2 : (9223372036854775807 < t239.size + 1) = False := eq_false (Nat.not_lt.2 c5)
      replace H := Option.bind_eq_some_iff.mp H
      obtain ⟨t240, A60, H⟩ := H
      replace H : (if t239.size + 1 + t240.size ≤ 9223372036854775807 then (if t239.size + 1 + t240.size + 1 ≤ 9223372036854775807 then ((pairingref5_two.f k a0_2 2).bind fun t241 => (if t239.size + 1 + t240.size + 1 + t241.size ≤ 9223372036854775807 then (some ((((t239 ++ (⟨#[45]⟩ : ByteArray)) ++ t240) ++ (⟨#[45]⟩ : ByteArray)) ++ t241, 0)) else (none))) else (none)) else (none)) = some (r1, r2) := H
      have A6 := Aside0.mk A60
      clear A60
      by_cases c7 : t239.size + 1 + t240.size ≤ 9223372036854775807
      · rw [if_pos c7] at H
        have c7b0 := eq_true c7
        have c7b1 : decide (t239.size + 1 + t240.size ≤ 9223372036854775807) = true := decide_eq_true c7
        try have c7b2 : (9223372036854775807 < t239.size + 1 + t240.size) = False := eq_false (Nat.not_lt.2 c7)
        by_cases c8 : t239.size + 1 + t240.size + 1 ≤ 9223372036854775807
        · rw [if_pos c8] at H
          have c8b0 := eq_true c8
          have c8b1 : decide (t239.size + 1 + t240.size + 1 ≤ 9223372036854775807) = true := decide_eq_true c8
          try have c8b2 : (9223372036854775807 < t239.size + 1 + t240.size + 1) = False := eq_false (Nat.not_lt.2 c8)
          replace H := Option.bind_eq_some_iff.mp H
          obtain ⟨t241, A90, H⟩ := H
          replace H : (if t239.size + 1 + t240.size + 1 + t241.size ≤ 9223372036854775807 then (some ((((t239 ++ (⟨#[45]⟩ : ByteArray)) ++ t240) ++ (⟨#[45]⟩ : ByteArray)) ++ t241, 0)) else (none)) = some (r1, r2) := H
          have A9 := Aside0.mk A90
          clear A90
          by_cases c10 : t239.size + 1 + t240.size + 1 + t241.size ≤ 9223372036854775807
          · rw [if_pos c10] at H
            have c10b0 := eq_true c10
            have c10b1 : decide (t239.size + 1 + t240.size + 1 + t241.size ≤ 9223372036854775807) = true := decide_eq_true c10
            try have c10b2 : (9223372036854775807 < t239.size + 1 + t240.size + 1 + t241.size) = False := eq_false (Nat.not_lt.2 c10)
            simp only [Option.some.injEq, Prod.mk.injEq] at H
            obtain ⟨rfl, rfl⟩ := H
            go_enter Tryd.func26, Tryd.ntmps26
            try go_wp2_with (first | ((with_reducible refine gate_dst (N := 1) rfl ?_); refine box_event ?hg (N := 1) ?hd (cs := #[.int .i64 a0_0, .int .i64 a0_1, .int .i64 a0_2]) (t := 27) ?hr ?_; (case hd => rfl); (case hg => rfl); (case hr => first | (go_simp; done) | (go_simp; rfl)); intro gb237 hg w11 hbox hb; have n0_ := Aside0.mk (below_step (by repeat (first | (with_reducible first | exact HB.out | apply below_alloc | apply pw_below_drewN | apply below_drew1) | exact HB.out)) hb); have n1_ := Aside0.mk (hbox); have n2_ := Aside0.mk ((by rw [hg]; exact (below_size (by repeat (first | (with_reducible first | exact HB.out | apply below_alloc | apply pw_below_drewN | apply below_drew1) | exact HB.out))) : w.heap.size ≤ gb237)); have n3_ := Aside0.mk ((by rw [hg]; exact (below_size (by repeat (first | (with_reducible first | exact HB.out | apply below_alloc | apply pw_below_drewN | apply below_drew1) | exact HB.out))) : w.heap.size ≤ gb237)); clear HB; have HB := n0_; have BK237 := n1_; have GW237 := n2_; have GE237 := n3_; clear n0_ n1_ n2_ n3_; clear hb hbox hg; have hcz12_0 : w11.cell? ⟨gb237, 0, none⟩ = some (.int .i64 a0_0) := (blk_cell BK237.out 0).trans rfl; have hcz12_1 : w11.cell? ⟨gb237, 1, none⟩ = some (.int .i64 a0_1) := (blk_cell BK237.out 1).trans rfl; have hcz12_2 : w11.cell? ⟨gb237, 2, none⟩ = some (.int .i64 a0_2) := (blk_cell BK237.out 2).trans rfl; have hfz12_0 := blk_frozen BK237.out 0; have hfz12_1 := blk_frozen BK237.out 1; have hfz12_2 := blk_frozen BK237.out 2) | ((with_reducible refine gate_callee (f := 43) rfl ?_); refine goesL_ (some 5) rfl rfl Tryd.func43 (by kernel_rfl) rfl #[.agg #[.int .i64 a0_0, .int .i64 a0_1, .int .i64 a0_2]] rfl (by (try simp only [List.map_toArray, List.map_cons, List.map_nil]); first | done | rfl | (simp only [List.length_drop, List.length_take]; rfl)) ?_; (with_reducible refine (pairingref5_IsDate.calls k a0_0 a0_1 a0_2 true _ A2.out).mono ?_); rintro e w13 ⟨rfl, hb⟩; refine ⟨_, rfl, ?_⟩; have n0_ := Aside0.mk (blk_below (g := gb237) (o := .cells #[.int .i64 a0_0, .int .i64 a0_1, .int .i64 a0_2] 27 (0, 0)) (by (with_reducible repeat (first | refine blk_drewN ?_ _ | refine blk_drew ?_ | refine blk_alloc ?_ _)); exact BK237.out) hb); have n1_ := Aside0.mk (below_step (by repeat (first | (with_reducible first | exact HB.out | apply below_alloc | apply pw_below_drewN | apply below_drew1 | refine below_set ?_ GE237.out) | exact HB.out)) hb); clear BK237; clear HB; have BK237 := n0_; have HB := n1_; clear n0_ n1_; (try clear hb); (try clear hb2); (try clear hk); (try clear hi)))
            have n0_ := Aside0.mk (blk_drew BK237.out)
            have n1_ := Aside0.mk (below_drew1 HB.out)
            clear BK237
            clear HB
            have BK237 := n0_
            have HB := n1_
            clear n0_ n1_
            refine start_ (n := 15) (S := fun w' => w'.cell? ⟨gb237, 0, none⟩ = some (.int .i64 a0_0) ∧ w'.cell? ⟨gb237, 1, none⟩ = some (.int .i64 a0_1) ∧ w'.cell? ⟨gb237, 2, none⟩ = some (.int .i64 a0_2)) (ds := []) #[false, false, false, false, false, false, false, false, false, false, false, false, false, false, false] (by kernel_rfl) rfl rfl ⟨(blk_cell BK237.out 0).trans rfl, (blk_cell BK237.out 1).trans rfl, (blk_cell BK237.out 2).trans rfl⟩ (fun hHeld => ?_); refine with_tabW pairingref5_FormatDate.tab3 pairingref5_FormatDate.bits3 (fun HT_ HW_ => ?_)
            generalize w13.drew = w14 at BK237 HB hHeld ⊢
            refine pure_ (i := 0) (N := some 7) (v := ?_) (a' := ?_) #[true, false, false, false, false, false, false, false, false, false, false, false, false, false, false] rfl rfl (any_of HT_.out (by kernel_rfl)) (fun _ _ _ h => h) (Or.inl ⟨by rfl, ?_⟩) ?_ ?_
            rotate_left
            · intro w'
              go_simp
              with_reducible rfl
            rotate_left
            · simp only [Act.put, List.setIfInBounds_toArray, List.set_cons_zero, List.set_cons_succ, i64_w, i32_w]
              rfl
            refine pure_ (i := 4) (N := some 11) (v := ?_) (a' := ?_) #[true, false, false, false, true, false, false, false, false, false, false, false, false, false, false] rfl rfl (any_of HT_.out (by kernel_rfl)) (fun _ _ _ h => h) (Or.inl ⟨by rfl, ?_⟩) ?_ ?_
            rotate_left
            · intro w'
              go_simp
              with_reducible rfl
            rotate_left
            · simp only [Act.put, List.setIfInBounds_toArray, List.set_cons_zero, List.set_cons_succ, i64_w, i32_w]
              rfl
            refine pure_ (i := 9) (N := some 16) (v := ?_) (a' := ?_) #[true, false, false, false, true, false, false, false, false, true, false, false, false, false, false] rfl rfl (any_of HT_.out (by kernel_rfl)) (fun _ _ _ h => h) (Or.inl ⟨by rfl, ?_⟩) ?_ ?_
            rotate_left
            · intro w'
              go_simp
              with_reducible rfl
            rotate_left
            · simp only [Act.put, List.setIfInBounds_toArray, List.set_cons_zero, List.set_cons_succ, i64_w, i32_w]
              rfl
            refine take_ (i := 1) (N := some 8) (v := ?_) (a' := ?_) #[true, true, false, false, true, false, false, false, false, true, false, false, false, false, false] rfl rfl (take_ofW HT_.out HW_.out (by kernel_rfl)) (fun _ _ _ h => h) (Or.inl ⟨by rfl, ?_⟩) hHeld ?_ ?_
            rotate_left
            · rintro w' ⟨s0, s1, s2⟩
              go_simp
              with_reducible rfl
            rotate_left
            · simp only [Act.put, List.setIfInBounds_toArray, List.set_cons_zero, List.set_cons_succ, i64_w, i32_w]
              rfl
            refine take_ (i := 5) (N := some 12) (v := ?_) (a' := ?_) #[true, true, false, false, true, true, false, false, false, true, false, false, false, false, false] rfl rfl (take_ofW HT_.out HW_.out (by kernel_rfl)) (fun _ _ _ h => h) (Or.inl ⟨by rfl, ?_⟩) hHeld ?_ ?_
            rotate_left
            · rintro w' ⟨s0, s1, s2⟩
              go_simp
              with_reducible rfl
            rotate_left
            · simp only [Act.put, List.setIfInBounds_toArray, List.set_cons_zero, List.set_cons_succ, i64_w, i32_w]
              rfl
            refine take_ (i := 10) (N := some 17) (v := ?_) (a' := ?_) #[true, true, false, false, true, true, false, false, false, true, true, false, false, false, false] rfl rfl (take_ofW HT_.out HW_.out (by kernel_rfl)) (fun _ _ _ h => h) (Or.inl ⟨by rfl, ?_⟩) hHeld ?_ ?_
            rotate_left
            · rintro w' ⟨s0, s1, s2⟩
              go_simp
              with_reducible rfl
            rotate_left
            · simp only [Act.put, List.setIfInBounds_toArray, List.set_cons_zero, List.set_cons_succ, i64_w, i32_w]
              rfl
            refine one_ (i := 2) (N := some 9) #[true, true, true, false, true, true, false, false, false, true, true, false, false, false, false] rfl rfl (one_of HT_.out (by kernel_rfl)) (by decide) (fun K hK => ?_)
            refine goes_ Tryd.func48 (by kernel_rfl) rfl #[.int .i64 a0_0, .int .i64 4] (by rfl) rfl rfl (by (try simp only [List.map_toArray, List.map_cons, List.map_nil]); first | done | rfl | (simp only [List.length_drop, List.length_take]; rfl)) ?_
            with_reducible refine (pairingref5_two.calls k a0_0 4 t239 _ ?side1 A4.out).mono ?_
            (case side1 => first | (with_reducible exact hT_p10) | exact Tab_p10.below hT_p10 (by repeat (first | (with_reducible first | exact HB.out | apply below_alloc | apply pw_below_drewN | apply below_drew1 | refine below_set ?_ GE237.out) | exact HB.out)))
            rintro e w15 ⟨rfl, hb⟩
            refine ⟨_, rfl, ?_⟩
            have n0_ := Aside0.mk (blk_below (g := gb237) (o := .cells #[.int .i64 a0_0, .int .i64 a0_1, .int .i64 a0_2] 27 (0, 0)) (by (with_reducible repeat (first | refine blk_drewN ?_ _ | refine blk_drew ?_ | refine blk_alloc ?_ _)); exact BK237.out) hb)
            have n1_ := Aside0.mk (below_step (by repeat (first | (with_reducible first | exact HB.out | apply below_alloc | apply pw_below_drewN | apply below_drew1 | refine below_set ?_ GE237.out) | exact HB.out)) hb)
            clear BK237
            clear HB
            have BK237 := n0_
            have HB := n1_
            clear n0_ n1_
            (try clear hb)
            (try clear hb2)
            (try clear hk)
            (try clear hi)
            refine hK.out _ _ ⟨(blk_cell BK237.out 0).trans rfl, (blk_cell BK237.out 1).trans rfl, (blk_cell BK237.out 2).trans rfl⟩ (fun hHeld => ?_)
            clear hK K
            refine norm_ (a' := ?_) ?_ ?_
            rotate_left
            · show Act.put _ (some 9) _ = _
              simp only [Act.put, List.setIfInBounds_toArray, List.set_cons_zero, List.set_cons_succ, i64_w, i32_w]
              rfl
            refine pure_ (i := 3) (N := some 10) (v := ?_) (a' := ?_) #[true, true, true, true, true, true, false, false, false, true, true, false, false, false, false] rfl rfl (any_of HT_.out (by kernel_rfl)) (fun _ _ _ h => h) (Or.inl ⟨by rfl, ?_⟩) ?_ ?_
            rotate_left
            · intro w'
              go_simp
              with_reducible rfl
            rotate_left
            · simp only [Act.put, List.setIfInBounds_toArray, List.set_cons_zero, List.set_cons_succ, i64_w, i32_w]
              rfl
            refine one_ (i := 6) (N := some 13) #[true, true, true, true, true, true, true, false, false, true, true, false, false, false, false] rfl rfl (one_of HT_.out (by kernel_rfl)) (by decide) (fun K hK => ?_)
            refine goes_ Tryd.func48 (by kernel_rfl) rfl #[.int .i64 a0_1, .int .i64 2] (by rfl) rfl rfl (by (try simp only [List.map_toArray, List.map_cons, List.map_nil]); first | done | rfl | (simp only [List.length_drop, List.length_take]; rfl)) ?_
            with_reducible refine (pairingref5_two.calls k a0_1 2 t240 _ ?side1 A6.out).mono ?_
            (case side1 => first | (with_reducible exact hT_p10) | exact Tab_p10.below hT_p10 (by repeat (first | (with_reducible first | exact HB.out | apply below_alloc | apply pw_below_drewN | apply below_drew1 | refine below_set ?_ GE237.out) | exact HB.out)))
            rintro e w16 ⟨rfl, hb⟩
            refine ⟨_, rfl, ?_⟩
            have n0_ := Aside0.mk (blk_below (g := gb237) (o := .cells #[.int .i64 a0_0, .int .i64 a0_1, .int .i64 a0_2] 27 (0, 0)) (by (with_reducible repeat (first | refine blk_drewN ?_ _ | refine blk_drew ?_ | refine blk_alloc ?_ _)); exact BK237.out) hb)
            have n1_ := Aside0.mk (below_step (by repeat (first | (with_reducible first | exact HB.out | apply below_alloc | apply pw_below_drewN | apply below_drew1 | refine below_set ?_ GE237.out) | exact HB.out)) hb)
            clear BK237
            clear HB
            have BK237 := n0_
            have HB := n1_
            clear n0_ n1_
            (try clear hb)
            (try clear hb2)
            (try clear hk)
            (try clear hi)
            refine hK.out _ _ ⟨(blk_cell BK237.out 0).trans rfl, (blk_cell BK237.out 1).trans rfl, (blk_cell BK237.out 2).trans rfl⟩ (fun hHeld => ?_)
            clear hK K
            refine norm_ (a' := ?_) ?_ ?_
            rotate_left
            · show Act.put _ (some 13) _ = _
              simp only [Act.put, List.setIfInBounds_toArray, List.set_cons_zero, List.set_cons_succ, i64_w, i32_w]
              rfl
            refine pure_ (i := 7) (N := some 14) (v := ?_) (a' := ?_) #[true, true, true, true, true, true, true, true, false, true, true, false, false, false, false] rfl rfl (any_of HT_.out (by kernel_rfl)) (fun _ _ _ h => h) (Or.inl ⟨by rfl, ?_⟩) ?_ ?_
            rotate_left
            · intro w'
              go_simp
              with_reducible rfl
            rotate_left
            · simp only [Act.put, List.setIfInBounds_toArray, List.set_cons_zero, List.set_cons_succ, i64_w, i32_w]
              rfl
            refine pure_ (i := 8) (N := some 15) (v := ?_) (a' := ?_) #[true, true, true, true, true, true, true, true, true, true, true, false, false, false, false] rfl rfl (any_of HT_.out (by kernel_rfl)) (fun _ _ _ h => h) (Or.inl ⟨by rfl, ?_⟩) ?_ ?_
            rotate_left
            · intro w'
              go_simp
              with_reducible rfl
            rotate_left
            · simp only [Act.put, List.setIfInBounds_toArray, List.set_cons_zero, List.set_cons_succ, i64_w, i32_w]
              rfl
            refine one_ (i := 11) (N := some 18) #[true, true, true, true, true, true, true, true, true, true, true, true, false, false, false] rfl rfl (one_of HT_.out (by kernel_rfl)) (by decide) (fun K hK => ?_)
            refine goes_ Tryd.func48 (by kernel_rfl) rfl #[.int .i64 a0_2, .int .i64 2] (by rfl) rfl rfl (by (try simp only [List.map_toArray, List.map_cons, List.map_nil]); first | done | rfl | (simp only [List.length_drop, List.length_take]; rfl)) ?_
            with_reducible refine (pairingref5_two.calls k a0_2 2 t241 _ ?side1 A9.out).mono ?_
            (case side1 => first | (with_reducible exact hT_p10) | exact Tab_p10.below hT_p10 (by repeat (first | (with_reducible first | exact HB.out | apply below_alloc | apply pw_below_drewN | apply below_drew1 | refine below_set ?_ GE237.out) | exact HB.out)))
            rintro e w17 ⟨rfl, hb⟩
            refine ⟨_, rfl, ?_⟩
            have n0_ := Aside0.mk (blk_below (g := gb237) (o := .cells #[.int .i64 a0_0, .int .i64 a0_1, .int .i64 a0_2] 27 (0, 0)) (by (with_reducible repeat (first | refine blk_drewN ?_ _ | refine blk_drew ?_ | refine blk_alloc ?_ _)); exact BK237.out) hb)
            have n1_ := Aside0.mk (below_step (by repeat (first | (with_reducible first | exact HB.out | apply below_alloc | apply pw_below_drewN | apply below_drew1 | refine below_set ?_ GE237.out) | exact HB.out)) hb)
            clear BK237
            clear HB
            have BK237 := n0_
            have HB := n1_
            clear n0_ n1_
            (try clear hb)
            (try clear hb2)
            (try clear hk)
            (try clear hi)
            refine hK.out _ _ ⟨(blk_cell BK237.out 0).trans rfl, (blk_cell BK237.out 1).trans rfl, (blk_cell BK237.out 2).trans rfl⟩ (fun hHeld => ?_)
            clear hK K
            refine norm_ (a' := ?_) ?_ ?_
            rotate_left
            · show Act.put _ (some 18) _ = _
              simp only [Act.put, List.setIfInBounds_toArray, List.set_cons_zero, List.set_cons_succ, i64_w, i32_w]
              rfl
            refine pure_ (i := 12) (N := some 19) (v := ?_) (a' := ?_) #[true, true, true, true, true, true, true, true, true, true, true, true, true, false, false] rfl rfl (any_of HT_.out (by kernel_rfl)) (fun _ _ _ h => h) (Or.inl ⟨by rfl, ?_⟩) ?_ ?_
            rotate_left
            · intro w'
              go_simp
              with_reducible rfl
            rotate_left
            · simp only [Act.put, List.setIfInBounds_toArray, List.set_cons_zero, List.set_cons_succ, i64_w, i32_w]
              rfl
            refine pure_ (i := 13) (N := some 2) (v := ?_) (a' := ?_) #[true, true, true, true, true, true, true, true, true, true, true, true, true, true, false] rfl rfl (any_of HT_.out (by kernel_rfl)) (fun _ _ _ h => h) (Or.inl ⟨by rfl, ?_⟩) ?_ ?_
            rotate_left
            · intro w'
              go_simp
              with_reducible rfl
            rotate_left
            · simp only [Act.put, List.setIfInBounds_toArray, List.set_cons_zero, List.set_cons_succ, i64_w, i32_w]
              rfl
            refine pure_ (i := 14) (N := some 3) (v := ?_) (a' := ?_) #[true, true, true, true, true, true, true, true, true, true, true, true, true, true, true] rfl rfl (any_of HT_.out (by kernel_rfl)) (fun _ _ _ h => h) (Or.inl ⟨by rfl, ?_⟩) ?_ ?_
            rotate_left
            · intro w'
              go_simp
              with_reducible rfl
            rotate_left
            · simp only [Act.put, List.setIfInBounds_toArray, List.set_cons_zero, List.set_cons_succ, i64_w, i32_w]
              rfl
            refine done_ (done_of HT_.out (by kernel_rfl)) ?_
            try go_wp2
            go_ret2
            exact ⟨by first | rfl | (simp [errW_none, errW_some] <;> rfl) | (simp [*, errW_none, errW_some] <;> rfl), by repeat (first | (with_reducible first | exact HB.out | apply below_alloc | apply pw_below_drewN | apply below_drew1 | refine below_set ?_ GE237.out) | exact HB.out)⟩
          · rw [if_neg c10] at H
            exact absurd H (by simp)
        · rw [if_neg c8] at H
          exact absurd H (by simp)
      · rw [if_neg c7] at H
        exact absurd H (by simp)
    · rw [if_neg c5] at H
      exact absurd H (by simp)
  · replace c3 := Bool.eq_false_iff.mpr c3
    subst c3
    have H1 : (some ((⟨#[]⟩ : ByteArray), 5)) = some (r1, r2) := by rw [if_neg (show ¬ (false = true) by decide)] at H; exact H
    clear H
    have H := H1
    clear H1
    simp only [Option.some.injEq, Prod.mk.injEq] at H
    obtain ⟨rfl, rfl⟩ := H
    go_enter Tryd.func26, Tryd.ntmps26
    go_wp2_with (first | ((with_reducible refine gate_dst (N := 1) rfl ?_); refine box_event ?hg (N := 1) ?hd (cs := #[.int .i64 a0_0, .int .i64 a0_1, .int .i64 a0_2]) (t := 27) ?hr ?_; (case hd => rfl); (case hg => rfl); (case hr => first | (go_simp; done) | (go_simp; rfl)); intro gb237 hg w18 hbox hb; have n0_ := Aside0.mk (below_step (by repeat (first | (with_reducible first | exact HB.out | apply below_alloc | apply pw_below_drewN | apply below_drew1) | exact HB.out)) hb); have n1_ := Aside0.mk (hbox); have n2_ := Aside0.mk ((by rw [hg]; exact (below_size (by repeat (first | (with_reducible first | exact HB.out | apply below_alloc | apply pw_below_drewN | apply below_drew1) | exact HB.out))) : w.heap.size ≤ gb237)); have n3_ := Aside0.mk ((by rw [hg]; exact (below_size (by repeat (first | (with_reducible first | exact HB.out | apply below_alloc | apply pw_below_drewN | apply below_drew1) | exact HB.out))) : w.heap.size ≤ gb237)); clear HB; have HB := n0_; have BK237 := n1_; have GW237 := n2_; have GE237 := n3_; clear n0_ n1_ n2_ n3_; clear hb hbox hg; have hcz19_0 : w18.cell? ⟨gb237, 0, none⟩ = some (.int .i64 a0_0) := (blk_cell BK237.out 0).trans rfl; have hcz19_1 : w18.cell? ⟨gb237, 1, none⟩ = some (.int .i64 a0_1) := (blk_cell BK237.out 1).trans rfl; have hcz19_2 : w18.cell? ⟨gb237, 2, none⟩ = some (.int .i64 a0_2) := (blk_cell BK237.out 2).trans rfl; have hfz19_0 := blk_frozen BK237.out 0; have hfz19_1 := blk_frozen BK237.out 1; have hfz19_2 := blk_frozen BK237.out 2) | ((with_reducible refine gate_callee (f := 43) rfl ?_); refine goesL_ (some 5) rfl rfl Tryd.func43 (by kernel_rfl) rfl #[.agg #[.int .i64 a0_0, .int .i64 a0_1, .int .i64 a0_2]] rfl (by (try simp only [List.map_toArray, List.map_cons, List.map_nil]); first | done | rfl | (simp only [List.length_drop, List.length_take]; rfl)) ?_; (with_reducible refine (pairingref5_IsDate.calls k a0_0 a0_1 a0_2 false _ A2.out).mono ?_); rintro e w20 ⟨rfl, hb⟩; refine ⟨_, rfl, ?_⟩; have n0_ := Aside0.mk (blk_below (g := gb237) (o := .cells #[.int .i64 a0_0, .int .i64 a0_1, .int .i64 a0_2] 27 (0, 0)) (by (with_reducible repeat (first | refine blk_drewN ?_ _ | refine blk_drew ?_ | refine blk_alloc ?_ _)); exact BK237.out) hb); have n1_ := Aside0.mk (below_step (by repeat (first | (with_reducible first | exact HB.out | apply below_alloc | apply pw_below_drewN | apply below_drew1 | refine below_set ?_ GE237.out) | exact HB.out)) hb); clear BK237; clear HB; have BK237 := n0_; have HB := n1_; clear n0_ n1_; (try clear hb); (try clear hb2); (try clear hk); (try clear hi)))
    go_ret2
    exact ⟨by first | rfl | (simp [errW_none, errW_some] <;> rfl) | (simp [*, errW_none, errW_some] <;> rfl), by repeat (first | (with_reducible first | exact HB.out | apply below_alloc | apply pw_below_drewN | apply below_drew1 | refine below_set ?_ GE237.out) | exact HB.out)⟩

end Go.Proofs.YtdpkemjbiengfaaDoor.QCal
