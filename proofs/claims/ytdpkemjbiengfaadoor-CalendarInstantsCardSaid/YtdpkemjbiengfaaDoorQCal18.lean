/- Written by a program (wip/myprint.py): the Go functions that the laws reach, each as a plain Lean function, and a proof that the machine's call answers as that function says. -/
import Derived.Test.YtdpkemjbiengfaaDoorQCal0
import Derived.Test.YtdpkemjbiengfaaDoorQCal3
import Derived.Test.YtdpkemjbiengfaaDoorQCal4
import Derived.Test.YtdpkemjbiengfaaDoorQCal10
import Derived.Test.YtdpkemjbiengfaaDoorQCal11
import Derived.Test.YtdpkemjbiengfaaDoorQCal15
import Derived.Test.YtdpkemjbiengfaaDoorQCal16
namespace Go.Proofs.YtdpkemjbiengfaaDoor.QCal
open Go.RowKit Go.Proofs.YtdpkemjbiengfaaDoorW.PrintWords Go.Proofs.YtdpkemjbiengfaaDoorW.PrintLast Go.Proofs.YtdpkemjbiengfaaDoorW.PrintMore
attribute [local go_sem] max2_int min2_int max_two min_two max_three min_three max_four min_four   -- for this text's walks alone
set_option linter.unusedVariables false
set_option linter.unusedSimpArgs false

/-! ### calendar_ParseInstant: function 31 -/
mutual
def calendar_ParseInstant.j0 : Nat → ByteArray → Bool → Option (Int × Int)
  | 0, _, _ => none
  | k + 1, x0, x18 => if x18 = true then (some (0, 1)) else (if 0 ≤ 10 then (if 10 ≤ (x0.size : Int) then ((calendar_ParseDate.f k (x0.extract 0 10)).bind fun bt286 => (if 11 ≤ (x0.size : Int) then ((calendar_ParseClock.f k (x0.extract 11 x0.size)).bind fun bt291 => (if bt286.2.2.2 = 1 then (calendar_ParseInstant.j1 k bt286.2.2.2 bt291.1 bt291.2 true bt286.1 bt286.2.1 bt286.2.2.1) else (calendar_ParseInstant.j1 k bt286.2.2.2 bt291.1 bt291.2 (bt291.2 == 1) bt286.1 bt286.2.1 bt286.2.2.1))) else (none))) else (none)) else (none))
def calendar_ParseInstant.j1 : Nat → Int → Int → Int → Bool → Int → Int → Int → Option (Int × Int)
  | 0, _, _, _, _, _, _, _ => none
  | k + 1, x5, x6, x7, x31, x291000, x291001, x291002 => if x31 = true then (some (0, 1)) else (if x5 = 0 then (calendar_ParseInstant.j2 k x6 (x7 != 0) x291000 x291001 x291002) else (calendar_ParseInstant.j2 k x6 true x291000 x291001 x291002))
def calendar_ParseInstant.j2 : Nat → Int → Bool → Int → Int → Int → Option (Int × Int)
  | 0, _, _, _, _, _ => none
  | k + 1, x6, x38, x291000, x291001, x291002 => if x38 = true then (some (0, 5)) else ((calendar_DayNumber.f k x291000 x291001 x291002).bind fun bt293 => (if (wrap64 ((wrap64 (1440 * bt293.1)) + x6)) < 0 then (some (0, 5)) else (if (wrap64 ((wrap64 (1440 * bt293.1)) + x6)) ≥ 52596000 then (some (0, 5)) else (some (wrap64 ((wrap64 (1440 * bt293.1)) + x6), 0)))))
end
def calendar_ParseInstant.f (k : Nat) (a0 : ByteArray) : Option (Int × Int) := if (a0.size : Int) = 16 then (if 10 < (a0.size : Int) then (calendar_ParseInstant.j0 k a0 ((bt a0 10) != 32)) else (none)) else (calendar_ParseInstant.j0 k a0 true)
theorem calendar_ParseInstant.mono_l : ∀ k, (∀ y0 y1, LeO (calendar_ParseInstant.j0 k y0 y1) (calendar_ParseInstant.j0 (k + 1) y0 y1)) ∧ (∀ y0 y1 y2 y3 y4 y5 y6, LeO (calendar_ParseInstant.j1 k y0 y1 y2 y3 y4 y5 y6) (calendar_ParseInstant.j1 (k + 1) y0 y1 y2 y3 y4 y5 y6)) ∧ (∀ y0 y1 y2 y3 y4, LeO (calendar_ParseInstant.j2 k y0 y1 y2 y3 y4) (calendar_ParseInstant.j2 (k + 1) y0 y1 y2 y3 y4))
  | 0 => ⟨fun _ _ r h => by simp [calendar_ParseInstant.j0] at h, fun _ _ _ _ _ _ _ r h => by simp [calendar_ParseInstant.j1] at h, fun _ _ _ _ _ r h => by simp [calendar_ParseInstant.j2] at h⟩
  | k + 1 => by
    obtain ⟨ih0, ih1, ih2⟩ := calendar_ParseInstant.mono_l k
    refine ⟨?_, ?_, ?_⟩
    · intro y0 y1
      unfold calendar_ParseInstant.j0
      repeat' first
      | (with_reducible exact ih0 _ _)
      | (with_reducible exact ih1 _ _ _ _ _ _ _)
      | (with_reducible exact ih2 _ _ _ _ _)
      | (with_reducible exact calendar_DayNumber.mono _ _ _ _)
      | (with_reducible exact calendar_ParseClock.mono _ _)
      | (with_reducible exact calendar_ParseDate.mono _ _)
      | (with_reducible exact LeO.refl _)
      | (with_reducible exact LeO.none _)
      | (with_reducible refine LeO.ite ?_ ?_)
      | (with_reducible refine LeO.bind ?_ (fun _ => ?_))
      | exact ih0 _ _
      | exact ih1 _ _ _ _ _ _ _
      | exact ih2 _ _ _ _ _
      | exact calendar_DayNumber.mono _ _ _ _
      | exact calendar_ParseClock.mono _ _
      | exact calendar_ParseDate.mono _ _
      | exact LeO.none _
      | refine LeO.ite ?_ ?_
      | refine LeO.bind ?_ (fun _ => ?_)
    · intro y0 y1 y2 y3 y4 y5 y6
      unfold calendar_ParseInstant.j1
      repeat' first
      | (with_reducible exact ih0 _ _)
      | (with_reducible exact ih1 _ _ _ _ _ _ _)
      | (with_reducible exact ih2 _ _ _ _ _)
      | (with_reducible exact calendar_DayNumber.mono _ _ _ _)
      | (with_reducible exact calendar_ParseClock.mono _ _)
      | (with_reducible exact calendar_ParseDate.mono _ _)
      | (with_reducible exact LeO.refl _)
      | (with_reducible exact LeO.none _)
      | (with_reducible refine LeO.ite ?_ ?_)
      | (with_reducible refine LeO.bind ?_ (fun _ => ?_))
      | exact ih0 _ _
      | exact ih1 _ _ _ _ _ _ _
      | exact ih2 _ _ _ _ _
      | exact calendar_DayNumber.mono _ _ _ _
      | exact calendar_ParseClock.mono _ _
      | exact calendar_ParseDate.mono _ _
      | exact LeO.none _
      | refine LeO.ite ?_ ?_
      | refine LeO.bind ?_ (fun _ => ?_)
    · intro y0 y1 y2 y3 y4
      unfold calendar_ParseInstant.j2
      repeat' first
      | (with_reducible exact ih0 _ _)
      | (with_reducible exact ih1 _ _ _ _ _ _ _)
      | (with_reducible exact ih2 _ _ _ _ _)
      | (with_reducible exact calendar_DayNumber.mono _ _ _ _)
      | (with_reducible exact calendar_ParseClock.mono _ _)
      | (with_reducible exact calendar_ParseDate.mono _ _)
      | (with_reducible exact LeO.refl _)
      | (with_reducible exact LeO.none _)
      | (with_reducible refine LeO.ite ?_ ?_)
      | (with_reducible refine LeO.bind ?_ (fun _ => ?_))
      | exact ih0 _ _
      | exact ih1 _ _ _ _ _ _ _
      | exact ih2 _ _ _ _ _
      | exact calendar_DayNumber.mono _ _ _ _
      | exact calendar_ParseClock.mono _ _
      | exact calendar_ParseDate.mono _ _
      | exact LeO.none _
      | refine LeO.ite ?_ ?_
      | refine LeO.bind ?_ (fun _ => ?_)
theorem calendar_ParseInstant.mono : ∀ a0 k, LeO (calendar_ParseInstant.f k a0) (calendar_ParseInstant.f (k + 1) a0) := by
  intro a0 k
  obtain ⟨ih0, ih1, ih2⟩ := calendar_ParseInstant.mono_l k
  unfold calendar_ParseInstant.f
  repeat' first
      | (with_reducible exact ih0 _ _)
      | (with_reducible exact ih1 _ _ _ _ _ _ _)
      | (with_reducible exact ih2 _ _ _ _ _)
      | (with_reducible exact calendar_DayNumber.mono _ _ _ _)
      | (with_reducible exact calendar_ParseClock.mono _ _)
      | (with_reducible exact calendar_ParseDate.mono _ _)
      | (with_reducible exact LeO.refl _)
      | (with_reducible exact LeO.none _)
      | (with_reducible refine LeO.ite ?_ ?_)
      | (with_reducible refine LeO.bind ?_ (fun _ => ?_))
      | exact ih0 _ _
      | exact ih1 _ _ _ _ _ _ _
      | exact ih2 _ _ _ _ _
      | exact calendar_DayNumber.mono _ _ _ _
      | exact calendar_ParseClock.mono _ _
      | exact calendar_ParseDate.mono _ _
      | exact LeO.none _
      | refine LeO.ite ?_ ?_
      | refine LeO.bind ?_ (fun _ => ?_)
set_option maxHeartbeats 8000000 in
set_option maxRecDepth 100000 in
theorem calendar_ParseInstant.calls (k : Nat) (a0 : ByteArray) (r1 : Int) (r2 : Int) (w : World) (hT_md : Tab_md w) (h : calendar_ParseInstant.f k a0 = some (r1, r2)) :
    Calls Tryd.prog 31 #[.string a0] w fun e w' => e = .returned (.tuple #[.int .i64 r1, .int .i64 r2]) ∧ Below w.heap.size w w' := by
  have hu27 := Tryd.underlying27
  have HB := Aside0.mk (Below.refl w.heap.size w)
  have H : (if (a0.size : Int) = 16 then (if 10 < (a0.size : Int) then (calendar_ParseInstant.j0 k a0 ((bt a0 10) != 32)) else (none)) else (calendar_ParseInstant.j0 k a0 true)) = some (r1, r2) := h
  clear h
  have HC2 := Aside0.mk H
  clear H
  go_enter Tryd.func31, Tryd.ntmps31
  go_upto_region 1 with (fail)
  go_cut [18] (fun v18 wc => ∃ (kq : Nat) (x18_1 : Bool), v18 = .bool x18_1 ∧ Aside0 (calendar_ParseInstant.j0 kq a0 x18_1 = some (r1, r2)) ∧ Aside0 (kq ≤ k) ∧ Aside0 (Below w.heap.size w wc))
  case first =>
    have H := HC2.out
    clear HC2
    by_cases c3 : (a0.size : Int) = 16
    · rw [if_pos c3] at H
      have c3b0 : ((a0.size : Int) == 16) = true := beq_iff_eq.mpr c3
      have c3b1 : ((a0.size : Int) != 16) = false := bne_eq_false_iff_eq.mpr c3
      clear c3
      (first | rw [c3b0] | (simp only [i64_w, i32_w]; rw [c3b0]) | skip)
      by_cases c4 : 10 < (a0.size : Int)
      · rw [if_pos c4] at H
        have c4b0 : decide (10 < (a0.size : Int)) = true := decide_eq_true c4
        have c4b1 : decide (10 < a0.size) = true := decide_eq_true (by omega)
        clear c4
        have H' := Aside0.mk H
        clear H
        have p5 : 0 ≤ (10 : Int) := (by omega)
        have q5 : 10 < a0.size := (by have : (10 : Int) < (a0.size : Int) := of_decide_eq_true (by first | (with_reducible assumption) | assumption); omega)
        have hx5 : ∀ h : 10 < a0.size, ((a0[10]'h).toNat : Int) = bt a0 10 := bt_at a0 10
        clear p5
        have qi5 : (10 < (a0.size : Int)) = True := eq_true (of_decide_eq_true (by first | (with_reducible assumption) | assumption))
        replace q5 := eq_true q5
        go_wp2
        go_meet
        case rel => exact ⟨_, (((bt a0 10) != 32)), (by first | rfl | (simp; done) | (simp [*]; done)), H', ⟨by first | omega | exact Nat.le_refl _⟩, ⟨by repeat (first | (with_reducible first | exact HB.out | apply below_alloc | apply pw_below_drewN | apply below_drew1) | exact HB.out)⟩⟩
      · rw [if_neg c4] at H
        exact absurd H (by simp)
    · rw [if_neg c3] at H
      have c3b0 : ((a0.size : Int) == 16) = false := beq_eq_false_iff_ne.mpr c3
      have c3b1 : ((a0.size : Int) != 16) = true := bne_iff_ne.mpr c3
      (first | rw [c3b0] | (simp only [i64_w, i32_w]; rw [c3b0]) | skip)
      have H' := Aside0.mk H
      clear H
      go_wp2
      go_meet
      case rel => exact ⟨_, (true), (by first | rfl | (simp; done) | (simp [*]; done)), H', ⟨by first | omega | exact Nat.le_refl _⟩, ⟨by repeat (first | (with_reducible first | exact HB.out | apply below_alloc | apply pw_below_drewN | apply below_drew1) | exact HB.out)⟩⟩
  case rest =>
    clear HC2
    try clear p2
    try clear c3
    try clear c3b0
    try clear c3b1
    try clear c4
    try clear c4b0
    try clear c4b1
    try clear p5
    try clear q5
    try clear hx5
    try clear qi5
    try clear p5
    try clear q5
    obtain ⟨kq, x18_1, rfl, HA, HJ1, HB⟩ := hcut
    cases kq with
    | zero => exact absurd HA.out (by simp [calendar_ParseInstant.j0])
    | succ kj1 =>
      have H := HA.out
      clear HA
      simp only [calendar_ParseInstant.j0] at H
      by_cases c6 : x18_1 = true
      · subst c6
        have H1 : (some (0, 1)) = some (r1, r2) := by rw [if_pos rfl] at H; exact H
        clear H
        have H := H1
        clear H1
        simp only [Option.some.injEq, Prod.mk.injEq] at H
        obtain ⟨rfl, rfl⟩ := H
        go_wp2
        go_ret2
        exact ⟨by first | rfl | (simp [errW_none, errW_some] <;> rfl) | (simp [*, errW_none, errW_some] <;> rfl), by repeat (first | (with_reducible first | exact HB.out | apply below_alloc | apply pw_below_drewN | apply below_drew1) | exact HB.out)⟩
      · replace c6 := Bool.eq_false_iff.mpr c6
        subst c6
        have H1 : (if 0 ≤ 10 then (if 10 ≤ (a0.size : Int) then ((calendar_ParseDate.f kj1 (a0.extract 0 10)).bind fun bt286 => (if 11 ≤ (a0.size : Int) then ((calendar_ParseClock.f kj1 (a0.extract 11 a0.size)).bind fun bt291 => (if bt286.2.2.2 = 1 then (calendar_ParseInstant.j1 kj1 bt286.2.2.2 bt291.1 bt291.2 true bt286.1 bt286.2.1 bt286.2.2.1) else (calendar_ParseInstant.j1 kj1 bt286.2.2.2 bt291.1 bt291.2 (bt291.2 == 1) bt286.1 bt286.2.1 bt286.2.2.1))) else (none))) else (none)) else (none)) = some (r1, r2) := by rw [if_neg (show ¬ (false = true) by decide)] at H; exact H
        clear H
        have H := H1
        clear H1
        by_cases c7 : 0 ≤ 10
        · rw [if_pos c7] at H
          have c7b0 := eq_true c7
          have c7b1 : decide (0 ≤ 10) = true := decide_eq_true c7
          clear c7
          by_cases c8 : 10 ≤ (a0.size : Int)
          · rw [if_pos c8] at H
            have c8b0 := eq_true c8
            have c8b1 : decide (10 ≤ (a0.size : Int)) = true := decide_eq_true c8
            clear c8
            replace H := Option.bind_eq_some_iff.mp H
            obtain ⟨⟨t286, t287, t288, t289⟩, A90, H⟩ := H
            replace H : (if 11 ≤ (a0.size : Int) then ((calendar_ParseClock.f kj1 (a0.extract 11 a0.size)).bind fun bt291 => (if t289 = 1 then (calendar_ParseInstant.j1 kj1 t289 bt291.1 bt291.2 true t286 t287 t288) else (calendar_ParseInstant.j1 kj1 t289 bt291.1 bt291.2 (bt291.2 == 1) t286 t287 t288))) else (none)) = some (r1, r2) := H
            have A9 := Aside0.mk A90
            clear A90
            by_cases c10 : 11 ≤ (a0.size : Int)
            · rw [if_pos c10] at H
              have c10b0 := eq_true c10
              have c10b1 : decide (11 ≤ (a0.size : Int)) = true := decide_eq_true c10
              clear c10
              replace H := Option.bind_eq_some_iff.mp H
              obtain ⟨⟨t291, t292⟩, A110, H⟩ := H
              replace H : (if t289 = 1 then (calendar_ParseInstant.j1 kj1 t289 t291 t292 true t286 t287 t288) else (calendar_ParseInstant.j1 kj1 t289 t291 t292 (t292 == 1) t286 t287 t288)) = some (r1, r2) := H
              have A11 := Aside0.mk A110
              clear A110
              have HC12 := Aside0.mk H
              clear H
              go_upto_region 5 with (first | ((with_reducible refine gate_callee (f := 23) rfl ?_); refine goesL_ (some 22) rfl rfl Tryd.func23 (by kernel_rfl) rfl #[.string (a0.extract 0 10)] rfl (by (try simp only [List.map_toArray, List.map_cons, List.map_nil]); first | done | rfl | (simp only [List.length_drop, List.length_take]; rfl)) ?_; (with_reducible refine (calendar_ParseDate.calls kj1 (a0.extract 0 10) t286 t287 t288 t289 _ ?side1 A9.out).mono ?_); (case side1 => first | (with_reducible exact hT_md) | exact Tab_md.below hT_md (by repeat (first | (with_reducible first | exact HB.out | apply below_alloc | apply pw_below_drewN | apply below_drew1) | exact HB.out))); rintro e w13 ⟨rfl, hb⟩; refine ⟨_, rfl, ?_⟩; have n0_ := Aside0.mk (below_step (by repeat (first | (with_reducible first | exact HB.out | apply below_alloc | apply pw_below_drewN | apply below_drew1) | exact HB.out)) hb); clear HB; have HB := n0_; clear n0_; (try clear hb); (try clear hb2); (try clear hk); (try clear hi)) | ((with_reducible refine gate_dst (N := 4) rfl ?_); refine box_event ?hg (N := 4) ?hd (cs := #[.int .i64 0, .int .i64 0, .int .i64 0]) (t := 27) ?hr ?_; (case hd => rfl); (case hg => rfl); (case hr => first | (go_simp; done) | (go_simp; rfl)); intro gb290 hg w14 hbox hb; have n0_ := Aside0.mk (below_step (by repeat (first | (with_reducible first | exact HB.out | apply below_alloc | apply pw_below_drewN | apply below_drew1) | exact HB.out)) hb); have n1_ := Aside0.mk (hbox); have n2_ := Aside0.mk ((by rw [hg]; exact (below_size (by repeat (first | (with_reducible first | exact HB.out | apply below_alloc | apply pw_below_drewN | apply below_drew1) | exact HB.out))) : w.heap.size ≤ gb290)); have n3_ := Aside0.mk ((by rw [hg]; exact (below_size (by repeat (first | (with_reducible first | exact HB.out | apply below_alloc | apply pw_below_drewN | apply below_drew1) | exact HB.out))) : w.heap.size ≤ gb290)); clear HB; have HB := n0_; have BK290 := n1_; have GW290 := n2_; have GE290 := n3_; clear n0_ n1_ n2_ n3_; clear hb hbox hg; have hcz15_0 : w14.cell? ⟨gb290, 0, none⟩ = some (.int .i64 0) := (blk_cell BK290.out 0).trans rfl; have hcz15_1 : w14.cell? ⟨gb290, 1, none⟩ = some (.int .i64 0) := (blk_cell BK290.out 1).trans rfl; have hcz15_2 : w14.cell? ⟨gb290, 2, none⟩ = some (.int .i64 0) := (blk_cell BK290.out 2).trans rfl; have hfz15_0 := blk_frozen BK290.out 0; have hfz15_1 := blk_frozen BK290.out 1; have hfz15_2 := blk_frozen BK290.out 2) | ((with_reducible refine gate_callee (f := 27) rfl ?_); refine goesL_ (some 28) rfl rfl Tryd.func27 (by kernel_rfl) rfl #[.string (a0.extract 11 a0.size)] rfl (by (try simp only [List.map_toArray, List.map_cons, List.map_nil]); first | done | rfl | (simp only [List.length_drop, List.length_take]; rfl)) ?_; (with_reducible refine (calendar_ParseClock.calls kj1 (a0.extract 11 a0.size) t291 t292 _ A11.out).mono ?_); rintro e w' ⟨rfl, ⟨nd, rfl⟩⟩; refine ⟨_, rfl, ?_⟩))
              (try simp only [Act.put, List.setIfInBounds_toArray, List.set_cons_zero, List.set_cons_succ])
              go_cut [31] (fun v31 wc => ∃ (kq : Nat) (x31_11 : Bool), v31 = .bool x31_11 ∧ Aside0 (calendar_ParseInstant.j1 kq t289 t291 t292 x31_11 t286 t287 t288 = some (r1, r2)) ∧ Aside0 (kq ≤ kj1) ∧ Aside0 (wc.heap[gb290]? = some (.cells #[.int .i64 t286, .int .i64 t287, .int .i64 t288] 27 (0, 0))) ∧ Aside0 (Below w.heap.size w wc))
              case first =>
                have H := HC12.out
                clear HC12
                by_cases c16 : t289 = 1
                · rw [if_pos c16] at H
                  have c16b0 : (t289 == 1) = true := beq_iff_eq.mpr c16
                  have c16b1 : (t289 != 1) = false := bne_eq_false_iff_eq.mpr c16
                  clear c16
                  (first | rw [c16b0] | (simp only [i64_w, i32_w]; rw [c16b0]) | skip)
                  have H' := Aside0.mk H
                  clear H
                  go_wp2
                  go_meet
                  case rel => exact ⟨_, (true), (by first | rfl | (simp; done) | (simp [*]; done)), H', ⟨by have := HJ1.out; first | omega | exact Nat.le_refl _⟩, ⟨by (with_reducible repeat (first | refine blk_drewN ?_ _ | refine blk_drew ?_ | refine blk_alloc ?_ _)); refine blk_put (cs := #[.int .i64 t286, .int .i64 t287, .int .i64 0]) ?_ 2 _ rfl; (with_reducible repeat (first | refine blk_drewN ?_ _ | refine blk_drew ?_ | refine blk_alloc ?_ _)); refine blk_put (cs := #[.int .i64 t286, .int .i64 0, .int .i64 0]) ?_ 1 _ rfl; (with_reducible repeat (first | refine blk_drewN ?_ _ | refine blk_drew ?_ | refine blk_alloc ?_ _)); refine blk_put (cs := #[.int .i64 0, .int .i64 0, .int .i64 0]) ?_ 0 _ rfl; (with_reducible repeat (first | refine blk_drewN ?_ _ | refine blk_drew ?_ | refine blk_alloc ?_ _)); exact BK290.out⟩, ⟨by repeat (first | (with_reducible first | exact HB.out | apply below_alloc | apply pw_below_drewN | apply below_drew1 | refine below_set ?_ GE290.out) | exact HB.out)⟩⟩
                · rw [if_neg c16] at H
                  have c16b0 : (t289 == 1) = false := beq_eq_false_iff_ne.mpr c16
                  have c16b1 : (t289 != 1) = true := bne_iff_ne.mpr c16
                  (first | rw [c16b0] | (simp only [i64_w, i32_w]; rw [c16b0]) | skip)
                  have H' := Aside0.mk H
                  clear H
                  go_wp2
                  go_meet
                  case rel => exact ⟨_, ((t292 == 1)), (by first | rfl | (simp; done) | (simp [*]; done)), H', ⟨by have := HJ1.out; first | omega | exact Nat.le_refl _⟩, ⟨by (with_reducible repeat (first | refine blk_drewN ?_ _ | refine blk_drew ?_ | refine blk_alloc ?_ _)); refine blk_put (cs := #[.int .i64 t286, .int .i64 t287, .int .i64 0]) ?_ 2 _ rfl; (with_reducible repeat (first | refine blk_drewN ?_ _ | refine blk_drew ?_ | refine blk_alloc ?_ _)); refine blk_put (cs := #[.int .i64 t286, .int .i64 0, .int .i64 0]) ?_ 1 _ rfl; (with_reducible repeat (first | refine blk_drewN ?_ _ | refine blk_drew ?_ | refine blk_alloc ?_ _)); refine blk_put (cs := #[.int .i64 0, .int .i64 0, .int .i64 0]) ?_ 0 _ rfl; (with_reducible repeat (first | refine blk_drewN ?_ _ | refine blk_drew ?_ | refine blk_alloc ?_ _)); exact BK290.out⟩, ⟨by repeat (first | (with_reducible first | exact HB.out | apply below_alloc | apply pw_below_drewN | apply below_drew1 | refine below_set ?_ GE290.out) | exact HB.out)⟩⟩
              case rest =>
                clear HC12
                try clear c1
                try clear c2
                try clear p2
                try clear c3
                try clear c3b0
                try clear c3b1
                try clear c4
                try clear c4b0
                try clear c4b1
                try clear p5
                try clear q5
                try clear hx5
                try clear qi5
                try clear c6
                try clear c7
                try clear c7b0
                try clear c7b1
                try clear c8
                try clear c8b0
                try clear c8b1
                try clear c10
                try clear c10b0
                try clear c10b1
                try clear c16
                try clear c16b0
                try clear c16b1
                try clear hcz15_0
                try clear hcz15_1
                try clear hcz15_2
                try clear hfz15_0
                try clear hfz15_1
                try clear hfz15_2
                try clear p2
                try clear p5
                try clear q5
                obtain ⟨kq, x31_11, rfl, HA, HJ11, BK290, HB⟩ := hcut
                cases kq with
                | zero => exact absurd HA.out (by simp [calendar_ParseInstant.j1])
                | succ kj11 =>
                  have H := HA.out
                  clear HA
                  simp only [calendar_ParseInstant.j1] at H
                  by_cases c17 : x31_11 = true
                  · subst c17
                    have H1 : (some (0, 1)) = some (r1, r2) := by rw [if_pos rfl] at H; exact H
                    clear H
                    have H := H1
                    clear H1
                    simp only [Option.some.injEq, Prod.mk.injEq] at H
                    obtain ⟨rfl, rfl⟩ := H
                    go_wp2
                    go_ret2
                    exact ⟨by first | rfl | (simp [errW_none, errW_some] <;> rfl) | (simp [*, errW_none, errW_some] <;> rfl), by repeat (first | (with_reducible first | exact HB.out | apply below_alloc | apply pw_below_drewN | apply below_drew1 | refine below_set ?_ GE290.out) | exact HB.out)⟩
                  · replace c17 := Bool.eq_false_iff.mpr c17
                    subst c17
                    have H1 : (if t289 = 0 then (calendar_ParseInstant.j2 kj11 t291 (t292 != 0) t286 t287 t288) else (calendar_ParseInstant.j2 kj11 t291 true t286 t287 t288)) = some (r1, r2) := by rw [if_neg (show ¬ (false = true) by decide)] at H; exact H
                    clear H
                    have H := H1
                    clear H1
                    have HC18 := Aside0.mk H
                    clear H
                    go_upto_region 7 with (fail)
                    go_cut [38] (fun v38 wc => ∃ (kq : Nat) (x38_17 : Bool), v38 = .bool x38_17 ∧ Aside0 (calendar_ParseInstant.j2 kq t291 x38_17 t286 t287 t288 = some (r1, r2)) ∧ Aside0 (kq ≤ kj11) ∧ Aside0 (wc.heap[gb290]? = some (.cells #[.int .i64 t286, .int .i64 t287, .int .i64 t288] 27 (0, 0))) ∧ Aside0 (Below w.heap.size w wc))
                    case first =>
                      have H := HC18.out
                      clear HC18
                      by_cases c19 : t289 = 0
                      · rw [if_pos c19] at H
                        have c19b0 : (t289 == 0) = true := beq_iff_eq.mpr c19
                        have c19b1 : (t289 != 0) = false := bne_eq_false_iff_eq.mpr c19
                        clear c19
                        (first | rw [c19b0] | (simp only [i64_w, i32_w]; rw [c19b0]) | skip)
                        have H' := Aside0.mk H
                        clear H
                        go_wp2
                        go_meet
                        case rel => exact ⟨_, ((t292 != 0)), (by first | rfl | (simp; done) | (simp [*]; done)), H', ⟨by have := HJ1.out; have := HJ11.out; first | omega | exact Nat.le_refl _⟩, ⟨by (with_reducible repeat (first | refine blk_drewN ?_ _ | refine blk_drew ?_ | refine blk_alloc ?_ _)); exact BK290.out⟩, ⟨by repeat (first | (with_reducible first | exact HB.out | apply below_alloc | apply pw_below_drewN | apply below_drew1 | refine below_set ?_ GE290.out) | exact HB.out)⟩⟩
                      · rw [if_neg c19] at H
                        have c19b0 : (t289 == 0) = false := beq_eq_false_iff_ne.mpr c19
                        have c19b1 : (t289 != 0) = true := bne_iff_ne.mpr c19
                        (first | rw [c19b0] | (simp only [i64_w, i32_w]; rw [c19b0]) | skip)
                        have H' := Aside0.mk H
                        clear H
                        go_wp2
                        go_meet
                        case rel => exact ⟨_, (true), (by first | rfl | (simp; done) | (simp [*]; done)), H', ⟨by have := HJ1.out; have := HJ11.out; first | omega | exact Nat.le_refl _⟩, ⟨by (with_reducible repeat (first | refine blk_drewN ?_ _ | refine blk_drew ?_ | refine blk_alloc ?_ _)); exact BK290.out⟩, ⟨by repeat (first | (with_reducible first | exact HB.out | apply below_alloc | apply pw_below_drewN | apply below_drew1 | refine below_set ?_ GE290.out) | exact HB.out)⟩⟩
                    case rest =>
                      clear HC18
                      try clear c1
                      try clear c2
                      try clear p2
                      try clear c3
                      try clear c3b0
                      try clear c3b1
                      try clear c4
                      try clear c4b0
                      try clear c4b1
                      try clear p5
                      try clear q5
                      try clear hx5
                      try clear qi5
                      try clear c6
                      try clear c7
                      try clear c7b0
                      try clear c7b1
                      try clear c8
                      try clear c8b0
                      try clear c8b1
                      try clear c10
                      try clear c10b0
                      try clear c10b1
                      try clear c16
                      try clear c16b0
                      try clear c16b1
                      try clear c17
                      try clear c19
                      try clear c19b0
                      try clear c19b1
                      try clear hcz15_0
                      try clear hcz15_1
                      try clear hcz15_2
                      try clear hfz15_0
                      try clear hfz15_1
                      try clear hfz15_2
                      try clear p2
                      try clear p5
                      try clear q5
                      obtain ⟨kq, x38_17, rfl, HA, HJ17, BK290, HB⟩ := hcut
                      cases kq with
                      | zero => exact absurd HA.out (by simp [calendar_ParseInstant.j2])
                      | succ kj17 =>
                        have H := HA.out
                        clear HA
                        simp only [calendar_ParseInstant.j2] at H
                        by_cases c20 : x38_17 = true
                        · subst c20
                          have H1 : (some (0, 5)) = some (r1, r2) := by rw [if_pos rfl] at H; exact H
                          clear H
                          have H := H1
                          clear H1
                          simp only [Option.some.injEq, Prod.mk.injEq] at H
                          obtain ⟨rfl, rfl⟩ := H
                          go_wp2
                          go_ret2
                          exact ⟨by first | rfl | (simp [errW_none, errW_some] <;> rfl) | (simp [*, errW_none, errW_some] <;> rfl), by repeat (first | (with_reducible first | exact HB.out | apply below_alloc | apply pw_below_drewN | apply below_drew1 | refine below_set ?_ GE290.out) | exact HB.out)⟩
                        · replace c20 := Bool.eq_false_iff.mpr c20
                          subst c20
                          have H1 : ((calendar_DayNumber.f kj17 t286 t287 t288).bind fun bt293 => (if (wrap64 ((wrap64 (1440 * bt293.1)) + t291)) < 0 then (some (0, 5)) else (if (wrap64 ((wrap64 (1440 * bt293.1)) + t291)) ≥ 52596000 then (some (0, 5)) else (some (wrap64 ((wrap64 (1440 * bt293.1)) + t291), 0))))) = some (r1, r2) := by rw [if_neg (show ¬ (false = true) by decide)] at H; exact H
                          clear H
                          have H := H1
                          clear H1
                          replace H := Option.bind_eq_some_iff.mp H
                          obtain ⟨⟨t293, t294⟩, A210, H⟩ := H
                          replace H : (if (wrap64 ((wrap64 (1440 * t293)) + t291)) < 0 then (some (0, 5)) else (if (wrap64 ((wrap64 (1440 * t293)) + t291)) ≥ 52596000 then (some (0, 5)) else (some (wrap64 ((wrap64 (1440 * t293)) + t291), 0)))) = some (r1, r2) := H
                          have A21 := Aside0.mk A210
                          clear A210
                          by_cases c22 : (wrap64 ((wrap64 (1440 * t293)) + t291)) < 0
                          · rw [if_pos c22] at H
                            have c22b0 : decide ((wrap64 ((wrap64 (1440 * t293)) + t291)) < 0) = true := decide_eq_true c22
                            clear c22
                            simp only [Option.some.injEq, Prod.mk.injEq] at H
                            obtain ⟨rfl, rfl⟩ := H
                            have hcz23_0 : wc.cell? ⟨gb290, 0, none⟩ = some (.int .i64 t286) := (blk_cell BK290.out 0).trans rfl
                            have hcz23_1 : wc.cell? ⟨gb290, 1, none⟩ = some (.int .i64 t287) := (blk_cell BK290.out 1).trans rfl
                            have hcz23_2 : wc.cell? ⟨gb290, 2, none⟩ = some (.int .i64 t288) := (blk_cell BK290.out 2).trans rfl
                            have hfz23_0 := blk_frozen BK290.out 0
                            have hfz23_1 := blk_frozen BK290.out 1
                            have hfz23_2 := blk_frozen BK290.out 2
                            go_wp2_with (first | ((with_reducible refine gate_callee (f := 17) rfl ?_); refine goesL_ (some 47) rfl rfl Tryd.func17 (by kernel_rfl) rfl #[.agg #[.int .i64 t286, .int .i64 t287, .int .i64 t288]] rfl (by (try simp only [List.map_toArray, List.map_cons, List.map_nil]); first | done | rfl | (simp only [List.length_drop, List.length_take]; rfl)) ?_; (with_reducible refine (calendar_DayNumber.calls kj17 t286 t287 t288 t293 t294 _ ?side1 A21.out).mono ?_); (case side1 => first | (with_reducible exact hT_md) | exact Tab_md.below hT_md (by repeat (first | (with_reducible first | exact HB.out | apply below_alloc | apply pw_below_drewN | apply below_drew1 | refine below_set ?_ GE290.out) | exact HB.out))); rintro e w24 ⟨rfl, hb⟩; refine ⟨_, rfl, ?_⟩; have n0_ := Aside0.mk (blk_below (g := gb290) (o := .cells #[.int .i64 t286, .int .i64 t287, .int .i64 t288] 27 (0, 0)) (by (with_reducible repeat (first | refine blk_drewN ?_ _ | refine blk_drew ?_ | refine blk_alloc ?_ _)); exact BK290.out) hb); have n1_ := Aside0.mk (below_step (by repeat (first | (with_reducible first | exact HB.out | apply below_alloc | apply pw_below_drewN | apply below_drew1 | refine below_set ?_ GE290.out) | exact HB.out)) hb); clear BK290; clear HB; have BK290 := n0_; have HB := n1_; clear n0_ n1_; (try clear hb); (try clear hb2); (try clear hk); (try clear hi)))
                            go_ret2
                            exact ⟨by first | rfl | (simp [errW_none, errW_some] <;> rfl) | (simp [*, errW_none, errW_some] <;> rfl), by repeat (first | (with_reducible first | exact HB.out | apply below_alloc | apply pw_below_drewN | apply below_drew1 | refine below_set ?_ GE290.out) | exact HB.out)⟩
                          · rw [if_neg c22] at H
                            have c22b0 : decide ((wrap64 ((wrap64 (1440 * t293)) + t291)) < 0) = false := decide_eq_false c22
                            clear c22
                            by_cases c25 : (wrap64 ((wrap64 (1440 * t293)) + t291)) ≥ 52596000
                            · rw [if_pos c25] at H
                              have c25b0 : decide (52596000 ≤ (wrap64 ((wrap64 (1440 * t293)) + t291))) = true := decide_eq_true c25
                              clear c25
                              simp only [Option.some.injEq, Prod.mk.injEq] at H
                              obtain ⟨rfl, rfl⟩ := H
                              have hcz26_0 : wc.cell? ⟨gb290, 0, none⟩ = some (.int .i64 t286) := (blk_cell BK290.out 0).trans rfl
                              have hcz26_1 : wc.cell? ⟨gb290, 1, none⟩ = some (.int .i64 t287) := (blk_cell BK290.out 1).trans rfl
                              have hcz26_2 : wc.cell? ⟨gb290, 2, none⟩ = some (.int .i64 t288) := (blk_cell BK290.out 2).trans rfl
                              have hfz26_0 := blk_frozen BK290.out 0
                              have hfz26_1 := blk_frozen BK290.out 1
                              have hfz26_2 := blk_frozen BK290.out 2
                              go_wp2_with (first | ((with_reducible refine gate_callee (f := 17) rfl ?_); refine goesL_ (some 47) rfl rfl Tryd.func17 (by kernel_rfl) rfl #[.agg #[.int .i64 t286, .int .i64 t287, .int .i64 t288]] rfl (by (try simp only [List.map_toArray, List.map_cons, List.map_nil]); first | done | rfl | (simp only [List.length_drop, List.length_take]; rfl)) ?_; (with_reducible refine (calendar_DayNumber.calls kj17 t286 t287 t288 t293 t294 _ ?side1 A21.out).mono ?_); (case side1 => first | (with_reducible exact hT_md) | exact Tab_md.below hT_md (by repeat (first | (with_reducible first | exact HB.out | apply below_alloc | apply pw_below_drewN | apply below_drew1 | refine below_set ?_ GE290.out) | exact HB.out))); rintro e w27 ⟨rfl, hb⟩; refine ⟨_, rfl, ?_⟩; have n0_ := Aside0.mk (blk_below (g := gb290) (o := .cells #[.int .i64 t286, .int .i64 t287, .int .i64 t288] 27 (0, 0)) (by (with_reducible repeat (first | refine blk_drewN ?_ _ | refine blk_drew ?_ | refine blk_alloc ?_ _)); exact BK290.out) hb); have n1_ := Aside0.mk (below_step (by repeat (first | (with_reducible first | exact HB.out | apply below_alloc | apply pw_below_drewN | apply below_drew1 | refine below_set ?_ GE290.out) | exact HB.out)) hb); clear BK290; clear HB; have BK290 := n0_; have HB := n1_; clear n0_ n1_; (try clear hb); (try clear hb2); (try clear hk); (try clear hi)))
                              go_ret2
                              exact ⟨by first | rfl | (simp [errW_none, errW_some] <;> rfl) | (simp [*, errW_none, errW_some] <;> rfl), by repeat (first | (with_reducible first | exact HB.out | apply below_alloc | apply pw_below_drewN | apply below_drew1 | refine below_set ?_ GE290.out) | exact HB.out)⟩
                            · rw [if_neg c25] at H
                              have c25b0 : decide (52596000 ≤ (wrap64 ((wrap64 (1440 * t293)) + t291))) = false := decide_eq_false c25
                              clear c25
                              simp only [Option.some.injEq, Prod.mk.injEq] at H
                              obtain ⟨rfl, rfl⟩ := H
                              have hcz28_0 : wc.cell? ⟨gb290, 0, none⟩ = some (.int .i64 t286) := (blk_cell BK290.out 0).trans rfl
                              have hcz28_1 : wc.cell? ⟨gb290, 1, none⟩ = some (.int .i64 t287) := (blk_cell BK290.out 1).trans rfl
                              have hcz28_2 : wc.cell? ⟨gb290, 2, none⟩ = some (.int .i64 t288) := (blk_cell BK290.out 2).trans rfl
                              have hfz28_0 := blk_frozen BK290.out 0
                              have hfz28_1 := blk_frozen BK290.out 1
                              have hfz28_2 := blk_frozen BK290.out 2
                              go_wp2_with (first | ((with_reducible refine gate_callee (f := 17) rfl ?_); refine goesL_ (some 47) rfl rfl Tryd.func17 (by kernel_rfl) rfl #[.agg #[.int .i64 t286, .int .i64 t287, .int .i64 t288]] rfl (by (try simp only [List.map_toArray, List.map_cons, List.map_nil]); first | done | rfl | (simp only [List.length_drop, List.length_take]; rfl)) ?_; (with_reducible refine (calendar_DayNumber.calls kj17 t286 t287 t288 t293 t294 _ ?side1 A21.out).mono ?_); (case side1 => first | (with_reducible exact hT_md) | exact Tab_md.below hT_md (by repeat (first | (with_reducible first | exact HB.out | apply below_alloc | apply pw_below_drewN | apply below_drew1 | refine below_set ?_ GE290.out) | exact HB.out))); rintro e w29 ⟨rfl, hb⟩; refine ⟨_, rfl, ?_⟩; have n0_ := Aside0.mk (blk_below (g := gb290) (o := .cells #[.int .i64 t286, .int .i64 t287, .int .i64 t288] 27 (0, 0)) (by (with_reducible repeat (first | refine blk_drewN ?_ _ | refine blk_drew ?_ | refine blk_alloc ?_ _)); exact BK290.out) hb); have n1_ := Aside0.mk (below_step (by repeat (first | (with_reducible first | exact HB.out | apply below_alloc | apply pw_below_drewN | apply below_drew1 | refine below_set ?_ GE290.out) | exact HB.out)) hb); clear BK290; clear HB; have BK290 := n0_; have HB := n1_; clear n0_ n1_; (try clear hb); (try clear hb2); (try clear hk); (try clear hi)))
                              go_ret2
                              exact ⟨by first | rfl | (simp [errW_none, errW_some] <;> rfl) | (simp [*, errW_none, errW_some] <;> rfl), by repeat (first | (with_reducible first | exact HB.out | apply below_alloc | apply pw_below_drewN | apply below_drew1 | refine below_set ?_ GE290.out) | exact HB.out)⟩
            · rw [if_neg c10] at H
              exact absurd H (by simp)
          · rw [if_neg c8] at H
            exact absurd H (by simp)
        · rw [if_neg c7] at H
          exact absurd H (by simp)

/-! ### pairingref5_ParseInstant: function 32 -/
mutual
def pairingref5_ParseInstant.j0 : Nat → ByteArray → Bool → Option (Int × Int)
  | 0, _, _ => none
  | k + 1, x0, x18 => if x18 = true then (some (0, 1)) else (if 0 ≤ 10 then (if 10 ≤ (x0.size : Int) then ((pairingref5_ParseDate.f k (x0.extract 0 10)).bind fun bt295 => (if 11 ≤ (x0.size : Int) then ((pairingref5_ParseClock.f k (x0.extract 11 x0.size)).bind fun bt300 => (if bt295.2.2.2 = 1 then (pairingref5_ParseInstant.j1 k bt295.2.2.2 bt300.1 bt300.2 true bt295.1 bt295.2.1 bt295.2.2.1) else (pairingref5_ParseInstant.j1 k bt295.2.2.2 bt300.1 bt300.2 (bt300.2 == 1) bt295.1 bt295.2.1 bt295.2.2.1))) else (none))) else (none)) else (none))
def pairingref5_ParseInstant.j1 : Nat → Int → Int → Int → Bool → Int → Int → Int → Option (Int × Int)
  | 0, _, _, _, _, _, _, _ => none
  | k + 1, x5, x6, x7, x36, x300000, x300001, x300002 => if x36 = true then (some (0, 1)) else (if x5 = 0 then (pairingref5_ParseInstant.j2 k x6 (x7 != 0) x300000 x300001 x300002) else (pairingref5_ParseInstant.j2 k x6 true x300000 x300001 x300002))
def pairingref5_ParseInstant.j2 : Nat → Int → Bool → Int → Int → Int → Option (Int × Int)
  | 0, _, _, _, _, _ => none
  | k + 1, x6, x42, x300000, x300001, x300002 => if x42 = true then (some (0, 5)) else ((pairingref5_DayNumber.f k x300000 x300001 x300002).bind fun bt302 => (if (wrap64 ((wrap64 (1440 * bt302.1)) + x6)) < 0 then (some (0, 5)) else (if (wrap64 ((wrap64 (1440 * bt302.1)) + x6)) ≥ 52596000 then (some (0, 5)) else (some (wrap64 ((wrap64 (1440 * bt302.1)) + x6), 0)))))
end
def pairingref5_ParseInstant.f (k : Nat) (a0 : ByteArray) : Option (Int × Int) := if (a0.size : Int) = 16 then (if 10 < (a0.size : Int) then (pairingref5_ParseInstant.j0 k a0 ((bt a0 10) != 32)) else (none)) else (pairingref5_ParseInstant.j0 k a0 true)
theorem pairingref5_ParseInstant.mono_l : ∀ k, (∀ y0 y1, LeO (pairingref5_ParseInstant.j0 k y0 y1) (pairingref5_ParseInstant.j0 (k + 1) y0 y1)) ∧ (∀ y0 y1 y2 y3 y4 y5 y6, LeO (pairingref5_ParseInstant.j1 k y0 y1 y2 y3 y4 y5 y6) (pairingref5_ParseInstant.j1 (k + 1) y0 y1 y2 y3 y4 y5 y6)) ∧ (∀ y0 y1 y2 y3 y4, LeO (pairingref5_ParseInstant.j2 k y0 y1 y2 y3 y4) (pairingref5_ParseInstant.j2 (k + 1) y0 y1 y2 y3 y4))
  | 0 => ⟨fun _ _ r h => by simp [pairingref5_ParseInstant.j0] at h, fun _ _ _ _ _ _ _ r h => by simp [pairingref5_ParseInstant.j1] at h, fun _ _ _ _ _ r h => by simp [pairingref5_ParseInstant.j2] at h⟩
  | k + 1 => by
    obtain ⟨ih0, ih1, ih2⟩ := pairingref5_ParseInstant.mono_l k
    refine ⟨?_, ?_, ?_⟩
    · intro y0 y1
      unfold pairingref5_ParseInstant.j0
      repeat' first
      | (with_reducible exact ih0 _ _)
      | (with_reducible exact ih1 _ _ _ _ _ _ _)
      | (with_reducible exact ih2 _ _ _ _ _)
      | (with_reducible exact pairingref5_DayNumber.mono _ _ _ _)
      | (with_reducible exact pairingref5_ParseClock.mono _ _)
      | (with_reducible exact pairingref5_ParseDate.mono _ _)
      | (with_reducible exact LeO.refl _)
      | (with_reducible exact LeO.none _)
      | (with_reducible refine LeO.ite ?_ ?_)
      | (with_reducible refine LeO.bind ?_ (fun _ => ?_))
      | exact ih0 _ _
      | exact ih1 _ _ _ _ _ _ _
      | exact ih2 _ _ _ _ _
      | exact pairingref5_DayNumber.mono _ _ _ _
      | exact pairingref5_ParseClock.mono _ _
      | exact pairingref5_ParseDate.mono _ _
      | exact LeO.none _
      | refine LeO.ite ?_ ?_
      | refine LeO.bind ?_ (fun _ => ?_)
    · intro y0 y1 y2 y3 y4 y5 y6
      unfold pairingref5_ParseInstant.j1
      repeat' first
      | (with_reducible exact ih0 _ _)
      | (with_reducible exact ih1 _ _ _ _ _ _ _)
      | (with_reducible exact ih2 _ _ _ _ _)
      | (with_reducible exact pairingref5_DayNumber.mono _ _ _ _)
      | (with_reducible exact pairingref5_ParseClock.mono _ _)
      | (with_reducible exact pairingref5_ParseDate.mono _ _)
      | (with_reducible exact LeO.refl _)
      | (with_reducible exact LeO.none _)
      | (with_reducible refine LeO.ite ?_ ?_)
      | (with_reducible refine LeO.bind ?_ (fun _ => ?_))
      | exact ih0 _ _
      | exact ih1 _ _ _ _ _ _ _
      | exact ih2 _ _ _ _ _
      | exact pairingref5_DayNumber.mono _ _ _ _
      | exact pairingref5_ParseClock.mono _ _
      | exact pairingref5_ParseDate.mono _ _
      | exact LeO.none _
      | refine LeO.ite ?_ ?_
      | refine LeO.bind ?_ (fun _ => ?_)
    · intro y0 y1 y2 y3 y4
      unfold pairingref5_ParseInstant.j2
      repeat' first
      | (with_reducible exact ih0 _ _)
      | (with_reducible exact ih1 _ _ _ _ _ _ _)
      | (with_reducible exact ih2 _ _ _ _ _)
      | (with_reducible exact pairingref5_DayNumber.mono _ _ _ _)
      | (with_reducible exact pairingref5_ParseClock.mono _ _)
      | (with_reducible exact pairingref5_ParseDate.mono _ _)
      | (with_reducible exact LeO.refl _)
      | (with_reducible exact LeO.none _)
      | (with_reducible refine LeO.ite ?_ ?_)
      | (with_reducible refine LeO.bind ?_ (fun _ => ?_))
      | exact ih0 _ _
      | exact ih1 _ _ _ _ _ _ _
      | exact ih2 _ _ _ _ _
      | exact pairingref5_DayNumber.mono _ _ _ _
      | exact pairingref5_ParseClock.mono _ _
      | exact pairingref5_ParseDate.mono _ _
      | exact LeO.none _
      | refine LeO.ite ?_ ?_
      | refine LeO.bind ?_ (fun _ => ?_)
theorem pairingref5_ParseInstant.mono : ∀ a0 k, LeO (pairingref5_ParseInstant.f k a0) (pairingref5_ParseInstant.f (k + 1) a0) := by
  intro a0 k
  obtain ⟨ih0, ih1, ih2⟩ := pairingref5_ParseInstant.mono_l k
  unfold pairingref5_ParseInstant.f
  repeat' first
      | (with_reducible exact ih0 _ _)
      | (with_reducible exact ih1 _ _ _ _ _ _ _)
      | (with_reducible exact ih2 _ _ _ _ _)
      | (with_reducible exact pairingref5_DayNumber.mono _ _ _ _)
      | (with_reducible exact pairingref5_ParseClock.mono _ _)
      | (with_reducible exact pairingref5_ParseDate.mono _ _)
      | (with_reducible exact LeO.refl _)
      | (with_reducible exact LeO.none _)
      | (with_reducible refine LeO.ite ?_ ?_)
      | (with_reducible refine LeO.bind ?_ (fun _ => ?_))
      | exact ih0 _ _
      | exact ih1 _ _ _ _ _ _ _
      | exact ih2 _ _ _ _ _
      | exact pairingref5_DayNumber.mono _ _ _ _
      | exact pairingref5_ParseClock.mono _ _
      | exact pairingref5_ParseDate.mono _ _
      | exact LeO.none _
      | refine LeO.ite ?_ ?_
      | refine LeO.bind ?_ (fun _ => ?_)
set_option maxHeartbeats 8000000 in
set_option maxRecDepth 100000 in
theorem pairingref5_ParseInstant.calls (k : Nat) (a0 : ByteArray) (r1 : Int) (r2 : Int) (w : World) (h : pairingref5_ParseInstant.f k a0 = some (r1, r2)) :
    Calls Tryd.prog 32 #[.string a0] w fun e w' => e = .returned (.tuple #[.int .i64 r1, .int .i64 r2]) ∧ Below w.heap.size w w' := by
  have hu27 := Tryd.underlying27
  have HB := Aside0.mk (Below.refl w.heap.size w)
  have H : (if (a0.size : Int) = 16 then (if 10 < (a0.size : Int) then (pairingref5_ParseInstant.j0 k a0 ((bt a0 10) != 32)) else (none)) else (pairingref5_ParseInstant.j0 k a0 true)) = some (r1, r2) := h
  clear h
  have HC2 := Aside0.mk H
  clear H
  go_enter Tryd.func32, Tryd.ntmps32
  go_upto_region 1 with (fail)
  go_cut [18] (fun v18 wc => ∃ (kq : Nat) (x18_1 : Bool), v18 = .bool x18_1 ∧ Aside0 (pairingref5_ParseInstant.j0 kq a0 x18_1 = some (r1, r2)) ∧ Aside0 (kq ≤ k) ∧ Aside0 (Below w.heap.size w wc))
  case first =>
    have H := HC2.out
    clear HC2
    by_cases c3 : (a0.size : Int) = 16
    · rw [if_pos c3] at H
      have c3b0 : ((a0.size : Int) == 16) = true := beq_iff_eq.mpr c3
      have c3b1 : ((a0.size : Int) != 16) = false := bne_eq_false_iff_eq.mpr c3
      clear c3
      (first | rw [c3b0] | (simp only [i64_w, i32_w]; rw [c3b0]) | skip)
      by_cases c4 : 10 < (a0.size : Int)
      · rw [if_pos c4] at H
        have c4b0 : decide (10 < (a0.size : Int)) = true := decide_eq_true c4
        have c4b1 : decide (10 < a0.size) = true := decide_eq_true (by omega)
        clear c4
        have H' := Aside0.mk H
        clear H
        have p5 : 0 ≤ (10 : Int) := (by omega)
        have q5 : 10 < a0.size := (by have : (10 : Int) < (a0.size : Int) := of_decide_eq_true (by first | (with_reducible assumption) | assumption); omega)
        have hx5 : ∀ h : 10 < a0.size, ((a0[10]'h).toNat : Int) = bt a0 10 := bt_at a0 10
        clear p5
        have qi5 : (10 < (a0.size : Int)) = True := eq_true (of_decide_eq_true (by first | (with_reducible assumption) | assumption))
        replace q5 := eq_true q5
        go_wp2
        go_meet
        case rel => exact ⟨_, (((bt a0 10) != 32)), (by first | rfl | (simp; done) | (simp [*]; done)), H', ⟨by first | omega | exact Nat.le_refl _⟩, ⟨by repeat (first | (with_reducible first | exact HB.out | apply below_alloc | apply pw_below_drewN | apply below_drew1) | exact HB.out)⟩⟩
      · rw [if_neg c4] at H
        exact absurd H (by simp)
    · rw [if_neg c3] at H
      have c3b0 : ((a0.size : Int) == 16) = false := beq_eq_false_iff_ne.mpr c3
      have c3b1 : ((a0.size : Int) != 16) = true := bne_iff_ne.mpr c3
      (first | rw [c3b0] | (simp only [i64_w, i32_w]; rw [c3b0]) | skip)
      have H' := Aside0.mk H
      clear H
      go_wp2
      go_meet
      case rel => exact ⟨_, (true), (by first | rfl | (simp; done) | (simp [*]; done)), H', ⟨by first | omega | exact Nat.le_refl _⟩, ⟨by repeat (first | (with_reducible first | exact HB.out | apply below_alloc | apply pw_below_drewN | apply below_drew1) | exact HB.out)⟩⟩
  case rest =>
    clear HC2
    try clear p2
    try clear c3
    try clear c3b0
    try clear c3b1
    try clear c4
    try clear c4b0
    try clear c4b1
    try clear p5
    try clear q5
    try clear hx5
    try clear qi5
    try clear p5
    try clear q5
    obtain ⟨kq, x18_1, rfl, HA, HJ1, HB⟩ := hcut
    cases kq with
    | zero => exact absurd HA.out (by simp [pairingref5_ParseInstant.j0])
    | succ kj1 =>
      have H := HA.out
      clear HA
      simp only [pairingref5_ParseInstant.j0] at H
      by_cases c6 : x18_1 = true
      · subst c6
        have H1 : (some (0, 1)) = some (r1, r2) := by rw [if_pos rfl] at H; exact H
        clear H
        have H := H1
        clear H1
        simp only [Option.some.injEq, Prod.mk.injEq] at H
        obtain ⟨rfl, rfl⟩ := H
        go_wp2
        go_ret2
        exact ⟨by first | rfl | (simp [errW_none, errW_some] <;> rfl) | (simp [*, errW_none, errW_some] <;> rfl), by repeat (first | (with_reducible first | exact HB.out | apply below_alloc | apply pw_below_drewN | apply below_drew1) | exact HB.out)⟩
      · replace c6 := Bool.eq_false_iff.mpr c6
        subst c6
        have H1 : (if 0 ≤ 10 then (if 10 ≤ (a0.size : Int) then ((pairingref5_ParseDate.f kj1 (a0.extract 0 10)).bind fun bt295 => (if 11 ≤ (a0.size : Int) then ((pairingref5_ParseClock.f kj1 (a0.extract 11 a0.size)).bind fun bt300 => (if bt295.2.2.2 = 1 then (pairingref5_ParseInstant.j1 kj1 bt295.2.2.2 bt300.1 bt300.2 true bt295.1 bt295.2.1 bt295.2.2.1) else (pairingref5_ParseInstant.j1 kj1 bt295.2.2.2 bt300.1 bt300.2 (bt300.2 == 1) bt295.1 bt295.2.1 bt295.2.2.1))) else (none))) else (none)) else (none)) = some (r1, r2) := by rw [if_neg (show ¬ (false = true) by decide)] at H; exact H
        clear H
        have H := H1
        clear H1
        by_cases c7 : 0 ≤ 10
        · rw [if_pos c7] at H
          have c7b0 := eq_true c7
          have c7b1 : decide (0 ≤ 10) = true := decide_eq_true c7
          clear c7
          by_cases c8 : 10 ≤ (a0.size : Int)
          · rw [if_pos c8] at H
            have c8b0 := eq_true c8
            have c8b1 : decide (10 ≤ (a0.size : Int)) = true := decide_eq_true c8
            clear c8
            replace H := Option.bind_eq_some_iff.mp H
            obtain ⟨⟨t295, t296, t297, t298⟩, A90, H⟩ := H
            replace H : (if 11 ≤ (a0.size : Int) then ((pairingref5_ParseClock.f kj1 (a0.extract 11 a0.size)).bind fun bt300 => (if t298 = 1 then (pairingref5_ParseInstant.j1 kj1 t298 bt300.1 bt300.2 true t295 t296 t297) else (pairingref5_ParseInstant.j1 kj1 t298 bt300.1 bt300.2 (bt300.2 == 1) t295 t296 t297))) else (none)) = some (r1, r2) := H
            have A9 := Aside0.mk A90
            clear A90
            by_cases c10 : 11 ≤ (a0.size : Int)
            · rw [if_pos c10] at H
              have c10b0 := eq_true c10
              have c10b1 : decide (11 ≤ (a0.size : Int)) = true := decide_eq_true c10
              clear c10
              replace H := Option.bind_eq_some_iff.mp H
              obtain ⟨⟨t300, t301⟩, A110, H⟩ := H
              replace H : (if t298 = 1 then (pairingref5_ParseInstant.j1 kj1 t298 t300 t301 true t295 t296 t297) else (pairingref5_ParseInstant.j1 kj1 t298 t300 t301 (t301 == 1) t295 t296 t297)) = some (r1, r2) := H
              have A11 := Aside0.mk A110
              clear A110
              have HC12 := Aside0.mk H
              clear H
              go_upto_region 5 with (first | ((with_reducible refine gate_callee (f := 24) rfl ?_); refine goesL_ (some 22) rfl rfl Tryd.func24 (by kernel_rfl) rfl #[.string (a0.extract 0 10)] rfl (by (try simp only [List.map_toArray, List.map_cons, List.map_nil]); first | done | rfl | (simp only [List.length_drop, List.length_take]; rfl)) ?_; (with_reducible refine (pairingref5_ParseDate.calls kj1 (a0.extract 0 10) t295 t296 t297 t298 _ A9.out).mono ?_); rintro e w13 ⟨rfl, hb⟩; refine ⟨_, rfl, ?_⟩; have n0_ := Aside0.mk (below_step (by repeat (first | (with_reducible first | exact HB.out | apply below_alloc | apply pw_below_drewN | apply below_drew1) | exact HB.out)) hb); clear HB; have HB := n0_; clear n0_; (try clear hb); (try clear hb2); (try clear hk); (try clear hi)) | ((with_reducible refine gate_dst (N := 4) rfl ?_); refine box_event ?hg (N := 4) ?hd (cs := #[.int .i64 0, .int .i64 0, .int .i64 0]) (t := 27) ?hr ?_; (case hd => rfl); (case hg => rfl); (case hr => first | (go_simp; done) | (go_simp; rfl)); intro gb299 hg w14 hbox hb; have n0_ := Aside0.mk (below_step (by repeat (first | (with_reducible first | exact HB.out | apply below_alloc | apply pw_below_drewN | apply below_drew1) | exact HB.out)) hb); have n1_ := Aside0.mk (hbox); have n2_ := Aside0.mk ((by rw [hg]; exact (below_size (by repeat (first | (with_reducible first | exact HB.out | apply below_alloc | apply pw_below_drewN | apply below_drew1) | exact HB.out))) : w.heap.size ≤ gb299)); have n3_ := Aside0.mk ((by rw [hg]; exact (below_size (by repeat (first | (with_reducible first | exact HB.out | apply below_alloc | apply pw_below_drewN | apply below_drew1) | exact HB.out))) : w.heap.size ≤ gb299)); clear HB; have HB := n0_; have BK299 := n1_; have GW299 := n2_; have GE299 := n3_; clear n0_ n1_ n2_ n3_; clear hb hbox hg; have hcz15_0 : w14.cell? ⟨gb299, 0, none⟩ = some (.int .i64 0) := (blk_cell BK299.out 0).trans rfl; have hcz15_1 : w14.cell? ⟨gb299, 1, none⟩ = some (.int .i64 0) := (blk_cell BK299.out 1).trans rfl; have hcz15_2 : w14.cell? ⟨gb299, 2, none⟩ = some (.int .i64 0) := (blk_cell BK299.out 2).trans rfl; have hfz15_0 := blk_frozen BK299.out 0; have hfz15_1 := blk_frozen BK299.out 1; have hfz15_2 := blk_frozen BK299.out 2) | ((with_reducible refine gate_callee (f := 28) rfl ?_); refine goesL_ (some 28) rfl rfl Tryd.func28 (by kernel_rfl) rfl #[.string (a0.extract 11 a0.size)] rfl (by (try simp only [List.map_toArray, List.map_cons, List.map_nil]); first | done | rfl | (simp only [List.length_drop, List.length_take]; rfl)) ?_; (with_reducible refine (pairingref5_ParseClock.calls kj1 (a0.extract 11 a0.size) t300 t301 _ A11.out).mono ?_); rintro e w' ⟨rfl, ⟨nd, rfl⟩⟩; refine ⟨_, rfl, ?_⟩))
              (try simp only [Act.put, List.setIfInBounds_toArray, List.set_cons_zero, List.set_cons_succ])
              go_cut [36] (fun v36 wc => ∃ (kq : Nat) (x36_11 : Bool), v36 = .bool x36_11 ∧ Aside0 (pairingref5_ParseInstant.j1 kq t298 t300 t301 x36_11 t295 t296 t297 = some (r1, r2)) ∧ Aside0 (kq ≤ kj1) ∧ Aside0 (wc.heap[gb299]? = some (.cells #[.int .i64 t295, .int .i64 t296, .int .i64 t297] 27 (0, 0))) ∧ Aside0 (Below w.heap.size w wc))
              case first =>
                have H := HC12.out
                clear HC12
                by_cases c16 : t298 = 1
                · rw [if_pos c16] at H
                  have c16b0 : (t298 == 1) = true := beq_iff_eq.mpr c16
                  have c16b1 : (t298 != 1) = false := bne_eq_false_iff_eq.mpr c16
                  clear c16
                  (first | rw [c16b0] | (simp only [i64_w, i32_w]; rw [c16b0]) | skip)
                  have H' := Aside0.mk H
                  clear H
                  go_wp2
                  go_meet
                  case rel => exact ⟨_, (true), (by first | rfl | (simp; done) | (simp [*]; done)), H', ⟨by have := HJ1.out; first | omega | exact Nat.le_refl _⟩, ⟨by (with_reducible repeat (first | refine blk_drewN ?_ _ | refine blk_drew ?_ | refine blk_alloc ?_ _)); refine blk_put (cs := #[.int .i64 t295, .int .i64 t296, .int .i64 0]) ?_ 2 _ rfl; (with_reducible repeat (first | refine blk_drewN ?_ _ | refine blk_drew ?_ | refine blk_alloc ?_ _)); refine blk_put (cs := #[.int .i64 t295, .int .i64 0, .int .i64 0]) ?_ 1 _ rfl; (with_reducible repeat (first | refine blk_drewN ?_ _ | refine blk_drew ?_ | refine blk_alloc ?_ _)); refine blk_put (cs := #[.int .i64 0, .int .i64 0, .int .i64 0]) ?_ 0 _ rfl; (with_reducible repeat (first | refine blk_drewN ?_ _ | refine blk_drew ?_ | refine blk_alloc ?_ _)); exact BK299.out⟩, ⟨by repeat (first | (with_reducible first | exact HB.out | apply below_alloc | apply pw_below_drewN | apply below_drew1 | refine below_set ?_ GE299.out) | exact HB.out)⟩⟩
                · rw [if_neg c16] at H
                  have c16b0 : (t298 == 1) = false := beq_eq_false_iff_ne.mpr c16
                  have c16b1 : (t298 != 1) = true := bne_iff_ne.mpr c16
                  (first | rw [c16b0] | (simp only [i64_w, i32_w]; rw [c16b0]) | skip)
                  have H' := Aside0.mk H
                  clear H
                  go_wp2
                  go_meet
                  case rel => exact ⟨_, ((t301 == 1)), (by first | rfl | (simp; done) | (simp [*]; done)), H', ⟨by have := HJ1.out; first | omega | exact Nat.le_refl _⟩, ⟨by (with_reducible repeat (first | refine blk_drewN ?_ _ | refine blk_drew ?_ | refine blk_alloc ?_ _)); refine blk_put (cs := #[.int .i64 t295, .int .i64 t296, .int .i64 0]) ?_ 2 _ rfl; (with_reducible repeat (first | refine blk_drewN ?_ _ | refine blk_drew ?_ | refine blk_alloc ?_ _)); refine blk_put (cs := #[.int .i64 t295, .int .i64 0, .int .i64 0]) ?_ 1 _ rfl; (with_reducible repeat (first | refine blk_drewN ?_ _ | refine blk_drew ?_ | refine blk_alloc ?_ _)); refine blk_put (cs := #[.int .i64 0, .int .i64 0, .int .i64 0]) ?_ 0 _ rfl; (with_reducible repeat (first | refine blk_drewN ?_ _ | refine blk_drew ?_ | refine blk_alloc ?_ _)); exact BK299.out⟩, ⟨by repeat (first | (with_reducible first | exact HB.out | apply below_alloc | apply pw_below_drewN | apply below_drew1 | refine below_set ?_ GE299.out) | exact HB.out)⟩⟩
              case rest =>
                clear HC12
                try clear c1
                try clear c2
                try clear p2
                try clear c3
                try clear c3b0
                try clear c3b1
                try clear c4
                try clear c4b0
                try clear c4b1
                try clear p5
                try clear q5
                try clear hx5
                try clear qi5
                try clear c6
                try clear c7
                try clear c7b0
                try clear c7b1
                try clear c8
                try clear c8b0
                try clear c8b1
                try clear c10
                try clear c10b0
                try clear c10b1
                try clear c16
                try clear c16b0
                try clear c16b1
                try clear hcz15_0
                try clear hcz15_1
                try clear hcz15_2
                try clear hfz15_0
                try clear hfz15_1
                try clear hfz15_2
                try clear p2
                try clear p5
                try clear q5
                obtain ⟨kq, x36_11, rfl, HA, HJ11, BK299, HB⟩ := hcut
                cases kq with
                | zero => exact absurd HA.out (by simp [pairingref5_ParseInstant.j1])
                | succ kj11 =>
                  have H := HA.out
                  clear HA
                  simp only [pairingref5_ParseInstant.j1] at H
                  by_cases c17 : x36_11 = true
                  · subst c17
                    have H1 : (some (0, 1)) = some (r1, r2) := by rw [if_pos rfl] at H; exact H
                    clear H
                    have H := H1
                    clear H1
                    simp only [Option.some.injEq, Prod.mk.injEq] at H
                    obtain ⟨rfl, rfl⟩ := H
                    go_wp2
                    go_ret2
                    exact ⟨by first | rfl | (simp [errW_none, errW_some] <;> rfl) | (simp [*, errW_none, errW_some] <;> rfl), by repeat (first | (with_reducible first | exact HB.out | apply below_alloc | apply pw_below_drewN | apply below_drew1 | refine below_set ?_ GE299.out) | exact HB.out)⟩
                  · replace c17 := Bool.eq_false_iff.mpr c17
                    subst c17
                    have H1 : (if t298 = 0 then (pairingref5_ParseInstant.j2 kj11 t300 (t301 != 0) t295 t296 t297) else (pairingref5_ParseInstant.j2 kj11 t300 true t295 t296 t297)) = some (r1, r2) := by rw [if_neg (show ¬ (false = true) by decide)] at H; exact H
                    clear H
                    have H := H1
                    clear H1
                    have HC18 := Aside0.mk H
                    clear H
                    go_upto_region 7 with (fail)
                    go_cut [42] (fun v42 wc => ∃ (kq : Nat) (x42_17 : Bool), v42 = .bool x42_17 ∧ Aside0 (pairingref5_ParseInstant.j2 kq t300 x42_17 t295 t296 t297 = some (r1, r2)) ∧ Aside0 (kq ≤ kj11) ∧ Aside0 (wc.heap[gb299]? = some (.cells #[.int .i64 t295, .int .i64 t296, .int .i64 t297] 27 (0, 0))) ∧ Aside0 (Below w.heap.size w wc))
                    case first =>
                      have H := HC18.out
                      clear HC18
                      by_cases c19 : t298 = 0
                      · rw [if_pos c19] at H
                        have c19b0 : (t298 == 0) = true := beq_iff_eq.mpr c19
                        have c19b1 : (t298 != 0) = false := bne_eq_false_iff_eq.mpr c19
                        clear c19
                        (first | rw [c19b0] | (simp only [i64_w, i32_w]; rw [c19b0]) | skip)
                        have H' := Aside0.mk H
                        clear H
                        go_wp2
                        go_meet
                        case rel => exact ⟨_, ((t301 != 0)), (by first | rfl | (simp; done) | (simp [*]; done)), H', ⟨by have := HJ1.out; have := HJ11.out; first | omega | exact Nat.le_refl _⟩, ⟨by (with_reducible repeat (first | refine blk_drewN ?_ _ | refine blk_drew ?_ | refine blk_alloc ?_ _)); exact BK299.out⟩, ⟨by repeat (first | (with_reducible first | exact HB.out | apply below_alloc | apply pw_below_drewN | apply below_drew1 | refine below_set ?_ GE299.out) | exact HB.out)⟩⟩
                      · rw [if_neg c19] at H
                        have c19b0 : (t298 == 0) = false := beq_eq_false_iff_ne.mpr c19
                        have c19b1 : (t298 != 0) = true := bne_iff_ne.mpr c19
                        (first | rw [c19b0] | (simp only [i64_w, i32_w]; rw [c19b0]) | skip)
                        have H' := Aside0.mk H
                        clear H
                        go_wp2
                        go_meet
                        case rel => exact ⟨_, (true), (by first | rfl | (simp; done) | (simp [*]; done)), H', ⟨by have := HJ1.out; have := HJ11.out; first | omega | exact Nat.le_refl _⟩, ⟨by (with_reducible repeat (first | refine blk_drewN ?_ _ | refine blk_drew ?_ | refine blk_alloc ?_ _)); exact BK299.out⟩, ⟨by repeat (first | (with_reducible first | exact HB.out | apply below_alloc | apply pw_below_drewN | apply below_drew1 | refine below_set ?_ GE299.out) | exact HB.out)⟩⟩
                    case rest =>
                      clear HC18
                      try clear c1
                      try clear c2
                      try clear p2
                      try clear c3
                      try clear c3b0
                      try clear c3b1
                      try clear c4
                      try clear c4b0
                      try clear c4b1
                      try clear p5
                      try clear q5
                      try clear hx5
                      try clear qi5
                      try clear c6
                      try clear c7
                      try clear c7b0
                      try clear c7b1
                      try clear c8
                      try clear c8b0
                      try clear c8b1
                      try clear c10
                      try clear c10b0
                      try clear c10b1
                      try clear c16
                      try clear c16b0
                      try clear c16b1
                      try clear c17
                      try clear c19
                      try clear c19b0
                      try clear c19b1
                      try clear hcz15_0
                      try clear hcz15_1
                      try clear hcz15_2
                      try clear hfz15_0
                      try clear hfz15_1
                      try clear hfz15_2
                      try clear p2
                      try clear p5
                      try clear q5
                      obtain ⟨kq, x42_17, rfl, HA, HJ17, BK299, HB⟩ := hcut
                      cases kq with
                      | zero => exact absurd HA.out (by simp [pairingref5_ParseInstant.j2])
                      | succ kj17 =>
                        have H := HA.out
                        clear HA
                        simp only [pairingref5_ParseInstant.j2] at H
                        by_cases c20 : x42_17 = true
                        · subst c20
                          have H1 : (some (0, 5)) = some (r1, r2) := by rw [if_pos rfl] at H; exact H
                          clear H
                          have H := H1
                          clear H1
                          simp only [Option.some.injEq, Prod.mk.injEq] at H
                          obtain ⟨rfl, rfl⟩ := H
                          go_wp2
                          go_ret2
                          exact ⟨by first | rfl | (simp [errW_none, errW_some] <;> rfl) | (simp [*, errW_none, errW_some] <;> rfl), by repeat (first | (with_reducible first | exact HB.out | apply below_alloc | apply pw_below_drewN | apply below_drew1 | refine below_set ?_ GE299.out) | exact HB.out)⟩
                        · replace c20 := Bool.eq_false_iff.mpr c20
                          subst c20
                          have H1 : ((pairingref5_DayNumber.f kj17 t295 t296 t297).bind fun bt302 => (if (wrap64 ((wrap64 (1440 * bt302.1)) + t300)) < 0 then (some (0, 5)) else (if (wrap64 ((wrap64 (1440 * bt302.1)) + t300)) ≥ 52596000 then (some (0, 5)) else (some (wrap64 ((wrap64 (1440 * bt302.1)) + t300), 0))))) = some (r1, r2) := by rw [if_neg (show ¬ (false = true) by decide)] at H; exact H
                          clear H
                          have H := H1
                          clear H1
                          replace H := Option.bind_eq_some_iff.mp H
                          obtain ⟨⟨t302, t303⟩, A210, H⟩ := H
                          replace H : (if (wrap64 ((wrap64 (1440 * t302)) + t300)) < 0 then (some (0, 5)) else (if (wrap64 ((wrap64 (1440 * t302)) + t300)) ≥ 52596000 then (some (0, 5)) else (some (wrap64 ((wrap64 (1440 * t302)) + t300), 0)))) = some (r1, r2) := H
                          have A21 := Aside0.mk A210
                          clear A210
                          by_cases c22 : (wrap64 ((wrap64 (1440 * t302)) + t300)) < 0
                          · rw [if_pos c22] at H
                            have c22b0 : decide ((wrap64 ((wrap64 (1440 * t302)) + t300)) < 0) = true := decide_eq_true c22
                            clear c22
                            simp only [Option.some.injEq, Prod.mk.injEq] at H
                            obtain ⟨rfl, rfl⟩ := H
                            have hcz23_0 : wc.cell? ⟨gb299, 0, none⟩ = some (.int .i64 t295) := (blk_cell BK299.out 0).trans rfl
                            have hcz23_1 : wc.cell? ⟨gb299, 1, none⟩ = some (.int .i64 t296) := (blk_cell BK299.out 1).trans rfl
                            have hcz23_2 : wc.cell? ⟨gb299, 2, none⟩ = some (.int .i64 t297) := (blk_cell BK299.out 2).trans rfl
                            have hfz23_0 := blk_frozen BK299.out 0
                            have hfz23_1 := blk_frozen BK299.out 1
                            have hfz23_2 := blk_frozen BK299.out 2
                            go_wp2_with (first | ((with_reducible refine gate_callee (f := 18) rfl ?_); refine goesL_ (some 45) rfl rfl Tryd.func18 (by kernel_rfl) rfl #[.agg #[.int .i64 t295, .int .i64 t296, .int .i64 t297]] rfl (by (try simp only [List.map_toArray, List.map_cons, List.map_nil]); first | done | rfl | (simp only [List.length_drop, List.length_take]; rfl)) ?_; (with_reducible refine (pairingref5_DayNumber.calls kj17 t295 t296 t297 t302 t303 _ A21.out).mono ?_); rintro e w24 ⟨rfl, hb⟩; refine ⟨_, rfl, ?_⟩; have n0_ := Aside0.mk (blk_below (g := gb299) (o := .cells #[.int .i64 t295, .int .i64 t296, .int .i64 t297] 27 (0, 0)) (by (with_reducible repeat (first | refine blk_drewN ?_ _ | refine blk_drew ?_ | refine blk_alloc ?_ _)); exact BK299.out) hb); have n1_ := Aside0.mk (below_step (by repeat (first | (with_reducible first | exact HB.out | apply below_alloc | apply pw_below_drewN | apply below_drew1 | refine below_set ?_ GE299.out) | exact HB.out)) hb); clear BK299; clear HB; have BK299 := n0_; have HB := n1_; clear n0_ n1_; (try clear hb); (try clear hb2); (try clear hk); (try clear hi)))
                            go_ret2
                            exact ⟨by first | rfl | (simp [errW_none, errW_some] <;> rfl) | (simp [*, errW_none, errW_some] <;> rfl), by repeat (first | (with_reducible first | exact HB.out | apply below_alloc | apply pw_below_drewN | apply below_drew1 | refine below_set ?_ GE299.out) | exact HB.out)⟩
                          · rw [if_neg c22] at H
                            have c22b0 : decide ((wrap64 ((wrap64 (1440 * t302)) + t300)) < 0) = false := decide_eq_false c22
                            clear c22
                            by_cases c25 : (wrap64 ((wrap64 (1440 * t302)) + t300)) ≥ 52596000
                            · rw [if_pos c25] at H
                              have c25b0 : decide (52596000 ≤ (wrap64 ((wrap64 (1440 * t302)) + t300))) = true := decide_eq_true c25
                              clear c25
                              simp only [Option.some.injEq, Prod.mk.injEq] at H
                              obtain ⟨rfl, rfl⟩ := H
                              have hcz26_0 : wc.cell? ⟨gb299, 0, none⟩ = some (.int .i64 t295) := (blk_cell BK299.out 0).trans rfl
                              have hcz26_1 : wc.cell? ⟨gb299, 1, none⟩ = some (.int .i64 t296) := (blk_cell BK299.out 1).trans rfl
                              have hcz26_2 : wc.cell? ⟨gb299, 2, none⟩ = some (.int .i64 t297) := (blk_cell BK299.out 2).trans rfl
                              have hfz26_0 := blk_frozen BK299.out 0
                              have hfz26_1 := blk_frozen BK299.out 1
                              have hfz26_2 := blk_frozen BK299.out 2
                              go_wp2_with (first | ((with_reducible refine gate_callee (f := 18) rfl ?_); refine goesL_ (some 45) rfl rfl Tryd.func18 (by kernel_rfl) rfl #[.agg #[.int .i64 t295, .int .i64 t296, .int .i64 t297]] rfl (by (try simp only [List.map_toArray, List.map_cons, List.map_nil]); first | done | rfl | (simp only [List.length_drop, List.length_take]; rfl)) ?_; (with_reducible refine (pairingref5_DayNumber.calls kj17 t295 t296 t297 t302 t303 _ A21.out).mono ?_); rintro e w27 ⟨rfl, hb⟩; refine ⟨_, rfl, ?_⟩; have n0_ := Aside0.mk (blk_below (g := gb299) (o := .cells #[.int .i64 t295, .int .i64 t296, .int .i64 t297] 27 (0, 0)) (by (with_reducible repeat (first | refine blk_drewN ?_ _ | refine blk_drew ?_ | refine blk_alloc ?_ _)); exact BK299.out) hb); have n1_ := Aside0.mk (below_step (by repeat (first | (with_reducible first | exact HB.out | apply below_alloc | apply pw_below_drewN | apply below_drew1 | refine below_set ?_ GE299.out) | exact HB.out)) hb); clear BK299; clear HB; have BK299 := n0_; have HB := n1_; clear n0_ n1_; (try clear hb); (try clear hb2); (try clear hk); (try clear hi)))
                              go_ret2
                              exact ⟨by first | rfl | (simp [errW_none, errW_some] <;> rfl) | (simp [*, errW_none, errW_some] <;> rfl), by repeat (first | (with_reducible first | exact HB.out | apply below_alloc | apply pw_below_drewN | apply below_drew1 | refine below_set ?_ GE299.out) | exact HB.out)⟩
                            · rw [if_neg c25] at H
                              have c25b0 : decide (52596000 ≤ (wrap64 ((wrap64 (1440 * t302)) + t300))) = false := decide_eq_false c25
                              clear c25
                              simp only [Option.some.injEq, Prod.mk.injEq] at H
                              obtain ⟨rfl, rfl⟩ := H
                              have hcz28_0 : wc.cell? ⟨gb299, 0, none⟩ = some (.int .i64 t295) := (blk_cell BK299.out 0).trans rfl
                              have hcz28_1 : wc.cell? ⟨gb299, 1, none⟩ = some (.int .i64 t296) := (blk_cell BK299.out 1).trans rfl
                              have hcz28_2 : wc.cell? ⟨gb299, 2, none⟩ = some (.int .i64 t297) := (blk_cell BK299.out 2).trans rfl
                              have hfz28_0 := blk_frozen BK299.out 0
                              have hfz28_1 := blk_frozen BK299.out 1
                              have hfz28_2 := blk_frozen BK299.out 2
                              go_wp2_with (first | ((with_reducible refine gate_callee (f := 18) rfl ?_); refine goesL_ (some 45) rfl rfl Tryd.func18 (by kernel_rfl) rfl #[.agg #[.int .i64 t295, .int .i64 t296, .int .i64 t297]] rfl (by (try simp only [List.map_toArray, List.map_cons, List.map_nil]); first | done | rfl | (simp only [List.length_drop, List.length_take]; rfl)) ?_; (with_reducible refine (pairingref5_DayNumber.calls kj17 t295 t296 t297 t302 t303 _ A21.out).mono ?_); rintro e w29 ⟨rfl, hb⟩; refine ⟨_, rfl, ?_⟩; have n0_ := Aside0.mk (blk_below (g := gb299) (o := .cells #[.int .i64 t295, .int .i64 t296, .int .i64 t297] 27 (0, 0)) (by (with_reducible repeat (first | refine blk_drewN ?_ _ | refine blk_drew ?_ | refine blk_alloc ?_ _)); exact BK299.out) hb); have n1_ := Aside0.mk (below_step (by repeat (first | (with_reducible first | exact HB.out | apply below_alloc | apply pw_below_drewN | apply below_drew1 | refine below_set ?_ GE299.out) | exact HB.out)) hb); clear BK299; clear HB; have BK299 := n0_; have HB := n1_; clear n0_ n1_; (try clear hb); (try clear hb2); (try clear hk); (try clear hi)))
                              go_ret2
                              exact ⟨by first | rfl | (simp [errW_none, errW_some] <;> rfl) | (simp [*, errW_none, errW_some] <;> rfl), by repeat (first | (with_reducible first | exact HB.out | apply below_alloc | apply pw_below_drewN | apply below_drew1 | refine below_set ?_ GE299.out) | exact HB.out)⟩
            · rw [if_neg c10] at H
              exact absurd H (by simp)
          · rw [if_neg c8] at H
            exact absurd H (by simp)
        · rw [if_neg c7] at H
          exact absurd H (by simp)

/-! ### calendar_FormatInstant: function 33 -/
def calendar_FormatInstant.j0 : Nat → Int → Bool → Option (ByteArray × Int)
  | 0, _, _ => none
  | k + 1, x0, x17 => if x17 = true then (some ((⟨#[]⟩ : ByteArray), 5)) else ((calendar_SplitMinute.f x0).bind fun bt304 => ((calendar_DateOf.f k bt304.1).bind fun bt306 => ((calendar_FormatDate.f k bt306.1 bt306.2.1 bt306.2.2.1).bind fun bt311 => ((calendar_FormatClock.f k bt304.2).bind fun bt313 => (if bt311.1.size + 1 ≤ 9223372036854775807 then (if bt311.1.size + 1 + bt313.1.size ≤ 9223372036854775807 then (some ((bt311.1 ++ (⟨#[32]⟩ : ByteArray)) ++ bt313.1, 0)) else (none)) else (none))))))
def calendar_FormatInstant.f (k : Nat) (a0 : Int) : Option (ByteArray × Int) := if a0 < 0 then (calendar_FormatInstant.j0 k a0 true) else (calendar_FormatInstant.j0 k a0 (decide (a0 ≥ 52596000)))
theorem calendar_FormatInstant.mono_l : ∀ k, (∀ y0 y1, LeO (calendar_FormatInstant.j0 k y0 y1) (calendar_FormatInstant.j0 (k + 1) y0 y1))
  | 0 => fun _ _ r h => by simp [calendar_FormatInstant.j0] at h
  | k + 1 => by
    have ih0 := calendar_FormatInstant.mono_l k
    · intro y0 y1
      unfold calendar_FormatInstant.j0
      repeat' first
      | (with_reducible exact ih0 _ _)
      | (with_reducible exact calendar_DateOf.mono _ _)
      | (with_reducible exact calendar_FormatClock.mono _ _)
      | (with_reducible exact calendar_FormatDate.mono _ _ _ _)
      | (with_reducible exact LeO.refl _)
      | (with_reducible exact LeO.none _)
      | (with_reducible refine LeO.ite ?_ ?_)
      | (with_reducible refine LeO.bind ?_ (fun _ => ?_))
      | exact ih0 _ _
      | exact calendar_DateOf.mono _ _
      | exact calendar_FormatClock.mono _ _
      | exact calendar_FormatDate.mono _ _ _ _
      | exact LeO.none _
      | refine LeO.ite ?_ ?_
      | refine LeO.bind ?_ (fun _ => ?_)
theorem calendar_FormatInstant.mono : ∀ a0 k, LeO (calendar_FormatInstant.f k a0) (calendar_FormatInstant.f (k + 1) a0) := by
  intro a0 k
  have ih0 := calendar_FormatInstant.mono_l k
  unfold calendar_FormatInstant.f
  repeat' first
      | (with_reducible exact ih0 _ _)
      | (with_reducible exact calendar_DateOf.mono _ _)
      | (with_reducible exact calendar_FormatClock.mono _ _)
      | (with_reducible exact calendar_FormatDate.mono _ _ _ _)
      | (with_reducible exact LeO.refl _)
      | (with_reducible exact LeO.none _)
      | (with_reducible refine LeO.ite ?_ ?_)
      | (with_reducible refine LeO.bind ?_ (fun _ => ?_))
      | exact ih0 _ _
      | exact calendar_DateOf.mono _ _
      | exact calendar_FormatClock.mono _ _
      | exact calendar_FormatDate.mono _ _ _ _
      | exact LeO.none _
      | refine LeO.ite ?_ ?_
      | refine LeO.bind ?_ (fun _ => ?_)
set_option maxHeartbeats 8000000 in
set_option maxRecDepth 100000 in
theorem calendar_FormatInstant.calls (k : Nat) (a0 : Int) (r1 : ByteArray) (r2 : Int) (w : World) (hT_md : Tab_md w) (hT_p10 : Tab_p10 w) (h : calendar_FormatInstant.f k a0 = some (r1, r2)) :
    Calls Tryd.prog 33 #[.int .i64 a0] w fun e w' => e = .returned (.tuple #[.string r1, .int .i64 r2]) ∧ Below w.heap.size w w' := by
  have hu27 := Tryd.underlying27
  have HB := Aside0.mk (Below.refl w.heap.size w)
  have H : (if a0 < 0 then (calendar_FormatInstant.j0 k a0 true) else (calendar_FormatInstant.j0 k a0 (decide (a0 ≥ 52596000)))) = some (r1, r2) := h
  clear h
  have HC2 := Aside0.mk H
  clear H
  go_enter Tryd.func33, Tryd.ntmps33
  go_upto_region 1 with (fail)
  go_cut [17] (fun v17 wc => ∃ (kq : Nat) (x17_1 : Bool), v17 = .bool x17_1 ∧ Aside0 (calendar_FormatInstant.j0 kq a0 x17_1 = some (r1, r2)) ∧ Aside0 (kq ≤ k) ∧ Aside0 (Below w.heap.size w wc))
  case first =>
    have H := HC2.out
    clear HC2
    by_cases c3 : a0 < 0
    · rw [if_pos c3] at H
      have c3b0 : decide (a0 < 0) = true := decide_eq_true c3
      clear c3
      (first | rw [c3b0] | (simp only [i64_w, i32_w]; rw [c3b0]) | skip)
      have H' := Aside0.mk H
      clear H
      go_wp2
      go_meet
      case rel => exact ⟨_, (true), (by first | rfl | (simp; done) | (simp [*]; done)), H', ⟨by first | omega | exact Nat.le_refl _⟩, ⟨by repeat (first | (with_reducible first | exact HB.out | apply below_alloc | apply pw_below_drewN | apply below_drew1) | exact HB.out)⟩⟩
    · rw [if_neg c3] at H
      have c3b0 : decide (a0 < 0) = false := decide_eq_false c3
      clear c3
      (first | rw [c3b0] | (simp only [i64_w, i32_w]; rw [c3b0]) | skip)
      have H' := Aside0.mk H
      clear H
      go_wp2
      go_meet
      case rel => exact ⟨_, (decide (a0 ≥ 52596000)), (by first | rfl | (simp; done) | (simp [*]; done)), H', ⟨by first | omega | exact Nat.le_refl _⟩, ⟨by repeat (first | (with_reducible first | exact HB.out | apply below_alloc | apply pw_below_drewN | apply below_drew1) | exact HB.out)⟩⟩
  case rest =>
    clear HC2
    try clear p2
    try clear c3
    try clear c3b0
    obtain ⟨kq, x17_1, rfl, HA, HJ1, HB⟩ := hcut
    cases kq with
    | zero => exact absurd HA.out (by simp [calendar_FormatInstant.j0])
    | succ kj1 =>
      have H := HA.out
      clear HA
      simp only [calendar_FormatInstant.j0] at H
      by_cases c4 : x17_1 = true
      · subst c4
        have H1 : (some ((⟨#[]⟩ : ByteArray), 5)) = some (r1, r2) := by rw [if_pos rfl] at H; exact H
        clear H
        have H := H1
        clear H1
        simp only [Option.some.injEq, Prod.mk.injEq] at H
        obtain ⟨rfl, rfl⟩ := H
        go_wp2
        go_ret2
        exact ⟨by first | rfl | (simp [errW_none, errW_some] <;> rfl) | (simp [*, errW_none, errW_some] <;> rfl), by repeat (first | (with_reducible first | exact HB.out | apply below_alloc | apply pw_below_drewN | apply below_drew1) | exact HB.out)⟩
      · replace c4 := Bool.eq_false_iff.mpr c4
        subst c4
        have H1 : ((calendar_SplitMinute.f a0).bind fun bt304 => ((calendar_DateOf.f kj1 bt304.1).bind fun bt306 => ((calendar_FormatDate.f kj1 bt306.1 bt306.2.1 bt306.2.2.1).bind fun bt311 => ((calendar_FormatClock.f kj1 bt304.2).bind fun bt313 => (if bt311.1.size + 1 ≤ 9223372036854775807 then (if bt311.1.size + 1 + bt313.1.size ≤ 9223372036854775807 then (some ((bt311.1 ++ (⟨#[32]⟩ : ByteArray)) ++ bt313.1, 0)) else (none)) else (none)))))) = some (r1, r2) := by rw [if_neg (show ¬ (false = true) by decide)] at H; exact H
        clear H
        have H := H1
        clear H1
        replace H := Option.bind_eq_some_iff.mp H
        obtain ⟨⟨t304, t305⟩, A50, H⟩ := H
        replace H : ((calendar_DateOf.f kj1 t304).bind fun bt306 => ((calendar_FormatDate.f kj1 bt306.1 bt306.2.1 bt306.2.2.1).bind fun bt311 => ((calendar_FormatClock.f kj1 t305).bind fun bt313 => (if bt311.1.size + 1 ≤ 9223372036854775807 then (if bt311.1.size + 1 + bt313.1.size ≤ 9223372036854775807 then (some ((bt311.1 ++ (⟨#[32]⟩ : ByteArray)) ++ bt313.1, 0)) else (none)) else (none))))) = some (r1, r2) := H
        have A5 := Aside0.mk A50
        clear A50
        replace H := Option.bind_eq_some_iff.mp H
        obtain ⟨⟨t306, t307, t308, t309⟩, A60, H⟩ := H
        replace H : ((calendar_FormatDate.f kj1 t306 t307 t308).bind fun bt311 => ((calendar_FormatClock.f kj1 t305).bind fun bt313 => (if bt311.1.size + 1 ≤ 9223372036854775807 then (if bt311.1.size + 1 + bt313.1.size ≤ 9223372036854775807 then (some ((bt311.1 ++ (⟨#[32]⟩ : ByteArray)) ++ bt313.1, 0)) else (none)) else (none)))) = some (r1, r2) := H
        have A6 := Aside0.mk A60
        clear A60
        replace H := Option.bind_eq_some_iff.mp H
        obtain ⟨⟨t311, t312⟩, A70, H⟩ := H
        replace H : ((calendar_FormatClock.f kj1 t305).bind fun bt313 => (if t311.size + 1 ≤ 9223372036854775807 then (if t311.size + 1 + bt313.1.size ≤ 9223372036854775807 then (some ((t311 ++ (⟨#[32]⟩ : ByteArray)) ++ bt313.1, 0)) else (none)) else (none))) = some (r1, r2) := H
        have A7 := Aside0.mk A70
        clear A70
        replace H := Option.bind_eq_some_iff.mp H
        obtain ⟨⟨t313, t314⟩, A80, H⟩ := H
        replace H : (if t311.size + 1 ≤ 9223372036854775807 then (if t311.size + 1 + t313.size ≤ 9223372036854775807 then (some ((t311 ++ (⟨#[32]⟩ : ByteArray)) ++ t313, 0)) else (none)) else (none)) = some (r1, r2) := H
        have A8 := Aside0.mk A80
        clear A80
        by_cases c9 : t311.size + 1 ≤ 9223372036854775807
        · rw [if_pos c9] at H
          have c9b0 := eq_true c9
          have c9b1 : decide (t311.size + 1 ≤ 9223372036854775807) = true := decide_eq_true c9
          try have c9b2 : (9223372036854775807 < t311.size + 1) = False := eq_false (Nat.not_lt.2 c9)
          by_cases c10 : t311.size + 1 + t313.size ≤ 9223372036854775807
          · rw [if_pos c10] at H
            have c10b0 := eq_true c10
            have c10b1 : decide (t311.size + 1 + t313.size ≤ 9223372036854775807) = true := decide_eq_true c10
            try have c10b2 : (9223372036854775807 < t311.size + 1 + t313.size) = False := eq_false (Nat.not_lt.2 c10)
            simp only [Option.some.injEq, Prod.mk.injEq] at H
            obtain ⟨rfl, rfl⟩ := H
            go_wp2_with (first | ((with_reducible refine gate_callee (f := 10) rfl ?_); refine goesL_ (some 20) rfl rfl Tryd.func10 (by kernel_rfl) rfl #[.int .i64 a0] rfl (by (try simp only [List.map_toArray, List.map_cons, List.map_nil]); first | done | rfl | (simp only [List.length_drop, List.length_take]; rfl)) ?_; (with_reducible refine (calendar_SplitMinute.calls a0 t304 t305 _ A5.out).mono ?_); rintro e w' ⟨rfl, ⟨nd, rfl⟩⟩; refine ⟨_, rfl, ?_⟩; (try (rw [drewN_self wc]; generalize hq_ : World.drewN wc _ = wc; have n0_ : Aside0 (Below w.heap.size w wc) := ⟨by rw [← hq_]; exact (by repeat (first | (with_reducible first | exact HB.out | apply below_alloc | apply pw_below_drewN | apply below_drew1) | exact HB.out))⟩; clear HB hq_; have HB := n0_; clear n0_))) | ((with_reducible refine gate_callee (f := 19) rfl ?_); refine goesL_ (some 25) rfl rfl Tryd.func19 (by kernel_rfl) rfl #[.int .i64 t304] rfl (by (try simp only [List.map_toArray, List.map_cons, List.map_nil]); first | done | rfl | (simp only [List.length_drop, List.length_take]; rfl)) ?_; (with_reducible refine (calendar_DateOf.calls kj1 t304 t306 t307 t308 t309 _ ?side1 A6.out).mono ?_); (case side1 => first | (with_reducible exact hT_md) | exact Tab_md.below hT_md (by repeat (first | (with_reducible first | exact HB.out | apply below_alloc | apply pw_below_drewN | apply below_drew1) | exact HB.out))); rintro e w11 ⟨rfl, hb⟩; refine ⟨_, rfl, ?_⟩; have n0_ := Aside0.mk (below_step (by repeat (first | (with_reducible first | exact HB.out | apply below_alloc | apply pw_below_drewN | apply below_drew1) | exact HB.out)) hb); clear HB; have HB := n0_; clear n0_; (try clear hb); (try clear hb2); (try clear hk); (try clear hi)) | ((with_reducible refine gate_dst (N := 6) rfl ?_); refine box_event ?hg (N := 6) ?hd (cs := #[.int .i64 0, .int .i64 0, .int .i64 0]) (t := 27) ?hr ?_; (case hd => rfl); (case hg => rfl); (case hr => first | (go_simp; done) | (go_simp; rfl)); intro gb310 hg w12 hbox hb; have n0_ := Aside0.mk (below_step (by repeat (first | (with_reducible first | exact HB.out | apply below_alloc | apply pw_below_drewN | apply below_drew1) | exact HB.out)) hb); have n1_ := Aside0.mk (hbox); have n2_ := Aside0.mk ((by rw [hg]; exact (below_size (by repeat (first | (with_reducible first | exact HB.out | apply below_alloc | apply pw_below_drewN | apply below_drew1) | exact HB.out))) : w.heap.size ≤ gb310)); have n3_ := Aside0.mk ((by rw [hg]; exact (below_size (by repeat (first | (with_reducible first | exact HB.out | apply below_alloc | apply pw_below_drewN | apply below_drew1) | exact HB.out))) : w.heap.size ≤ gb310)); clear HB; have HB := n0_; have BK310 := n1_; have GW310 := n2_; have GE310 := n3_; clear n0_ n1_ n2_ n3_; clear hb hbox hg; have hcz13_0 : w12.cell? ⟨gb310, 0, none⟩ = some (.int .i64 0) := (blk_cell BK310.out 0).trans rfl; have hcz13_1 : w12.cell? ⟨gb310, 1, none⟩ = some (.int .i64 0) := (blk_cell BK310.out 1).trans rfl; have hcz13_2 : w12.cell? ⟨gb310, 2, none⟩ = some (.int .i64 0) := (blk_cell BK310.out 2).trans rfl; have hfz13_0 := blk_frozen BK310.out 0; have hfz13_1 := blk_frozen BK310.out 1; have hfz13_2 := blk_frozen BK310.out 2) | ((with_reducible refine gate_callee (f := 25) rfl ?_); refine goesL_ (some 30) rfl rfl Tryd.func25 (by kernel_rfl) rfl #[.agg #[.int .i64 t306, .int .i64 t307, .int .i64 t308]] rfl (by (try simp only [List.map_toArray, List.map_cons, List.map_nil]); first | done | rfl | (simp only [List.length_drop, List.length_take]; rfl)) ?_; (with_reducible refine (calendar_FormatDate.calls kj1 t306 t307 t308 t311 t312 _ ?side1 ?side2 A7.out).mono ?_); (case side1 => first | (with_reducible exact hT_md) | exact Tab_md.below hT_md (by repeat (first | (with_reducible first | exact HB.out | apply below_alloc | apply pw_below_drewN | apply below_drew1 | refine below_set ?_ GE310.out) | exact HB.out))); (case side2 => first | (with_reducible exact hT_p10) | exact Tab_p10.below hT_p10 (by repeat (first | (with_reducible first | exact HB.out | apply below_alloc | apply pw_below_drewN | apply below_drew1 | refine below_set ?_ GE310.out) | exact HB.out))); rintro e w14 ⟨rfl, hb⟩; refine ⟨_, rfl, ?_⟩; have n0_ := Aside0.mk (blk_below (g := gb310) (o := .cells #[.int .i64 t306, .int .i64 t307, .int .i64 t308] 27 (0, 0)) (by (with_reducible repeat (first | refine blk_drewN ?_ _ | refine blk_drew ?_ | refine blk_alloc ?_ _)); refine blk_put (cs := #[.int .i64 t306, .int .i64 t307, .int .i64 0]) ?_ 2 _ rfl; (with_reducible repeat (first | refine blk_drewN ?_ _ | refine blk_drew ?_ | refine blk_alloc ?_ _)); refine blk_put (cs := #[.int .i64 t306, .int .i64 0, .int .i64 0]) ?_ 1 _ rfl; (with_reducible repeat (first | refine blk_drewN ?_ _ | refine blk_drew ?_ | refine blk_alloc ?_ _)); refine blk_put (cs := #[.int .i64 0, .int .i64 0, .int .i64 0]) ?_ 0 _ rfl; (with_reducible repeat (first | refine blk_drewN ?_ _ | refine blk_drew ?_ | refine blk_alloc ?_ _)); exact BK310.out) hb); have n1_ := Aside0.mk (below_step (by repeat (first | (with_reducible first | exact HB.out | apply below_alloc | apply pw_below_drewN | apply below_drew1 | refine below_set ?_ GE310.out) | exact HB.out)) hb); clear BK310; clear HB; have BK310 := n0_; have HB := n1_; clear n0_ n1_; (try clear hb); (try clear hb2); (try clear hk); (try clear hi)) | ((with_reducible refine gate_callee (f := 29) rfl ?_); refine goesL_ (some 35) rfl rfl Tryd.func29 (by kernel_rfl) rfl #[.int .i64 t305] rfl (by (try simp only [List.map_toArray, List.map_cons, List.map_nil]); first | done | rfl | (simp only [List.length_drop, List.length_take]; rfl)) ?_; (with_reducible refine (calendar_FormatClock.calls kj1 t305 t313 t314 _ ?side1 A8.out).mono ?_); (case side1 => first | (with_reducible exact hT_p10) | exact Tab_p10.below hT_p10 (by repeat (first | (with_reducible first | exact HB.out | apply below_alloc | apply pw_below_drewN | apply below_drew1 | refine below_set ?_ GE310.out) | exact HB.out))); rintro e w15 ⟨rfl, hb⟩; refine ⟨_, rfl, ?_⟩; have n0_ := Aside0.mk (blk_below (g := gb310) (o := .cells #[.int .i64 t306, .int .i64 t307, .int .i64 t308] 27 (0, 0)) (by (with_reducible repeat (first | refine blk_drewN ?_ _ | refine blk_drew ?_ | refine blk_alloc ?_ _)); exact BK310.out) hb); have n1_ := Aside0.mk (below_step (by repeat (first | (with_reducible first | exact HB.out | apply below_alloc | apply pw_below_drewN | apply below_drew1 | refine below_set ?_ GE310.out) | exact HB.out)) hb); clear BK310; clear HB; have BK310 := n0_; have HB := n1_; clear n0_ n1_; (try clear hb); (try clear hb2); (try clear hk); (try clear hi)))
            go_ret2
            exact ⟨by first | rfl | (simp [errW_none, errW_some] <;> rfl) | (simp [*, errW_none, errW_some] <;> rfl), by repeat (first | (with_reducible first | exact HB.out | apply below_alloc | apply pw_below_drewN | apply below_drew1 | refine below_set ?_ GE310.out) | exact HB.out)⟩
          · rw [if_neg c10] at H
            exact absurd H (by simp)
        · rw [if_neg c9] at H
          exact absurd H (by simp)

/-! ### pairingref5_FormatInstant: function 34 -/
def pairingref5_FormatInstant.j0 : Nat → Int → Bool → Option (ByteArray × Int)
  | 0, _, _ => none
  | k + 1, x0, x17 => if x17 = true then (some ((⟨#[]⟩ : ByteArray), 5)) else ((pairingref5_SplitMinute.f x0).bind fun bt315 => ((pairingref5_DateOf.f k bt315.1).bind fun bt317 => ((pairingref5_FormatDate.f k bt317.1 bt317.2.1 bt317.2.2.1).bind fun bt322 => ((pairingref5_FormatClock.f k bt315.2).bind fun bt324 => (if bt322.1.size + 1 ≤ 9223372036854775807 then (if bt322.1.size + 1 + bt324.1.size ≤ 9223372036854775807 then (some ((bt322.1 ++ (⟨#[32]⟩ : ByteArray)) ++ bt324.1, 0)) else (none)) else (none))))))
def pairingref5_FormatInstant.f (k : Nat) (a0 : Int) : Option (ByteArray × Int) := if a0 < 0 then (pairingref5_FormatInstant.j0 k a0 true) else (pairingref5_FormatInstant.j0 k a0 (decide (a0 ≥ 52596000)))
theorem pairingref5_FormatInstant.mono_l : ∀ k, (∀ y0 y1, LeO (pairingref5_FormatInstant.j0 k y0 y1) (pairingref5_FormatInstant.j0 (k + 1) y0 y1))
  | 0 => fun _ _ r h => by simp [pairingref5_FormatInstant.j0] at h
  | k + 1 => by
    have ih0 := pairingref5_FormatInstant.mono_l k
    · intro y0 y1
      unfold pairingref5_FormatInstant.j0
      repeat' first
      | (with_reducible exact ih0 _ _)
      | (with_reducible exact pairingref5_DateOf.mono _ _)
      | (with_reducible exact pairingref5_FormatClock.mono _ _)
      | (with_reducible exact pairingref5_FormatDate.mono _ _ _ _)
      | (with_reducible exact LeO.refl _)
      | (with_reducible exact LeO.none _)
      | (with_reducible refine LeO.ite ?_ ?_)
      | (with_reducible refine LeO.bind ?_ (fun _ => ?_))
      | exact ih0 _ _
      | exact pairingref5_DateOf.mono _ _
      | exact pairingref5_FormatClock.mono _ _
      | exact pairingref5_FormatDate.mono _ _ _ _
      | exact LeO.none _
      | refine LeO.ite ?_ ?_
      | refine LeO.bind ?_ (fun _ => ?_)
theorem pairingref5_FormatInstant.mono : ∀ a0 k, LeO (pairingref5_FormatInstant.f k a0) (pairingref5_FormatInstant.f (k + 1) a0) := by
  intro a0 k
  have ih0 := pairingref5_FormatInstant.mono_l k
  unfold pairingref5_FormatInstant.f
  repeat' first
      | (with_reducible exact ih0 _ _)
      | (with_reducible exact pairingref5_DateOf.mono _ _)
      | (with_reducible exact pairingref5_FormatClock.mono _ _)
      | (with_reducible exact pairingref5_FormatDate.mono _ _ _ _)
      | (with_reducible exact LeO.refl _)
      | (with_reducible exact LeO.none _)
      | (with_reducible refine LeO.ite ?_ ?_)
      | (with_reducible refine LeO.bind ?_ (fun _ => ?_))
      | exact ih0 _ _
      | exact pairingref5_DateOf.mono _ _
      | exact pairingref5_FormatClock.mono _ _
      | exact pairingref5_FormatDate.mono _ _ _ _
      | exact LeO.none _
      | refine LeO.ite ?_ ?_
      | refine LeO.bind ?_ (fun _ => ?_)
set_option maxHeartbeats 8000000 in
set_option maxRecDepth 100000 in
theorem pairingref5_FormatInstant.calls (k : Nat) (a0 : Int) (r1 : ByteArray) (r2 : Int) (w : World) (hT_p10 : Tab_p10 w) (h : pairingref5_FormatInstant.f k a0 = some (r1, r2)) :
    Calls Tryd.prog 34 #[.int .i64 a0] w fun e w' => e = .returned (.tuple #[.string r1, .int .i64 r2]) ∧ Below w.heap.size w w' := by
  have hu27 := Tryd.underlying27
  have HB := Aside0.mk (Below.refl w.heap.size w)
  have H : (if a0 < 0 then (pairingref5_FormatInstant.j0 k a0 true) else (pairingref5_FormatInstant.j0 k a0 (decide (a0 ≥ 52596000)))) = some (r1, r2) := h
  clear h
  have HC2 := Aside0.mk H
  clear H
  go_enter Tryd.func34, Tryd.ntmps34
  go_upto_region 1 with (fail)
  go_cut [17] (fun v17 wc => ∃ (kq : Nat) (x17_1 : Bool), v17 = .bool x17_1 ∧ Aside0 (pairingref5_FormatInstant.j0 kq a0 x17_1 = some (r1, r2)) ∧ Aside0 (kq ≤ k) ∧ Aside0 (Below w.heap.size w wc))
  case first =>
    have H := HC2.out
    clear HC2
    by_cases c3 : a0 < 0
    · rw [if_pos c3] at H
      have c3b0 : decide (a0 < 0) = true := decide_eq_true c3
      clear c3
      (first | rw [c3b0] | (simp only [i64_w, i32_w]; rw [c3b0]) | skip)
      have H' := Aside0.mk H
      clear H
      go_wp2
      go_meet
      case rel => exact ⟨_, (true), (by first | rfl | (simp; done) | (simp [*]; done)), H', ⟨by first | omega | exact Nat.le_refl _⟩, ⟨by repeat (first | (with_reducible first | exact HB.out | apply below_alloc | apply pw_below_drewN | apply below_drew1) | exact HB.out)⟩⟩
    · rw [if_neg c3] at H
      have c3b0 : decide (a0 < 0) = false := decide_eq_false c3
      clear c3
      (first | rw [c3b0] | (simp only [i64_w, i32_w]; rw [c3b0]) | skip)
      have H' := Aside0.mk H
      clear H
      go_wp2
      go_meet
      case rel => exact ⟨_, (decide (a0 ≥ 52596000)), (by first | rfl | (simp; done) | (simp [*]; done)), H', ⟨by first | omega | exact Nat.le_refl _⟩, ⟨by repeat (first | (with_reducible first | exact HB.out | apply below_alloc | apply pw_below_drewN | apply below_drew1) | exact HB.out)⟩⟩
  case rest =>
    clear HC2
    try clear p2
    try clear c3
    try clear c3b0
    obtain ⟨kq, x17_1, rfl, HA, HJ1, HB⟩ := hcut
    cases kq with
    | zero => exact absurd HA.out (by simp [pairingref5_FormatInstant.j0])
    | succ kj1 =>
      have H := HA.out
      clear HA
      simp only [pairingref5_FormatInstant.j0] at H
      by_cases c4 : x17_1 = true
      · subst c4
        have H1 : (some ((⟨#[]⟩ : ByteArray), 5)) = some (r1, r2) := by rw [if_pos rfl] at H; exact H
        clear H
        have H := H1
        clear H1
        simp only [Option.some.injEq, Prod.mk.injEq] at H
        obtain ⟨rfl, rfl⟩ := H
        go_wp2
        go_ret2
        exact ⟨by first | rfl | (simp [errW_none, errW_some] <;> rfl) | (simp [*, errW_none, errW_some] <;> rfl), by repeat (first | (with_reducible first | exact HB.out | apply below_alloc | apply pw_below_drewN | apply below_drew1) | exact HB.out)⟩
      · replace c4 := Bool.eq_false_iff.mpr c4
        subst c4
        have H1 : ((pairingref5_SplitMinute.f a0).bind fun bt315 => ((pairingref5_DateOf.f kj1 bt315.1).bind fun bt317 => ((pairingref5_FormatDate.f kj1 bt317.1 bt317.2.1 bt317.2.2.1).bind fun bt322 => ((pairingref5_FormatClock.f kj1 bt315.2).bind fun bt324 => (if bt322.1.size + 1 ≤ 9223372036854775807 then (if bt322.1.size + 1 + bt324.1.size ≤ 9223372036854775807 then (some ((bt322.1 ++ (⟨#[32]⟩ : ByteArray)) ++ bt324.1, 0)) else (none)) else (none)))))) = some (r1, r2) := by rw [if_neg (show ¬ (false = true) by decide)] at H; exact H
        clear H
        have H := H1
        clear H1
        replace H := Option.bind_eq_some_iff.mp H
        obtain ⟨⟨t315, t316⟩, A50, H⟩ := H
        replace H : ((pairingref5_DateOf.f kj1 t315).bind fun bt317 => ((pairingref5_FormatDate.f kj1 bt317.1 bt317.2.1 bt317.2.2.1).bind fun bt322 => ((pairingref5_FormatClock.f kj1 t316).bind fun bt324 => (if bt322.1.size + 1 ≤ 9223372036854775807 then (if bt322.1.size + 1 + bt324.1.size ≤ 9223372036854775807 then (some ((bt322.1 ++ (⟨#[32]⟩ : ByteArray)) ++ bt324.1, 0)) else (none)) else (none))))) = some (r1, r2) := H
        have A5 := Aside0.mk A50
        clear A50
        replace H := Option.bind_eq_some_iff.mp H
        obtain ⟨⟨t317, t318, t319, t320⟩, A60, H⟩ := H
        replace H : ((pairingref5_FormatDate.f kj1 t317 t318 t319).bind fun bt322 => ((pairingref5_FormatClock.f kj1 t316).bind fun bt324 => (if bt322.1.size + 1 ≤ 9223372036854775807 then (if bt322.1.size + 1 + bt324.1.size ≤ 9223372036854775807 then (some ((bt322.1 ++ (⟨#[32]⟩ : ByteArray)) ++ bt324.1, 0)) else (none)) else (none)))) = some (r1, r2) := H
        have A6 := Aside0.mk A60
        clear A60
        replace H := Option.bind_eq_some_iff.mp H
        obtain ⟨⟨t322, t323⟩, A70, H⟩ := H
        replace H : ((pairingref5_FormatClock.f kj1 t316).bind fun bt324 => (if t322.size + 1 ≤ 9223372036854775807 then (if t322.size + 1 + bt324.1.size ≤ 9223372036854775807 then (some ((t322 ++ (⟨#[32]⟩ : ByteArray)) ++ bt324.1, 0)) else (none)) else (none))) = some (r1, r2) := H
        have A7 := Aside0.mk A70
        clear A70
        replace H := Option.bind_eq_some_iff.mp H
        obtain ⟨⟨t324, t325⟩, A80, H⟩ := H
        replace H : (if t322.size + 1 ≤ 9223372036854775807 then (if t322.size + 1 + t324.size ≤ 9223372036854775807 then (some ((t322 ++ (⟨#[32]⟩ : ByteArray)) ++ t324, 0)) else (none)) else (none)) = some (r1, r2) := H
        have A8 := Aside0.mk A80
        clear A80
        by_cases c9 : t322.size + 1 ≤ 9223372036854775807
        · rw [if_pos c9] at H
          have c9b0 := eq_true c9
          have c9b1 : decide (t322.size + 1 ≤ 9223372036854775807) = true := decide_eq_true c9
          try have c9b2 : (9223372036854775807 < t322.size + 1) = False := eq_false (Nat.not_lt.2 c9)
          by_cases c10 : t322.size + 1 + t324.size ≤ 9223372036854775807
          · rw [if_pos c10] at H
            have c10b0 := eq_true c10
            have c10b1 : decide (t322.size + 1 + t324.size ≤ 9223372036854775807) = true := decide_eq_true c10
            try have c10b2 : (9223372036854775807 < t322.size + 1 + t324.size) = False := eq_false (Nat.not_lt.2 c10)
            simp only [Option.some.injEq, Prod.mk.injEq] at H
            obtain ⟨rfl, rfl⟩ := H
            go_wp2_with (first | ((with_reducible refine gate_callee (f := 11) rfl ?_); refine goesL_ (some 20) rfl rfl Tryd.func11 (by kernel_rfl) rfl #[.int .i64 a0] rfl (by (try simp only [List.map_toArray, List.map_cons, List.map_nil]); first | done | rfl | (simp only [List.length_drop, List.length_take]; rfl)) ?_; (with_reducible refine (pairingref5_SplitMinute.calls a0 t315 t316 _ A5.out).mono ?_); rintro e w' ⟨rfl, ⟨nd, rfl⟩⟩; refine ⟨_, rfl, ?_⟩; (try (rw [drewN_self wc]; generalize hq_ : World.drewN wc _ = wc; have n0_ : Aside0 (Below w.heap.size w wc) := ⟨by rw [← hq_]; exact (by repeat (first | (with_reducible first | exact HB.out | apply below_alloc | apply pw_below_drewN | apply below_drew1) | exact HB.out))⟩; clear HB hq_; have HB := n0_; clear n0_))) | ((with_reducible refine gate_callee (f := 20) rfl ?_); refine goesL_ (some 25) rfl rfl Tryd.func20 (by kernel_rfl) rfl #[.int .i64 t315] rfl (by (try simp only [List.map_toArray, List.map_cons, List.map_nil]); first | done | rfl | (simp only [List.length_drop, List.length_take]; rfl)) ?_; (with_reducible refine (pairingref5_DateOf.calls kj1 t315 t317 t318 t319 t320 _ A6.out).mono ?_); rintro e w11 ⟨rfl, hb⟩; refine ⟨_, rfl, ?_⟩; have n0_ := Aside0.mk (below_step (by repeat (first | (with_reducible first | exact HB.out | apply below_alloc | apply pw_below_drewN | apply below_drew1) | exact HB.out)) hb); clear HB; have HB := n0_; clear n0_; (try clear hb); (try clear hb2); (try clear hk); (try clear hi)) | ((with_reducible refine gate_dst (N := 6) rfl ?_); refine box_event ?hg (N := 6) ?hd (cs := #[.int .i64 0, .int .i64 0, .int .i64 0]) (t := 27) ?hr ?_; (case hd => rfl); (case hg => rfl); (case hr => first | (go_simp; done) | (go_simp; rfl)); intro gb321 hg w12 hbox hb; have n0_ := Aside0.mk (below_step (by repeat (first | (with_reducible first | exact HB.out | apply below_alloc | apply pw_below_drewN | apply below_drew1) | exact HB.out)) hb); have n1_ := Aside0.mk (hbox); have n2_ := Aside0.mk ((by rw [hg]; exact (below_size (by repeat (first | (with_reducible first | exact HB.out | apply below_alloc | apply pw_below_drewN | apply below_drew1) | exact HB.out))) : w.heap.size ≤ gb321)); have n3_ := Aside0.mk ((by rw [hg]; exact (below_size (by repeat (first | (with_reducible first | exact HB.out | apply below_alloc | apply pw_below_drewN | apply below_drew1) | exact HB.out))) : w.heap.size ≤ gb321)); clear HB; have HB := n0_; have BK321 := n1_; have GW321 := n2_; have GE321 := n3_; clear n0_ n1_ n2_ n3_; clear hb hbox hg; have hcz13_0 : w12.cell? ⟨gb321, 0, none⟩ = some (.int .i64 0) := (blk_cell BK321.out 0).trans rfl; have hcz13_1 : w12.cell? ⟨gb321, 1, none⟩ = some (.int .i64 0) := (blk_cell BK321.out 1).trans rfl; have hcz13_2 : w12.cell? ⟨gb321, 2, none⟩ = some (.int .i64 0) := (blk_cell BK321.out 2).trans rfl; have hfz13_0 := blk_frozen BK321.out 0; have hfz13_1 := blk_frozen BK321.out 1; have hfz13_2 := blk_frozen BK321.out 2) | ((with_reducible refine gate_callee (f := 26) rfl ?_); refine goesL_ (some 30) rfl rfl Tryd.func26 (by kernel_rfl) rfl #[.agg #[.int .i64 t317, .int .i64 t318, .int .i64 t319]] rfl (by (try simp only [List.map_toArray, List.map_cons, List.map_nil]); first | done | rfl | (simp only [List.length_drop, List.length_take]; rfl)) ?_; (with_reducible refine (pairingref5_FormatDate.calls kj1 t317 t318 t319 t322 t323 _ ?side1 A7.out).mono ?_); (case side1 => first | (with_reducible exact hT_p10) | exact Tab_p10.below hT_p10 (by repeat (first | (with_reducible first | exact HB.out | apply below_alloc | apply pw_below_drewN | apply below_drew1 | refine below_set ?_ GE321.out) | exact HB.out))); rintro e w14 ⟨rfl, hb⟩; refine ⟨_, rfl, ?_⟩; have n0_ := Aside0.mk (blk_below (g := gb321) (o := .cells #[.int .i64 t317, .int .i64 t318, .int .i64 t319] 27 (0, 0)) (by (with_reducible repeat (first | refine blk_drewN ?_ _ | refine blk_drew ?_ | refine blk_alloc ?_ _)); refine blk_put (cs := #[.int .i64 t317, .int .i64 t318, .int .i64 0]) ?_ 2 _ rfl; (with_reducible repeat (first | refine blk_drewN ?_ _ | refine blk_drew ?_ | refine blk_alloc ?_ _)); refine blk_put (cs := #[.int .i64 t317, .int .i64 0, .int .i64 0]) ?_ 1 _ rfl; (with_reducible repeat (first | refine blk_drewN ?_ _ | refine blk_drew ?_ | refine blk_alloc ?_ _)); refine blk_put (cs := #[.int .i64 0, .int .i64 0, .int .i64 0]) ?_ 0 _ rfl; (with_reducible repeat (first | refine blk_drewN ?_ _ | refine blk_drew ?_ | refine blk_alloc ?_ _)); exact BK321.out) hb); have n1_ := Aside0.mk (below_step (by repeat (first | (with_reducible first | exact HB.out | apply below_alloc | apply pw_below_drewN | apply below_drew1 | refine below_set ?_ GE321.out) | exact HB.out)) hb); clear BK321; clear HB; have BK321 := n0_; have HB := n1_; clear n0_ n1_; (try clear hb); (try clear hb2); (try clear hk); (try clear hi)) | ((with_reducible refine gate_callee (f := 30) rfl ?_); refine goesL_ (some 35) rfl rfl Tryd.func30 (by kernel_rfl) rfl #[.int .i64 t316] rfl (by (try simp only [List.map_toArray, List.map_cons, List.map_nil]); first | done | rfl | (simp only [List.length_drop, List.length_take]; rfl)) ?_; (with_reducible refine (pairingref5_FormatClock.calls kj1 t316 t324 t325 _ ?side1 A8.out).mono ?_); (case side1 => first | (with_reducible exact hT_p10) | exact Tab_p10.below hT_p10 (by repeat (first | (with_reducible first | exact HB.out | apply below_alloc | apply pw_below_drewN | apply below_drew1 | refine below_set ?_ GE321.out) | exact HB.out))); rintro e w15 ⟨rfl, hb⟩; refine ⟨_, rfl, ?_⟩; have n0_ := Aside0.mk (blk_below (g := gb321) (o := .cells #[.int .i64 t317, .int .i64 t318, .int .i64 t319] 27 (0, 0)) (by (with_reducible repeat (first | refine blk_drewN ?_ _ | refine blk_drew ?_ | refine blk_alloc ?_ _)); exact BK321.out) hb); have n1_ := Aside0.mk (below_step (by repeat (first | (with_reducible first | exact HB.out | apply below_alloc | apply pw_below_drewN | apply below_drew1 | refine below_set ?_ GE321.out) | exact HB.out)) hb); clear BK321; clear HB; have BK321 := n0_; have HB := n1_; clear n0_ n1_; (try clear hb); (try clear hb2); (try clear hk); (try clear hi)))
            go_ret2
            exact ⟨by first | rfl | (simp [errW_none, errW_some] <;> rfl) | (simp [*, errW_none, errW_some] <;> rfl), by repeat (first | (with_reducible first | exact HB.out | apply below_alloc | apply pw_below_drewN | apply below_drew1 | refine below_set ?_ GE321.out) | exact HB.out)⟩
          · rw [if_neg c10] at H
            exact absurd H (by simp)
        · rw [if_neg c9] at H
          exact absurd H (by simp)

/-! ### pairinglaw6_CalendarInstants: function 8 -/
mutual
def pairinglaw6_CalendarInstants.j0 : Nat → Int → Int → ByteArray → Int → Bool → Option (Bool)
  | 0, _, _, _, _, _ => none
  | k + 1, x1, x2, x11, x12, x56 => if x56 = true then (some false) else ((calendar_FormatInstant.f k x2).bind fun bt334 => (if x12 = 0 then (pairinglaw6_CalendarInstants.j1 k x1 x2 x11 bt334.1 (bt334.2 == 0)) else (pairinglaw6_CalendarInstants.j1 k x1 x2 x11 bt334.1 false)))
def pairinglaw6_CalendarInstants.j1 : Nat → Int → Int → ByteArray → ByteArray → Bool → Option (Bool)
  | 0, _, _, _, _, _ => none
  | k + 1, x1, x2, x11, x15, x67 => if x67 = true then ((calendar_ParseInstant.f k x11).bind fun bt336 => (if bt336.2 = 0 then (if bt336.1 = x1 then (if ((Op.bytesLess x11.toList x15.toList) == (decide (x1 < x2))) = true then ((pairinglaw6_awake.f k).bind fun t338 => (some t338)) else (some false)) else (some false)) else (some false))) else ((pairinglaw6_awake.f k).bind fun t339 => (some t339))
end
def pairinglaw6_CalendarInstants.f (k : Nat) (a0 : ByteArray) (a1 : Int) (a2 : Int) : Option (Bool) := (calendar_ParseInstant.f k a0).bind fun bt326 => ((pairingref5_ParseInstant.f k a0).bind fun bt328 => ((calendar_FormatInstant.f k a1).bind fun bt330 => ((pairingref5_FormatInstant.f k a1).bind fun bt332 => (if bt326.2 = bt328.2 then (if bt326.1 = bt328.1 then (if bt330.2 = bt332.2 then (pairinglaw6_CalendarInstants.j0 k a1 a2 bt330.1 bt330.2 (bt330.1.toList != bt332.1.toList)) else (pairinglaw6_CalendarInstants.j0 k a1 a2 bt330.1 bt330.2 true)) else (pairinglaw6_CalendarInstants.j0 k a1 a2 bt330.1 bt330.2 true)) else (pairinglaw6_CalendarInstants.j0 k a1 a2 bt330.1 bt330.2 true)))))
theorem pairinglaw6_CalendarInstants.mono_l : ∀ k, (∀ y0 y1 y2 y3 y4, LeO (pairinglaw6_CalendarInstants.j0 k y0 y1 y2 y3 y4) (pairinglaw6_CalendarInstants.j0 (k + 1) y0 y1 y2 y3 y4)) ∧ (∀ y0 y1 y2 y3 y4, LeO (pairinglaw6_CalendarInstants.j1 k y0 y1 y2 y3 y4) (pairinglaw6_CalendarInstants.j1 (k + 1) y0 y1 y2 y3 y4))
  | 0 => ⟨fun _ _ _ _ _ r h => by simp [pairinglaw6_CalendarInstants.j0] at h, fun _ _ _ _ _ r h => by simp [pairinglaw6_CalendarInstants.j1] at h⟩
  | k + 1 => by
    obtain ⟨ih0, ih1⟩ := pairinglaw6_CalendarInstants.mono_l k
    refine ⟨?_, ?_⟩
    · intro y0 y1 y2 y3 y4
      unfold pairinglaw6_CalendarInstants.j0
      repeat' first
      | (with_reducible exact ih0 _ _ _ _ _)
      | (with_reducible exact ih1 _ _ _ _ _)
      | (with_reducible exact calendar_FormatInstant.mono _ _)
      | (with_reducible exact calendar_ParseInstant.mono _ _)
      | (with_reducible exact pairinglaw6_awake.mono _)
      | (with_reducible exact pairingref5_FormatInstant.mono _ _)
      | (with_reducible exact pairingref5_ParseInstant.mono _ _)
      | (with_reducible exact LeO.refl _)
      | (with_reducible exact LeO.none _)
      | (with_reducible refine LeO.ite ?_ ?_)
      | (with_reducible refine LeO.bind ?_ (fun _ => ?_))
      | exact ih0 _ _ _ _ _
      | exact ih1 _ _ _ _ _
      | exact calendar_FormatInstant.mono _ _
      | exact calendar_ParseInstant.mono _ _
      | exact pairinglaw6_awake.mono _
      | exact pairingref5_FormatInstant.mono _ _
      | exact pairingref5_ParseInstant.mono _ _
      | exact LeO.none _
      | refine LeO.ite ?_ ?_
      | refine LeO.bind ?_ (fun _ => ?_)
    · intro y0 y1 y2 y3 y4
      unfold pairinglaw6_CalendarInstants.j1
      repeat' first
      | (with_reducible exact ih0 _ _ _ _ _)
      | (with_reducible exact ih1 _ _ _ _ _)
      | (with_reducible exact calendar_FormatInstant.mono _ _)
      | (with_reducible exact calendar_ParseInstant.mono _ _)
      | (with_reducible exact pairinglaw6_awake.mono _)
      | (with_reducible exact pairingref5_FormatInstant.mono _ _)
      | (with_reducible exact pairingref5_ParseInstant.mono _ _)
      | (with_reducible exact LeO.refl _)
      | (with_reducible exact LeO.none _)
      | (with_reducible refine LeO.ite ?_ ?_)
      | (with_reducible refine LeO.bind ?_ (fun _ => ?_))
      | exact ih0 _ _ _ _ _
      | exact ih1 _ _ _ _ _
      | exact calendar_FormatInstant.mono _ _
      | exact calendar_ParseInstant.mono _ _
      | exact pairinglaw6_awake.mono _
      | exact pairingref5_FormatInstant.mono _ _
      | exact pairingref5_ParseInstant.mono _ _
      | exact LeO.none _
      | refine LeO.ite ?_ ?_
      | refine LeO.bind ?_ (fun _ => ?_)
theorem pairinglaw6_CalendarInstants.mono : ∀ a0 a1 a2 k, LeO (pairinglaw6_CalendarInstants.f k a0 a1 a2) (pairinglaw6_CalendarInstants.f (k + 1) a0 a1 a2) := by
  intro a0 a1 a2 k
  obtain ⟨ih0, ih1⟩ := pairinglaw6_CalendarInstants.mono_l k
  unfold pairinglaw6_CalendarInstants.f
  repeat' first
      | (with_reducible exact ih0 _ _ _ _ _)
      | (with_reducible exact ih1 _ _ _ _ _)
      | (with_reducible exact calendar_FormatInstant.mono _ _)
      | (with_reducible exact calendar_ParseInstant.mono _ _)
      | (with_reducible exact pairinglaw6_awake.mono _)
      | (with_reducible exact pairingref5_FormatInstant.mono _ _)
      | (with_reducible exact pairingref5_ParseInstant.mono _ _)
      | (with_reducible exact LeO.refl _)
      | (with_reducible exact LeO.none _)
      | (with_reducible refine LeO.ite ?_ ?_)
      | (with_reducible refine LeO.bind ?_ (fun _ => ?_))
      | exact ih0 _ _ _ _ _
      | exact ih1 _ _ _ _ _
      | exact calendar_FormatInstant.mono _ _
      | exact calendar_ParseInstant.mono _ _
      | exact pairinglaw6_awake.mono _
      | exact pairingref5_FormatInstant.mono _ _
      | exact pairingref5_ParseInstant.mono _ _
      | exact LeO.none _
      | refine LeO.ite ?_ ?_
      | refine LeO.bind ?_ (fun _ => ?_)
set_option maxHeartbeats 8000000 in
set_option maxRecDepth 100000 in
theorem pairinglaw6_CalendarInstants.calls (k : Nat) (a0 : ByteArray) (a1 : Int) (a2 : Int) (r : Bool) (w : World) (hT_md : Tab_md w) (hT_p10 : Tab_p10 w) (h : pairinglaw6_CalendarInstants.f k a0 a1 a2 = some r) :
    Calls Tryd.prog 8 #[.string a0, .int .i64 a1, .int .i64 a2] w fun e w' => e = .returned (.bool r) ∧ Below w.heap.size w w' := by
  have HB := Aside0.mk (Below.refl w.heap.size w)
  have H : ((calendar_ParseInstant.f k a0).bind fun bt326 => ((pairingref5_ParseInstant.f k a0).bind fun bt328 => ((calendar_FormatInstant.f k a1).bind fun bt330 => ((pairingref5_FormatInstant.f k a1).bind fun bt332 => (if bt326.2 = bt328.2 then (if bt326.1 = bt328.1 then (if bt330.2 = bt332.2 then (pairinglaw6_CalendarInstants.j0 k a1 a2 bt330.1 bt330.2 (bt330.1.toList != bt332.1.toList)) else (pairinglaw6_CalendarInstants.j0 k a1 a2 bt330.1 bt330.2 true)) else (pairinglaw6_CalendarInstants.j0 k a1 a2 bt330.1 bt330.2 true)) else (pairinglaw6_CalendarInstants.j0 k a1 a2 bt330.1 bt330.2 true)))))) = some r := h
  clear h
  replace H := Option.bind_eq_some_iff.mp H
  obtain ⟨⟨t326, t327⟩, A40, H⟩ := H
  replace H : ((pairingref5_ParseInstant.f k a0).bind fun bt328 => ((calendar_FormatInstant.f k a1).bind fun bt330 => ((pairingref5_FormatInstant.f k a1).bind fun bt332 => (if t327 = bt328.2 then (if t326 = bt328.1 then (if bt330.2 = bt332.2 then (pairinglaw6_CalendarInstants.j0 k a1 a2 bt330.1 bt330.2 (bt330.1.toList != bt332.1.toList)) else (pairinglaw6_CalendarInstants.j0 k a1 a2 bt330.1 bt330.2 true)) else (pairinglaw6_CalendarInstants.j0 k a1 a2 bt330.1 bt330.2 true)) else (pairinglaw6_CalendarInstants.j0 k a1 a2 bt330.1 bt330.2 true))))) = some r := H
  have A4 := Aside0.mk A40
  clear A40
  replace H := Option.bind_eq_some_iff.mp H
  obtain ⟨⟨t328, t329⟩, A50, H⟩ := H
  replace H : ((calendar_FormatInstant.f k a1).bind fun bt330 => ((pairingref5_FormatInstant.f k a1).bind fun bt332 => (if t327 = t329 then (if t326 = t328 then (if bt330.2 = bt332.2 then (pairinglaw6_CalendarInstants.j0 k a1 a2 bt330.1 bt330.2 (bt330.1.toList != bt332.1.toList)) else (pairinglaw6_CalendarInstants.j0 k a1 a2 bt330.1 bt330.2 true)) else (pairinglaw6_CalendarInstants.j0 k a1 a2 bt330.1 bt330.2 true)) else (pairinglaw6_CalendarInstants.j0 k a1 a2 bt330.1 bt330.2 true)))) = some r := H
  have A5 := Aside0.mk A50
  clear A50
  replace H := Option.bind_eq_some_iff.mp H
  obtain ⟨⟨t330, t331⟩, A60, H⟩ := H
  replace H : ((pairingref5_FormatInstant.f k a1).bind fun bt332 => (if t327 = t329 then (if t326 = t328 then (if t331 = bt332.2 then (pairinglaw6_CalendarInstants.j0 k a1 a2 t330 t331 (t330.toList != bt332.1.toList)) else (pairinglaw6_CalendarInstants.j0 k a1 a2 t330 t331 true)) else (pairinglaw6_CalendarInstants.j0 k a1 a2 t330 t331 true)) else (pairinglaw6_CalendarInstants.j0 k a1 a2 t330 t331 true))) = some r := H
  have A6 := Aside0.mk A60
  clear A60
  replace H := Option.bind_eq_some_iff.mp H
  obtain ⟨⟨t332, t333⟩, A70, H⟩ := H
  replace H : (if t327 = t329 then (if t326 = t328 then (if t331 = t333 then (pairinglaw6_CalendarInstants.j0 k a1 a2 t330 t331 (t330.toList != t332.toList)) else (pairinglaw6_CalendarInstants.j0 k a1 a2 t330 t331 true)) else (pairinglaw6_CalendarInstants.j0 k a1 a2 t330 t331 true)) else (pairinglaw6_CalendarInstants.j0 k a1 a2 t330 t331 true)) = some r := H
  have A7 := Aside0.mk A70
  clear A70
  have HC8 := Aside0.mk H
  clear H
  go_enter Tryd.func8, Tryd.ntmps8
  go_upto_region 5 with (first | ((with_reducible refine gate_callee (f := 31) rfl ?_); refine goesL_ (some 21) rfl rfl Tryd.func31 (by kernel_rfl) rfl #[.string a0] rfl (by (try simp only [List.map_toArray, List.map_cons, List.map_nil]); first | done | rfl | (simp only [List.length_drop, List.length_take]; rfl)) ?_; (with_reducible refine (calendar_ParseInstant.calls k a0 t326 t327 _ ?side1 A4.out).mono ?_); (case side1 => first | (with_reducible exact hT_md) | exact Tab_md.below hT_md (by repeat (first | (with_reducible first | exact HB.out | apply below_alloc | apply pw_below_drewN | apply below_drew1) | exact HB.out))); rintro e w9 ⟨rfl, hb⟩; refine ⟨_, rfl, ?_⟩; have n0_ := Aside0.mk (below_step (by repeat (first | (with_reducible first | exact HB.out | apply below_alloc | apply pw_below_drewN | apply below_drew1) | exact HB.out)) hb); clear HB; have HB := n0_; clear n0_; (try clear hb); (try clear hb2); (try clear hk); (try clear hi)) | ((with_reducible refine gate_callee (f := 32) rfl ?_); refine goesL_ (some 26) rfl rfl Tryd.func32 (by kernel_rfl) rfl #[.string a0] rfl (by (try simp only [List.map_toArray, List.map_cons, List.map_nil]); first | done | rfl | (simp only [List.length_drop, List.length_take]; rfl)) ?_; (with_reducible refine (pairingref5_ParseInstant.calls k a0 t328 t329 _ A5.out).mono ?_); rintro e w10 ⟨rfl, hb⟩; refine ⟨_, rfl, ?_⟩; have n0_ := Aside0.mk (below_step (by repeat (first | (with_reducible first | exact HB.out | apply below_alloc | apply pw_below_drewN | apply below_drew1) | exact HB.out)) hb); clear HB; have HB := n0_; clear n0_; (try clear hb); (try clear hb2); (try clear hk); (try clear hi)) | ((with_reducible refine gate_callee (f := 33) rfl ?_); refine goesL_ (some 31) rfl rfl Tryd.func33 (by kernel_rfl) rfl #[.int .i64 a1] rfl (by (try simp only [List.map_toArray, List.map_cons, List.map_nil]); first | done | rfl | (simp only [List.length_drop, List.length_take]; rfl)) ?_; (with_reducible refine (calendar_FormatInstant.calls k a1 t330 t331 _ ?side1 ?side2 A6.out).mono ?_); (case side1 => first | (with_reducible exact hT_md) | exact Tab_md.below hT_md (by repeat (first | (with_reducible first | exact HB.out | apply below_alloc | apply pw_below_drewN | apply below_drew1) | exact HB.out))); (case side2 => first | (with_reducible exact hT_p10) | exact Tab_p10.below hT_p10 (by repeat (first | (with_reducible first | exact HB.out | apply below_alloc | apply pw_below_drewN | apply below_drew1) | exact HB.out))); rintro e w11 ⟨rfl, hb⟩; refine ⟨_, rfl, ?_⟩; have n0_ := Aside0.mk (below_step (by repeat (first | (with_reducible first | exact HB.out | apply below_alloc | apply pw_below_drewN | apply below_drew1) | exact HB.out)) hb); clear HB; have HB := n0_; clear n0_; (try clear hb); (try clear hb2); (try clear hk); (try clear hi)) | ((with_reducible refine gate_callee (f := 34) rfl ?_); refine goesL_ (some 36) rfl rfl Tryd.func34 (by kernel_rfl) rfl #[.int .i64 a1] rfl (by (try simp only [List.map_toArray, List.map_cons, List.map_nil]); first | done | rfl | (simp only [List.length_drop, List.length_take]; rfl)) ?_; (with_reducible refine (pairingref5_FormatInstant.calls k a1 t332 t333 _ ?side1 A7.out).mono ?_); (case side1 => first | (with_reducible exact hT_p10) | exact Tab_p10.below hT_p10 (by repeat (first | (with_reducible first | exact HB.out | apply below_alloc | apply pw_below_drewN | apply below_drew1) | exact HB.out))); rintro e w12 ⟨rfl, hb⟩; refine ⟨_, rfl, ?_⟩; have n0_ := Aside0.mk (below_step (by repeat (first | (with_reducible first | exact HB.out | apply below_alloc | apply pw_below_drewN | apply below_drew1) | exact HB.out)) hb); clear HB; have HB := n0_; clear n0_; (try clear hb); (try clear hb2); (try clear hk); (try clear hi)))
  (try simp only [Act.put, List.setIfInBounds_toArray, List.set_cons_zero, List.set_cons_succ])
  go_cut [56] (fun v56 wc => ∃ (kq : Nat) (x56_7 : Bool), v56 = .bool x56_7 ∧ Aside0 (pairinglaw6_CalendarInstants.j0 kq a1 a2 t330 t331 x56_7 = some r) ∧ Aside0 (kq ≤ k) ∧ Aside0 (Below w.heap.size w wc))
  case first =>
    have H := HC8.out
    clear HC8
    by_cases c13 : t327 = t329
    · rw [if_pos c13] at H
      have c13b0 : (t327 == t329) = true := beq_iff_eq.mpr c13
      have c13b1 : (t327 != t329) = false := bne_eq_false_iff_eq.mpr c13
      clear c13
      (first | rw [c13b0] | (simp only [i64_w, i32_w]; rw [c13b0]) | skip)
      by_cases c14 : t326 = t328
      · rw [if_pos c14] at H
        have c14b0 : (t326 == t328) = true := beq_iff_eq.mpr c14
        have c14b1 : (t326 != t328) = false := bne_eq_false_iff_eq.mpr c14
        clear c14
        by_cases c15 : t331 = t333
        · rw [if_pos c15] at H
          have c15b0 : (t331 == t333) = true := beq_iff_eq.mpr c15
          have c15b1 : (t331 != t333) = false := bne_eq_false_iff_eq.mpr c15
          clear c15
          have H' := Aside0.mk H
          clear H
          go_wp2
          go_meet
          case rel => exact ⟨_, ((t330.toList != t332.toList)), (by first | rfl | (simp; done) | (simp [*]; done)), H', ⟨by first | omega | exact Nat.le_refl _⟩, ⟨by repeat (first | (with_reducible first | exact HB.out | apply below_alloc | apply pw_below_drewN | apply below_drew1) | exact HB.out)⟩⟩
        · rw [if_neg c15] at H
          have c15b0 : (t331 == t333) = false := beq_eq_false_iff_ne.mpr c15
          have c15b1 : (t331 != t333) = true := bne_iff_ne.mpr c15
          have H' := Aside0.mk H
          clear H
          go_wp2
          go_meet
          case rel => exact ⟨_, (true), (by first | rfl | (simp; done) | (simp [*]; done)), H', ⟨by first | omega | exact Nat.le_refl _⟩, ⟨by repeat (first | (with_reducible first | exact HB.out | apply below_alloc | apply pw_below_drewN | apply below_drew1) | exact HB.out)⟩⟩
      · rw [if_neg c14] at H
        have c14b0 : (t326 == t328) = false := beq_eq_false_iff_ne.mpr c14
        have c14b1 : (t326 != t328) = true := bne_iff_ne.mpr c14
        have H' := Aside0.mk H
        clear H
        go_wp2
        go_meet
        case rel => exact ⟨_, (true), (by first | rfl | (simp; done) | (simp [*]; done)), H', ⟨by first | omega | exact Nat.le_refl _⟩, ⟨by repeat (first | (with_reducible first | exact HB.out | apply below_alloc | apply pw_below_drewN | apply below_drew1) | exact HB.out)⟩⟩
    · rw [if_neg c13] at H
      have c13b0 : (t327 == t329) = false := beq_eq_false_iff_ne.mpr c13
      have c13b1 : (t327 != t329) = true := bne_iff_ne.mpr c13
      (first | rw [c13b0] | (simp only [i64_w, i32_w]; rw [c13b0]) | skip)
      have H' := Aside0.mk H
      clear H
      go_wp2
      go_meet
      case rel => exact ⟨_, (true), (by first | rfl | (simp; done) | (simp [*]; done)), H', ⟨by first | omega | exact Nat.le_refl _⟩, ⟨by repeat (first | (with_reducible first | exact HB.out | apply below_alloc | apply pw_below_drewN | apply below_drew1) | exact HB.out)⟩⟩
  case rest =>
    clear HC8
    try clear c1
    try clear p1
    try clear p2
    try clear c3
    try clear c8
    try clear p10
    try clear c13
    try clear c13b0
    try clear c13b1
    try clear c14
    try clear c14b0
    try clear c14b1
    try clear c15
    try clear c15b0
    try clear c15b1
    obtain ⟨kq, x56_7, rfl, HA, HJ7, HB⟩ := hcut
    cases kq with
    | zero => exact absurd HA.out (by simp [pairinglaw6_CalendarInstants.j0])
    | succ kj7 =>
      have H := HA.out
      clear HA
      simp only [pairinglaw6_CalendarInstants.j0] at H
      by_cases c16 : x56_7 = true
      · subst c16
        have H1 : (some false) = some r := by rw [if_pos rfl] at H; exact H
        clear H
        have H := H1
        clear H1
        obtain rfl := Option.some.inj H
        go_wp2
        go_ret
        exact ⟨by first | rfl | (simp [errW_none, errW_some] <;> rfl) | (simp [*, errW_none, errW_some] <;> rfl), by repeat (first | (with_reducible first | exact HB.out | apply below_alloc | apply pw_below_drewN | apply below_drew1) | exact HB.out)⟩
      · replace c16 := Bool.eq_false_iff.mpr c16
        subst c16
        have H1 : ((calendar_FormatInstant.f kj7 a2).bind fun bt334 => (if t331 = 0 then (pairinglaw6_CalendarInstants.j1 kj7 a1 a2 t330 bt334.1 (bt334.2 == 0)) else (pairinglaw6_CalendarInstants.j1 kj7 a1 a2 t330 bt334.1 false))) = some r := by rw [if_neg (show ¬ (false = true) by decide)] at H; exact H
        clear H
        have H := H1
        clear H1
        replace H := Option.bind_eq_some_iff.mp H
        obtain ⟨⟨t334, t335⟩, A170, H⟩ := H
        replace H : (if t331 = 0 then (pairinglaw6_CalendarInstants.j1 kj7 a1 a2 t330 t334 (t335 == 0)) else (pairinglaw6_CalendarInstants.j1 kj7 a1 a2 t330 t334 false)) = some r := H
        have A17 := Aside0.mk A170
        clear A170
        have HC18 := Aside0.mk H
        clear H
        go_upto_region 8 with (first | ((with_reducible refine gate_callee (f := 33) rfl ?_); refine goesL_ (some 59) rfl rfl Tryd.func33 (by kernel_rfl) rfl #[.int .i64 a2] rfl (by (try simp only [List.map_toArray, List.map_cons, List.map_nil]); first | done | rfl | (simp only [List.length_drop, List.length_take]; rfl)) ?_; (with_reducible refine (calendar_FormatInstant.calls kj7 a2 t334 t335 _ ?side1 ?side2 A17.out).mono ?_); (case side1 => first | (with_reducible exact hT_md) | exact Tab_md.below hT_md (by repeat (first | (with_reducible first | exact HB.out | apply below_alloc | apply pw_below_drewN | apply below_drew1) | exact HB.out))); (case side2 => first | (with_reducible exact hT_p10) | exact Tab_p10.below hT_p10 (by repeat (first | (with_reducible first | exact HB.out | apply below_alloc | apply pw_below_drewN | apply below_drew1) | exact HB.out))); rintro e w19 ⟨rfl, hb⟩; refine ⟨_, rfl, ?_⟩; have n0_ := Aside0.mk (below_step (by repeat (first | (with_reducible first | exact HB.out | apply below_alloc | apply pw_below_drewN | apply below_drew1) | exact HB.out)) hb); clear HB; have HB := n0_; clear n0_; (try clear hb); (try clear hb2); (try clear hk); (try clear hi)))
        (try simp only [Act.put, List.setIfInBounds_toArray, List.set_cons_zero, List.set_cons_succ])
        go_cut [67] (fun v67 wc => ∃ (kq : Nat) (x67_17 : Bool), v67 = .bool x67_17 ∧ Aside0 (pairinglaw6_CalendarInstants.j1 kq a1 a2 t330 t334 x67_17 = some r) ∧ Aside0 (kq ≤ kj7) ∧ Aside0 (Below w.heap.size w wc))
        case first =>
          have H := HC18.out
          clear HC18
          by_cases c20 : t331 = 0
          · rw [if_pos c20] at H
            have c20b0 : (t331 == 0) = true := beq_iff_eq.mpr c20
            have c20b1 : (t331 != 0) = false := bne_eq_false_iff_eq.mpr c20
            clear c20
            (first | rw [c20b0] | (simp only [i64_w, i32_w]; rw [c20b0]) | skip)
            have H' := Aside0.mk H
            clear H
            go_wp2
            go_meet
            case rel => exact ⟨_, ((t335 == 0)), (by first | rfl | (simp; done) | (simp [*]; done)), H', ⟨by have := HJ7.out; first | omega | exact Nat.le_refl _⟩, ⟨by repeat (first | (with_reducible first | exact HB.out | apply below_alloc | apply pw_below_drewN | apply below_drew1) | exact HB.out)⟩⟩
          · rw [if_neg c20] at H
            have c20b0 : (t331 == 0) = false := beq_eq_false_iff_ne.mpr c20
            have c20b1 : (t331 != 0) = true := bne_iff_ne.mpr c20
            (first | rw [c20b0] | (simp only [i64_w, i32_w]; rw [c20b0]) | skip)
            have H' := Aside0.mk H
            clear H
            go_wp2
            go_meet
            case rel => exact ⟨_, (false), (by first | rfl | (simp; done) | (simp [*]; done)), H', ⟨by have := HJ7.out; first | omega | exact Nat.le_refl _⟩, ⟨by repeat (first | (with_reducible first | exact HB.out | apply below_alloc | apply pw_below_drewN | apply below_drew1) | exact HB.out)⟩⟩
        case rest =>
          clear HC18
          try clear c1
          try clear p1
          try clear c2
          try clear p2
          try clear c3
          try clear c8
          try clear p10
          try clear c13
          try clear c13b0
          try clear c13b1
          try clear c14
          try clear c14b0
          try clear c14b1
          try clear c15
          try clear c15b0
          try clear c15b1
          try clear c16
          try clear c20
          try clear c20b0
          try clear c20b1
          try clear p1
          try clear p10
          try clear p2
          obtain ⟨kq, x67_17, rfl, HA, HJ17, HB⟩ := hcut
          cases kq with
          | zero => exact absurd HA.out (by simp [pairinglaw6_CalendarInstants.j1])
          | succ kj17 =>
            have H := HA.out
            clear HA
            simp only [pairinglaw6_CalendarInstants.j1] at H
            by_cases c21 : x67_17 = true
            · subst c21
              have H1 : ((calendar_ParseInstant.f kj17 t330).bind fun bt336 => (if bt336.2 = 0 then (if bt336.1 = a1 then (if ((Op.bytesLess t330.toList t334.toList) == (decide (a1 < a2))) = true then ((pairinglaw6_awake.f kj17).bind fun t338 => (some t338)) else (some false)) else (some false)) else (some false))) = some r := by rw [if_pos rfl] at H; exact H
              clear H
              have H := H1
              clear H1
              replace H := Option.bind_eq_some_iff.mp H
              obtain ⟨⟨t336, t337⟩, A220, H⟩ := H
              replace H : (if t337 = 0 then (if t336 = a1 then (if ((Op.bytesLess t330.toList t334.toList) == (decide (a1 < a2))) = true then ((pairinglaw6_awake.f kj17).bind fun t338 => (some t338)) else (some false)) else (some false)) else (some false)) = some r := H
              have A22 := Aside0.mk A220
              clear A220
              by_cases c23 : t337 = 0
              · rw [if_pos c23] at H
                have c23b0 : (t337 == 0) = true := beq_iff_eq.mpr c23
                have c23b1 : (t337 != 0) = false := bne_eq_false_iff_eq.mpr c23
                clear c23
                by_cases c24 : t336 = a1
                · rw [if_pos c24] at H
                  have c24b0 : (t336 == a1) = true := beq_iff_eq.mpr c24
                  have c24b1 : (t336 != a1) = false := bne_eq_false_iff_eq.mpr c24
                  clear c24
                  by_cases c25 : ((Op.bytesLess t330.toList t334.toList) == (decide (a1 < a2))) = true
                  · rw [if_pos c25] at H
                    have c25b0 : ((Op.bytesLess t330.toList t334.toList) == (decide (a1 < a2))) = true := c25
                    (try (have c25b1 : decide ((Op.bytesLess t330.toList t334.toList) = (decide (a1 < a2))) = true := by simpa using c25))
                    (try (have c25b2 : ((Op.bytesLess t330.toList t334.toList) == (decide (a1 < a2))) = true := by simpa using c25))
                    clear c25
                    replace H := Option.bind_eq_some_iff.mp H
                    obtain ⟨t338, A260, H⟩ := H
                    replace H : (some t338) = some r := H
                    have A26 := Aside0.mk A260
                    clear A260
                    obtain rfl := Option.some.inj H
                    go_wp2_with (first | ((with_reducible refine gate_callee (f := 31) rfl ?_); refine goesL_ (some 70) rfl rfl Tryd.func31 (by kernel_rfl) rfl #[.string t330] rfl (by (try simp only [List.map_toArray, List.map_cons, List.map_nil]); first | done | rfl | (simp only [List.length_drop, List.length_take]; rfl)) ?_; (with_reducible refine (calendar_ParseInstant.calls kj17 t330 t336 t337 _ ?side1 A22.out).mono ?_); (case side1 => first | (with_reducible exact hT_md) | exact Tab_md.below hT_md (by repeat (first | (with_reducible first | exact HB.out | apply below_alloc | apply pw_below_drewN | apply below_drew1) | exact HB.out))); rintro e w27 ⟨rfl, hb⟩; refine ⟨_, rfl, ?_⟩; have n0_ := Aside0.mk (below_step (by repeat (first | (with_reducible first | exact HB.out | apply below_alloc | apply pw_below_drewN | apply below_drew1) | exact HB.out)) hb); clear HB; have HB := n0_; clear n0_; (try clear hb); (try clear hb2); (try clear hk); (try clear hi)) | (go_at_call 12; (with_reducible refine (pairinglaw6_awake.calls kj17  t338 _ ?side1 A26.out).mono ?_); (case side1 => first | (with_reducible exact hT_md) | exact Tab_md.below hT_md (by repeat (first | (with_reducible first | exact HB.out | apply below_alloc | apply pw_below_drewN | apply below_drew1) | exact HB.out))); rintro e w28 ⟨rfl, hb⟩; have n0_ := Aside0.mk (below_step (by repeat (first | (with_reducible first | exact HB.out | apply below_alloc | apply pw_below_drewN | apply below_drew1) | exact HB.out)) hb); clear HB; have HB := n0_; clear n0_; (try clear hb); (try clear hb2); (try clear hk); (try clear hi)))
                    go_ret
                    exact ⟨by first | rfl | (simp [errW_none, errW_some] <;> rfl) | (simp [*, errW_none, errW_some] <;> rfl), by repeat (first | (with_reducible first | exact HB.out | apply below_alloc | apply pw_below_drewN | apply below_drew1) | exact HB.out)⟩
                  · rw [if_neg c25] at H
                    have c25b0 : ((Op.bytesLess t330.toList t334.toList) == (decide (a1 < a2))) = false := by simpa using c25
                    (try (have c25b1 : decide ((Op.bytesLess t330.toList t334.toList) = (decide (a1 < a2))) = false := by simpa using c25))
                    (try (have c25b2 : ((Op.bytesLess t330.toList t334.toList) == (decide (a1 < a2))) = false := by simpa using c25))
                    (try (have c25b3 : ¬ ((Op.bytesLess t330.toList t334.toList) = (decide (a1 < a2))) := by simpa using c25))
                    clear c25
                    obtain rfl := Option.some.inj H
                    go_wp2_with (first | ((with_reducible refine gate_callee (f := 31) rfl ?_); refine goesL_ (some 70) rfl rfl Tryd.func31 (by kernel_rfl) rfl #[.string t330] rfl (by (try simp only [List.map_toArray, List.map_cons, List.map_nil]); first | done | rfl | (simp only [List.length_drop, List.length_take]; rfl)) ?_; (with_reducible refine (calendar_ParseInstant.calls kj17 t330 t336 t337 _ ?side1 A22.out).mono ?_); (case side1 => first | (with_reducible exact hT_md) | exact Tab_md.below hT_md (by repeat (first | (with_reducible first | exact HB.out | apply below_alloc | apply pw_below_drewN | apply below_drew1) | exact HB.out))); rintro e w29 ⟨rfl, hb⟩; refine ⟨_, rfl, ?_⟩; have n0_ := Aside0.mk (below_step (by repeat (first | (with_reducible first | exact HB.out | apply below_alloc | apply pw_below_drewN | apply below_drew1) | exact HB.out)) hb); clear HB; have HB := n0_; clear n0_; (try clear hb); (try clear hb2); (try clear hk); (try clear hi)))
                    go_ret
                    exact ⟨by first | rfl | (simp [errW_none, errW_some] <;> rfl) | (simp [*, errW_none, errW_some] <;> rfl), by repeat (first | (with_reducible first | exact HB.out | apply below_alloc | apply pw_below_drewN | apply below_drew1) | exact HB.out)⟩
                · rw [if_neg c24] at H
                  have c24b0 : (t336 == a1) = false := beq_eq_false_iff_ne.mpr c24
                  have c24b1 : (t336 != a1) = true := bne_iff_ne.mpr c24
                  obtain rfl := Option.some.inj H
                  go_wp2_with (first | ((with_reducible refine gate_callee (f := 31) rfl ?_); refine goesL_ (some 70) rfl rfl Tryd.func31 (by kernel_rfl) rfl #[.string t330] rfl (by (try simp only [List.map_toArray, List.map_cons, List.map_nil]); first | done | rfl | (simp only [List.length_drop, List.length_take]; rfl)) ?_; (with_reducible refine (calendar_ParseInstant.calls kj17 t330 t336 t337 _ ?side1 A22.out).mono ?_); (case side1 => first | (with_reducible exact hT_md) | exact Tab_md.below hT_md (by repeat (first | (with_reducible first | exact HB.out | apply below_alloc | apply pw_below_drewN | apply below_drew1) | exact HB.out))); rintro e w30 ⟨rfl, hb⟩; refine ⟨_, rfl, ?_⟩; have n0_ := Aside0.mk (below_step (by repeat (first | (with_reducible first | exact HB.out | apply below_alloc | apply pw_below_drewN | apply below_drew1) | exact HB.out)) hb); clear HB; have HB := n0_; clear n0_; (try clear hb); (try clear hb2); (try clear hk); (try clear hi)))
                  go_ret
                  exact ⟨by first | rfl | (simp [errW_none, errW_some] <;> rfl) | (simp [*, errW_none, errW_some] <;> rfl), by repeat (first | (with_reducible first | exact HB.out | apply below_alloc | apply pw_below_drewN | apply below_drew1) | exact HB.out)⟩
              · rw [if_neg c23] at H
                have c23b0 : (t337 == 0) = false := beq_eq_false_iff_ne.mpr c23
                have c23b1 : (t337 != 0) = true := bne_iff_ne.mpr c23
                obtain rfl := Option.some.inj H
                go_wp2_with (first | ((with_reducible refine gate_callee (f := 31) rfl ?_); refine goesL_ (some 70) rfl rfl Tryd.func31 (by kernel_rfl) rfl #[.string t330] rfl (by (try simp only [List.map_toArray, List.map_cons, List.map_nil]); first | done | rfl | (simp only [List.length_drop, List.length_take]; rfl)) ?_; (with_reducible refine (calendar_ParseInstant.calls kj17 t330 t336 t337 _ ?side1 A22.out).mono ?_); (case side1 => first | (with_reducible exact hT_md) | exact Tab_md.below hT_md (by repeat (first | (with_reducible first | exact HB.out | apply below_alloc | apply pw_below_drewN | apply below_drew1) | exact HB.out))); rintro e w31 ⟨rfl, hb⟩; refine ⟨_, rfl, ?_⟩; have n0_ := Aside0.mk (below_step (by repeat (first | (with_reducible first | exact HB.out | apply below_alloc | apply pw_below_drewN | apply below_drew1) | exact HB.out)) hb); clear HB; have HB := n0_; clear n0_; (try clear hb); (try clear hb2); (try clear hk); (try clear hi)))
                go_ret
                exact ⟨by first | rfl | (simp [errW_none, errW_some] <;> rfl) | (simp [*, errW_none, errW_some] <;> rfl), by repeat (first | (with_reducible first | exact HB.out | apply below_alloc | apply pw_below_drewN | apply below_drew1) | exact HB.out)⟩
            · replace c21 := Bool.eq_false_iff.mpr c21
              subst c21
              have H1 : ((pairinglaw6_awake.f kj17).bind fun t339 => (some t339)) = some r := by rw [if_neg (show ¬ (false = true) by decide)] at H; exact H
              clear H
              have H := H1
              clear H1
              replace H := Option.bind_eq_some_iff.mp H
              obtain ⟨t339, A320, H⟩ := H
              replace H : (some t339) = some r := H
              have A32 := Aside0.mk A320
              clear A320
              obtain rfl := Option.some.inj H
              go_wp2_with (first | ((with_reducible refine gate_callee (f := 12) rfl ?_); refine goesL_ (some 92) rfl rfl Tryd.func12 (by kernel_rfl) rfl #[] rfl (by (try simp only [List.map_toArray, List.map_cons, List.map_nil]); first | done | rfl | (simp only [List.length_drop, List.length_take]; rfl)) ?_; (with_reducible refine (pairinglaw6_awake.calls kj17  t339 _ ?side1 A32.out).mono ?_); (case side1 => first | (with_reducible exact hT_md) | exact Tab_md.below hT_md (by repeat (first | (with_reducible first | exact HB.out | apply below_alloc | apply pw_below_drewN | apply below_drew1) | exact HB.out))); rintro e w33 ⟨rfl, hb⟩; refine ⟨_, rfl, ?_⟩; have n0_ := Aside0.mk (below_step (by repeat (first | (with_reducible first | exact HB.out | apply below_alloc | apply pw_below_drewN | apply below_drew1) | exact HB.out)) hb); clear HB; have HB := n0_; clear n0_; (try clear hb); (try clear hb2); (try clear hk); (try clear hi)))
              go_ret
              exact ⟨by first | rfl | (simp [errW_none, errW_some] <;> rfl) | (simp [*, errW_none, errW_some] <;> rfl), by repeat (first | (with_reducible first | exact HB.out | apply below_alloc | apply pw_below_drewN | apply below_drew1) | exact HB.out)⟩

/-- THE ONE PURE STATEMENT of pairinglaw6_CalendarInstants. -/
def pairinglaw6_CalendarInstants.Pure : Prop := ∀ (a0 : ByteArray) (a1 : Int) (a2 : Int), a0.size ≤ 140737488351232 → (Lit.int .i64 a1).wf = true → (Lit.int .i64 a2).wf = true → ∃ k, pairinglaw6_CalendarInstants.f k a0 a1 a2 = some true

end Go.Proofs.YtdpkemjbiengfaaDoor.QCal
