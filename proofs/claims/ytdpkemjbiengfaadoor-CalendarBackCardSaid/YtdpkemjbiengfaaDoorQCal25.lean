/- Written by a program (wip/myprint.py): the Go functions that the laws reach, each as a plain Lean function, and a proof that the machine's call answers as that function says. -/
import Derived.Test.YtdpkemjbiengfaaDoorQCal0
import Derived.Test.YtdpkemjbiengfaaDoorQCal1
import Derived.Test.YtdpkemjbiengfaaDoorQCal7
import Derived.Test.YtdpkemjbiengfaaDoorQCal10
import Derived.Test.YtdpkemjbiengfaaDoorQCal11
import Derived.Test.YtdpkemjbiengfaaDoorQCal12
import Derived.Test.YtdpkemjbiengfaaDoorQCal21
namespace Go.Proofs.YtdpkemjbiengfaaDoor.QCal
open Go.RowKit Go.Proofs.YtdpkemjbiengfaaDoorW.PrintWords Go.Proofs.YtdpkemjbiengfaaDoorW.PrintLast Go.Proofs.YtdpkemjbiengfaaDoorW.PrintMore
attribute [local go_sem] max2_int min2_int max_two min_two max_three min_three max_four min_four   -- for this text's walks alone
set_option linter.unusedVariables false
set_option linter.unusedSimpArgs false

attribute [local go_sem high] eqA27
/-! ### pairinglaw6_CalendarBack: function 6 -/
def pairinglaw6_CalendarBack.j0 : Nat → Int → Bool → Int → Int → Int → Int → Int → Int → Option (Bool)
  | 0, _, _, _, _, _, _, _, _ => none
  | k + 1, x8, x63, x193000, x193001, x193002, x201000, x201001, x201002 => if x63 = true then (some false) else (if x8 = 0 then ((calendar_DaysInMonth.f x193000 x193001).bind fun bt205 => (if x193002 < bt205.1 then (if (x201000 == x193000 && (x201001 == x193001 && (x201002 == (wrap64 (x193002 + 1))))) = true then ((pairinglaw6_awake.f k).bind fun t207 => (some t207)) else (some false)) else (if x193001 < 12 then (if (x201000 == x193000 && (x201001 == (wrap64 (x193001 + 1)) && (x201002 == 1))) = true then ((pairinglaw6_awake.f k).bind fun t208 => (some t208)) else (some false)) else (if (x201000 == (wrap64 (x193000 + 1)) && (x201001 == 1 && (x201002 == 1))) = true then ((pairinglaw6_awake.f k).bind fun t209 => (some t209)) else (some false))))) else (if (x193000 == 2100 && (x193001 == 12 && (x193002 == 31))) = true then ((pairinglaw6_awake.f k).bind fun t204 => (some t204)) else (some false)))
def pairinglaw6_CalendarBack.f (k : Nat) (a0 : Int) : Option (Bool) := (calendar_DateOf.f k a0).bind fun bt188 => (if bt188.2.2.2 = 0 then ((calendar_DayNumber.f k bt188.1 bt188.2.1 bt188.2.2.1).bind fun bt194 => ((calendar_DateOf.f k (wrap64 (a0 + 1))).bind fun bt196 => (if bt194.2 = 0 then (if bt194.1 = a0 then ((calendar_Weekday.f (wrap64 (a0 + 7))).bind fun t201 => ((calendar_Weekday.f a0).bind fun t202 => (if t201 = t202 then ((calendar_Weekday.f (wrap64 (a0 + 1))).bind fun t203 => (pairinglaw6_CalendarBack.j0 k bt196.2.2.2 (t203 != (Int.tmod (wrap64 (t202 + 1)) 7)) bt188.1 bt188.2.1 bt188.2.2.1 bt196.1 bt196.2.1 bt196.2.2.1)) else (pairinglaw6_CalendarBack.j0 k bt196.2.2.2 true bt188.1 bt188.2.1 bt188.2.2.1 bt196.1 bt196.2.1 bt196.2.2.1)))) else (pairinglaw6_CalendarBack.j0 k bt196.2.2.2 true bt188.1 bt188.2.1 bt188.2.2.1 bt196.1 bt196.2.1 bt196.2.2.1)) else (pairinglaw6_CalendarBack.j0 k bt196.2.2.2 true bt188.1 bt188.2.1 bt188.2.2.1 bt196.1 bt196.2.1 bt196.2.2.1)))) else (if bt188.2.2.2 = 5 then (if (bt188.1 == 0 && (bt188.2.1 == 0 && (bt188.2.2.1 == 0))) = true then ((pairinglaw6_awake.f k).bind fun t193 => (some t193)) else (some false)) else (some false)))
theorem pairinglaw6_CalendarBack.mono_l : ∀ k, (∀ y0 y1 y2 y3 y4 y5 y6 y7, LeO (pairinglaw6_CalendarBack.j0 k y0 y1 y2 y3 y4 y5 y6 y7) (pairinglaw6_CalendarBack.j0 (k + 1) y0 y1 y2 y3 y4 y5 y6 y7))
  | 0 => fun _ _ _ _ _ _ _ _ r h => by simp [pairinglaw6_CalendarBack.j0] at h
  | k + 1 => by
    have ih0 := pairinglaw6_CalendarBack.mono_l k
    · intro y0 y1 y2 y3 y4 y5 y6 y7
      unfold pairinglaw6_CalendarBack.j0
      repeat' first
      | (with_reducible exact ih0 _ _ _ _ _ _ _ _)
      | (with_reducible exact calendar_DateOf.mono _ _)
      | (with_reducible exact calendar_DayNumber.mono _ _ _ _)
      | (with_reducible exact pairinglaw6_awake.mono _)
      | (with_reducible exact LeO.refl _)
      | (with_reducible exact LeO.none _)
      | (with_reducible refine LeO.ite ?_ ?_)
      | (with_reducible refine LeO.bind ?_ (fun _ => ?_))
      | exact ih0 _ _ _ _ _ _ _ _
      | exact calendar_DateOf.mono _ _
      | exact calendar_DayNumber.mono _ _ _ _
      | exact pairinglaw6_awake.mono _
      | exact LeO.none _
      | refine LeO.ite ?_ ?_
      | refine LeO.bind ?_ (fun _ => ?_)
theorem pairinglaw6_CalendarBack.mono : ∀ a0 k, LeO (pairinglaw6_CalendarBack.f k a0) (pairinglaw6_CalendarBack.f (k + 1) a0) := by
  intro a0 k
  have ih0 := pairinglaw6_CalendarBack.mono_l k
  unfold pairinglaw6_CalendarBack.f
  repeat' first
      | (with_reducible exact ih0 _ _ _ _ _ _ _ _)
      | (with_reducible exact calendar_DateOf.mono _ _)
      | (with_reducible exact calendar_DayNumber.mono _ _ _ _)
      | (with_reducible exact pairinglaw6_awake.mono _)
      | (with_reducible exact LeO.refl _)
      | (with_reducible exact LeO.none _)
      | (with_reducible refine LeO.ite ?_ ?_)
      | (with_reducible refine LeO.bind ?_ (fun _ => ?_))
      | exact ih0 _ _ _ _ _ _ _ _
      | exact calendar_DateOf.mono _ _
      | exact calendar_DayNumber.mono _ _ _ _
      | exact pairinglaw6_awake.mono _
      | exact LeO.none _
      | refine LeO.ite ?_ ?_
      | refine LeO.bind ?_ (fun _ => ?_)
set_option maxHeartbeats 8000000 in
set_option maxRecDepth 100000 in
theorem pairinglaw6_CalendarBack.calls (k : Nat) (a0 : Int) (r : Bool) (w : World) (hT_md : Tab_md w) (h : pairinglaw6_CalendarBack.f k a0 = some r) :
    Calls Tryd.prog 6 #[.int .i64 a0] w fun e w' => e = .returned (.bool r) ∧ Below w.heap.size w w' := by
  have hu27 := Tryd.underlying27
  have HB := Aside0.mk (Below.refl w.heap.size w)
  have H : ((calendar_DateOf.f k a0).bind fun bt188 => (if bt188.2.2.2 = 0 then ((calendar_DayNumber.f k bt188.1 bt188.2.1 bt188.2.2.1).bind fun bt194 => ((calendar_DateOf.f k (wrap64 (a0 + 1))).bind fun bt196 => (if bt194.2 = 0 then (if bt194.1 = a0 then ((calendar_Weekday.f (wrap64 (a0 + 7))).bind fun t201 => ((calendar_Weekday.f a0).bind fun t202 => (if t201 = t202 then ((calendar_Weekday.f (wrap64 (a0 + 1))).bind fun t203 => (pairinglaw6_CalendarBack.j0 k bt196.2.2.2 (t203 != (Int.tmod (wrap64 (t202 + 1)) 7)) bt188.1 bt188.2.1 bt188.2.2.1 bt196.1 bt196.2.1 bt196.2.2.1)) else (pairinglaw6_CalendarBack.j0 k bt196.2.2.2 true bt188.1 bt188.2.1 bt188.2.2.1 bt196.1 bt196.2.1 bt196.2.2.1)))) else (pairinglaw6_CalendarBack.j0 k bt196.2.2.2 true bt188.1 bt188.2.1 bt188.2.2.1 bt196.1 bt196.2.1 bt196.2.2.1)) else (pairinglaw6_CalendarBack.j0 k bt196.2.2.2 true bt188.1 bt188.2.1 bt188.2.2.1 bt196.1 bt196.2.1 bt196.2.2.1)))) else (if bt188.2.2.2 = 5 then (if (bt188.1 == 0 && (bt188.2.1 == 0 && (bt188.2.2.1 == 0))) = true then ((pairinglaw6_awake.f k).bind fun t193 => (some t193)) else (some false)) else (some false)))) = some r := h
  clear h
  replace H := Option.bind_eq_some_iff.mp H
  obtain ⟨⟨t188, t189, t190, t191⟩, A20, H⟩ := H
  replace H : (if t191 = 0 then ((calendar_DayNumber.f k t188 t189 t190).bind fun bt194 => ((calendar_DateOf.f k (wrap64 (a0 + 1))).bind fun bt196 => (if bt194.2 = 0 then (if bt194.1 = a0 then ((calendar_Weekday.f (wrap64 (a0 + 7))).bind fun t201 => ((calendar_Weekday.f a0).bind fun t202 => (if t201 = t202 then ((calendar_Weekday.f (wrap64 (a0 + 1))).bind fun t203 => (pairinglaw6_CalendarBack.j0 k bt196.2.2.2 (t203 != (Int.tmod (wrap64 (t202 + 1)) 7)) t188 t189 t190 bt196.1 bt196.2.1 bt196.2.2.1)) else (pairinglaw6_CalendarBack.j0 k bt196.2.2.2 true t188 t189 t190 bt196.1 bt196.2.1 bt196.2.2.1)))) else (pairinglaw6_CalendarBack.j0 k bt196.2.2.2 true t188 t189 t190 bt196.1 bt196.2.1 bt196.2.2.1)) else (pairinglaw6_CalendarBack.j0 k bt196.2.2.2 true t188 t189 t190 bt196.1 bt196.2.1 bt196.2.2.1)))) else (if t191 = 5 then (if (t188 == 0 && (t189 == 0 && (t190 == 0))) = true then ((pairinglaw6_awake.f k).bind fun t193 => (some t193)) else (some false)) else (some false))) = some r := H
  have A2 := Aside0.mk A20
  clear A20
  by_cases c3 : t191 = 0
  · rw [if_pos c3] at H
    have c3b0 : (t191 == 0) = true := beq_iff_eq.mpr c3
    have c3b1 : (t191 != 0) = false := bne_eq_false_iff_eq.mpr c3
    clear c3
    replace H := Option.bind_eq_some_iff.mp H
    obtain ⟨⟨t194, t195⟩, A40, H⟩ := H
    replace H : ((calendar_DateOf.f k (wrap64 (a0 + 1))).bind fun bt196 => (if t195 = 0 then (if t194 = a0 then ((calendar_Weekday.f (wrap64 (a0 + 7))).bind fun t201 => ((calendar_Weekday.f a0).bind fun t202 => (if t201 = t202 then ((calendar_Weekday.f (wrap64 (a0 + 1))).bind fun t203 => (pairinglaw6_CalendarBack.j0 k bt196.2.2.2 (t203 != (Int.tmod (wrap64 (t202 + 1)) 7)) t188 t189 t190 bt196.1 bt196.2.1 bt196.2.2.1)) else (pairinglaw6_CalendarBack.j0 k bt196.2.2.2 true t188 t189 t190 bt196.1 bt196.2.1 bt196.2.2.1)))) else (pairinglaw6_CalendarBack.j0 k bt196.2.2.2 true t188 t189 t190 bt196.1 bt196.2.1 bt196.2.2.1)) else (pairinglaw6_CalendarBack.j0 k bt196.2.2.2 true t188 t189 t190 bt196.1 bt196.2.1 bt196.2.2.1))) = some r := H
    have A4 := Aside0.mk A40
    clear A40
    replace H := Option.bind_eq_some_iff.mp H
    obtain ⟨⟨t196, t197, t198, t199⟩, A50, H⟩ := H
    replace H : (if t195 = 0 then (if t194 = a0 then ((calendar_Weekday.f (wrap64 (a0 + 7))).bind fun t201 => ((calendar_Weekday.f a0).bind fun t202 => (if t201 = t202 then ((calendar_Weekday.f (wrap64 (a0 + 1))).bind fun t203 => (pairinglaw6_CalendarBack.j0 k t199 (t203 != (Int.tmod (wrap64 (t202 + 1)) 7)) t188 t189 t190 t196 t197 t198)) else (pairinglaw6_CalendarBack.j0 k t199 true t188 t189 t190 t196 t197 t198)))) else (pairinglaw6_CalendarBack.j0 k t199 true t188 t189 t190 t196 t197 t198)) else (pairinglaw6_CalendarBack.j0 k t199 true t188 t189 t190 t196 t197 t198)) = some r := H
    have A5 := Aside0.mk A50
    clear A50
    have HC6 := Aside0.mk H
    clear H
    go_enter Tryd.func6, Tryd.ntmps6
    go_upto_region 6 with (first | ((with_reducible refine gate_callee (f := 19) rfl ?_); refine goesL_ (some 13) rfl rfl Tryd.func19 (by kernel_rfl) rfl #[.int .i64 a0] rfl (by (try simp only [List.map_toArray, List.map_cons, List.map_nil]); first | done | rfl | (simp only [List.length_drop, List.length_take]; rfl)) ?_; (with_reducible refine (calendar_DateOf.calls k a0 t188 t189 t190 t191 _ ?side1 A2.out).mono ?_); (case side1 => first | (with_reducible exact hT_md) | exact Tab_md.below hT_md (by repeat (first | (with_reducible first | exact HB.out | apply below_alloc | apply pw_below_drewN | apply below_drew1) | exact HB.out))); rintro e w7 ⟨rfl, hb⟩; refine ⟨_, rfl, ?_⟩; have n0_ := Aside0.mk (below_step (by repeat (first | (with_reducible first | exact HB.out | apply below_alloc | apply pw_below_drewN | apply below_drew1) | exact HB.out)) hb); clear HB; have HB := n0_; clear n0_; (try clear hb); (try clear hb2); (try clear hk); (try clear hi)) | ((with_reducible refine gate_dst (N := 3) rfl ?_); refine box_event ?hg (N := 3) ?hd (cs := #[.int .i64 0, .int .i64 0, .int .i64 0]) (t := 27) ?hr ?_; (case hd => rfl); (case hg => rfl); (case hr => first | (go_simp; done) | (go_simp; rfl)); intro gb192 hg w8 hbox hb; have n0_ := Aside0.mk (below_step (by repeat (first | (with_reducible first | exact HB.out | apply below_alloc | apply pw_below_drewN | apply below_drew1) | exact HB.out)) hb); have n1_ := Aside0.mk (hbox); have n2_ := Aside0.mk ((by rw [hg]; exact (below_size (by repeat (first | (with_reducible first | exact HB.out | apply below_alloc | apply pw_below_drewN | apply below_drew1) | exact HB.out))) : w.heap.size ≤ gb192)); have n3_ := Aside0.mk ((by rw [hg]; exact (below_size (by repeat (first | (with_reducible first | exact HB.out | apply below_alloc | apply pw_below_drewN | apply below_drew1) | exact HB.out))) : w.heap.size ≤ gb192)); clear HB; have HB := n0_; have BK192 := n1_; have GW192 := n2_; have GE192 := n3_; clear n0_ n1_ n2_ n3_; clear hb hbox hg; have hcz9_0 : w8.cell? ⟨gb192, 0, none⟩ = some (.int .i64 0) := (blk_cell BK192.out 0).trans rfl; have hcz9_1 : w8.cell? ⟨gb192, 1, none⟩ = some (.int .i64 0) := (blk_cell BK192.out 1).trans rfl; have hcz9_2 : w8.cell? ⟨gb192, 2, none⟩ = some (.int .i64 0) := (blk_cell BK192.out 2).trans rfl; have hfz9_0 := blk_frozen BK192.out 0; have hfz9_1 := blk_frozen BK192.out 1; have hfz9_2 := blk_frozen BK192.out 2) | ((with_reducible refine gate_callee (f := 17) rfl ?_); refine goesL_ (some 30) rfl rfl Tryd.func17 (by kernel_rfl) rfl #[.agg #[.int .i64 t188, .int .i64 t189, .int .i64 t190]] rfl (by (try simp only [List.map_toArray, List.map_cons, List.map_nil]); first | done | rfl | (simp only [List.length_drop, List.length_take]; rfl)) ?_; (with_reducible refine (calendar_DayNumber.calls k t188 t189 t190 t194 t195 _ ?side1 A4.out).mono ?_); (case side1 => first | (with_reducible exact hT_md) | exact Tab_md.below hT_md (by repeat (first | (with_reducible first | exact HB.out | apply below_alloc | apply pw_below_drewN | apply below_drew1 | refine below_set ?_ GE192.out) | exact HB.out))); rintro e w10 ⟨rfl, hb⟩; refine ⟨_, rfl, ?_⟩; have n0_ := Aside0.mk (blk_below (g := gb192) (o := .cells #[.int .i64 t188, .int .i64 t189, .int .i64 t190] 27 (0, 0)) (by (with_reducible repeat (first | refine blk_drewN ?_ _ | refine blk_drew ?_ | refine blk_alloc ?_ _)); refine blk_put (cs := #[.int .i64 t188, .int .i64 t189, .int .i64 0]) ?_ 2 _ rfl; (with_reducible repeat (first | refine blk_drewN ?_ _ | refine blk_drew ?_ | refine blk_alloc ?_ _)); refine blk_put (cs := #[.int .i64 t188, .int .i64 0, .int .i64 0]) ?_ 1 _ rfl; (with_reducible repeat (first | refine blk_drewN ?_ _ | refine blk_drew ?_ | refine blk_alloc ?_ _)); refine blk_put (cs := #[.int .i64 0, .int .i64 0, .int .i64 0]) ?_ 0 _ rfl; (with_reducible repeat (first | refine blk_drewN ?_ _ | refine blk_drew ?_ | refine blk_alloc ?_ _)); exact BK192.out) hb); have n1_ := Aside0.mk (below_step (by repeat (first | (with_reducible first | exact HB.out | apply below_alloc | apply pw_below_drewN | apply below_drew1 | refine below_set ?_ GE192.out) | exact HB.out)) hb); clear BK192; clear HB; have BK192 := n0_; have HB := n1_; clear n0_ n1_; (try clear hb); (try clear hb2); (try clear hk); (try clear hi)) | ((with_reducible refine gate_callee (f := 19) rfl ?_); refine goesL_ (some 36) rfl rfl Tryd.func19 (by kernel_rfl) rfl #[.int .i64 (wrap64 (a0 + 1))] rfl (by (try simp only [List.map_toArray, List.map_cons, List.map_nil]); first | done | rfl | (simp only [List.length_drop, List.length_take]; rfl)) ?_; (with_reducible refine (calendar_DateOf.calls k (wrap64 (a0 + 1)) t196 t197 t198 t199 _ ?side1 A5.out).mono ?_); (case side1 => first | (with_reducible exact hT_md) | exact Tab_md.below hT_md (by repeat (first | (with_reducible first | exact HB.out | apply below_alloc | apply pw_below_drewN | apply below_drew1 | refine below_set ?_ GE192.out) | exact HB.out))); rintro e w11 ⟨rfl, hb⟩; refine ⟨_, rfl, ?_⟩; have n0_ := Aside0.mk (blk_below (g := gb192) (o := .cells #[.int .i64 t188, .int .i64 t189, .int .i64 t190] 27 (0, 0)) (by (with_reducible repeat (first | refine blk_drewN ?_ _ | refine blk_drew ?_ | refine blk_alloc ?_ _)); exact BK192.out) hb); have n1_ := Aside0.mk (below_step (by repeat (first | (with_reducible first | exact HB.out | apply below_alloc | apply pw_below_drewN | apply below_drew1 | refine below_set ?_ GE192.out) | exact HB.out)) hb); clear BK192; clear HB; have BK192 := n0_; have HB := n1_; clear n0_ n1_; (try clear hb); (try clear hb2); (try clear hk); (try clear hi)) | ((with_reducible refine gate_dst (N := 7) rfl ?_); refine box_event ?hg (N := 7) ?hd (cs := #[.int .i64 0, .int .i64 0, .int .i64 0]) (t := 27) ?hr ?_; (case hd => rfl); (case hg => rfl); (case hr => first | (go_simp; done) | (go_simp; rfl)); intro gb200 hg w12 hbox hb; have n0_ := Aside0.mk (blk_below (g := gb192) (o := .cells #[.int .i64 t188, .int .i64 t189, .int .i64 t190] 27 (0, 0)) (by (with_reducible repeat (first | refine blk_drewN ?_ _ | refine blk_drew ?_ | refine blk_alloc ?_ _)); exact BK192.out) hb); have n1_ := Aside0.mk (below_step (by repeat (first | (with_reducible first | exact HB.out | apply below_alloc | apply pw_below_drewN | apply below_drew1 | refine below_set ?_ GE192.out) | exact HB.out)) hb); have n2_ := Aside0.mk (hbox); have n3_ := Aside0.mk ((by rw [hg]; exact (below_size (by repeat (first | (with_reducible first | exact HB.out | apply below_alloc | apply pw_below_drewN | apply below_drew1 | refine below_set ?_ GE192.out) | exact HB.out))) : w.heap.size ≤ gb200)); have n4_ := Aside0.mk ((by rw [hg]; exact (below_size (by repeat (first | (with_reducible first | exact HB.out | apply below_alloc | apply pw_below_drewN | apply below_drew1 | refine below_set ?_ GE192.out) | exact HB.out))) : w.heap.size ≤ gb200)); have n5_ := Aside0.mk ((by rw [hg]; exact Nat.ne_of_lt (blk_lt (g := gb192) (o := .cells #[.int .i64 t188, .int .i64 t189, .int .i64 t190] 27 (0, 0)) (by (with_reducible repeat (first | refine blk_drewN ?_ _ | refine blk_drew ?_ | refine blk_alloc ?_ _)); exact BK192.out)) : gb192 ≠ gb200)); have n6_ := Aside0.mk ((by rw [hg]; exact Nat.ne_of_gt (blk_lt (g := gb192) (o := .cells #[.int .i64 t188, .int .i64 t189, .int .i64 t190] 27 (0, 0)) (by (with_reducible repeat (first | refine blk_drewN ?_ _ | refine blk_drew ?_ | refine blk_alloc ?_ _)); exact BK192.out)) : gb200 ≠ gb192)); clear BK192; clear HB; have BK192 := n0_; have HB := n1_; have BK200 := n2_; have GW200 := n3_; have GE200 := n4_; have NB192_200 := n5_; have NB200_192 := n6_; clear n0_ n1_ n2_ n3_ n4_ n5_ n6_; clear hb hbox hg; have hnb13 := NB200_192.out; have hnc13 := NB192_200.out; have hcz14_0 : w12.cell? ⟨gb200, 0, none⟩ = some (.int .i64 0) := (blk_cell BK200.out 0).trans rfl; have hcz14_1 : w12.cell? ⟨gb200, 1, none⟩ = some (.int .i64 0) := (blk_cell BK200.out 1).trans rfl; have hcz14_2 : w12.cell? ⟨gb200, 2, none⟩ = some (.int .i64 0) := (blk_cell BK200.out 2).trans rfl; have hfz14_0 := blk_frozen BK200.out 0; have hfz14_1 := blk_frozen BK200.out 1; have hfz14_2 := blk_frozen BK200.out 2))
    (try simp only [Act.put, List.setIfInBounds_toArray, List.set_cons_zero, List.set_cons_succ])
    go_cut [63] (fun v63 wc => ∃ (kq : Nat) (x63_5 : Bool), v63 = .bool x63_5 ∧ Aside0 (pairinglaw6_CalendarBack.j0 kq t199 x63_5 t188 t189 t190 t196 t197 t198 = some r) ∧ Aside0 (kq ≤ k) ∧ Aside0 (wc.heap[gb192]? = some (.cells #[.int .i64 t188, .int .i64 t189, .int .i64 t190] 27 (0, 0))) ∧ Aside0 (wc.heap[gb200]? = some (.cells #[.int .i64 t196, .int .i64 t197, .int .i64 t198] 27 (0, 0))) ∧ Aside0 (Below w.heap.size w wc))
    case first =>
      have H := HC6.out
      clear HC6
      by_cases c15 : t195 = 0
      · rw [if_pos c15] at H
        have c15b0 : (t195 == 0) = true := beq_iff_eq.mpr c15
        have c15b1 : (t195 != 0) = false := bne_eq_false_iff_eq.mpr c15
        clear c15
        (first | rw [c15b0] | (simp only [i64_w, i32_w]; rw [c15b0]) | skip)
        by_cases c16 : t194 = a0
        · rw [if_pos c16] at H
          have c16b0 : (t194 == a0) = true := beq_iff_eq.mpr c16
          have c16b1 : (t194 != a0) = false := bne_eq_false_iff_eq.mpr c16
          clear c16
          replace H := Option.bind_eq_some_iff.mp H
          obtain ⟨t201, A170, H⟩ := H
          replace H : ((calendar_Weekday.f a0).bind fun t202 => (if t201 = t202 then ((calendar_Weekday.f (wrap64 (a0 + 1))).bind fun t203 => (pairinglaw6_CalendarBack.j0 k t199 (t203 != (Int.tmod (wrap64 (t202 + 1)) 7)) t188 t189 t190 t196 t197 t198)) else (pairinglaw6_CalendarBack.j0 k t199 true t188 t189 t190 t196 t197 t198))) = some r := H
          have A17 := Aside0.mk A170
          clear A170
          replace H := Option.bind_eq_some_iff.mp H
          obtain ⟨t202, A180, H⟩ := H
          replace H : (if t201 = t202 then ((calendar_Weekday.f (wrap64 (a0 + 1))).bind fun t203 => (pairinglaw6_CalendarBack.j0 k t199 (t203 != (Int.tmod (wrap64 (t202 + 1)) 7)) t188 t189 t190 t196 t197 t198)) else (pairinglaw6_CalendarBack.j0 k t199 true t188 t189 t190 t196 t197 t198)) = some r := H
          have A18 := Aside0.mk A180
          clear A180
          by_cases c19 : t201 = t202
          · rw [if_pos c19] at H
            have c19b0 : (t201 == t202) = true := beq_iff_eq.mpr c19
            have c19b1 : (t201 != t202) = false := bne_eq_false_iff_eq.mpr c19
            clear c19
            replace H := Option.bind_eq_some_iff.mp H
            obtain ⟨t203, A200, H⟩ := H
            replace H : (pairinglaw6_CalendarBack.j0 k t199 (t203 != (Int.tmod (wrap64 (t202 + 1)) 7)) t188 t189 t190 t196 t197 t198) = some r := H
            have A20 := Aside0.mk A200
            clear A200
            have H' := Aside0.mk H
            clear H
            go_wp2_with (first | (go_at_call 21; (with_reducible refine (calendar_Weekday.calls (wrap64 (a0 + 7)) t201 _ A17.out).mono ?_); rintro e w' ⟨rfl, ⟨nd, rfl⟩⟩) | (go_at_call 21; (with_reducible refine (calendar_Weekday.calls a0 t202 _ A18.out).mono ?_); rintro e w' ⟨rfl, ⟨nd, rfl⟩⟩) | (go_at_call 21; (with_reducible refine (calendar_Weekday.calls (wrap64 (a0 + 1)) t203 _ A20.out).mono ?_); rintro e w' ⟨rfl, ⟨nd, rfl⟩⟩))
            go_meet
            case rel => exact ⟨_, ((t203 != (Int.tmod (wrap64 (t202 + 1)) 7))), (by first | rfl | (simp; done) | (simp [*]; done)), H', ⟨by first | omega | exact Nat.le_refl _⟩, ⟨by (with_reducible repeat (first | refine blk_drewN ?_ _ | refine blk_drew ?_ | refine blk_alloc ?_ _)); refine blk_far ?_ NB192_200.out _; (with_reducible repeat (first | refine blk_drewN ?_ _ | refine blk_drew ?_ | refine blk_alloc ?_ _)); refine blk_far ?_ NB192_200.out _; (with_reducible repeat (first | refine blk_drewN ?_ _ | refine blk_drew ?_ | refine blk_alloc ?_ _)); refine blk_far ?_ NB192_200.out _; (with_reducible repeat (first | refine blk_drewN ?_ _ | refine blk_drew ?_ | refine blk_alloc ?_ _)); exact BK192.out⟩, ⟨by (with_reducible repeat (first | refine blk_drewN ?_ _ | refine blk_drew ?_ | refine blk_alloc ?_ _)); refine blk_put (cs := #[.int .i64 t196, .int .i64 t197, .int .i64 0]) ?_ 2 _ rfl; (with_reducible repeat (first | refine blk_drewN ?_ _ | refine blk_drew ?_ | refine blk_alloc ?_ _)); refine blk_put (cs := #[.int .i64 t196, .int .i64 0, .int .i64 0]) ?_ 1 _ rfl; (with_reducible repeat (first | refine blk_drewN ?_ _ | refine blk_drew ?_ | refine blk_alloc ?_ _)); refine blk_put (cs := #[.int .i64 0, .int .i64 0, .int .i64 0]) ?_ 0 _ rfl; (with_reducible repeat (first | refine blk_drewN ?_ _ | refine blk_drew ?_ | refine blk_alloc ?_ _)); exact BK200.out⟩, ⟨by repeat (first | (with_reducible first | exact HB.out | apply below_alloc | apply pw_below_drewN | apply below_drew1 | refine below_set ?_ GE192.out | refine below_set ?_ GE200.out) | exact HB.out)⟩⟩
          · rw [if_neg c19] at H
            have c19b0 : (t201 == t202) = false := beq_eq_false_iff_ne.mpr c19
            have c19b1 : (t201 != t202) = true := bne_iff_ne.mpr c19
            have H' := Aside0.mk H
            clear H
            go_wp2_with (first | (go_at_call 21; (with_reducible refine (calendar_Weekday.calls (wrap64 (a0 + 7)) t201 _ A17.out).mono ?_); rintro e w' ⟨rfl, ⟨nd, rfl⟩⟩) | (go_at_call 21; (with_reducible refine (calendar_Weekday.calls a0 t202 _ A18.out).mono ?_); rintro e w' ⟨rfl, ⟨nd, rfl⟩⟩))
            go_meet
            case rel => exact ⟨_, (true), (by first | rfl | (simp; done) | (simp [*]; done)), H', ⟨by first | omega | exact Nat.le_refl _⟩, ⟨by (with_reducible repeat (first | refine blk_drewN ?_ _ | refine blk_drew ?_ | refine blk_alloc ?_ _)); refine blk_far ?_ NB192_200.out _; (with_reducible repeat (first | refine blk_drewN ?_ _ | refine blk_drew ?_ | refine blk_alloc ?_ _)); refine blk_far ?_ NB192_200.out _; (with_reducible repeat (first | refine blk_drewN ?_ _ | refine blk_drew ?_ | refine blk_alloc ?_ _)); refine blk_far ?_ NB192_200.out _; (with_reducible repeat (first | refine blk_drewN ?_ _ | refine blk_drew ?_ | refine blk_alloc ?_ _)); exact BK192.out⟩, ⟨by (with_reducible repeat (first | refine blk_drewN ?_ _ | refine blk_drew ?_ | refine blk_alloc ?_ _)); refine blk_put (cs := #[.int .i64 t196, .int .i64 t197, .int .i64 0]) ?_ 2 _ rfl; (with_reducible repeat (first | refine blk_drewN ?_ _ | refine blk_drew ?_ | refine blk_alloc ?_ _)); refine blk_put (cs := #[.int .i64 t196, .int .i64 0, .int .i64 0]) ?_ 1 _ rfl; (with_reducible repeat (first | refine blk_drewN ?_ _ | refine blk_drew ?_ | refine blk_alloc ?_ _)); refine blk_put (cs := #[.int .i64 0, .int .i64 0, .int .i64 0]) ?_ 0 _ rfl; (with_reducible repeat (first | refine blk_drewN ?_ _ | refine blk_drew ?_ | refine blk_alloc ?_ _)); exact BK200.out⟩, ⟨by repeat (first | (with_reducible first | exact HB.out | apply below_alloc | apply pw_below_drewN | apply below_drew1 | refine below_set ?_ GE192.out | refine below_set ?_ GE200.out) | exact HB.out)⟩⟩
        · rw [if_neg c16] at H
          have c16b0 : (t194 == a0) = false := beq_eq_false_iff_ne.mpr c16
          have c16b1 : (t194 != a0) = true := bne_iff_ne.mpr c16
          have H' := Aside0.mk H
          clear H
          go_wp2
          go_meet
          case rel => exact ⟨_, (true), (by first | rfl | (simp; done) | (simp [*]; done)), H', ⟨by first | omega | exact Nat.le_refl _⟩, ⟨by (with_reducible repeat (first | refine blk_drewN ?_ _ | refine blk_drew ?_ | refine blk_alloc ?_ _)); refine blk_far ?_ NB192_200.out _; (with_reducible repeat (first | refine blk_drewN ?_ _ | refine blk_drew ?_ | refine blk_alloc ?_ _)); refine blk_far ?_ NB192_200.out _; (with_reducible repeat (first | refine blk_drewN ?_ _ | refine blk_drew ?_ | refine blk_alloc ?_ _)); refine blk_far ?_ NB192_200.out _; (with_reducible repeat (first | refine blk_drewN ?_ _ | refine blk_drew ?_ | refine blk_alloc ?_ _)); exact BK192.out⟩, ⟨by (with_reducible repeat (first | refine blk_drewN ?_ _ | refine blk_drew ?_ | refine blk_alloc ?_ _)); refine blk_put (cs := #[.int .i64 t196, .int .i64 t197, .int .i64 0]) ?_ 2 _ rfl; (with_reducible repeat (first | refine blk_drewN ?_ _ | refine blk_drew ?_ | refine blk_alloc ?_ _)); refine blk_put (cs := #[.int .i64 t196, .int .i64 0, .int .i64 0]) ?_ 1 _ rfl; (with_reducible repeat (first | refine blk_drewN ?_ _ | refine blk_drew ?_ | refine blk_alloc ?_ _)); refine blk_put (cs := #[.int .i64 0, .int .i64 0, .int .i64 0]) ?_ 0 _ rfl; (with_reducible repeat (first | refine blk_drewN ?_ _ | refine blk_drew ?_ | refine blk_alloc ?_ _)); exact BK200.out⟩, ⟨by repeat (first | (with_reducible first | exact HB.out | apply below_alloc | apply pw_below_drewN | apply below_drew1 | refine below_set ?_ GE192.out | refine below_set ?_ GE200.out) | exact HB.out)⟩⟩
      · rw [if_neg c15] at H
        have c15b0 : (t195 == 0) = false := beq_eq_false_iff_ne.mpr c15
        have c15b1 : (t195 != 0) = true := bne_iff_ne.mpr c15
        (first | rw [c15b0] | (simp only [i64_w, i32_w]; rw [c15b0]) | skip)
        have H' := Aside0.mk H
        clear H
        go_wp2
        go_meet
        case rel => exact ⟨_, (true), (by first | rfl | (simp; done) | (simp [*]; done)), H', ⟨by first | omega | exact Nat.le_refl _⟩, ⟨by (with_reducible repeat (first | refine blk_drewN ?_ _ | refine blk_drew ?_ | refine blk_alloc ?_ _)); refine blk_far ?_ NB192_200.out _; (with_reducible repeat (first | refine blk_drewN ?_ _ | refine blk_drew ?_ | refine blk_alloc ?_ _)); refine blk_far ?_ NB192_200.out _; (with_reducible repeat (first | refine blk_drewN ?_ _ | refine blk_drew ?_ | refine blk_alloc ?_ _)); refine blk_far ?_ NB192_200.out _; (with_reducible repeat (first | refine blk_drewN ?_ _ | refine blk_drew ?_ | refine blk_alloc ?_ _)); exact BK192.out⟩, ⟨by (with_reducible repeat (first | refine blk_drewN ?_ _ | refine blk_drew ?_ | refine blk_alloc ?_ _)); refine blk_put (cs := #[.int .i64 t196, .int .i64 t197, .int .i64 0]) ?_ 2 _ rfl; (with_reducible repeat (first | refine blk_drewN ?_ _ | refine blk_drew ?_ | refine blk_alloc ?_ _)); refine blk_put (cs := #[.int .i64 t196, .int .i64 0, .int .i64 0]) ?_ 1 _ rfl; (with_reducible repeat (first | refine blk_drewN ?_ _ | refine blk_drew ?_ | refine blk_alloc ?_ _)); refine blk_put (cs := #[.int .i64 0, .int .i64 0, .int .i64 0]) ?_ 0 _ rfl; (with_reducible repeat (first | refine blk_drewN ?_ _ | refine blk_drew ?_ | refine blk_alloc ?_ _)); exact BK200.out⟩, ⟨by repeat (first | (with_reducible first | exact HB.out | apply below_alloc | apply pw_below_drewN | apply below_drew1 | refine below_set ?_ GE192.out | refine below_set ?_ GE200.out) | exact HB.out)⟩⟩
    case rest =>
      clear HC6
      try clear c1
      try clear p2
      try clear c3
      try clear c3b0
      try clear c3b1
      try clear c6
      try clear p6
      try clear c13
      try clear c15
      try clear c15b0
      try clear c15b1
      try clear c16
      try clear c16b0
      try clear c16b1
      try clear c17
      try clear c19
      try clear c19b0
      try clear c19b1
      try clear hcz14_0
      try clear hcz14_1
      try clear hcz14_2
      try clear hcz9_0
      try clear hcz9_1
      try clear hcz9_2
      try clear hfz14_0
      try clear hfz14_1
      try clear hfz14_2
      try clear hfz9_0
      try clear hfz9_1
      try clear hfz9_2
      obtain ⟨kq, x63_5, rfl, HA, HJ5, BK192, BK200, HB⟩ := hcut
      cases kq with
      | zero => exact absurd HA.out (by simp [pairinglaw6_CalendarBack.j0])
      | succ kj5 =>
        have H := HA.out
        clear HA
        simp only [pairinglaw6_CalendarBack.j0] at H
        by_cases c21 : x63_5 = true
        · subst c21
          have H1 : (some false) = some r := by rw [if_pos rfl] at H; exact H
          clear H
          have H := H1
          clear H1
          obtain rfl := Option.some.inj H
          go_wp2
          go_ret
          exact ⟨by first | rfl | (simp [errW_none, errW_some] <;> rfl) | (simp [*, errW_none, errW_some] <;> rfl), by repeat (first | (with_reducible first | exact HB.out | apply below_alloc | apply pw_below_drewN | apply below_drew1 | refine below_set ?_ GE192.out | refine below_set ?_ GE200.out) | exact HB.out)⟩
        · replace c21 := Bool.eq_false_iff.mpr c21
          subst c21
          have H1 : (if t199 = 0 then ((calendar_DaysInMonth.f t188 t189).bind fun bt205 => (if t190 < bt205.1 then (if (t196 == t188 && (t197 == t189 && (t198 == (wrap64 (t190 + 1))))) = true then ((pairinglaw6_awake.f kj5).bind fun t207 => (some t207)) else (some false)) else (if t189 < 12 then (if (t196 == t188 && (t197 == (wrap64 (t189 + 1)) && (t198 == 1))) = true then ((pairinglaw6_awake.f kj5).bind fun t208 => (some t208)) else (some false)) else (if (t196 == (wrap64 (t188 + 1)) && (t197 == 1 && (t198 == 1))) = true then ((pairinglaw6_awake.f kj5).bind fun t209 => (some t209)) else (some false))))) else (if (t188 == 2100 && (t189 == 12 && (t190 == 31))) = true then ((pairinglaw6_awake.f kj5).bind fun t204 => (some t204)) else (some false))) = some r := by rw [if_neg (show ¬ (false = true) by decide)] at H; exact H
          clear H
          have H := H1
          clear H1
          by_cases c22 : t199 = 0
          · rw [if_pos c22] at H
            have c22b0 : (t199 == 0) = true := beq_iff_eq.mpr c22
            have c22b1 : (t199 != 0) = false := bne_eq_false_iff_eq.mpr c22
            clear c22
            replace H := Option.bind_eq_some_iff.mp H
            obtain ⟨⟨t205, t206⟩, A230, H⟩ := H
            replace H : (if t190 < t205 then (if (t196 == t188 && (t197 == t189 && (t198 == (wrap64 (t190 + 1))))) = true then ((pairinglaw6_awake.f kj5).bind fun t207 => (some t207)) else (some false)) else (if t189 < 12 then (if (t196 == t188 && (t197 == (wrap64 (t189 + 1)) && (t198 == 1))) = true then ((pairinglaw6_awake.f kj5).bind fun t208 => (some t208)) else (some false)) else (if (t196 == (wrap64 (t188 + 1)) && (t197 == 1 && (t198 == 1))) = true then ((pairinglaw6_awake.f kj5).bind fun t209 => (some t209)) else (some false)))) = some r := H
            have A23 := Aside0.mk A230
            clear A230
            by_cases c24 : t190 < t205
            · rw [if_pos c24] at H
              have c24b0 : decide (t190 < t205) = true := decide_eq_true c24
              clear c24
              by_cases c25 : (t196 == t188 && (t197 == t189 && (t198 == (wrap64 (t190 + 1))))) = true
              · rw [if_pos c25] at H
                have c25b0 : (t196 == t188 && (t197 == t189 && (t198 == (wrap64 (t190 + 1))))) = true := c25
                (try (have c25b1 : decide (t196 = t188 && (t197 == t189 && (t198 == (wrap64 (t190 + 1))))) = true := by simpa using c25))
                (try (have c25b2 : (t196 == t188 && (t197 == t189 && (t198 == (wrap64 (t190 + 1))))) = true := by simpa using c25))
                clear c25
                replace H := Option.bind_eq_some_iff.mp H
                obtain ⟨t207, A260, H⟩ := H
                replace H : (some t207) = some r := H
                have A26 := Aside0.mk A260
                clear A260
                obtain rfl := Option.some.inj H
                have hnb27 := NB192_200.out
                have hnc27 := NB200_192.out
                have hcz28_0 : wc.cell? ⟨gb192, 0, none⟩ = some (.int .i64 t188) := (blk_cell BK192.out 0).trans rfl
                have hcz28_1 : wc.cell? ⟨gb192, 1, none⟩ = some (.int .i64 t189) := (blk_cell BK192.out 1).trans rfl
                have hcz28_2 : wc.cell? ⟨gb192, 2, none⟩ = some (.int .i64 t190) := (blk_cell BK192.out 2).trans rfl
                have hfz28_0 := blk_frozen BK192.out 0
                have hfz28_1 := blk_frozen BK192.out 1
                have hfz28_2 := blk_frozen BK192.out 2
                go_wp2_with (first | ((with_reducible refine gate_callee (f := 13) rfl ?_); refine goesL_ (some 77) rfl rfl Tryd.func13 (by kernel_rfl) rfl #[.int .i64 t188, .int .i64 t189] rfl (by (try simp only [List.map_toArray, List.map_cons, List.map_nil]); first | done | rfl | (simp only [List.length_drop, List.length_take]; rfl)) ?_; (with_reducible refine (calendar_DaysInMonth.calls t188 t189 t205 t206 _ ?side1 A23.out).mono ?_); (case side1 => first | (with_reducible exact hT_md) | exact Tab_md.below hT_md (by repeat (first | (with_reducible first | exact HB.out | apply below_alloc | apply pw_below_drewN | apply below_drew1 | refine below_set ?_ GE192.out | refine below_set ?_ GE200.out) | exact HB.out))); rintro e w' ⟨rfl, ⟨nd, rfl⟩⟩; refine ⟨_, rfl, ?_⟩; have hcz29_0 : wc.cell? ⟨gb200, 0, none⟩ = some (.int .i64 t196) := (blk_cell BK200.out 0).trans rfl; have hcz29_1 : wc.cell? ⟨gb200, 1, none⟩ = some (.int .i64 t197) := (blk_cell BK200.out 1).trans rfl; have hcz29_2 : wc.cell? ⟨gb200, 2, none⟩ = some (.int .i64 t198) := (blk_cell BK200.out 2).trans rfl; have hfz29_0 := blk_frozen BK200.out 0; have hfz29_1 := blk_frozen BK200.out 1; have hfz29_2 := blk_frozen BK200.out 2) | (go_at_call 12; (with_reducible refine (pairinglaw6_awake.calls kj5  t207 _ ?side1 A26.out).mono ?_); (case side1 => first | (with_reducible exact hT_md) | exact Tab_md.below hT_md (by repeat (first | (with_reducible first | exact HB.out | apply below_alloc | apply pw_below_drewN | apply below_drew1 | refine below_set ?_ GE192.out | refine below_set ?_ GE200.out) | exact HB.out))); rintro e w30 ⟨rfl, hb⟩; have n0_ := Aside0.mk (blk_below (g := gb192) (o := .cells #[.int .i64 t188, .int .i64 t189, .int .i64 t190] 27 (0, 0)) (by (with_reducible repeat (first | refine blk_drewN ?_ _ | refine blk_drew ?_ | refine blk_alloc ?_ _)); exact BK192.out) hb); have n1_ := Aside0.mk (blk_below (g := gb200) (o := .cells #[.int .i64 t196, .int .i64 t197, .int .i64 t198] 27 (0, 0)) (by (with_reducible repeat (first | refine blk_drewN ?_ _ | refine blk_drew ?_ | refine blk_alloc ?_ _)); exact BK200.out) hb); have n2_ := Aside0.mk (below_step (by repeat (first | (with_reducible first | exact HB.out | apply below_alloc | apply pw_below_drewN | apply below_drew1 | refine below_set ?_ GE192.out | refine below_set ?_ GE200.out) | exact HB.out)) hb); clear BK192; clear BK200; clear HB; have BK192 := n0_; have BK200 := n1_; have HB := n2_; clear n0_ n1_ n2_; (try clear hb); (try clear hb2); (try clear hk); (try clear hi)))
                go_ret
                exact ⟨by first | rfl | (simp [errW_none, errW_some] <;> rfl) | (simp [*, errW_none, errW_some] <;> rfl), by repeat (first | (with_reducible first | exact HB.out | apply below_alloc | apply pw_below_drewN | apply below_drew1 | refine below_set ?_ GE192.out | refine below_set ?_ GE200.out) | exact HB.out)⟩
              · rw [if_neg c25] at H
                have c25b0 : (t196 == t188 && (t197 == t189 && (t198 == (wrap64 (t190 + 1))))) = false := by simpa using c25
                (try (have c25b1 : decide (t196 = t188 && (t197 == t189 && (t198 == (wrap64 (t190 + 1))))) = false := by simpa using c25))
                (try (have c25b2 : (t196 == t188 && (t197 == t189 && (t198 == (wrap64 (t190 + 1))))) = false := by simpa using c25))
                (try (have c25b3 : ¬ (t196 = t188 && (t197 == t189 && (t198 == (wrap64 (t190 + 1))))) := by simpa using c25))
                clear c25
                obtain rfl := Option.some.inj H
                have hnb31 := NB192_200.out
                have hnc31 := NB200_192.out
                have hcz32_0 : wc.cell? ⟨gb192, 0, none⟩ = some (.int .i64 t188) := (blk_cell BK192.out 0).trans rfl
                have hcz32_1 : wc.cell? ⟨gb192, 1, none⟩ = some (.int .i64 t189) := (blk_cell BK192.out 1).trans rfl
                have hcz32_2 : wc.cell? ⟨gb192, 2, none⟩ = some (.int .i64 t190) := (blk_cell BK192.out 2).trans rfl
                have hfz32_0 := blk_frozen BK192.out 0
                have hfz32_1 := blk_frozen BK192.out 1
                have hfz32_2 := blk_frozen BK192.out 2
                go_wp2_with (first | ((with_reducible refine gate_callee (f := 13) rfl ?_); refine goesL_ (some 77) rfl rfl Tryd.func13 (by kernel_rfl) rfl #[.int .i64 t188, .int .i64 t189] rfl (by (try simp only [List.map_toArray, List.map_cons, List.map_nil]); first | done | rfl | (simp only [List.length_drop, List.length_take]; rfl)) ?_; (with_reducible refine (calendar_DaysInMonth.calls t188 t189 t205 t206 _ ?side1 A23.out).mono ?_); (case side1 => first | (with_reducible exact hT_md) | exact Tab_md.below hT_md (by repeat (first | (with_reducible first | exact HB.out | apply below_alloc | apply pw_below_drewN | apply below_drew1 | refine below_set ?_ GE192.out | refine below_set ?_ GE200.out) | exact HB.out))); rintro e w' ⟨rfl, ⟨nd, rfl⟩⟩; refine ⟨_, rfl, ?_⟩; have hcz33_0 : wc.cell? ⟨gb200, 0, none⟩ = some (.int .i64 t196) := (blk_cell BK200.out 0).trans rfl; have hcz33_1 : wc.cell? ⟨gb200, 1, none⟩ = some (.int .i64 t197) := (blk_cell BK200.out 1).trans rfl; have hcz33_2 : wc.cell? ⟨gb200, 2, none⟩ = some (.int .i64 t198) := (blk_cell BK200.out 2).trans rfl; have hfz33_0 := blk_frozen BK200.out 0; have hfz33_1 := blk_frozen BK200.out 1; have hfz33_2 := blk_frozen BK200.out 2))
                go_ret
                exact ⟨by first | rfl | (simp [errW_none, errW_some] <;> rfl) | (simp [*, errW_none, errW_some] <;> rfl), by repeat (first | (with_reducible first | exact HB.out | apply below_alloc | apply pw_below_drewN | apply below_drew1 | refine below_set ?_ GE192.out | refine below_set ?_ GE200.out) | exact HB.out)⟩
            · rw [if_neg c24] at H
              have c24b0 : decide (t190 < t205) = false := decide_eq_false c24
              clear c24
              by_cases c34 : t189 < 12
              · rw [if_pos c34] at H
                have c34b0 : decide (t189 < 12) = true := decide_eq_true c34
                clear c34
                by_cases c35 : (t196 == t188 && (t197 == (wrap64 (t189 + 1)) && (t198 == 1))) = true
                · rw [if_pos c35] at H
                  have c35b0 : (t196 == t188 && (t197 == (wrap64 (t189 + 1)) && (t198 == 1))) = true := c35
                  (try (have c35b1 : decide (t196 = t188 && (t197 == (wrap64 (t189 + 1)) && (t198 == 1))) = true := by simpa using c35))
                  (try (have c35b2 : (t196 == t188 && (t197 == (wrap64 (t189 + 1)) && (t198 == 1))) = true := by simpa using c35))
                  clear c35
                  replace H := Option.bind_eq_some_iff.mp H
                  obtain ⟨t208, A360, H⟩ := H
                  replace H : (some t208) = some r := H
                  have A36 := Aside0.mk A360
                  clear A360
                  obtain rfl := Option.some.inj H
                  have hnb37 := NB192_200.out
                  have hnc37 := NB200_192.out
                  have hcz38_0 : wc.cell? ⟨gb192, 0, none⟩ = some (.int .i64 t188) := (blk_cell BK192.out 0).trans rfl
                  have hcz38_1 : wc.cell? ⟨gb192, 1, none⟩ = some (.int .i64 t189) := (blk_cell BK192.out 1).trans rfl
                  have hcz38_2 : wc.cell? ⟨gb192, 2, none⟩ = some (.int .i64 t190) := (blk_cell BK192.out 2).trans rfl
                  have hfz38_0 := blk_frozen BK192.out 0
                  have hfz38_1 := blk_frozen BK192.out 1
                  have hfz38_2 := blk_frozen BK192.out 2
                  go_wp2_with (first | ((with_reducible refine gate_callee (f := 13) rfl ?_); refine goesL_ (some 77) rfl rfl Tryd.func13 (by kernel_rfl) rfl #[.int .i64 t188, .int .i64 t189] rfl (by (try simp only [List.map_toArray, List.map_cons, List.map_nil]); first | done | rfl | (simp only [List.length_drop, List.length_take]; rfl)) ?_; (with_reducible refine (calendar_DaysInMonth.calls t188 t189 t205 t206 _ ?side1 A23.out).mono ?_); (case side1 => first | (with_reducible exact hT_md) | exact Tab_md.below hT_md (by repeat (first | (with_reducible first | exact HB.out | apply below_alloc | apply pw_below_drewN | apply below_drew1 | refine below_set ?_ GE192.out | refine below_set ?_ GE200.out) | exact HB.out))); rintro e w' ⟨rfl, ⟨nd, rfl⟩⟩; refine ⟨_, rfl, ?_⟩; have hcz39_0 : wc.cell? ⟨gb200, 0, none⟩ = some (.int .i64 t196) := (blk_cell BK200.out 0).trans rfl; have hcz39_1 : wc.cell? ⟨gb200, 1, none⟩ = some (.int .i64 t197) := (blk_cell BK200.out 1).trans rfl; have hcz39_2 : wc.cell? ⟨gb200, 2, none⟩ = some (.int .i64 t198) := (blk_cell BK200.out 2).trans rfl; have hfz39_0 := blk_frozen BK200.out 0; have hfz39_1 := blk_frozen BK200.out 1; have hfz39_2 := blk_frozen BK200.out 2) | (go_at_call 12; (with_reducible refine (pairinglaw6_awake.calls kj5  t208 _ ?side1 A36.out).mono ?_); (case side1 => first | (with_reducible exact hT_md) | exact Tab_md.below hT_md (by repeat (first | (with_reducible first | exact HB.out | apply below_alloc | apply pw_below_drewN | apply below_drew1 | refine below_set ?_ GE192.out | refine below_set ?_ GE200.out) | exact HB.out))); rintro e w40 ⟨rfl, hb⟩; have n0_ := Aside0.mk (blk_below (g := gb192) (o := .cells #[.int .i64 t188, .int .i64 t189, .int .i64 t190] 27 (0, 0)) (by (with_reducible repeat (first | refine blk_drewN ?_ _ | refine blk_drew ?_ | refine blk_alloc ?_ _)); exact BK192.out) hb); have n1_ := Aside0.mk (blk_below (g := gb200) (o := .cells #[.int .i64 t196, .int .i64 t197, .int .i64 t198] 27 (0, 0)) (by (with_reducible repeat (first | refine blk_drewN ?_ _ | refine blk_drew ?_ | refine blk_alloc ?_ _)); exact BK200.out) hb); have n2_ := Aside0.mk (below_step (by repeat (first | (with_reducible first | exact HB.out | apply below_alloc | apply pw_below_drewN | apply below_drew1 | refine below_set ?_ GE192.out | refine below_set ?_ GE200.out) | exact HB.out)) hb); clear BK192; clear BK200; clear HB; have BK192 := n0_; have BK200 := n1_; have HB := n2_; clear n0_ n1_ n2_; (try clear hb); (try clear hb2); (try clear hk); (try clear hi)))
                  go_ret
                  exact ⟨by first | rfl | (simp [errW_none, errW_some] <;> rfl) | (simp [*, errW_none, errW_some] <;> rfl), by repeat (first | (with_reducible first | exact HB.out | apply below_alloc | apply pw_below_drewN | apply below_drew1 | refine below_set ?_ GE192.out | refine below_set ?_ GE200.out) | exact HB.out)⟩
                · rw [if_neg c35] at H
                  have c35b0 : (t196 == t188 && (t197 == (wrap64 (t189 + 1)) && (t198 == 1))) = false := by simpa using c35
                  (try (have c35b1 : decide (t196 = t188 && (t197 == (wrap64 (t189 + 1)) && (t198 == 1))) = false := by simpa using c35))
                  (try (have c35b2 : (t196 == t188 && (t197 == (wrap64 (t189 + 1)) && (t198 == 1))) = false := by simpa using c35))
                  (try (have c35b3 : ¬ (t196 = t188 && (t197 == (wrap64 (t189 + 1)) && (t198 == 1))) := by simpa using c35))
                  clear c35
                  obtain rfl := Option.some.inj H
                  have hnb41 := NB192_200.out
                  have hnc41 := NB200_192.out
                  have hcz42_0 : wc.cell? ⟨gb192, 0, none⟩ = some (.int .i64 t188) := (blk_cell BK192.out 0).trans rfl
                  have hcz42_1 : wc.cell? ⟨gb192, 1, none⟩ = some (.int .i64 t189) := (blk_cell BK192.out 1).trans rfl
                  have hcz42_2 : wc.cell? ⟨gb192, 2, none⟩ = some (.int .i64 t190) := (blk_cell BK192.out 2).trans rfl
                  have hfz42_0 := blk_frozen BK192.out 0
                  have hfz42_1 := blk_frozen BK192.out 1
                  have hfz42_2 := blk_frozen BK192.out 2
                  go_wp2_with (first | ((with_reducible refine gate_callee (f := 13) rfl ?_); refine goesL_ (some 77) rfl rfl Tryd.func13 (by kernel_rfl) rfl #[.int .i64 t188, .int .i64 t189] rfl (by (try simp only [List.map_toArray, List.map_cons, List.map_nil]); first | done | rfl | (simp only [List.length_drop, List.length_take]; rfl)) ?_; (with_reducible refine (calendar_DaysInMonth.calls t188 t189 t205 t206 _ ?side1 A23.out).mono ?_); (case side1 => first | (with_reducible exact hT_md) | exact Tab_md.below hT_md (by repeat (first | (with_reducible first | exact HB.out | apply below_alloc | apply pw_below_drewN | apply below_drew1 | refine below_set ?_ GE192.out | refine below_set ?_ GE200.out) | exact HB.out))); rintro e w' ⟨rfl, ⟨nd, rfl⟩⟩; refine ⟨_, rfl, ?_⟩; have hcz43_0 : wc.cell? ⟨gb200, 0, none⟩ = some (.int .i64 t196) := (blk_cell BK200.out 0).trans rfl; have hcz43_1 : wc.cell? ⟨gb200, 1, none⟩ = some (.int .i64 t197) := (blk_cell BK200.out 1).trans rfl; have hcz43_2 : wc.cell? ⟨gb200, 2, none⟩ = some (.int .i64 t198) := (blk_cell BK200.out 2).trans rfl; have hfz43_0 := blk_frozen BK200.out 0; have hfz43_1 := blk_frozen BK200.out 1; have hfz43_2 := blk_frozen BK200.out 2))
                  go_ret
                  exact ⟨by first | rfl | (simp [errW_none, errW_some] <;> rfl) | (simp [*, errW_none, errW_some] <;> rfl), by repeat (first | (with_reducible first | exact HB.out | apply below_alloc | apply pw_below_drewN | apply below_drew1 | refine below_set ?_ GE192.out | refine below_set ?_ GE200.out) | exact HB.out)⟩
              · rw [if_neg c34] at H
                have c34b0 : decide (t189 < 12) = false := decide_eq_false c34
                clear c34
                by_cases c44 : (t196 == (wrap64 (t188 + 1)) && (t197 == 1 && (t198 == 1))) = true
                · rw [if_pos c44] at H
                  have c44b0 : (t196 == (wrap64 (t188 + 1)) && (t197 == 1 && (t198 == 1))) = true := c44
                  (try (have c44b1 : decide (t196 = (wrap64 (t188 + 1)) && (t197 == 1 && (t198 == 1))) = true := by simpa using c44))
                  (try (have c44b2 : (t196 == (wrap64 (t188 + 1)) && (t197 == 1 && (t198 == 1))) = true := by simpa using c44))
                  clear c44
                  replace H := Option.bind_eq_some_iff.mp H
                  obtain ⟨t209, A450, H⟩ := H
                  replace H : (some t209) = some r := H
                  have A45 := Aside0.mk A450
                  clear A450
                  obtain rfl := Option.some.inj H
                  have hnb46 := NB192_200.out
                  have hnc46 := NB200_192.out
                  have hcz47_0 : wc.cell? ⟨gb192, 0, none⟩ = some (.int .i64 t188) := (blk_cell BK192.out 0).trans rfl
                  have hcz47_1 : wc.cell? ⟨gb192, 1, none⟩ = some (.int .i64 t189) := (blk_cell BK192.out 1).trans rfl
                  have hcz47_2 : wc.cell? ⟨gb192, 2, none⟩ = some (.int .i64 t190) := (blk_cell BK192.out 2).trans rfl
                  have hfz47_0 := blk_frozen BK192.out 0
                  have hfz47_1 := blk_frozen BK192.out 1
                  have hfz47_2 := blk_frozen BK192.out 2
                  go_wp2_with (first | ((with_reducible refine gate_callee (f := 13) rfl ?_); refine goesL_ (some 77) rfl rfl Tryd.func13 (by kernel_rfl) rfl #[.int .i64 t188, .int .i64 t189] rfl (by (try simp only [List.map_toArray, List.map_cons, List.map_nil]); first | done | rfl | (simp only [List.length_drop, List.length_take]; rfl)) ?_; (with_reducible refine (calendar_DaysInMonth.calls t188 t189 t205 t206 _ ?side1 A23.out).mono ?_); (case side1 => first | (with_reducible exact hT_md) | exact Tab_md.below hT_md (by repeat (first | (with_reducible first | exact HB.out | apply below_alloc | apply pw_below_drewN | apply below_drew1 | refine below_set ?_ GE192.out | refine below_set ?_ GE200.out) | exact HB.out))); rintro e w' ⟨rfl, ⟨nd, rfl⟩⟩; refine ⟨_, rfl, ?_⟩; have hcz48_0 : wc.cell? ⟨gb200, 0, none⟩ = some (.int .i64 t196) := (blk_cell BK200.out 0).trans rfl; have hcz48_1 : wc.cell? ⟨gb200, 1, none⟩ = some (.int .i64 t197) := (blk_cell BK200.out 1).trans rfl; have hcz48_2 : wc.cell? ⟨gb200, 2, none⟩ = some (.int .i64 t198) := (blk_cell BK200.out 2).trans rfl; have hfz48_0 := blk_frozen BK200.out 0; have hfz48_1 := blk_frozen BK200.out 1; have hfz48_2 := blk_frozen BK200.out 2) | (go_at_call 12; (with_reducible refine (pairinglaw6_awake.calls kj5  t209 _ ?side1 A45.out).mono ?_); (case side1 => first | (with_reducible exact hT_md) | exact Tab_md.below hT_md (by repeat (first | (with_reducible first | exact HB.out | apply below_alloc | apply pw_below_drewN | apply below_drew1 | refine below_set ?_ GE192.out | refine below_set ?_ GE200.out) | exact HB.out))); rintro e w49 ⟨rfl, hb⟩; have n0_ := Aside0.mk (blk_below (g := gb192) (o := .cells #[.int .i64 t188, .int .i64 t189, .int .i64 t190] 27 (0, 0)) (by (with_reducible repeat (first | refine blk_drewN ?_ _ | refine blk_drew ?_ | refine blk_alloc ?_ _)); exact BK192.out) hb); have n1_ := Aside0.mk (blk_below (g := gb200) (o := .cells #[.int .i64 t196, .int .i64 t197, .int .i64 t198] 27 (0, 0)) (by (with_reducible repeat (first | refine blk_drewN ?_ _ | refine blk_drew ?_ | refine blk_alloc ?_ _)); exact BK200.out) hb); have n2_ := Aside0.mk (below_step (by repeat (first | (with_reducible first | exact HB.out | apply below_alloc | apply pw_below_drewN | apply below_drew1 | refine below_set ?_ GE192.out | refine below_set ?_ GE200.out) | exact HB.out)) hb); clear BK192; clear BK200; clear HB; have BK192 := n0_; have BK200 := n1_; have HB := n2_; clear n0_ n1_ n2_; (try clear hb); (try clear hb2); (try clear hk); (try clear hi)))
                  go_ret
                  exact ⟨by first | rfl | (simp [errW_none, errW_some] <;> rfl) | (simp [*, errW_none, errW_some] <;> rfl), by repeat (first | (with_reducible first | exact HB.out | apply below_alloc | apply pw_below_drewN | apply below_drew1 | refine below_set ?_ GE192.out | refine below_set ?_ GE200.out) | exact HB.out)⟩
                · rw [if_neg c44] at H
                  have c44b0 : (t196 == (wrap64 (t188 + 1)) && (t197 == 1 && (t198 == 1))) = false := by simpa using c44
                  (try (have c44b1 : decide (t196 = (wrap64 (t188 + 1)) && (t197 == 1 && (t198 == 1))) = false := by simpa using c44))
                  (try (have c44b2 : (t196 == (wrap64 (t188 + 1)) && (t197 == 1 && (t198 == 1))) = false := by simpa using c44))
                  (try (have c44b3 : ¬ (t196 = (wrap64 (t188 + 1)) && (t197 == 1 && (t198 == 1))) := by simpa using c44))
                  clear c44
                  obtain rfl := Option.some.inj H
                  have hnb50 := NB192_200.out
                  have hnc50 := NB200_192.out
                  have hcz51_0 : wc.cell? ⟨gb192, 0, none⟩ = some (.int .i64 t188) := (blk_cell BK192.out 0).trans rfl
                  have hcz51_1 : wc.cell? ⟨gb192, 1, none⟩ = some (.int .i64 t189) := (blk_cell BK192.out 1).trans rfl
                  have hcz51_2 : wc.cell? ⟨gb192, 2, none⟩ = some (.int .i64 t190) := (blk_cell BK192.out 2).trans rfl
                  have hfz51_0 := blk_frozen BK192.out 0
                  have hfz51_1 := blk_frozen BK192.out 1
                  have hfz51_2 := blk_frozen BK192.out 2
                  go_wp2_with (first | ((with_reducible refine gate_callee (f := 13) rfl ?_); refine goesL_ (some 77) rfl rfl Tryd.func13 (by kernel_rfl) rfl #[.int .i64 t188, .int .i64 t189] rfl (by (try simp only [List.map_toArray, List.map_cons, List.map_nil]); first | done | rfl | (simp only [List.length_drop, List.length_take]; rfl)) ?_; (with_reducible refine (calendar_DaysInMonth.calls t188 t189 t205 t206 _ ?side1 A23.out).mono ?_); (case side1 => first | (with_reducible exact hT_md) | exact Tab_md.below hT_md (by repeat (first | (with_reducible first | exact HB.out | apply below_alloc | apply pw_below_drewN | apply below_drew1 | refine below_set ?_ GE192.out | refine below_set ?_ GE200.out) | exact HB.out))); rintro e w' ⟨rfl, ⟨nd, rfl⟩⟩; refine ⟨_, rfl, ?_⟩; have hcz52_0 : wc.cell? ⟨gb200, 0, none⟩ = some (.int .i64 t196) := (blk_cell BK200.out 0).trans rfl; have hcz52_1 : wc.cell? ⟨gb200, 1, none⟩ = some (.int .i64 t197) := (blk_cell BK200.out 1).trans rfl; have hcz52_2 : wc.cell? ⟨gb200, 2, none⟩ = some (.int .i64 t198) := (blk_cell BK200.out 2).trans rfl; have hfz52_0 := blk_frozen BK200.out 0; have hfz52_1 := blk_frozen BK200.out 1; have hfz52_2 := blk_frozen BK200.out 2))
                  go_ret
                  exact ⟨by first | rfl | (simp [errW_none, errW_some] <;> rfl) | (simp [*, errW_none, errW_some] <;> rfl), by repeat (first | (with_reducible first | exact HB.out | apply below_alloc | apply pw_below_drewN | apply below_drew1 | refine below_set ?_ GE192.out | refine below_set ?_ GE200.out) | exact HB.out)⟩
          · rw [if_neg c22] at H
            have c22b0 : (t199 == 0) = false := beq_eq_false_iff_ne.mpr c22
            have c22b1 : (t199 != 0) = true := bne_iff_ne.mpr c22
            by_cases c53 : (t188 == 2100 && (t189 == 12 && (t190 == 31))) = true
            · rw [if_pos c53] at H
              have c53b0 : (t188 == 2100 && (t189 == 12 && (t190 == 31))) = true := c53
              (try (have c53b1 : decide (t188 = 2100 && (t189 == 12 && (t190 == 31))) = true := by simpa using c53))
              (try (have c53b2 : (t188 == 2100 && (t189 == 12 && (t190 == 31))) = true := by simpa using c53))
              clear c53
              replace H := Option.bind_eq_some_iff.mp H
              obtain ⟨t204, A540, H⟩ := H
              replace H : (some t204) = some r := H
              have A54 := Aside0.mk A540
              clear A540
              obtain rfl := Option.some.inj H
              have hnb55 := NB192_200.out
              have hnc55 := NB200_192.out
              have hcz56_0 : wc.cell? ⟨gb192, 0, none⟩ = some (.int .i64 t188) := (blk_cell BK192.out 0).trans rfl
              have hcz56_1 : wc.cell? ⟨gb192, 1, none⟩ = some (.int .i64 t189) := (blk_cell BK192.out 1).trans rfl
              have hcz56_2 : wc.cell? ⟨gb192, 2, none⟩ = some (.int .i64 t190) := (blk_cell BK192.out 2).trans rfl
              have hfz56_0 := blk_frozen BK192.out 0
              have hfz56_1 := blk_frozen BK192.out 1
              have hfz56_2 := blk_frozen BK192.out 2
              go_wp2_with (first | (go_at_call 12; (with_reducible refine (pairinglaw6_awake.calls kj5  t204 _ ?side1 A54.out).mono ?_); (case side1 => first | (with_reducible exact hT_md) | exact Tab_md.below hT_md (by repeat (first | (with_reducible first | exact HB.out | apply below_alloc | apply pw_below_drewN | apply below_drew1 | refine below_set ?_ GE192.out | refine below_set ?_ GE200.out) | exact HB.out))); rintro e w57 ⟨rfl, hb⟩; have n0_ := Aside0.mk (blk_below (g := gb192) (o := .cells #[.int .i64 t188, .int .i64 t189, .int .i64 t190] 27 (0, 0)) (by (with_reducible repeat (first | refine blk_drewN ?_ _ | refine blk_drew ?_ | refine blk_alloc ?_ _)); exact BK192.out) hb); have n1_ := Aside0.mk (blk_below (g := gb200) (o := .cells #[.int .i64 t196, .int .i64 t197, .int .i64 t198] 27 (0, 0)) (by (with_reducible repeat (first | refine blk_drewN ?_ _ | refine blk_drew ?_ | refine blk_alloc ?_ _)); exact BK200.out) hb); have n2_ := Aside0.mk (below_step (by repeat (first | (with_reducible first | exact HB.out | apply below_alloc | apply pw_below_drewN | apply below_drew1 | refine below_set ?_ GE192.out | refine below_set ?_ GE200.out) | exact HB.out)) hb); clear BK192; clear BK200; clear HB; have BK192 := n0_; have BK200 := n1_; have HB := n2_; clear n0_ n1_ n2_; (try clear hb); (try clear hb2); (try clear hk); (try clear hi)))
              go_ret
              exact ⟨by first | rfl | (simp [errW_none, errW_some] <;> rfl) | (simp [*, errW_none, errW_some] <;> rfl), by repeat (first | (with_reducible first | exact HB.out | apply below_alloc | apply pw_below_drewN | apply below_drew1 | refine below_set ?_ GE192.out | refine below_set ?_ GE200.out) | exact HB.out)⟩
            · rw [if_neg c53] at H
              have c53b0 : (t188 == 2100 && (t189 == 12 && (t190 == 31))) = false := by simpa using c53
              (try (have c53b1 : decide (t188 = 2100 && (t189 == 12 && (t190 == 31))) = false := by simpa using c53))
              (try (have c53b2 : (t188 == 2100 && (t189 == 12 && (t190 == 31))) = false := by simpa using c53))
              (try (have c53b3 : ¬ (t188 = 2100 && (t189 == 12 && (t190 == 31))) := by simpa using c53))
              clear c53
              obtain rfl := Option.some.inj H
              have hnb58 := NB192_200.out
              have hnc58 := NB200_192.out
              have hcz59_0 : wc.cell? ⟨gb192, 0, none⟩ = some (.int .i64 t188) := (blk_cell BK192.out 0).trans rfl
              have hcz59_1 : wc.cell? ⟨gb192, 1, none⟩ = some (.int .i64 t189) := (blk_cell BK192.out 1).trans rfl
              have hcz59_2 : wc.cell? ⟨gb192, 2, none⟩ = some (.int .i64 t190) := (blk_cell BK192.out 2).trans rfl
              have hfz59_0 := blk_frozen BK192.out 0
              have hfz59_1 := blk_frozen BK192.out 1
              have hfz59_2 := blk_frozen BK192.out 2
              go_wp2
              go_ret
              exact ⟨by first | rfl | (simp [errW_none, errW_some] <;> rfl) | (simp [*, errW_none, errW_some] <;> rfl), by repeat (first | (with_reducible first | exact HB.out | apply below_alloc | apply pw_below_drewN | apply below_drew1 | refine below_set ?_ GE192.out | refine below_set ?_ GE200.out) | exact HB.out)⟩
  · rw [if_neg c3] at H
    have c3b0 : (t191 == 0) = false := beq_eq_false_iff_ne.mpr c3
    have c3b1 : (t191 != 0) = true := bne_iff_ne.mpr c3
    by_cases c60 : t191 = 5
    · rw [if_pos c60] at H
      have c60b0 : (t191 == 5) = true := beq_iff_eq.mpr c60
      have c60b1 : (t191 != 5) = false := bne_eq_false_iff_eq.mpr c60
      clear c60
      by_cases c61 : (t188 == 0 && (t189 == 0 && (t190 == 0))) = true
      · rw [if_pos c61] at H
        have c61b0 : (t188 == 0 && (t189 == 0 && (t190 == 0))) = true := c61
        (try (have c61b1 : decide (t188 = 0 && (t189 == 0 && (t190 == 0))) = true := by simpa using c61))
        (try (have c61b2 : (t188 == 0 && (t189 == 0 && (t190 == 0))) = true := by simpa using c61))
        clear c61
        replace H := Option.bind_eq_some_iff.mp H
        obtain ⟨t193, A620, H⟩ := H
        replace H : (some t193) = some r := H
        have A62 := Aside0.mk A620
        clear A620
        obtain rfl := Option.some.inj H
        go_enter Tryd.func6, Tryd.ntmps6
        go_wp2_with (first | ((with_reducible refine gate_callee (f := 19) rfl ?_); refine goesL_ (some 13) rfl rfl Tryd.func19 (by kernel_rfl) rfl #[.int .i64 a0] rfl (by (try simp only [List.map_toArray, List.map_cons, List.map_nil]); first | done | rfl | (simp only [List.length_drop, List.length_take]; rfl)) ?_; (with_reducible refine (calendar_DateOf.calls k a0 t188 t189 t190 t191 _ ?side1 A2.out).mono ?_); (case side1 => first | (with_reducible exact hT_md) | exact Tab_md.below hT_md (by repeat (first | (with_reducible first | exact HB.out | apply below_alloc | apply pw_below_drewN | apply below_drew1) | exact HB.out))); rintro e w63 ⟨rfl, hb⟩; refine ⟨_, rfl, ?_⟩; have n0_ := Aside0.mk (below_step (by repeat (first | (with_reducible first | exact HB.out | apply below_alloc | apply pw_below_drewN | apply below_drew1) | exact HB.out)) hb); clear HB; have HB := n0_; clear n0_; (try clear hb); (try clear hb2); (try clear hk); (try clear hi)) | ((with_reducible refine gate_dst (N := 3) rfl ?_); refine box_event ?hg (N := 3) ?hd (cs := #[.int .i64 0, .int .i64 0, .int .i64 0]) (t := 27) ?hr ?_; (case hd => rfl); (case hg => rfl); (case hr => first | (go_simp; done) | (go_simp; rfl)); intro gb192 hg w64 hbox hb; have n0_ := Aside0.mk (below_step (by repeat (first | (with_reducible first | exact HB.out | apply below_alloc | apply pw_below_drewN | apply below_drew1) | exact HB.out)) hb); have n1_ := Aside0.mk (hbox); have n2_ := Aside0.mk ((by rw [hg]; exact (below_size (by repeat (first | (with_reducible first | exact HB.out | apply below_alloc | apply pw_below_drewN | apply below_drew1) | exact HB.out))) : w.heap.size ≤ gb192)); have n3_ := Aside0.mk ((by rw [hg]; exact (below_size (by repeat (first | (with_reducible first | exact HB.out | apply below_alloc | apply pw_below_drewN | apply below_drew1) | exact HB.out))) : w.heap.size ≤ gb192)); clear HB; have HB := n0_; have BK192 := n1_; have GW192 := n2_; have GE192 := n3_; clear n0_ n1_ n2_ n3_; clear hb hbox hg; have hcz65_0 : w64.cell? ⟨gb192, 0, none⟩ = some (.int .i64 0) := (blk_cell BK192.out 0).trans rfl; have hcz65_1 : w64.cell? ⟨gb192, 1, none⟩ = some (.int .i64 0) := (blk_cell BK192.out 1).trans rfl; have hcz65_2 : w64.cell? ⟨gb192, 2, none⟩ = some (.int .i64 0) := (blk_cell BK192.out 2).trans rfl; have hfz65_0 := blk_frozen BK192.out 0; have hfz65_1 := blk_frozen BK192.out 1; have hfz65_2 := blk_frozen BK192.out 2) | (go_at_call 12; (with_reducible refine (pairinglaw6_awake.calls k  t193 _ ?side1 A62.out).mono ?_); (case side1 => first | (with_reducible exact hT_md) | exact Tab_md.below hT_md (by repeat (first | (with_reducible first | exact HB.out | apply below_alloc | apply pw_below_drewN | apply below_drew1 | refine below_set ?_ GE192.out) | exact HB.out))); rintro e w66 ⟨rfl, hb⟩; have n0_ := Aside0.mk (blk_below (g := gb192) (o := .cells #[.int .i64 t188, .int .i64 t189, .int .i64 t190] 27 (0, 0)) (by (with_reducible repeat (first | refine blk_drewN ?_ _ | refine blk_drew ?_ | refine blk_alloc ?_ _)); refine blk_put (cs := #[.int .i64 t188, .int .i64 t189, .int .i64 0]) ?_ 2 _ rfl; (with_reducible repeat (first | refine blk_drewN ?_ _ | refine blk_drew ?_ | refine blk_alloc ?_ _)); refine blk_put (cs := #[.int .i64 t188, .int .i64 0, .int .i64 0]) ?_ 1 _ rfl; (with_reducible repeat (first | refine blk_drewN ?_ _ | refine blk_drew ?_ | refine blk_alloc ?_ _)); refine blk_put (cs := #[.int .i64 0, .int .i64 0, .int .i64 0]) ?_ 0 _ rfl; (with_reducible repeat (first | refine blk_drewN ?_ _ | refine blk_drew ?_ | refine blk_alloc ?_ _)); exact BK192.out) hb); have n1_ := Aside0.mk (below_step (by repeat (first | (with_reducible first | exact HB.out | apply below_alloc | apply pw_below_drewN | apply below_drew1 | refine below_set ?_ GE192.out) | exact HB.out)) hb); clear BK192; clear HB; have BK192 := n0_; have HB := n1_; clear n0_ n1_; (try clear hb); (try clear hb2); (try clear hk); (try clear hi)))
        go_ret
        exact ⟨by first | rfl | (simp [errW_none, errW_some] <;> rfl) | (simp [*, errW_none, errW_some] <;> rfl), by repeat (first | (with_reducible first | exact HB.out | apply below_alloc | apply pw_below_drewN | apply below_drew1 | refine below_set ?_ GE192.out) | exact HB.out)⟩
      · rw [if_neg c61] at H
        have c61b0 : (t188 == 0 && (t189 == 0 && (t190 == 0))) = false := by simpa using c61
        (try (have c61b1 : decide (t188 = 0 && (t189 == 0 && (t190 == 0))) = false := by simpa using c61))
        (try (have c61b2 : (t188 == 0 && (t189 == 0 && (t190 == 0))) = false := by simpa using c61))
        (try (have c61b3 : ¬ (t188 = 0 && (t189 == 0 && (t190 == 0))) := by simpa using c61))
        clear c61
        obtain rfl := Option.some.inj H
        go_enter Tryd.func6, Tryd.ntmps6
        go_wp2_with (first | ((with_reducible refine gate_callee (f := 19) rfl ?_); refine goesL_ (some 13) rfl rfl Tryd.func19 (by kernel_rfl) rfl #[.int .i64 a0] rfl (by (try simp only [List.map_toArray, List.map_cons, List.map_nil]); first | done | rfl | (simp only [List.length_drop, List.length_take]; rfl)) ?_; (with_reducible refine (calendar_DateOf.calls k a0 t188 t189 t190 t191 _ ?side1 A2.out).mono ?_); (case side1 => first | (with_reducible exact hT_md) | exact Tab_md.below hT_md (by repeat (first | (with_reducible first | exact HB.out | apply below_alloc | apply pw_below_drewN | apply below_drew1) | exact HB.out))); rintro e w67 ⟨rfl, hb⟩; refine ⟨_, rfl, ?_⟩; have n0_ := Aside0.mk (below_step (by repeat (first | (with_reducible first | exact HB.out | apply below_alloc | apply pw_below_drewN | apply below_drew1) | exact HB.out)) hb); clear HB; have HB := n0_; clear n0_; (try clear hb); (try clear hb2); (try clear hk); (try clear hi)) | ((with_reducible refine gate_dst (N := 3) rfl ?_); refine box_event ?hg (N := 3) ?hd (cs := #[.int .i64 0, .int .i64 0, .int .i64 0]) (t := 27) ?hr ?_; (case hd => rfl); (case hg => rfl); (case hr => first | (go_simp; done) | (go_simp; rfl)); intro gb192 hg w68 hbox hb; have n0_ := Aside0.mk (below_step (by repeat (first | (with_reducible first | exact HB.out | apply below_alloc | apply pw_below_drewN | apply below_drew1) | exact HB.out)) hb); have n1_ := Aside0.mk (hbox); have n2_ := Aside0.mk ((by rw [hg]; exact (below_size (by repeat (first | (with_reducible first | exact HB.out | apply below_alloc | apply pw_below_drewN | apply below_drew1) | exact HB.out))) : w.heap.size ≤ gb192)); have n3_ := Aside0.mk ((by rw [hg]; exact (below_size (by repeat (first | (with_reducible first | exact HB.out | apply below_alloc | apply pw_below_drewN | apply below_drew1) | exact HB.out))) : w.heap.size ≤ gb192)); clear HB; have HB := n0_; have BK192 := n1_; have GW192 := n2_; have GE192 := n3_; clear n0_ n1_ n2_ n3_; clear hb hbox hg; have hcz69_0 : w68.cell? ⟨gb192, 0, none⟩ = some (.int .i64 0) := (blk_cell BK192.out 0).trans rfl; have hcz69_1 : w68.cell? ⟨gb192, 1, none⟩ = some (.int .i64 0) := (blk_cell BK192.out 1).trans rfl; have hcz69_2 : w68.cell? ⟨gb192, 2, none⟩ = some (.int .i64 0) := (blk_cell BK192.out 2).trans rfl; have hfz69_0 := blk_frozen BK192.out 0; have hfz69_1 := blk_frozen BK192.out 1; have hfz69_2 := blk_frozen BK192.out 2))
        go_ret
        exact ⟨by first | rfl | (simp [errW_none, errW_some] <;> rfl) | (simp [*, errW_none, errW_some] <;> rfl), by repeat (first | (with_reducible first | exact HB.out | apply below_alloc | apply pw_below_drewN | apply below_drew1 | refine below_set ?_ GE192.out) | exact HB.out)⟩
    · rw [if_neg c60] at H
      have c60b0 : (t191 == 5) = false := beq_eq_false_iff_ne.mpr c60
      have c60b1 : (t191 != 5) = true := bne_iff_ne.mpr c60
      obtain rfl := Option.some.inj H
      go_enter Tryd.func6, Tryd.ntmps6
      go_wp2_with (first | ((with_reducible refine gate_callee (f := 19) rfl ?_); refine goesL_ (some 13) rfl rfl Tryd.func19 (by kernel_rfl) rfl #[.int .i64 a0] rfl (by (try simp only [List.map_toArray, List.map_cons, List.map_nil]); first | done | rfl | (simp only [List.length_drop, List.length_take]; rfl)) ?_; (with_reducible refine (calendar_DateOf.calls k a0 t188 t189 t190 t191 _ ?side1 A2.out).mono ?_); (case side1 => first | (with_reducible exact hT_md) | exact Tab_md.below hT_md (by repeat (first | (with_reducible first | exact HB.out | apply below_alloc | apply pw_below_drewN | apply below_drew1) | exact HB.out))); rintro e w70 ⟨rfl, hb⟩; refine ⟨_, rfl, ?_⟩; have n0_ := Aside0.mk (below_step (by repeat (first | (with_reducible first | exact HB.out | apply below_alloc | apply pw_below_drewN | apply below_drew1) | exact HB.out)) hb); clear HB; have HB := n0_; clear n0_; (try clear hb); (try clear hb2); (try clear hk); (try clear hi)) | ((with_reducible refine gate_dst (N := 3) rfl ?_); refine box_event ?hg (N := 3) ?hd (cs := #[.int .i64 0, .int .i64 0, .int .i64 0]) (t := 27) ?hr ?_; (case hd => rfl); (case hg => rfl); (case hr => first | (go_simp; done) | (go_simp; rfl)); intro gb192 hg w71 hbox hb; have n0_ := Aside0.mk (below_step (by repeat (first | (with_reducible first | exact HB.out | apply below_alloc | apply pw_below_drewN | apply below_drew1) | exact HB.out)) hb); have n1_ := Aside0.mk (hbox); have n2_ := Aside0.mk ((by rw [hg]; exact (below_size (by repeat (first | (with_reducible first | exact HB.out | apply below_alloc | apply pw_below_drewN | apply below_drew1) | exact HB.out))) : w.heap.size ≤ gb192)); have n3_ := Aside0.mk ((by rw [hg]; exact (below_size (by repeat (first | (with_reducible first | exact HB.out | apply below_alloc | apply pw_below_drewN | apply below_drew1) | exact HB.out))) : w.heap.size ≤ gb192)); clear HB; have HB := n0_; have BK192 := n1_; have GW192 := n2_; have GE192 := n3_; clear n0_ n1_ n2_ n3_; clear hb hbox hg; have hcz72_0 : w71.cell? ⟨gb192, 0, none⟩ = some (.int .i64 0) := (blk_cell BK192.out 0).trans rfl; have hcz72_1 : w71.cell? ⟨gb192, 1, none⟩ = some (.int .i64 0) := (blk_cell BK192.out 1).trans rfl; have hcz72_2 : w71.cell? ⟨gb192, 2, none⟩ = some (.int .i64 0) := (blk_cell BK192.out 2).trans rfl; have hfz72_0 := blk_frozen BK192.out 0; have hfz72_1 := blk_frozen BK192.out 1; have hfz72_2 := blk_frozen BK192.out 2))
      go_ret
      exact ⟨by first | rfl | (simp [errW_none, errW_some] <;> rfl) | (simp [*, errW_none, errW_some] <;> rfl), by repeat (first | (with_reducible first | exact HB.out | apply below_alloc | apply pw_below_drewN | apply below_drew1 | refine below_set ?_ GE192.out) | exact HB.out)⟩

/-- THE ONE PURE STATEMENT of pairinglaw6_CalendarBack. -/
def pairinglaw6_CalendarBack.Pure : Prop := ∀ (a0 : Int), (Lit.int .i64 a0).wf = true → ∃ k, pairinglaw6_CalendarBack.f k a0 = some true

end Go.Proofs.YtdpkemjbiengfaaDoor.QCal
