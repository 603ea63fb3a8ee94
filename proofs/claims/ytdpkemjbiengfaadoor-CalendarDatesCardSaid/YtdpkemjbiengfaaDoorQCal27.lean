/- Written by a program (wip/myprint.py): the Go functions that the laws reach, each as a plain Lean function, and a proof that the machine's call answers as that function says. -/
import Derived.Test.YtdpkemjbiengfaaDoorQCal0
import Derived.Test.YtdpkemjbiengfaaDoorQCal1
import Derived.Test.YtdpkemjbiengfaaDoorQCal4
import Derived.Test.YtdpkemjbiengfaaDoorQCal16
import Derived.Test.YtdpkemjbiengfaaDoorQCal18
import Derived.Test.YtdpkemjbiengfaaDoorQCal20
import Derived.Test.YtdpkemjbiengfaaDoorQCal22
import Derived.Test.YtdpkemjbiengfaaDoorQCal23
import Derived.Test.YtdpkemjbiengfaaDoorQCal24
import Derived.Test.YtdpkemjbiengfaaDoorQCal25
import Derived.Test.YtdpkemjbiengfaaDoorQCal26
namespace Go.Proofs.YtdpkemjbiengfaaDoor.QCal
open Go.RowKit Go.Proofs.YtdpkemjbiengfaaDoorW.PrintWords Go.Proofs.YtdpkemjbiengfaaDoorW.PrintLast Go.Proofs.YtdpkemjbiengfaaDoorW.PrintMore
attribute [local go_sem] max2_int min2_int max_two min_two max_three min_three max_four min_four   -- for this text's walks alone
set_option linter.unusedVariables false
set_option linter.unusedSimpArgs false

attribute [local go_sem high] eqA27
/-! ### pairinglaw6_CalendarDates: function 7 -/
mutual
def pairinglaw6_CalendarDates.j0 : Nat → ByteArray → Int → ByteArray → Int → Bool → Int → Int → Int → Option (Bool)
  | 0, _, _, _, _, _, _, _, _ => none
  | k + 1, x1, x3, x13, x14, x66, x255000, x255001, x255002 => if x66 = true then (some false) else ((calendar_ParseClock.f k x1).bind fun bt269 => ((pairingref5_ParseClock.f k x1).bind fun bt271 => ((calendar_FormatClock.f k x3).bind fun bt273 => ((pairingref5_FormatClock.f k x3).bind fun bt275 => (if bt269.2 = bt271.2 then (if bt269.1 = bt271.1 then (if bt273.2 = bt275.2 then (pairinglaw6_CalendarDates.j1 k x3 x13 x14 bt273.1 bt273.2 (bt273.1.toList != bt275.1.toList) x255000 x255001 x255002) else (pairinglaw6_CalendarDates.j1 k x3 x13 x14 bt273.1 bt273.2 true x255000 x255001 x255002)) else (pairinglaw6_CalendarDates.j1 k x3 x13 x14 bt273.1 bt273.2 true x255000 x255001 x255002)) else (pairinglaw6_CalendarDates.j1 k x3 x13 x14 bt273.1 bt273.2 true x255000 x255001 x255002))))))
def pairinglaw6_CalendarDates.j1 : Nat → Int → ByteArray → Int → ByteArray → Int → Bool → Int → Int → Int → Option (Bool)
  | 0, _, _, _, _, _, _, _, _, _ => none
  | k + 1, x3, x13, x14, x21, x22, x104, x255000, x255001, x255002 => if x104 = true then (some false) else (if x14 = 0 then ((calendar_ParseDate.f k x13).bind fun bt277 => (if bt277.2.2.2 = 0 then (if (!(bt277.1 == x255000) || (!(bt277.2.1 == x255001) || (!(bt277.2.2.1 == x255002)))) = true then (some false) else (pairinglaw6_CalendarDates.j2 k x3 x21 x22)) else (some false))) else (pairinglaw6_CalendarDates.j2 k x3 x21 x22))
def pairinglaw6_CalendarDates.j2 : Nat → Int → ByteArray → Int → Option (Bool)
  | 0, _, _, _ => none
  | k + 1, x3, x21, x22 => if x22 = 0 then ((calendar_ParseClock.f k x21).bind fun bt282 => (if bt282.2 = 0 then (if bt282.1 = x3 then ((pairinglaw6_awake.f k).bind fun t284 => (some t284)) else (some false)) else (some false))) else ((pairinglaw6_awake.f k).bind fun t285 => (some t285))
end
def pairinglaw6_CalendarDates.f (k : Nat) (a0 : ByteArray) (a1 : ByteArray) (a2_0 : Int) (a2_1 : Int) (a2_2 : Int) (a3 : Int) : Option (Bool) := (calendar_ParseDate.f k a0).bind fun bt255 => ((pairingref5_ParseDate.f k a0).bind fun bt260 => ((calendar_FormatDate.f k a2_0 a2_1 a2_2).bind fun bt265 => ((pairingref5_FormatDate.f k a2_0 a2_1 a2_2).bind fun bt267 => (if bt255.2.2.2 = bt260.2.2.2 then (if (!(bt255.1 == bt260.1) || (!(bt255.2.1 == bt260.2.1) || (!(bt255.2.2.1 == bt260.2.2.1)))) = true then (pairinglaw6_CalendarDates.j0 k a1 a3 bt265.1 bt265.2 true a2_0 a2_1 a2_2) else (if bt265.2 = bt267.2 then (pairinglaw6_CalendarDates.j0 k a1 a3 bt265.1 bt265.2 (bt265.1.toList != bt267.1.toList) a2_0 a2_1 a2_2) else (pairinglaw6_CalendarDates.j0 k a1 a3 bt265.1 bt265.2 true a2_0 a2_1 a2_2))) else (pairinglaw6_CalendarDates.j0 k a1 a3 bt265.1 bt265.2 true a2_0 a2_1 a2_2)))))
theorem pairinglaw6_CalendarDates.mono_l : ∀ k, (∀ y0 y1 y2 y3 y4 y5 y6 y7, LeO (pairinglaw6_CalendarDates.j0 k y0 y1 y2 y3 y4 y5 y6 y7) (pairinglaw6_CalendarDates.j0 (k + 1) y0 y1 y2 y3 y4 y5 y6 y7)) ∧ (∀ y0 y1 y2 y3 y4 y5 y6 y7 y8, LeO (pairinglaw6_CalendarDates.j1 k y0 y1 y2 y3 y4 y5 y6 y7 y8) (pairinglaw6_CalendarDates.j1 (k + 1) y0 y1 y2 y3 y4 y5 y6 y7 y8)) ∧ (∀ y0 y1 y2, LeO (pairinglaw6_CalendarDates.j2 k y0 y1 y2) (pairinglaw6_CalendarDates.j2 (k + 1) y0 y1 y2))
  | 0 => ⟨fun _ _ _ _ _ _ _ _ r h => by simp [pairinglaw6_CalendarDates.j0] at h, fun _ _ _ _ _ _ _ _ _ r h => by simp [pairinglaw6_CalendarDates.j1] at h, fun _ _ _ r h => by simp [pairinglaw6_CalendarDates.j2] at h⟩
  | k + 1 => by
    obtain ⟨ih0, ih1, ih2⟩ := pairinglaw6_CalendarDates.mono_l k
    refine ⟨?_, ?_, ?_⟩
    · intro y0 y1 y2 y3 y4 y5 y6 y7
      unfold pairinglaw6_CalendarDates.j0
      repeat' first
      | (with_reducible exact ih0 _ _ _ _ _ _ _ _)
      | (with_reducible exact ih1 _ _ _ _ _ _ _ _ _)
      | (with_reducible exact ih2 _ _ _)
      | (with_reducible exact calendar_FormatClock.mono _ _)
      | (with_reducible exact calendar_FormatDate.mono _ _ _ _)
      | (with_reducible exact calendar_ParseClock.mono _ _)
      | (with_reducible exact calendar_ParseDate.mono _ _)
      | (with_reducible exact pairinglaw6_awake.mono _)
      | (with_reducible exact pairingref5_FormatClock.mono _ _)
      | (with_reducible exact pairingref5_FormatDate.mono _ _ _ _)
      | (with_reducible exact pairingref5_ParseClock.mono _ _)
      | (with_reducible exact pairingref5_ParseDate.mono _ _)
      | (with_reducible exact LeO.refl _)
      | (with_reducible exact LeO.none _)
      | (with_reducible refine LeO.ite ?_ ?_)
      | (with_reducible refine LeO.bind ?_ (fun _ => ?_))
      | exact ih0 _ _ _ _ _ _ _ _
      | exact ih1 _ _ _ _ _ _ _ _ _
      | exact ih2 _ _ _
      | exact calendar_FormatClock.mono _ _
      | exact calendar_FormatDate.mono _ _ _ _
      | exact calendar_ParseClock.mono _ _
      | exact calendar_ParseDate.mono _ _
      | exact pairinglaw6_awake.mono _
      | exact pairingref5_FormatClock.mono _ _
      | exact pairingref5_FormatDate.mono _ _ _ _
      | exact pairingref5_ParseClock.mono _ _
      | exact pairingref5_ParseDate.mono _ _
      | exact LeO.none _
      | refine LeO.ite ?_ ?_
      | refine LeO.bind ?_ (fun _ => ?_)
    · intro y0 y1 y2 y3 y4 y5 y6 y7 y8
      unfold pairinglaw6_CalendarDates.j1
      repeat' first
      | (with_reducible exact ih0 _ _ _ _ _ _ _ _)
      | (with_reducible exact ih1 _ _ _ _ _ _ _ _ _)
      | (with_reducible exact ih2 _ _ _)
      | (with_reducible exact calendar_FormatClock.mono _ _)
      | (with_reducible exact calendar_FormatDate.mono _ _ _ _)
      | (with_reducible exact calendar_ParseClock.mono _ _)
      | (with_reducible exact calendar_ParseDate.mono _ _)
      | (with_reducible exact pairinglaw6_awake.mono _)
      | (with_reducible exact pairingref5_FormatClock.mono _ _)
      | (with_reducible exact pairingref5_FormatDate.mono _ _ _ _)
      | (with_reducible exact pairingref5_ParseClock.mono _ _)
      | (with_reducible exact pairingref5_ParseDate.mono _ _)
      | (with_reducible exact LeO.refl _)
      | (with_reducible exact LeO.none _)
      | (with_reducible refine LeO.ite ?_ ?_)
      | (with_reducible refine LeO.bind ?_ (fun _ => ?_))
      | exact ih0 _ _ _ _ _ _ _ _
      | exact ih1 _ _ _ _ _ _ _ _ _
      | exact ih2 _ _ _
      | exact calendar_FormatClock.mono _ _
      | exact calendar_FormatDate.mono _ _ _ _
      | exact calendar_ParseClock.mono _ _
      | exact calendar_ParseDate.mono _ _
      | exact pairinglaw6_awake.mono _
      | exact pairingref5_FormatClock.mono _ _
      | exact pairingref5_FormatDate.mono _ _ _ _
      | exact pairingref5_ParseClock.mono _ _
      | exact pairingref5_ParseDate.mono _ _
      | exact LeO.none _
      | refine LeO.ite ?_ ?_
      | refine LeO.bind ?_ (fun _ => ?_)
    · intro y0 y1 y2
      unfold pairinglaw6_CalendarDates.j2
      repeat' first
      | (with_reducible exact ih0 _ _ _ _ _ _ _ _)
      | (with_reducible exact ih1 _ _ _ _ _ _ _ _ _)
      | (with_reducible exact ih2 _ _ _)
      | (with_reducible exact calendar_FormatClock.mono _ _)
      | (with_reducible exact calendar_FormatDate.mono _ _ _ _)
      | (with_reducible exact calendar_ParseClock.mono _ _)
      | (with_reducible exact calendar_ParseDate.mono _ _)
      | (with_reducible exact pairinglaw6_awake.mono _)
      | (with_reducible exact pairingref5_FormatClock.mono _ _)
      | (with_reducible exact pairingref5_FormatDate.mono _ _ _ _)
      | (with_reducible exact pairingref5_ParseClock.mono _ _)
      | (with_reducible exact pairingref5_ParseDate.mono _ _)
      | (with_reducible exact LeO.refl _)
      | (with_reducible exact LeO.none _)
      | (with_reducible refine LeO.ite ?_ ?_)
      | (with_reducible refine LeO.bind ?_ (fun _ => ?_))
      | exact ih0 _ _ _ _ _ _ _ _
      | exact ih1 _ _ _ _ _ _ _ _ _
      | exact ih2 _ _ _
      | exact calendar_FormatClock.mono _ _
      | exact calendar_FormatDate.mono _ _ _ _
      | exact calendar_ParseClock.mono _ _
      | exact calendar_ParseDate.mono _ _
      | exact pairinglaw6_awake.mono _
      | exact pairingref5_FormatClock.mono _ _
      | exact pairingref5_FormatDate.mono _ _ _ _
      | exact pairingref5_ParseClock.mono _ _
      | exact pairingref5_ParseDate.mono _ _
      | exact LeO.none _
      | refine LeO.ite ?_ ?_
      | refine LeO.bind ?_ (fun _ => ?_)
theorem pairinglaw6_CalendarDates.mono : ∀ a0 a1 a2 a3 a4 a5 k, LeO (pairinglaw6_CalendarDates.f k a0 a1 a2 a3 a4 a5) (pairinglaw6_CalendarDates.f (k + 1) a0 a1 a2 a3 a4 a5) := by
  intro a0 a1 a2 a3 a4 a5 k
  obtain ⟨ih0, ih1, ih2⟩ := pairinglaw6_CalendarDates.mono_l k
  unfold pairinglaw6_CalendarDates.f
  repeat' first
      | (with_reducible exact ih0 _ _ _ _ _ _ _ _)
      | (with_reducible exact ih1 _ _ _ _ _ _ _ _ _)
      | (with_reducible exact ih2 _ _ _)
      | (with_reducible exact calendar_FormatClock.mono _ _)
      | (with_reducible exact calendar_FormatDate.mono _ _ _ _)
      | (with_reducible exact calendar_ParseClock.mono _ _)
      | (with_reducible exact calendar_ParseDate.mono _ _)
      | (with_reducible exact pairinglaw6_awake.mono _)
      | (with_reducible exact pairingref5_FormatClock.mono _ _)
      | (with_reducible exact pairingref5_FormatDate.mono _ _ _ _)
      | (with_reducible exact pairingref5_ParseClock.mono _ _)
      | (with_reducible exact pairingref5_ParseDate.mono _ _)
      | (with_reducible exact LeO.refl _)
      | (with_reducible exact LeO.none _)
      | (with_reducible refine LeO.ite ?_ ?_)
      | (with_reducible refine LeO.bind ?_ (fun _ => ?_))
      | exact ih0 _ _ _ _ _ _ _ _
      | exact ih1 _ _ _ _ _ _ _ _ _
      | exact ih2 _ _ _
      | exact calendar_FormatClock.mono _ _
      | exact calendar_FormatDate.mono _ _ _ _
      | exact calendar_ParseClock.mono _ _
      | exact calendar_ParseDate.mono _ _
      | exact pairinglaw6_awake.mono _
      | exact pairingref5_FormatClock.mono _ _
      | exact pairingref5_FormatDate.mono _ _ _ _
      | exact pairingref5_ParseClock.mono _ _
      | exact pairingref5_ParseDate.mono _ _
      | exact LeO.none _
      | refine LeO.ite ?_ ?_
      | refine LeO.bind ?_ (fun _ => ?_)
set_option maxHeartbeats 8000000 in
set_option maxRecDepth 100000 in
theorem pairinglaw6_CalendarDates.calls (k : Nat) (a0 : ByteArray) (a1 : ByteArray) (a2_0 : Int) (a2_1 : Int) (a2_2 : Int) (a3 : Int) (r : Bool) (w : World) (hT_md : Tab_md w) (hT_p10 : Tab_p10 w) (h : pairinglaw6_CalendarDates.f k a0 a1 a2_0 a2_1 a2_2 a3 = some r) :
    Calls Tryd.prog 7 #[.string a0, .string a1, .agg #[.int .i64 a2_0, .int .i64 a2_1, .int .i64 a2_2], .int .i64 a3] w fun e w' => e = .returned (.bool r) ∧ Below w.heap.size w w' := by
  have hu27 := Tryd.underlying27
  have HB := Aside0.mk (Below.refl w.heap.size w)
  have H : ((calendar_ParseDate.f k a0).bind fun bt255 => ((pairingref5_ParseDate.f k a0).bind fun bt260 => ((calendar_FormatDate.f k a2_0 a2_1 a2_2).bind fun bt265 => ((pairingref5_FormatDate.f k a2_0 a2_1 a2_2).bind fun bt267 => (if bt255.2.2.2 = bt260.2.2.2 then (if (!(bt255.1 == bt260.1) || (!(bt255.2.1 == bt260.2.1) || (!(bt255.2.2.1 == bt260.2.2.1)))) = true then (pairinglaw6_CalendarDates.j0 k a1 a3 bt265.1 bt265.2 true a2_0 a2_1 a2_2) else (if bt265.2 = bt267.2 then (pairinglaw6_CalendarDates.j0 k a1 a3 bt265.1 bt265.2 (bt265.1.toList != bt267.1.toList) a2_0 a2_1 a2_2) else (pairinglaw6_CalendarDates.j0 k a1 a3 bt265.1 bt265.2 true a2_0 a2_1 a2_2))) else (pairinglaw6_CalendarDates.j0 k a1 a3 bt265.1 bt265.2 true a2_0 a2_1 a2_2)))))) = some r := h
  clear h
  replace H := Option.bind_eq_some_iff.mp H
  obtain ⟨⟨t255, t256, t257, t258⟩, A50, H⟩ := H
  replace H : ((pairingref5_ParseDate.f k a0).bind fun bt260 => ((calendar_FormatDate.f k a2_0 a2_1 a2_2).bind fun bt265 => ((pairingref5_FormatDate.f k a2_0 a2_1 a2_2).bind fun bt267 => (if t258 = bt260.2.2.2 then (if (!(t255 == bt260.1) || (!(t256 == bt260.2.1) || (!(t257 == bt260.2.2.1)))) = true then (pairinglaw6_CalendarDates.j0 k a1 a3 bt265.1 bt265.2 true a2_0 a2_1 a2_2) else (if bt265.2 = bt267.2 then (pairinglaw6_CalendarDates.j0 k a1 a3 bt265.1 bt265.2 (bt265.1.toList != bt267.1.toList) a2_0 a2_1 a2_2) else (pairinglaw6_CalendarDates.j0 k a1 a3 bt265.1 bt265.2 true a2_0 a2_1 a2_2))) else (pairinglaw6_CalendarDates.j0 k a1 a3 bt265.1 bt265.2 true a2_0 a2_1 a2_2))))) = some r := H
  have A5 := Aside0.mk A50
  clear A50
  replace H := Option.bind_eq_some_iff.mp H
  obtain ⟨⟨t260, t261, t262, t263⟩, A60, H⟩ := H
  replace H : ((calendar_FormatDate.f k a2_0 a2_1 a2_2).bind fun bt265 => ((pairingref5_FormatDate.f k a2_0 a2_1 a2_2).bind fun bt267 => (if t258 = t263 then (if (!(t255 == t260) || (!(t256 == t261) || (!(t257 == t262)))) = true then (pairinglaw6_CalendarDates.j0 k a1 a3 bt265.1 bt265.2 true a2_0 a2_1 a2_2) else (if bt265.2 = bt267.2 then (pairinglaw6_CalendarDates.j0 k a1 a3 bt265.1 bt265.2 (bt265.1.toList != bt267.1.toList) a2_0 a2_1 a2_2) else (pairinglaw6_CalendarDates.j0 k a1 a3 bt265.1 bt265.2 true a2_0 a2_1 a2_2))) else (pairinglaw6_CalendarDates.j0 k a1 a3 bt265.1 bt265.2 true a2_0 a2_1 a2_2)))) = some r := H
  have A6 := Aside0.mk A60
  clear A60
  replace H := Option.bind_eq_some_iff.mp H
  obtain ⟨⟨t265, t266⟩, A70, H⟩ := H
  replace H : ((pairingref5_FormatDate.f k a2_0 a2_1 a2_2).bind fun bt267 => (if t258 = t263 then (if (!(t255 == t260) || (!(t256 == t261) || (!(t257 == t262)))) = true then (pairinglaw6_CalendarDates.j0 k a1 a3 t265 t266 true a2_0 a2_1 a2_2) else (if t266 = bt267.2 then (pairinglaw6_CalendarDates.j0 k a1 a3 t265 t266 (t265.toList != bt267.1.toList) a2_0 a2_1 a2_2) else (pairinglaw6_CalendarDates.j0 k a1 a3 t265 t266 true a2_0 a2_1 a2_2))) else (pairinglaw6_CalendarDates.j0 k a1 a3 t265 t266 true a2_0 a2_1 a2_2))) = some r := H
  have A7 := Aside0.mk A70
  clear A70
  replace H := Option.bind_eq_some_iff.mp H
  obtain ⟨⟨t267, t268⟩, A80, H⟩ := H
  replace H : (if t258 = t263 then (if (!(t255 == t260) || (!(t256 == t261) || (!(t257 == t262)))) = true then (pairinglaw6_CalendarDates.j0 k a1 a3 t265 t266 true a2_0 a2_1 a2_2) else (if t266 = t268 then (pairinglaw6_CalendarDates.j0 k a1 a3 t265 t266 (t265.toList != t267.toList) a2_0 a2_1 a2_2) else (pairinglaw6_CalendarDates.j0 k a1 a3 t265 t266 true a2_0 a2_1 a2_2))) else (pairinglaw6_CalendarDates.j0 k a1 a3 t265 t266 true a2_0 a2_1 a2_2)) = some r := H
  have A8 := Aside0.mk A80
  clear A80
  have HC9 := Aside0.mk H
  clear H
  go_enter Tryd.func7, Tryd.ntmps7
  go_upto_region 5 with (first | ((with_reducible refine gate_dst (N := 6) rfl ?_); refine box_event ?hg (N := 6) ?hd (cs := #[.int .i64 a2_0, .int .i64 a2_1, .int .i64 a2_2]) (t := 27) ?hr ?_; (case hd => rfl); (case hg => rfl); (case hr => first | (go_simp; done) | (go_simp; rfl)); intro gb254 hg w10 hbox hb; have n0_ := Aside0.mk (below_step (by repeat (first | (with_reducible first | exact HB.out | apply below_alloc | apply pw_below_drewN | apply below_drew1) | exact HB.out)) hb); have n1_ := Aside0.mk (hbox); have n2_ := Aside0.mk ((by rw [hg]; exact (below_size (by repeat (first | (with_reducible first | exact HB.out | apply below_alloc | apply pw_below_drewN | apply below_drew1) | exact HB.out))) : w.heap.size ≤ gb254)); have n3_ := Aside0.mk ((by rw [hg]; exact (below_size (by repeat (first | (with_reducible first | exact HB.out | apply below_alloc | apply pw_below_drewN | apply below_drew1) | exact HB.out))) : w.heap.size ≤ gb254)); clear HB; have HB := n0_; have BK254 := n1_; have GW254 := n2_; have GE254 := n3_; clear n0_ n1_ n2_ n3_; clear hb hbox hg) | ((with_reducible refine gate_callee (f := 23) rfl ?_); refine goesL_ (some 31) rfl rfl Tryd.func23 (by kernel_rfl) rfl #[.string a0] rfl (by (try simp only [List.map_toArray, List.map_cons, List.map_nil]); first | done | rfl | (simp only [List.length_drop, List.length_take]; rfl)) ?_; (with_reducible refine (calendar_ParseDate.calls k a0 t255 t256 t257 t258 _ ?side1 A5.out).mono ?_); (case side1 => first | (with_reducible exact hT_md) | exact Tab_md.below hT_md (by repeat (first | (with_reducible first | exact HB.out | apply below_alloc | apply pw_below_drewN | apply below_drew1 | refine below_set ?_ GE254.out) | exact HB.out))); rintro e w11 ⟨rfl, hb⟩; refine ⟨_, rfl, ?_⟩; have n0_ := Aside0.mk (blk_below (g := gb254) (o := .cells #[.int .i64 a2_0, .int .i64 a2_1, .int .i64 a2_2] 27 (0, 0)) (by (with_reducible repeat (first | refine blk_drewN ?_ _ | refine blk_drew ?_ | refine blk_alloc ?_ _)); exact BK254.out) hb); have n1_ := Aside0.mk (below_step (by repeat (first | (with_reducible first | exact HB.out | apply below_alloc | apply pw_below_drewN | apply below_drew1 | refine below_set ?_ GE254.out) | exact HB.out)) hb); clear BK254; clear HB; have BK254 := n0_; have HB := n1_; clear n0_ n1_; (try clear hb); (try clear hb2); (try clear hk); (try clear hi)) | ((with_reducible refine gate_dst (N := 9) rfl ?_); refine box_event ?hg (N := 9) ?hd (cs := #[.int .i64 0, .int .i64 0, .int .i64 0]) (t := 27) ?hr ?_; (case hd => rfl); (case hg => rfl); (case hr => first | (go_simp; done) | (go_simp; rfl)); intro gb259 hg w12 hbox hb; have n0_ := Aside0.mk (blk_below (g := gb254) (o := .cells #[.int .i64 a2_0, .int .i64 a2_1, .int .i64 a2_2] 27 (0, 0)) (by (with_reducible repeat (first | refine blk_drewN ?_ _ | refine blk_drew ?_ | refine blk_alloc ?_ _)); exact BK254.out) hb); have n1_ := Aside0.mk (below_step (by repeat (first | (with_reducible first | exact HB.out | apply below_alloc | apply pw_below_drewN | apply below_drew1 | refine below_set ?_ GE254.out) | exact HB.out)) hb); have n2_ := Aside0.mk (hbox); have n3_ := Aside0.mk ((by rw [hg]; exact (below_size (by repeat (first | (with_reducible first | exact HB.out | apply below_alloc | apply pw_below_drewN | apply below_drew1 | refine below_set ?_ GE254.out) | exact HB.out))) : w.heap.size ≤ gb259)); have n4_ := Aside0.mk ((by rw [hg]; exact (below_size (by repeat (first | (with_reducible first | exact HB.out | apply below_alloc | apply pw_below_drewN | apply below_drew1 | refine below_set ?_ GE254.out) | exact HB.out))) : w.heap.size ≤ gb259)); have n5_ := Aside0.mk ((by rw [hg]; exact Nat.ne_of_lt (blk_lt (g := gb254) (o := .cells #[.int .i64 a2_0, .int .i64 a2_1, .int .i64 a2_2] 27 (0, 0)) (by (with_reducible repeat (first | refine blk_drewN ?_ _ | refine blk_drew ?_ | refine blk_alloc ?_ _)); exact BK254.out)) : gb254 ≠ gb259)); have n6_ := Aside0.mk ((by rw [hg]; exact Nat.ne_of_gt (blk_lt (g := gb254) (o := .cells #[.int .i64 a2_0, .int .i64 a2_1, .int .i64 a2_2] 27 (0, 0)) (by (with_reducible repeat (first | refine blk_drewN ?_ _ | refine blk_drew ?_ | refine blk_alloc ?_ _)); exact BK254.out)) : gb259 ≠ gb254)); clear BK254; clear HB; have BK254 := n0_; have HB := n1_; have BK259 := n2_; have GW259 := n3_; have GE259 := n4_; have NB254_259 := n5_; have NB259_254 := n6_; clear n0_ n1_ n2_ n3_ n4_ n5_ n6_; clear hb hbox hg; have hnb13 := NB259_254.out; have hnc13 := NB254_259.out; have hcz14_0 : w12.cell? ⟨gb259, 0, none⟩ = some (.int .i64 0) := (blk_cell BK259.out 0).trans rfl; have hcz14_1 : w12.cell? ⟨gb259, 1, none⟩ = some (.int .i64 0) := (blk_cell BK259.out 1).trans rfl; have hcz14_2 : w12.cell? ⟨gb259, 2, none⟩ = some (.int .i64 0) := (blk_cell BK259.out 2).trans rfl; have hfz14_0 := blk_frozen BK259.out 0; have hfz14_1 := blk_frozen BK259.out 1; have hfz14_2 := blk_frozen BK259.out 2) | ((with_reducible refine gate_callee (f := 24) rfl ?_); refine goesL_ (some 36) rfl rfl Tryd.func24 (by kernel_rfl) rfl #[.string a0] rfl (by (try simp only [List.map_toArray, List.map_cons, List.map_nil]); first | done | rfl | (simp only [List.length_drop, List.length_take]; rfl)) ?_; (with_reducible refine (pairingref5_ParseDate.calls k a0 t260 t261 t262 t263 _ A6.out).mono ?_); rintro e w15 ⟨rfl, hb⟩; refine ⟨_, rfl, ?_⟩; have n0_ := Aside0.mk (blk_below (g := gb254) (o := .cells #[.int .i64 a2_0, .int .i64 a2_1, .int .i64 a2_2] 27 (0, 0)) (by (with_reducible repeat (first | refine blk_drewN ?_ _ | refine blk_drew ?_ | refine blk_alloc ?_ _)); refine blk_far ?_ NB254_259.out _; (with_reducible repeat (first | refine blk_drewN ?_ _ | refine blk_drew ?_ | refine blk_alloc ?_ _)); refine blk_far ?_ NB254_259.out _; (with_reducible repeat (first | refine blk_drewN ?_ _ | refine blk_drew ?_ | refine blk_alloc ?_ _)); refine blk_far ?_ NB254_259.out _; (with_reducible repeat (first | refine blk_drewN ?_ _ | refine blk_drew ?_ | refine blk_alloc ?_ _)); exact BK254.out) hb); have n1_ := Aside0.mk (blk_below (g := gb259) (o := .cells #[.int .i64 t255, .int .i64 t256, .int .i64 t257] 27 (0, 0)) (by (with_reducible repeat (first | refine blk_drewN ?_ _ | refine blk_drew ?_ | refine blk_alloc ?_ _)); refine blk_put (cs := #[.int .i64 t255, .int .i64 t256, .int .i64 0]) ?_ 2 _ rfl; (with_reducible repeat (first | refine blk_drewN ?_ _ | refine blk_drew ?_ | refine blk_alloc ?_ _)); refine blk_put (cs := #[.int .i64 t255, .int .i64 0, .int .i64 0]) ?_ 1 _ rfl; (with_reducible repeat (first | refine blk_drewN ?_ _ | refine blk_drew ?_ | refine blk_alloc ?_ _)); refine blk_put (cs := #[.int .i64 0, .int .i64 0, .int .i64 0]) ?_ 0 _ rfl; (with_reducible repeat (first | refine blk_drewN ?_ _ | refine blk_drew ?_ | refine blk_alloc ?_ _)); exact BK259.out) hb); have n2_ := Aside0.mk (below_step (by repeat (first | (with_reducible first | exact HB.out | apply below_alloc | apply pw_below_drewN | apply below_drew1 | refine below_set ?_ GE254.out | refine below_set ?_ GE259.out) | exact HB.out)) hb); clear BK254; clear BK259; clear HB; have BK254 := n0_; have BK259 := n1_; have HB := n2_; clear n0_ n1_ n2_; (try clear hb); (try clear hb2); (try clear hk); (try clear hi)) | ((with_reducible refine gate_dst (N := 11) rfl ?_); refine box_event ?hg (N := 11) ?hd (cs := #[.int .i64 0, .int .i64 0, .int .i64 0]) (t := 27) ?hr ?_; (case hd => rfl); (case hg => rfl); (case hr => first | (go_simp; done) | (go_simp; rfl)); intro gb264 hg w16 hbox hb; have n0_ := Aside0.mk (blk_below (g := gb254) (o := .cells #[.int .i64 a2_0, .int .i64 a2_1, .int .i64 a2_2] 27 (0, 0)) (by (with_reducible repeat (first | refine blk_drewN ?_ _ | refine blk_drew ?_ | refine blk_alloc ?_ _)); exact BK254.out) hb); have n1_ := Aside0.mk (blk_below (g := gb259) (o := .cells #[.int .i64 t255, .int .i64 t256, .int .i64 t257] 27 (0, 0)) (by (with_reducible repeat (first | refine blk_drewN ?_ _ | refine blk_drew ?_ | refine blk_alloc ?_ _)); exact BK259.out) hb); have n2_ := Aside0.mk (below_step (by repeat (first | (with_reducible first | exact HB.out | apply below_alloc | apply pw_below_drewN | apply below_drew1 | refine below_set ?_ GE254.out | refine below_set ?_ GE259.out) | exact HB.out)) hb); have n3_ := Aside0.mk (hbox); have n4_ := Aside0.mk ((by rw [hg]; exact (below_size (by repeat (first | (with_reducible first | exact HB.out | apply below_alloc | apply pw_below_drewN | apply below_drew1 | refine below_set ?_ GE254.out | refine below_set ?_ GE259.out) | exact HB.out))) : w.heap.size ≤ gb264)); have n5_ := Aside0.mk ((by rw [hg]; exact (below_size (by repeat (first | (with_reducible first | exact HB.out | apply below_alloc | apply pw_below_drewN | apply below_drew1 | refine below_set ?_ GE254.out | refine below_set ?_ GE259.out) | exact HB.out))) : w.heap.size ≤ gb264)); have n6_ := Aside0.mk ((by rw [hg]; exact Nat.ne_of_lt (blk_lt (g := gb254) (o := .cells #[.int .i64 a2_0, .int .i64 a2_1, .int .i64 a2_2] 27 (0, 0)) (by (with_reducible repeat (first | refine blk_drewN ?_ _ | refine blk_drew ?_ | refine blk_alloc ?_ _)); exact BK254.out)) : gb254 ≠ gb264)); have n7_ := Aside0.mk ((by rw [hg]; exact Nat.ne_of_gt (blk_lt (g := gb254) (o := .cells #[.int .i64 a2_0, .int .i64 a2_1, .int .i64 a2_2] 27 (0, 0)) (by (with_reducible repeat (first | refine blk_drewN ?_ _ | refine blk_drew ?_ | refine blk_alloc ?_ _)); exact BK254.out)) : gb264 ≠ gb254)); have n8_ := Aside0.mk ((by rw [hg]; exact Nat.ne_of_lt (blk_lt (g := gb259) (o := .cells #[.int .i64 t255, .int .i64 t256, .int .i64 t257] 27 (0, 0)) (by (with_reducible repeat (first | refine blk_drewN ?_ _ | refine blk_drew ?_ | refine blk_alloc ?_ _)); exact BK259.out)) : gb259 ≠ gb264)); have n9_ := Aside0.mk ((by rw [hg]; exact Nat.ne_of_gt (blk_lt (g := gb259) (o := .cells #[.int .i64 t255, .int .i64 t256, .int .i64 t257] 27 (0, 0)) (by (with_reducible repeat (first | refine blk_drewN ?_ _ | refine blk_drew ?_ | refine blk_alloc ?_ _)); exact BK259.out)) : gb264 ≠ gb259)); clear BK254; clear BK259; clear HB; have BK254 := n0_; have BK259 := n1_; have HB := n2_; have BK264 := n3_; have GW264 := n4_; have GE264 := n5_; have NB254_264 := n6_; have NB264_254 := n7_; have NB259_264 := n8_; have NB264_259 := n9_; clear n0_ n1_ n2_ n3_ n4_ n5_ n6_ n7_ n8_ n9_; clear hb hbox hg; have hnb17 := NB264_254.out; have hnc17 := NB254_264.out; have hnb18 := NB264_259.out; have hnc18 := NB259_264.out; have hcz19_0 : w16.cell? ⟨gb264, 0, none⟩ = some (.int .i64 0) := (blk_cell BK264.out 0).trans rfl; have hcz19_1 : w16.cell? ⟨gb264, 1, none⟩ = some (.int .i64 0) := (blk_cell BK264.out 1).trans rfl; have hcz19_2 : w16.cell? ⟨gb264, 2, none⟩ = some (.int .i64 0) := (blk_cell BK264.out 2).trans rfl; have hfz19_0 := blk_frozen BK264.out 0; have hfz19_1 := blk_frozen BK264.out 1; have hfz19_2 := blk_frozen BK264.out 2; have hcz20_0 : w16.cell? ⟨gb254, 0, none⟩ = some (.int .i64 a2_0) := (blk_cell BK254.out 0).trans rfl; have hcz20_1 : w16.cell? ⟨gb254, 1, none⟩ = some (.int .i64 a2_1) := (blk_cell BK254.out 1).trans rfl; have hcz20_2 : w16.cell? ⟨gb254, 2, none⟩ = some (.int .i64 a2_2) := (blk_cell BK254.out 2).trans rfl; have hfz20_0 := blk_frozen BK254.out 0; have hfz20_1 := blk_frozen BK254.out 1; have hfz20_2 := blk_frozen BK254.out 2) | ((with_reducible refine gate_callee (f := 25) rfl ?_); refine goesL_ (some 41) rfl rfl Tryd.func25 (by kernel_rfl) rfl #[.agg #[.int .i64 a2_0, .int .i64 a2_1, .int .i64 a2_2]] rfl (by (try simp only [List.map_toArray, List.map_cons, List.map_nil]); first | done | rfl | (simp only [List.length_drop, List.length_take]; rfl)) ?_; (with_reducible refine (calendar_FormatDate.calls k a2_0 a2_1 a2_2 t265 t266 _ ?side1 ?side2 A7.out).mono ?_); (case side1 => first | (with_reducible exact hT_md) | exact Tab_md.below hT_md (by repeat (first | (with_reducible first | exact HB.out | apply below_alloc | apply pw_below_drewN | apply below_drew1 | refine below_set ?_ GE254.out | refine below_set ?_ GE259.out | refine below_set ?_ GE264.out) | exact HB.out))); (case side2 => first | (with_reducible exact hT_p10) | exact Tab_p10.below hT_p10 (by repeat (first | (with_reducible first | exact HB.out | apply below_alloc | apply pw_below_drewN | apply below_drew1 | refine below_set ?_ GE254.out | refine below_set ?_ GE259.out | refine below_set ?_ GE264.out) | exact HB.out))); rintro e w21 ⟨rfl, hb⟩; refine ⟨_, rfl, ?_⟩; have n0_ := Aside0.mk (blk_below (g := gb254) (o := .cells #[.int .i64 a2_0, .int .i64 a2_1, .int .i64 a2_2] 27 (0, 0)) (by (with_reducible repeat (first | refine blk_drewN ?_ _ | refine blk_drew ?_ | refine blk_alloc ?_ _)); refine blk_far ?_ NB254_264.out _; (with_reducible repeat (first | refine blk_drewN ?_ _ | refine blk_drew ?_ | refine blk_alloc ?_ _)); refine blk_far ?_ NB254_264.out _; (with_reducible repeat (first | refine blk_drewN ?_ _ | refine blk_drew ?_ | refine blk_alloc ?_ _)); refine blk_far ?_ NB254_264.out _; (with_reducible repeat (first | refine blk_drewN ?_ _ | refine blk_drew ?_ | refine blk_alloc ?_ _)); exact BK254.out) hb); have n1_ := Aside0.mk (blk_below (g := gb259) (o := .cells #[.int .i64 t255, .int .i64 t256, .int .i64 t257] 27 (0, 0)) (by (with_reducible repeat (first | refine blk_drewN ?_ _ | refine blk_drew ?_ | refine blk_alloc ?_ _)); refine blk_far ?_ NB259_264.out _; (with_reducible repeat (first | refine blk_drewN ?_ _ | refine blk_drew ?_ | refine blk_alloc ?_ _)); refine blk_far ?_ NB259_264.out _; (with_reducible repeat (first | refine blk_drewN ?_ _ | refine blk_drew ?_ | refine blk_alloc ?_ _)); refine blk_far ?_ NB259_264.out _; (with_reducible repeat (first | refine blk_drewN ?_ _ | refine blk_drew ?_ | refine blk_alloc ?_ _)); exact BK259.out) hb); have n2_ := Aside0.mk (blk_below (g := gb264) (o := .cells #[.int .i64 t260, .int .i64 t261, .int .i64 t262] 27 (0, 0)) (by (with_reducible repeat (first | refine blk_drewN ?_ _ | refine blk_drew ?_ | refine blk_alloc ?_ _)); refine blk_put (cs := #[.int .i64 t260, .int .i64 t261, .int .i64 0]) ?_ 2 _ rfl; (with_reducible repeat (first | refine blk_drewN ?_ _ | refine blk_drew ?_ | refine blk_alloc ?_ _)); refine blk_put (cs := #[.int .i64 t260, .int .i64 0, .int .i64 0]) ?_ 1 _ rfl; (with_reducible repeat (first | refine blk_drewN ?_ _ | refine blk_drew ?_ | refine blk_alloc ?_ _)); refine blk_put (cs := #[.int .i64 0, .int .i64 0, .int .i64 0]) ?_ 0 _ rfl; (with_reducible repeat (first | refine blk_drewN ?_ _ | refine blk_drew ?_ | refine blk_alloc ?_ _)); exact BK264.out) hb); have n3_ := Aside0.mk (below_step (by repeat (first | (with_reducible first | exact HB.out | apply below_alloc | apply pw_below_drewN | apply below_drew1 | refine below_set ?_ GE254.out | refine below_set ?_ GE259.out | refine below_set ?_ GE264.out) | exact HB.out)) hb); clear BK254; clear BK259; clear BK264; clear HB; have BK254 := n0_; have BK259 := n1_; have BK264 := n2_; have HB := n3_; clear n0_ n1_ n2_ n3_; (try clear hb); (try clear hb2); (try clear hk); (try clear hi); have hcz22_0 : w21.cell? ⟨gb254, 0, none⟩ = some (.int .i64 a2_0) := (blk_cell BK254.out 0).trans rfl; have hcz22_1 : w21.cell? ⟨gb254, 1, none⟩ = some (.int .i64 a2_1) := (blk_cell BK254.out 1).trans rfl; have hcz22_2 : w21.cell? ⟨gb254, 2, none⟩ = some (.int .i64 a2_2) := (blk_cell BK254.out 2).trans rfl; have hfz22_0 := blk_frozen BK254.out 0; have hfz22_1 := blk_frozen BK254.out 1; have hfz22_2 := blk_frozen BK254.out 2) | ((with_reducible refine gate_callee (f := 26) rfl ?_); refine goesL_ (some 46) rfl rfl Tryd.func26 (by kernel_rfl) rfl #[.agg #[.int .i64 a2_0, .int .i64 a2_1, .int .i64 a2_2]] rfl (by (try simp only [List.map_toArray, List.map_cons, List.map_nil]); first | done | rfl | (simp only [List.length_drop, List.length_take]; rfl)) ?_; (with_reducible refine (pairingref5_FormatDate.calls k a2_0 a2_1 a2_2 t267 t268 _ ?side1 A8.out).mono ?_); (case side1 => first | (with_reducible exact hT_p10) | exact Tab_p10.below hT_p10 (by repeat (first | (with_reducible first | exact HB.out | apply below_alloc | apply pw_below_drewN | apply below_drew1 | refine below_set ?_ GE254.out | refine below_set ?_ GE259.out | refine below_set ?_ GE264.out) | exact HB.out))); rintro e w23 ⟨rfl, hb⟩; refine ⟨_, rfl, ?_⟩; have n0_ := Aside0.mk (blk_below (g := gb254) (o := .cells #[.int .i64 a2_0, .int .i64 a2_1, .int .i64 a2_2] 27 (0, 0)) (by (with_reducible repeat (first | refine blk_drewN ?_ _ | refine blk_drew ?_ | refine blk_alloc ?_ _)); exact BK254.out) hb); have n1_ := Aside0.mk (blk_below (g := gb259) (o := .cells #[.int .i64 t255, .int .i64 t256, .int .i64 t257] 27 (0, 0)) (by (with_reducible repeat (first | refine blk_drewN ?_ _ | refine blk_drew ?_ | refine blk_alloc ?_ _)); exact BK259.out) hb); have n2_ := Aside0.mk (blk_below (g := gb264) (o := .cells #[.int .i64 t260, .int .i64 t261, .int .i64 t262] 27 (0, 0)) (by (with_reducible repeat (first | refine blk_drewN ?_ _ | refine blk_drew ?_ | refine blk_alloc ?_ _)); exact BK264.out) hb); have n3_ := Aside0.mk (below_step (by repeat (first | (with_reducible first | exact HB.out | apply below_alloc | apply pw_below_drewN | apply below_drew1 | refine below_set ?_ GE254.out | refine below_set ?_ GE259.out | refine below_set ?_ GE264.out) | exact HB.out)) hb); clear BK254; clear BK259; clear BK264; clear HB; have BK254 := n0_; have BK259 := n1_; have BK264 := n2_; have HB := n3_; clear n0_ n1_ n2_ n3_; (try clear hb); (try clear hb2); (try clear hk); (try clear hi)))
  (try simp only [Act.put, List.setIfInBounds_toArray, List.set_cons_zero, List.set_cons_succ])
  go_cut [66] (fun v66 wc => ∃ (kq : Nat) (x66_8 : Bool), v66 = .bool x66_8 ∧ Aside0 (pairinglaw6_CalendarDates.j0 kq a1 a3 t265 t266 x66_8 a2_0 a2_1 a2_2 = some r) ∧ Aside0 (kq ≤ k) ∧ Aside0 (wc.heap[gb254]? = some (.cells #[.int .i64 a2_0, .int .i64 a2_1, .int .i64 a2_2] 27 (0, 0))) ∧ Aside0 (wc.heap[gb259]? = some (.cells #[.int .i64 t255, .int .i64 t256, .int .i64 t257] 27 (0, 0))) ∧ Aside0 (wc.heap[gb264]? = some (.cells #[.int .i64 t260, .int .i64 t261, .int .i64 t262] 27 (0, 0))) ∧ Aside0 (Below w.heap.size w wc))
  case first =>
    have H := HC9.out
    clear HC9
    by_cases c24 : t258 = t263
    · rw [if_pos c24] at H
      have c24b0 : (t258 == t263) = true := beq_iff_eq.mpr c24
      have c24b1 : (t258 != t263) = false := bne_eq_false_iff_eq.mpr c24
      clear c24
      (first | rw [c24b0] | (simp only [i64_w, i32_w]; rw [c24b0]) | skip)
      by_cases c25 : (!(t255 == t260) || (!(t256 == t261) || (!(t257 == t262)))) = true
      · rw [if_pos c25] at H
        have c25b0 : (!(t255 == t260) || (!(t256 == t261) || (!(t257 == t262)))) = true := c25
        clear c25
        have H' := Aside0.mk H
        clear H
        have hnb26 := NB259_254.out
        have hnc26 := NB254_259.out
        have hnb27 := NB259_264.out
        have hnc27 := NB264_259.out
        have hcz28_0 : w23.cell? ⟨gb259, 0, none⟩ = some (.int .i64 t255) := (blk_cell BK259.out 0).trans rfl
        have hcz28_1 : w23.cell? ⟨gb259, 1, none⟩ = some (.int .i64 t256) := (blk_cell BK259.out 1).trans rfl
        have hcz28_2 : w23.cell? ⟨gb259, 2, none⟩ = some (.int .i64 t257) := (blk_cell BK259.out 2).trans rfl
        have hfz28_0 := blk_frozen BK259.out 0
        have hfz28_1 := blk_frozen BK259.out 1
        have hfz28_2 := blk_frozen BK259.out 2
        have hnb29 := NB264_254.out
        have hnc29 := NB254_264.out
        have hcz30_0 : w23.cell? ⟨gb264, 0, none⟩ = some (.int .i64 t260) := (blk_cell BK264.out 0).trans rfl
        have hcz30_1 : w23.cell? ⟨gb264, 1, none⟩ = some (.int .i64 t261) := (blk_cell BK264.out 1).trans rfl
        have hcz30_2 : w23.cell? ⟨gb264, 2, none⟩ = some (.int .i64 t262) := (blk_cell BK264.out 2).trans rfl
        have hfz30_0 := blk_frozen BK264.out 0
        have hfz30_1 := blk_frozen BK264.out 1
        have hfz30_2 := blk_frozen BK264.out 2
        go_wp2
        go_meet
        case rel => exact ⟨_, (true), (by first | rfl | (simp; done) | (simp [*]; done)), H', ⟨by first | omega | exact Nat.le_refl _⟩, ⟨by (with_reducible repeat (first | refine blk_drewN ?_ _ | refine blk_drew ?_ | refine blk_alloc ?_ _)); exact BK254.out⟩, ⟨by (with_reducible repeat (first | refine blk_drewN ?_ _ | refine blk_drew ?_ | refine blk_alloc ?_ _)); exact BK259.out⟩, ⟨by (with_reducible repeat (first | refine blk_drewN ?_ _ | refine blk_drew ?_ | refine blk_alloc ?_ _)); exact BK264.out⟩, ⟨by repeat (first | (with_reducible first | exact HB.out | apply below_alloc | apply pw_below_drewN | apply below_drew1 | refine below_set ?_ GE254.out | refine below_set ?_ GE259.out | refine below_set ?_ GE264.out) | exact HB.out)⟩⟩
      · rw [if_neg c25] at H
        have c25b0 : (!(t255 == t260) || (!(t256 == t261) || (!(t257 == t262)))) = false := by simpa using c25
        clear c25
        by_cases c31 : t266 = t268
        · rw [if_pos c31] at H
          have c31b0 : (t266 == t268) = true := beq_iff_eq.mpr c31
          have c31b1 : (t266 != t268) = false := bne_eq_false_iff_eq.mpr c31
          clear c31
          have H' := Aside0.mk H
          clear H
          have hnb32 := NB259_254.out
          have hnc32 := NB254_259.out
          have hnb33 := NB259_264.out
          have hnc33 := NB264_259.out
          have hcz34_0 : w23.cell? ⟨gb259, 0, none⟩ = some (.int .i64 t255) := (blk_cell BK259.out 0).trans rfl
          have hcz34_1 : w23.cell? ⟨gb259, 1, none⟩ = some (.int .i64 t256) := (blk_cell BK259.out 1).trans rfl
          have hcz34_2 : w23.cell? ⟨gb259, 2, none⟩ = some (.int .i64 t257) := (blk_cell BK259.out 2).trans rfl
          have hfz34_0 := blk_frozen BK259.out 0
          have hfz34_1 := blk_frozen BK259.out 1
          have hfz34_2 := blk_frozen BK259.out 2
          have hnb35 := NB264_254.out
          have hnc35 := NB254_264.out
          have hcz36_0 : w23.cell? ⟨gb264, 0, none⟩ = some (.int .i64 t260) := (blk_cell BK264.out 0).trans rfl
          have hcz36_1 : w23.cell? ⟨gb264, 1, none⟩ = some (.int .i64 t261) := (blk_cell BK264.out 1).trans rfl
          have hcz36_2 : w23.cell? ⟨gb264, 2, none⟩ = some (.int .i64 t262) := (blk_cell BK264.out 2).trans rfl
          have hfz36_0 := blk_frozen BK264.out 0
          have hfz36_1 := blk_frozen BK264.out 1
          have hfz36_2 := blk_frozen BK264.out 2
          go_wp2
          go_meet
          case rel => exact ⟨_, ((t265.toList != t267.toList)), (by first | rfl | (simp; done) | (simp [*]; done)), H', ⟨by first | omega | exact Nat.le_refl _⟩, ⟨by (with_reducible repeat (first | refine blk_drewN ?_ _ | refine blk_drew ?_ | refine blk_alloc ?_ _)); exact BK254.out⟩, ⟨by (with_reducible repeat (first | refine blk_drewN ?_ _ | refine blk_drew ?_ | refine blk_alloc ?_ _)); exact BK259.out⟩, ⟨by (with_reducible repeat (first | refine blk_drewN ?_ _ | refine blk_drew ?_ | refine blk_alloc ?_ _)); exact BK264.out⟩, ⟨by repeat (first | (with_reducible first | exact HB.out | apply below_alloc | apply pw_below_drewN | apply below_drew1 | refine below_set ?_ GE254.out | refine below_set ?_ GE259.out | refine below_set ?_ GE264.out) | exact HB.out)⟩⟩
        · rw [if_neg c31] at H
          have c31b0 : (t266 == t268) = false := beq_eq_false_iff_ne.mpr c31
          have c31b1 : (t266 != t268) = true := bne_iff_ne.mpr c31
          have H' := Aside0.mk H
          clear H
          have hnb37 := NB259_254.out
          have hnc37 := NB254_259.out
          have hnb38 := NB259_264.out
          have hnc38 := NB264_259.out
          have hcz39_0 : w23.cell? ⟨gb259, 0, none⟩ = some (.int .i64 t255) := (blk_cell BK259.out 0).trans rfl
          have hcz39_1 : w23.cell? ⟨gb259, 1, none⟩ = some (.int .i64 t256) := (blk_cell BK259.out 1).trans rfl
          have hcz39_2 : w23.cell? ⟨gb259, 2, none⟩ = some (.int .i64 t257) := (blk_cell BK259.out 2).trans rfl
          have hfz39_0 := blk_frozen BK259.out 0
          have hfz39_1 := blk_frozen BK259.out 1
          have hfz39_2 := blk_frozen BK259.out 2
          have hnb40 := NB264_254.out
          have hnc40 := NB254_264.out
          have hcz41_0 : w23.cell? ⟨gb264, 0, none⟩ = some (.int .i64 t260) := (blk_cell BK264.out 0).trans rfl
          have hcz41_1 : w23.cell? ⟨gb264, 1, none⟩ = some (.int .i64 t261) := (blk_cell BK264.out 1).trans rfl
          have hcz41_2 : w23.cell? ⟨gb264, 2, none⟩ = some (.int .i64 t262) := (blk_cell BK264.out 2).trans rfl
          have hfz41_0 := blk_frozen BK264.out 0
          have hfz41_1 := blk_frozen BK264.out 1
          have hfz41_2 := blk_frozen BK264.out 2
          go_wp2
          go_meet
          case rel => exact ⟨_, (true), (by first | rfl | (simp; done) | (simp [*]; done)), H', ⟨by first | omega | exact Nat.le_refl _⟩, ⟨by (with_reducible repeat (first | refine blk_drewN ?_ _ | refine blk_drew ?_ | refine blk_alloc ?_ _)); exact BK254.out⟩, ⟨by (with_reducible repeat (first | refine blk_drewN ?_ _ | refine blk_drew ?_ | refine blk_alloc ?_ _)); exact BK259.out⟩, ⟨by (with_reducible repeat (first | refine blk_drewN ?_ _ | refine blk_drew ?_ | refine blk_alloc ?_ _)); exact BK264.out⟩, ⟨by repeat (first | (with_reducible first | exact HB.out | apply below_alloc | apply pw_below_drewN | apply below_drew1 | refine below_set ?_ GE254.out | refine below_set ?_ GE259.out | refine below_set ?_ GE264.out) | exact HB.out)⟩⟩
    · rw [if_neg c24] at H
      have c24b0 : (t258 == t263) = false := beq_eq_false_iff_ne.mpr c24
      have c24b1 : (t258 != t263) = true := bne_iff_ne.mpr c24
      (first | rw [c24b0] | (simp only [i64_w, i32_w]; rw [c24b0]) | skip)
      have H' := Aside0.mk H
      clear H
      go_wp2
      go_meet
      case rel => exact ⟨_, (true), (by first | rfl | (simp; done) | (simp [*]; done)), H', ⟨by first | omega | exact Nat.le_refl _⟩, ⟨by (with_reducible repeat (first | refine blk_drewN ?_ _ | refine blk_drew ?_ | refine blk_alloc ?_ _)); exact BK254.out⟩, ⟨by (with_reducible repeat (first | refine blk_drewN ?_ _ | refine blk_drew ?_ | refine blk_alloc ?_ _)); exact BK259.out⟩, ⟨by (with_reducible repeat (first | refine blk_drewN ?_ _ | refine blk_drew ?_ | refine blk_alloc ?_ _)); exact BK264.out⟩, ⟨by repeat (first | (with_reducible first | exact HB.out | apply below_alloc | apply pw_below_drewN | apply below_drew1 | refine below_set ?_ GE254.out | refine below_set ?_ GE259.out | refine below_set ?_ GE264.out) | exact HB.out)⟩⟩
  case rest =>
    clear HC9
    try clear c1
    try clear p1
    try clear c2
    try clear p2
    try clear c3
    try clear c4
    try clear c7
    try clear p10
    try clear c13
    try clear c17
    try clear c18
    try clear c23
    try clear c24
    try clear c24b0
    try clear c24b1
    try clear c25
    try clear c25b0
    try clear c26
    try clear c27
    try clear c29
    try clear c31
    try clear c31b0
    try clear c31b1
    try clear c32
    try clear c33
    try clear c35
    try clear c37
    try clear c38
    try clear c40
    try clear hcz14_0
    try clear hcz14_1
    try clear hcz14_2
    try clear hcz19_0
    try clear hcz19_1
    try clear hcz19_2
    try clear hcz20_0
    try clear hcz20_1
    try clear hcz20_2
    try clear hcz22_0
    try clear hcz22_1
    try clear hcz22_2
    try clear hcz28_0
    try clear hcz28_1
    try clear hcz28_2
    try clear hcz30_0
    try clear hcz30_1
    try clear hcz30_2
    try clear hcz34_0
    try clear hcz34_1
    try clear hcz34_2
    try clear hcz36_0
    try clear hcz36_1
    try clear hcz36_2
    try clear hcz39_0
    try clear hcz39_1
    try clear hcz39_2
    try clear hcz41_0
    try clear hcz41_1
    try clear hcz41_2
    try clear hfz14_0
    try clear hfz14_1
    try clear hfz14_2
    try clear hfz19_0
    try clear hfz19_1
    try clear hfz19_2
    try clear hfz20_0
    try clear hfz20_1
    try clear hfz20_2
    try clear hfz22_0
    try clear hfz22_1
    try clear hfz22_2
    try clear hfz28_0
    try clear hfz28_1
    try clear hfz28_2
    try clear hfz30_0
    try clear hfz30_1
    try clear hfz30_2
    try clear hfz34_0
    try clear hfz34_1
    try clear hfz34_2
    try clear hfz36_0
    try clear hfz36_1
    try clear hfz36_2
    try clear hfz39_0
    try clear hfz39_1
    try clear hfz39_2
    try clear hfz41_0
    try clear hfz41_1
    try clear hfz41_2
    obtain ⟨kq, x66_8, rfl, HA, HJ8, BK254, BK259, BK264, HB⟩ := hcut
    cases kq with
    | zero => exact absurd HA.out (by simp [pairinglaw6_CalendarDates.j0])
    | succ kj8 =>
      have H := HA.out
      clear HA
      simp only [pairinglaw6_CalendarDates.j0] at H
      by_cases c42 : x66_8 = true
      · subst c42
        have H1 : (some false) = some r := by rw [if_pos rfl] at H; exact H
        clear H
        have H := H1
        clear H1
        obtain rfl := Option.some.inj H
        go_wp2
        go_ret
        exact ⟨by first | rfl | (simp [errW_none, errW_some] <;> rfl) | (simp [*, errW_none, errW_some] <;> rfl), by repeat (first | (with_reducible first | exact HB.out | apply below_alloc | apply pw_below_drewN | apply below_drew1 | refine below_set ?_ GE254.out | refine below_set ?_ GE259.out | refine below_set ?_ GE264.out) | exact HB.out)⟩
      · replace c42 := Bool.eq_false_iff.mpr c42
        subst c42
        have H1 : ((calendar_ParseClock.f kj8 a1).bind fun bt269 => ((pairingref5_ParseClock.f kj8 a1).bind fun bt271 => ((calendar_FormatClock.f kj8 a3).bind fun bt273 => ((pairingref5_FormatClock.f kj8 a3).bind fun bt275 => (if bt269.2 = bt271.2 then (if bt269.1 = bt271.1 then (if bt273.2 = bt275.2 then (pairinglaw6_CalendarDates.j1 kj8 a3 t265 t266 bt273.1 bt273.2 (bt273.1.toList != bt275.1.toList) a2_0 a2_1 a2_2) else (pairinglaw6_CalendarDates.j1 kj8 a3 t265 t266 bt273.1 bt273.2 true a2_0 a2_1 a2_2)) else (pairinglaw6_CalendarDates.j1 kj8 a3 t265 t266 bt273.1 bt273.2 true a2_0 a2_1 a2_2)) else (pairinglaw6_CalendarDates.j1 kj8 a3 t265 t266 bt273.1 bt273.2 true a2_0 a2_1 a2_2)))))) = some r := by rw [if_neg (show ¬ (false = true) by decide)] at H; exact H
        clear H
        have H := H1
        clear H1
        replace H := Option.bind_eq_some_iff.mp H
        obtain ⟨⟨t269, t270⟩, A430, H⟩ := H
        replace H : ((pairingref5_ParseClock.f kj8 a1).bind fun bt271 => ((calendar_FormatClock.f kj8 a3).bind fun bt273 => ((pairingref5_FormatClock.f kj8 a3).bind fun bt275 => (if t270 = bt271.2 then (if t269 = bt271.1 then (if bt273.2 = bt275.2 then (pairinglaw6_CalendarDates.j1 kj8 a3 t265 t266 bt273.1 bt273.2 (bt273.1.toList != bt275.1.toList) a2_0 a2_1 a2_2) else (pairinglaw6_CalendarDates.j1 kj8 a3 t265 t266 bt273.1 bt273.2 true a2_0 a2_1 a2_2)) else (pairinglaw6_CalendarDates.j1 kj8 a3 t265 t266 bt273.1 bt273.2 true a2_0 a2_1 a2_2)) else (pairinglaw6_CalendarDates.j1 kj8 a3 t265 t266 bt273.1 bt273.2 true a2_0 a2_1 a2_2))))) = some r := H
        have A43 := Aside0.mk A430
        clear A430
        replace H := Option.bind_eq_some_iff.mp H
        obtain ⟨⟨t271, t272⟩, A440, H⟩ := H
        replace H : ((calendar_FormatClock.f kj8 a3).bind fun bt273 => ((pairingref5_FormatClock.f kj8 a3).bind fun bt275 => (if t270 = t272 then (if t269 = t271 then (if bt273.2 = bt275.2 then (pairinglaw6_CalendarDates.j1 kj8 a3 t265 t266 bt273.1 bt273.2 (bt273.1.toList != bt275.1.toList) a2_0 a2_1 a2_2) else (pairinglaw6_CalendarDates.j1 kj8 a3 t265 t266 bt273.1 bt273.2 true a2_0 a2_1 a2_2)) else (pairinglaw6_CalendarDates.j1 kj8 a3 t265 t266 bt273.1 bt273.2 true a2_0 a2_1 a2_2)) else (pairinglaw6_CalendarDates.j1 kj8 a3 t265 t266 bt273.1 bt273.2 true a2_0 a2_1 a2_2)))) = some r := H
        have A44 := Aside0.mk A440
        clear A440
        replace H := Option.bind_eq_some_iff.mp H
        obtain ⟨⟨t273, t274⟩, A450, H⟩ := H
        replace H : ((pairingref5_FormatClock.f kj8 a3).bind fun bt275 => (if t270 = t272 then (if t269 = t271 then (if t274 = bt275.2 then (pairinglaw6_CalendarDates.j1 kj8 a3 t265 t266 t273 t274 (t273.toList != bt275.1.toList) a2_0 a2_1 a2_2) else (pairinglaw6_CalendarDates.j1 kj8 a3 t265 t266 t273 t274 true a2_0 a2_1 a2_2)) else (pairinglaw6_CalendarDates.j1 kj8 a3 t265 t266 t273 t274 true a2_0 a2_1 a2_2)) else (pairinglaw6_CalendarDates.j1 kj8 a3 t265 t266 t273 t274 true a2_0 a2_1 a2_2))) = some r := H
        have A45 := Aside0.mk A450
        clear A450
        replace H := Option.bind_eq_some_iff.mp H
        obtain ⟨⟨t275, t276⟩, A460, H⟩ := H
        replace H : (if t270 = t272 then (if t269 = t271 then (if t274 = t276 then (pairinglaw6_CalendarDates.j1 kj8 a3 t265 t266 t273 t274 (t273.toList != t275.toList) a2_0 a2_1 a2_2) else (pairinglaw6_CalendarDates.j1 kj8 a3 t265 t266 t273 t274 true a2_0 a2_1 a2_2)) else (pairinglaw6_CalendarDates.j1 kj8 a3 t265 t266 t273 t274 true a2_0 a2_1 a2_2)) else (pairinglaw6_CalendarDates.j1 kj8 a3 t265 t266 t273 t274 true a2_0 a2_1 a2_2)) = some r := H
        have A46 := Aside0.mk A460
        clear A460
        have HC47 := Aside0.mk H
        clear H
        go_upto_region 11 with (first | ((with_reducible refine gate_callee (f := 27) rfl ?_); refine goesL_ (some 69) rfl rfl Tryd.func27 (by kernel_rfl) rfl #[.string a1] rfl (by (try simp only [List.map_toArray, List.map_cons, List.map_nil]); first | done | rfl | (simp only [List.length_drop, List.length_take]; rfl)) ?_; (with_reducible refine (calendar_ParseClock.calls kj8 a1 t269 t270 _ A43.out).mono ?_); rintro e w' ⟨rfl, ⟨nd, rfl⟩⟩; refine ⟨_, rfl, ?_⟩) | ((with_reducible refine gate_callee (f := 28) rfl ?_); refine goesL_ (some 74) rfl rfl Tryd.func28 (by kernel_rfl) rfl #[.string a1] rfl (by (try simp only [List.map_toArray, List.map_cons, List.map_nil]); first | done | rfl | (simp only [List.length_drop, List.length_take]; rfl)) ?_; (with_reducible refine (pairingref5_ParseClock.calls kj8 a1 t271 t272 _ A44.out).mono ?_); rintro e w' ⟨rfl, ⟨nd, rfl⟩⟩; refine ⟨_, rfl, ?_⟩) | ((with_reducible refine gate_callee (f := 29) rfl ?_); refine goesL_ (some 79) rfl rfl Tryd.func29 (by kernel_rfl) rfl #[.int .i64 a3] rfl (by (try simp only [List.map_toArray, List.map_cons, List.map_nil]); first | done | rfl | (simp only [List.length_drop, List.length_take]; rfl)) ?_; (with_reducible refine (calendar_FormatClock.calls kj8 a3 t273 t274 _ ?side1 A45.out).mono ?_); (case side1 => first | (with_reducible exact hT_p10) | exact Tab_p10.below hT_p10 (by repeat (first | (with_reducible first | exact HB.out | apply below_alloc | apply pw_below_drewN | apply below_drew1 | refine below_set ?_ GE254.out | refine below_set ?_ GE259.out | refine below_set ?_ GE264.out) | exact HB.out))); rintro e w48 ⟨rfl, hb⟩; refine ⟨_, rfl, ?_⟩; have n0_ := Aside0.mk (blk_below (g := gb254) (o := .cells #[.int .i64 a2_0, .int .i64 a2_1, .int .i64 a2_2] 27 (0, 0)) (by (with_reducible repeat (first | refine blk_drewN ?_ _ | refine blk_drew ?_ | refine blk_alloc ?_ _)); exact BK254.out) hb); have n1_ := Aside0.mk (blk_below (g := gb259) (o := .cells #[.int .i64 t255, .int .i64 t256, .int .i64 t257] 27 (0, 0)) (by (with_reducible repeat (first | refine blk_drewN ?_ _ | refine blk_drew ?_ | refine blk_alloc ?_ _)); exact BK259.out) hb); have n2_ := Aside0.mk (blk_below (g := gb264) (o := .cells #[.int .i64 t260, .int .i64 t261, .int .i64 t262] 27 (0, 0)) (by (with_reducible repeat (first | refine blk_drewN ?_ _ | refine blk_drew ?_ | refine blk_alloc ?_ _)); exact BK264.out) hb); have n3_ := Aside0.mk (below_step (by repeat (first | (with_reducible first | exact HB.out | apply below_alloc | apply pw_below_drewN | apply below_drew1 | refine below_set ?_ GE254.out | refine below_set ?_ GE259.out | refine below_set ?_ GE264.out) | exact HB.out)) hb); clear BK254; clear BK259; clear BK264; clear HB; have BK254 := n0_; have BK259 := n1_; have BK264 := n2_; have HB := n3_; clear n0_ n1_ n2_ n3_; (try clear hb); (try clear hb2); (try clear hk); (try clear hi)) | ((with_reducible refine gate_callee (f := 30) rfl ?_); refine goesL_ (some 84) rfl rfl Tryd.func30 (by kernel_rfl) rfl #[.int .i64 a3] rfl (by (try simp only [List.map_toArray, List.map_cons, List.map_nil]); first | done | rfl | (simp only [List.length_drop, List.length_take]; rfl)) ?_; (with_reducible refine (pairingref5_FormatClock.calls kj8 a3 t275 t276 _ ?side1 A46.out).mono ?_); (case side1 => first | (with_reducible exact hT_p10) | exact Tab_p10.below hT_p10 (by repeat (first | (with_reducible first | exact HB.out | apply below_alloc | apply pw_below_drewN | apply below_drew1 | refine below_set ?_ GE254.out | refine below_set ?_ GE259.out | refine below_set ?_ GE264.out) | exact HB.out))); rintro e w49 ⟨rfl, hb⟩; refine ⟨_, rfl, ?_⟩; have n0_ := Aside0.mk (blk_below (g := gb254) (o := .cells #[.int .i64 a2_0, .int .i64 a2_1, .int .i64 a2_2] 27 (0, 0)) (by (with_reducible repeat (first | refine blk_drewN ?_ _ | refine blk_drew ?_ | refine blk_alloc ?_ _)); exact BK254.out) hb); have n1_ := Aside0.mk (blk_below (g := gb259) (o := .cells #[.int .i64 t255, .int .i64 t256, .int .i64 t257] 27 (0, 0)) (by (with_reducible repeat (first | refine blk_drewN ?_ _ | refine blk_drew ?_ | refine blk_alloc ?_ _)); exact BK259.out) hb); have n2_ := Aside0.mk (blk_below (g := gb264) (o := .cells #[.int .i64 t260, .int .i64 t261, .int .i64 t262] 27 (0, 0)) (by (with_reducible repeat (first | refine blk_drewN ?_ _ | refine blk_drew ?_ | refine blk_alloc ?_ _)); exact BK264.out) hb); have n3_ := Aside0.mk (below_step (by repeat (first | (with_reducible first | exact HB.out | apply below_alloc | apply pw_below_drewN | apply below_drew1 | refine below_set ?_ GE254.out | refine below_set ?_ GE259.out | refine below_set ?_ GE264.out) | exact HB.out)) hb); clear BK254; clear BK259; clear BK264; clear HB; have BK254 := n0_; have BK259 := n1_; have BK264 := n2_; have HB := n3_; clear n0_ n1_ n2_ n3_; (try clear hb); (try clear hb2); (try clear hk); (try clear hi)))
        (try simp only [Act.put, List.setIfInBounds_toArray, List.set_cons_zero, List.set_cons_succ])
        go_cut [104] (fun v104 wc => ∃ (kq : Nat) (x104_46 : Bool), v104 = .bool x104_46 ∧ Aside0 (pairinglaw6_CalendarDates.j1 kq a3 t265 t266 t273 t274 x104_46 a2_0 a2_1 a2_2 = some r) ∧ Aside0 (kq ≤ kj8) ∧ Aside0 (wc.heap[gb254]? = some (.cells #[.int .i64 a2_0, .int .i64 a2_1, .int .i64 a2_2] 27 (0, 0))) ∧ Aside0 (wc.heap[gb259]? = some (.cells #[.int .i64 t255, .int .i64 t256, .int .i64 t257] 27 (0, 0))) ∧ Aside0 (wc.heap[gb264]? = some (.cells #[.int .i64 t260, .int .i64 t261, .int .i64 t262] 27 (0, 0))) ∧ Aside0 (Below w.heap.size w wc))
        case first =>
          have H := HC47.out
          clear HC47
          by_cases c50 : t270 = t272
          · rw [if_pos c50] at H
            have c50b0 : (t270 == t272) = true := beq_iff_eq.mpr c50
            have c50b1 : (t270 != t272) = false := bne_eq_false_iff_eq.mpr c50
            clear c50
            (first | rw [c50b0] | (simp only [i64_w, i32_w]; rw [c50b0]) | skip)
            by_cases c51 : t269 = t271
            · rw [if_pos c51] at H
              have c51b0 : (t269 == t271) = true := beq_iff_eq.mpr c51
              have c51b1 : (t269 != t271) = false := bne_eq_false_iff_eq.mpr c51
              clear c51
              by_cases c52 : t274 = t276
              · rw [if_pos c52] at H
                have c52b0 : (t274 == t276) = true := beq_iff_eq.mpr c52
                have c52b1 : (t274 != t276) = false := bne_eq_false_iff_eq.mpr c52
                clear c52
                have H' := Aside0.mk H
                clear H
                go_wp2
                go_meet
                case rel => exact ⟨_, ((t273.toList != t275.toList)), (by first | rfl | (simp; done) | (simp [*]; done)), H', ⟨by have := HJ8.out; first | omega | exact Nat.le_refl _⟩, ⟨by (with_reducible repeat (first | refine blk_drewN ?_ _ | refine blk_drew ?_ | refine blk_alloc ?_ _)); exact BK254.out⟩, ⟨by (with_reducible repeat (first | refine blk_drewN ?_ _ | refine blk_drew ?_ | refine blk_alloc ?_ _)); exact BK259.out⟩, ⟨by (with_reducible repeat (first | refine blk_drewN ?_ _ | refine blk_drew ?_ | refine blk_alloc ?_ _)); exact BK264.out⟩, ⟨by repeat (first | (with_reducible first | exact HB.out | apply below_alloc | apply pw_below_drewN | apply below_drew1 | refine below_set ?_ GE254.out | refine below_set ?_ GE259.out | refine below_set ?_ GE264.out) | exact HB.out)⟩⟩
              · rw [if_neg c52] at H
                have c52b0 : (t274 == t276) = false := beq_eq_false_iff_ne.mpr c52
                have c52b1 : (t274 != t276) = true := bne_iff_ne.mpr c52
                have H' := Aside0.mk H
                clear H
                go_wp2
                go_meet
                case rel => exact ⟨_, (true), (by first | rfl | (simp; done) | (simp [*]; done)), H', ⟨by have := HJ8.out; first | omega | exact Nat.le_refl _⟩, ⟨by (with_reducible repeat (first | refine blk_drewN ?_ _ | refine blk_drew ?_ | refine blk_alloc ?_ _)); exact BK254.out⟩, ⟨by (with_reducible repeat (first | refine blk_drewN ?_ _ | refine blk_drew ?_ | refine blk_alloc ?_ _)); exact BK259.out⟩, ⟨by (with_reducible repeat (first | refine blk_drewN ?_ _ | refine blk_drew ?_ | refine blk_alloc ?_ _)); exact BK264.out⟩, ⟨by repeat (first | (with_reducible first | exact HB.out | apply below_alloc | apply pw_below_drewN | apply below_drew1 | refine below_set ?_ GE254.out | refine below_set ?_ GE259.out | refine below_set ?_ GE264.out) | exact HB.out)⟩⟩
            · rw [if_neg c51] at H
              have c51b0 : (t269 == t271) = false := beq_eq_false_iff_ne.mpr c51
              have c51b1 : (t269 != t271) = true := bne_iff_ne.mpr c51
              have H' := Aside0.mk H
              clear H
              go_wp2
              go_meet
              case rel => exact ⟨_, (true), (by first | rfl | (simp; done) | (simp [*]; done)), H', ⟨by have := HJ8.out; first | omega | exact Nat.le_refl _⟩, ⟨by (with_reducible repeat (first | refine blk_drewN ?_ _ | refine blk_drew ?_ | refine blk_alloc ?_ _)); exact BK254.out⟩, ⟨by (with_reducible repeat (first | refine blk_drewN ?_ _ | refine blk_drew ?_ | refine blk_alloc ?_ _)); exact BK259.out⟩, ⟨by (with_reducible repeat (first | refine blk_drewN ?_ _ | refine blk_drew ?_ | refine blk_alloc ?_ _)); exact BK264.out⟩, ⟨by repeat (first | (with_reducible first | exact HB.out | apply below_alloc | apply pw_below_drewN | apply below_drew1 | refine below_set ?_ GE254.out | refine below_set ?_ GE259.out | refine below_set ?_ GE264.out) | exact HB.out)⟩⟩
          · rw [if_neg c50] at H
            have c50b0 : (t270 == t272) = false := beq_eq_false_iff_ne.mpr c50
            have c50b1 : (t270 != t272) = true := bne_iff_ne.mpr c50
            (first | rw [c50b0] | (simp only [i64_w, i32_w]; rw [c50b0]) | skip)
            have H' := Aside0.mk H
            clear H
            go_wp2
            go_meet
            case rel => exact ⟨_, (true), (by first | rfl | (simp; done) | (simp [*]; done)), H', ⟨by have := HJ8.out; first | omega | exact Nat.le_refl _⟩, ⟨by (with_reducible repeat (first | refine blk_drewN ?_ _ | refine blk_drew ?_ | refine blk_alloc ?_ _)); exact BK254.out⟩, ⟨by (with_reducible repeat (first | refine blk_drewN ?_ _ | refine blk_drew ?_ | refine blk_alloc ?_ _)); exact BK259.out⟩, ⟨by (with_reducible repeat (first | refine blk_drewN ?_ _ | refine blk_drew ?_ | refine blk_alloc ?_ _)); exact BK264.out⟩, ⟨by repeat (first | (with_reducible first | exact HB.out | apply below_alloc | apply pw_below_drewN | apply below_drew1 | refine below_set ?_ GE254.out | refine below_set ?_ GE259.out | refine below_set ?_ GE264.out) | exact HB.out)⟩⟩
        case rest =>
          clear HC47
          try clear c1
          try clear p1
          try clear c2
          try clear p2
          try clear c3
          try clear c4
          try clear c5
          try clear c7
          try clear p10
          try clear c13
          try clear c17
          try clear c18
          try clear c23
          try clear c24
          try clear c24b0
          try clear c24b1
          try clear c25
          try clear c25b0
          try clear c26
          try clear c27
          try clear c28
          try clear c29
          try clear c30
          try clear c31
          try clear c31b0
          try clear c31b1
          try clear c32
          try clear c33
          try clear c35
          try clear c37
          try clear c38
          try clear c40
          try clear c42
          try clear c50
          try clear c50b0
          try clear c50b1
          try clear c51
          try clear c51b0
          try clear c51b1
          try clear c52
          try clear c52b0
          try clear c52b1
          try clear hcz14_0
          try clear hcz14_1
          try clear hcz14_2
          try clear hcz19_0
          try clear hcz19_1
          try clear hcz19_2
          try clear hcz20_0
          try clear hcz20_1
          try clear hcz20_2
          try clear hcz22_0
          try clear hcz22_1
          try clear hcz22_2
          try clear hcz28_0
          try clear hcz28_1
          try clear hcz28_2
          try clear hcz30_0
          try clear hcz30_1
          try clear hcz30_2
          try clear hcz34_0
          try clear hcz34_1
          try clear hcz34_2
          try clear hcz36_0
          try clear hcz36_1
          try clear hcz36_2
          try clear hcz39_0
          try clear hcz39_1
          try clear hcz39_2
          try clear hcz41_0
          try clear hcz41_1
          try clear hcz41_2
          try clear hfz14_0
          try clear hfz14_1
          try clear hfz14_2
          try clear hfz19_0
          try clear hfz19_1
          try clear hfz19_2
          try clear hfz20_0
          try clear hfz20_1
          try clear hfz20_2
          try clear hfz22_0
          try clear hfz22_1
          try clear hfz22_2
          try clear hfz28_0
          try clear hfz28_1
          try clear hfz28_2
          try clear hfz30_0
          try clear hfz30_1
          try clear hfz30_2
          try clear hfz34_0
          try clear hfz34_1
          try clear hfz34_2
          try clear hfz36_0
          try clear hfz36_1
          try clear hfz36_2
          try clear hfz39_0
          try clear hfz39_1
          try clear hfz39_2
          try clear hfz41_0
          try clear hfz41_1
          try clear hfz41_2
          try clear p1
          try clear p10
          try clear p2
          obtain ⟨kq, x104_46, rfl, HA, HJ46, BK254, BK259, BK264, HB⟩ := hcut
          cases kq with
          | zero => exact absurd HA.out (by simp [pairinglaw6_CalendarDates.j1])
          | succ kj46 =>
            have H := HA.out
            clear HA
            simp only [pairinglaw6_CalendarDates.j1] at H
            by_cases c53 : x104_46 = true
            · subst c53
              have H1 : (some false) = some r := by rw [if_pos rfl] at H; exact H
              clear H
              have H := H1
              clear H1
              obtain rfl := Option.some.inj H
              go_wp2
              go_ret
              exact ⟨by first | rfl | (simp [errW_none, errW_some] <;> rfl) | (simp [*, errW_none, errW_some] <;> rfl), by repeat (first | (with_reducible first | exact HB.out | apply below_alloc | apply pw_below_drewN | apply below_drew1 | refine below_set ?_ GE254.out | refine below_set ?_ GE259.out | refine below_set ?_ GE264.out) | exact HB.out)⟩
            · replace c53 := Bool.eq_false_iff.mpr c53
              subst c53
              have H1 : (if t266 = 0 then ((calendar_ParseDate.f kj46 t265).bind fun bt277 => (if bt277.2.2.2 = 0 then (if (!(bt277.1 == a2_0) || (!(bt277.2.1 == a2_1) || (!(bt277.2.2.1 == a2_2)))) = true then (some false) else (pairinglaw6_CalendarDates.j2 kj46 a3 t273 t274)) else (some false))) else (pairinglaw6_CalendarDates.j2 kj46 a3 t273 t274)) = some r := by rw [if_neg (show ¬ (false = true) by decide)] at H; exact H
              clear H
              have H := H1
              clear H1
              have HC54 := Aside0.mk H
              clear H
              go_upto_if 106 with (fail)
              go_cut [] (fun wc => ∃ (kq : Nat), Aside0 (pairinglaw6_CalendarDates.j2 kq a3 t273 t274 = some r) ∧ Aside0 (kq ≤ kj46) ∧ Aside0 (wc.heap[gb254]? = some (.cells #[.int .i64 a2_0, .int .i64 a2_1, .int .i64 a2_2] 27 (0, 0))) ∧ Aside0 (wc.heap[gb259]? = some (.cells #[.int .i64 t255, .int .i64 t256, .int .i64 t257] 27 (0, 0))) ∧ Aside0 (wc.heap[gb264]? = some (.cells #[.int .i64 t260, .int .i64 t261, .int .i64 t262] 27 (0, 0))) ∧ Aside0 (Below w.heap.size w wc))
              case first =>
                have H := HC54.out
                clear HC54
                by_cases c55 : t266 = 0
                · rw [if_pos c55] at H
                  have c55b0 : (t266 == 0) = true := beq_iff_eq.mpr c55
                  have c55b1 : (t266 != 0) = false := bne_eq_false_iff_eq.mpr c55
                  clear c55
                  (first | rw [c55b0] | (simp only [i64_w, i32_w]; rw [c55b0]) | skip)
                  replace H := Option.bind_eq_some_iff.mp H
                  obtain ⟨⟨t277, t278, t279, t280⟩, A560, H⟩ := H
                  replace H : (if t280 = 0 then (if (!(t277 == a2_0) || (!(t278 == a2_1) || (!(t279 == a2_2)))) = true then (some false) else (pairinglaw6_CalendarDates.j2 kj46 a3 t273 t274)) else (some false)) = some r := H
                  have A56 := Aside0.mk A560
                  clear A560
                  by_cases c57 : t280 = 0
                  · rw [if_pos c57] at H
                    have c57b0 : (t280 == 0) = true := beq_iff_eq.mpr c57
                    have c57b1 : (t280 != 0) = false := bne_eq_false_iff_eq.mpr c57
                    clear c57
                    by_cases c58 : (!(t277 == a2_0) || (!(t278 == a2_1) || (!(t279 == a2_2)))) = true
                    · rw [if_pos c58] at H
                      have c58b0 : (!(t277 == a2_0) || (!(t278 == a2_1) || (!(t279 == a2_2)))) = true := c58
                      clear c58
                      obtain rfl := Option.some.inj H
                      go_wp2_with (first | ((with_reducible refine gate_callee (f := 23) rfl ?_); refine goesL_ (some 109) rfl rfl Tryd.func23 (by kernel_rfl) rfl #[.string t265] rfl (by (try simp only [List.map_toArray, List.map_cons, List.map_nil]); first | done | rfl | (simp only [List.length_drop, List.length_take]; rfl)) ?_; (with_reducible refine (calendar_ParseDate.calls kj46 t265 t277 t278 t279 t280 _ ?side1 A56.out).mono ?_); (case side1 => first | (with_reducible exact hT_md) | exact Tab_md.below hT_md (by repeat (first | (with_reducible first | exact HB.out | apply below_alloc | apply pw_below_drewN | apply below_drew1 | refine below_set ?_ GE254.out | refine below_set ?_ GE259.out | refine below_set ?_ GE264.out) | exact HB.out))); rintro e w59 ⟨rfl, hb⟩; refine ⟨_, rfl, ?_⟩; have n0_ := Aside0.mk (blk_below (g := gb254) (o := .cells #[.int .i64 a2_0, .int .i64 a2_1, .int .i64 a2_2] 27 (0, 0)) (by (with_reducible repeat (first | refine blk_drewN ?_ _ | refine blk_drew ?_ | refine blk_alloc ?_ _)); exact BK254.out) hb); have n1_ := Aside0.mk (blk_below (g := gb259) (o := .cells #[.int .i64 t255, .int .i64 t256, .int .i64 t257] 27 (0, 0)) (by (with_reducible repeat (first | refine blk_drewN ?_ _ | refine blk_drew ?_ | refine blk_alloc ?_ _)); exact BK259.out) hb); have n2_ := Aside0.mk (blk_below (g := gb264) (o := .cells #[.int .i64 t260, .int .i64 t261, .int .i64 t262] 27 (0, 0)) (by (with_reducible repeat (first | refine blk_drewN ?_ _ | refine blk_drew ?_ | refine blk_alloc ?_ _)); exact BK264.out) hb); have n3_ := Aside0.mk (below_step (by repeat (first | (with_reducible first | exact HB.out | apply below_alloc | apply pw_below_drewN | apply below_drew1 | refine below_set ?_ GE254.out | refine below_set ?_ GE259.out | refine below_set ?_ GE264.out) | exact HB.out)) hb); clear BK254; clear BK259; clear BK264; clear HB; have BK254 := n0_; have BK259 := n1_; have BK264 := n2_; have HB := n3_; clear n0_ n1_ n2_ n3_; (try clear hb); (try clear hb2); (try clear hk); (try clear hi)) | ((with_reducible refine gate_dst (N := 25) rfl ?_); refine box_event ?hg (N := 25) ?hd (cs := #[.int .i64 0, .int .i64 0, .int .i64 0]) (t := 27) ?hr ?_; (case hd => rfl); (case hg => rfl); (case hr => first | (go_simp; done) | (go_simp; rfl)); intro gb281 hg w60 hbox hb; have n0_ := Aside0.mk (blk_below (g := gb254) (o := .cells #[.int .i64 a2_0, .int .i64 a2_1, .int .i64 a2_2] 27 (0, 0)) (by (with_reducible repeat (first | refine blk_drewN ?_ _ | refine blk_drew ?_ | refine blk_alloc ?_ _)); exact BK254.out) hb); have n1_ := Aside0.mk (blk_below (g := gb259) (o := .cells #[.int .i64 t255, .int .i64 t256, .int .i64 t257] 27 (0, 0)) (by (with_reducible repeat (first | refine blk_drewN ?_ _ | refine blk_drew ?_ | refine blk_alloc ?_ _)); exact BK259.out) hb); have n2_ := Aside0.mk (blk_below (g := gb264) (o := .cells #[.int .i64 t260, .int .i64 t261, .int .i64 t262] 27 (0, 0)) (by (with_reducible repeat (first | refine blk_drewN ?_ _ | refine blk_drew ?_ | refine blk_alloc ?_ _)); exact BK264.out) hb); have n3_ := Aside0.mk (below_step (by repeat (first | (with_reducible first | exact HB.out | apply below_alloc | apply pw_below_drewN | apply below_drew1 | refine below_set ?_ GE254.out | refine below_set ?_ GE259.out | refine below_set ?_ GE264.out) | exact HB.out)) hb); have n4_ := Aside0.mk (hbox); have n5_ := Aside0.mk ((by rw [hg]; exact (below_size (by repeat (first | (with_reducible first | exact HB.out | apply below_alloc | apply pw_below_drewN | apply below_drew1 | refine below_set ?_ GE254.out | refine below_set ?_ GE259.out | refine below_set ?_ GE264.out) | exact HB.out))) : w.heap.size ≤ gb281)); have n6_ := Aside0.mk ((by rw [hg]; exact (below_size (by repeat (first | (with_reducible first | exact HB.out | apply below_alloc | apply pw_below_drewN | apply below_drew1 | refine below_set ?_ GE254.out | refine below_set ?_ GE259.out | refine below_set ?_ GE264.out) | exact HB.out))) : w.heap.size ≤ gb281)); have n7_ := Aside0.mk ((by rw [hg]; exact Nat.ne_of_lt (blk_lt (g := gb254) (o := .cells #[.int .i64 a2_0, .int .i64 a2_1, .int .i64 a2_2] 27 (0, 0)) (by (with_reducible repeat (first | refine blk_drewN ?_ _ | refine blk_drew ?_ | refine blk_alloc ?_ _)); exact BK254.out)) : gb254 ≠ gb281)); have n8_ := Aside0.mk ((by rw [hg]; exact Nat.ne_of_gt (blk_lt (g := gb254) (o := .cells #[.int .i64 a2_0, .int .i64 a2_1, .int .i64 a2_2] 27 (0, 0)) (by (with_reducible repeat (first | refine blk_drewN ?_ _ | refine blk_drew ?_ | refine blk_alloc ?_ _)); exact BK254.out)) : gb281 ≠ gb254)); have n9_ := Aside0.mk ((by rw [hg]; exact Nat.ne_of_lt (blk_lt (g := gb259) (o := .cells #[.int .i64 t255, .int .i64 t256, .int .i64 t257] 27 (0, 0)) (by (with_reducible repeat (first | refine blk_drewN ?_ _ | refine blk_drew ?_ | refine blk_alloc ?_ _)); exact BK259.out)) : gb259 ≠ gb281)); have n10_ := Aside0.mk ((by rw [hg]; exact Nat.ne_of_gt (blk_lt (g := gb259) (o := .cells #[.int .i64 t255, .int .i64 t256, .int .i64 t257] 27 (0, 0)) (by (with_reducible repeat (first | refine blk_drewN ?_ _ | refine blk_drew ?_ | refine blk_alloc ?_ _)); exact BK259.out)) : gb281 ≠ gb259)); have n11_ := Aside0.mk ((by rw [hg]; exact Nat.ne_of_lt (blk_lt (g := gb264) (o := .cells #[.int .i64 t260, .int .i64 t261, .int .i64 t262] 27 (0, 0)) (by (with_reducible repeat (first | refine blk_drewN ?_ _ | refine blk_drew ?_ | refine blk_alloc ?_ _)); exact BK264.out)) : gb264 ≠ gb281)); have n12_ := Aside0.mk ((by rw [hg]; exact Nat.ne_of_gt (blk_lt (g := gb264) (o := .cells #[.int .i64 t260, .int .i64 t261, .int .i64 t262] 27 (0, 0)) (by (with_reducible repeat (first | refine blk_drewN ?_ _ | refine blk_drew ?_ | refine blk_alloc ?_ _)); exact BK264.out)) : gb281 ≠ gb264)); clear BK254; clear BK259; clear BK264; clear HB; have BK254 := n0_; have BK259 := n1_; have BK264 := n2_; have HB := n3_; have BK281 := n4_; have GW281 := n5_; have GE281 := n6_; have NB254_281 := n7_; have NB281_254 := n8_; have NB259_281 := n9_; have NB281_259 := n10_; have NB264_281 := n11_; have NB281_264 := n12_; clear n0_ n1_ n2_ n3_ n4_ n5_ n6_ n7_ n8_ n9_ n10_ n11_ n12_; clear hb hbox hg; have hnb61 := NB281_254.out; have hnc61 := NB254_281.out; have hnb62 := NB281_259.out; have hnc62 := NB259_281.out; have hnb63 := NB281_264.out; have hnc63 := NB264_281.out; have hcz64_0 : w60.cell? ⟨gb281, 0, none⟩ = some (.int .i64 0) := (blk_cell BK281.out 0).trans rfl; have hcz64_1 : w60.cell? ⟨gb281, 1, none⟩ = some (.int .i64 0) := (blk_cell BK281.out 1).trans rfl; have hcz64_2 : w60.cell? ⟨gb281, 2, none⟩ = some (.int .i64 0) := (blk_cell BK281.out 2).trans rfl; have hfz64_0 := blk_frozen BK281.out 0; have hfz64_1 := blk_frozen BK281.out 1; have hfz64_2 := blk_frozen BK281.out 2; have hnb65 := NB254_259.out; have hnc65 := NB259_254.out; have hnb66 := NB254_264.out; have hnc66 := NB264_254.out; have hcz67_0 : w60.cell? ⟨gb254, 0, none⟩ = some (.int .i64 a2_0) := (blk_cell BK254.out 0).trans rfl; have hcz67_1 : w60.cell? ⟨gb254, 1, none⟩ = some (.int .i64 a2_1) := (blk_cell BK254.out 1).trans rfl; have hcz67_2 : w60.cell? ⟨gb254, 2, none⟩ = some (.int .i64 a2_2) := (blk_cell BK254.out 2).trans rfl; have hfz67_0 := blk_frozen BK254.out 0; have hfz67_1 := blk_frozen BK254.out 1; have hfz67_2 := blk_frozen BK254.out 2))
                      go_ret
                      exact ⟨by first | rfl | (simp [errW_none, errW_some] <;> rfl) | (simp [*, errW_none, errW_some] <;> rfl), by repeat (first | (with_reducible first | exact HB.out | apply below_alloc | apply pw_below_drewN | apply below_drew1 | refine below_set ?_ GE254.out | refine below_set ?_ GE259.out | refine below_set ?_ GE264.out | refine below_set ?_ GE281.out) | exact HB.out)⟩
                    · rw [if_neg c58] at H
                      have c58b0 : (!(t277 == a2_0) || (!(t278 == a2_1) || (!(t279 == a2_2)))) = false := by simpa using c58
                      clear c58
                      have H' := Aside0.mk H
                      clear H
                      go_wp2_with (first | ((with_reducible refine gate_callee (f := 23) rfl ?_); refine goesL_ (some 109) rfl rfl Tryd.func23 (by kernel_rfl) rfl #[.string t265] rfl (by (try simp only [List.map_toArray, List.map_cons, List.map_nil]); first | done | rfl | (simp only [List.length_drop, List.length_take]; rfl)) ?_; (with_reducible refine (calendar_ParseDate.calls kj46 t265 t277 t278 t279 t280 _ ?side1 A56.out).mono ?_); (case side1 => first | (with_reducible exact hT_md) | exact Tab_md.below hT_md (by repeat (first | (with_reducible first | exact HB.out | apply below_alloc | apply pw_below_drewN | apply below_drew1 | refine below_set ?_ GE254.out | refine below_set ?_ GE259.out | refine below_set ?_ GE264.out) | exact HB.out))); rintro e w68 ⟨rfl, hb⟩; refine ⟨_, rfl, ?_⟩; have n0_ := Aside0.mk (blk_below (g := gb254) (o := .cells #[.int .i64 a2_0, .int .i64 a2_1, .int .i64 a2_2] 27 (0, 0)) (by (with_reducible repeat (first | refine blk_drewN ?_ _ | refine blk_drew ?_ | refine blk_alloc ?_ _)); exact BK254.out) hb); have n1_ := Aside0.mk (blk_below (g := gb259) (o := .cells #[.int .i64 t255, .int .i64 t256, .int .i64 t257] 27 (0, 0)) (by (with_reducible repeat (first | refine blk_drewN ?_ _ | refine blk_drew ?_ | refine blk_alloc ?_ _)); exact BK259.out) hb); have n2_ := Aside0.mk (blk_below (g := gb264) (o := .cells #[.int .i64 t260, .int .i64 t261, .int .i64 t262] 27 (0, 0)) (by (with_reducible repeat (first | refine blk_drewN ?_ _ | refine blk_drew ?_ | refine blk_alloc ?_ _)); exact BK264.out) hb); have n3_ := Aside0.mk (below_step (by repeat (first | (with_reducible first | exact HB.out | apply below_alloc | apply pw_below_drewN | apply below_drew1 | refine below_set ?_ GE254.out | refine below_set ?_ GE259.out | refine below_set ?_ GE264.out) | exact HB.out)) hb); clear BK254; clear BK259; clear BK264; clear HB; have BK254 := n0_; have BK259 := n1_; have BK264 := n2_; have HB := n3_; clear n0_ n1_ n2_ n3_; (try clear hb); (try clear hb2); (try clear hk); (try clear hi)) | ((with_reducible refine gate_dst (N := 25) rfl ?_); refine box_event ?hg (N := 25) ?hd (cs := #[.int .i64 0, .int .i64 0, .int .i64 0]) (t := 27) ?hr ?_; (case hd => rfl); (case hg => rfl); (case hr => first | (go_simp; done) | (go_simp; rfl)); intro gb281 hg w69 hbox hb; have n0_ := Aside0.mk (blk_below (g := gb254) (o := .cells #[.int .i64 a2_0, .int .i64 a2_1, .int .i64 a2_2] 27 (0, 0)) (by (with_reducible repeat (first | refine blk_drewN ?_ _ | refine blk_drew ?_ | refine blk_alloc ?_ _)); exact BK254.out) hb); have n1_ := Aside0.mk (blk_below (g := gb259) (o := .cells #[.int .i64 t255, .int .i64 t256, .int .i64 t257] 27 (0, 0)) (by (with_reducible repeat (first | refine blk_drewN ?_ _ | refine blk_drew ?_ | refine blk_alloc ?_ _)); exact BK259.out) hb); have n2_ := Aside0.mk (blk_below (g := gb264) (o := .cells #[.int .i64 t260, .int .i64 t261, .int .i64 t262] 27 (0, 0)) (by (with_reducible repeat (first | refine blk_drewN ?_ _ | refine blk_drew ?_ | refine blk_alloc ?_ _)); exact BK264.out) hb); have n3_ := Aside0.mk (below_step (by repeat (first | (with_reducible first | exact HB.out | apply below_alloc | apply pw_below_drewN | apply below_drew1 | refine below_set ?_ GE254.out | refine below_set ?_ GE259.out | refine below_set ?_ GE264.out) | exact HB.out)) hb); have n4_ := Aside0.mk (hbox); have n5_ := Aside0.mk ((by rw [hg]; exact (below_size (by repeat (first | (with_reducible first | exact HB.out | apply below_alloc | apply pw_below_drewN | apply below_drew1 | refine below_set ?_ GE254.out | refine below_set ?_ GE259.out | refine below_set ?_ GE264.out) | exact HB.out))) : w.heap.size ≤ gb281)); have n6_ := Aside0.mk ((by rw [hg]; exact (below_size (by repeat (first | (with_reducible first | exact HB.out | apply below_alloc | apply pw_below_drewN | apply below_drew1 | refine below_set ?_ GE254.out | refine below_set ?_ GE259.out | refine below_set ?_ GE264.out) | exact HB.out))) : w.heap.size ≤ gb281)); have n7_ := Aside0.mk ((by rw [hg]; exact Nat.ne_of_lt (blk_lt (g := gb254) (o := .cells #[.int .i64 a2_0, .int .i64 a2_1, .int .i64 a2_2] 27 (0, 0)) (by (with_reducible repeat (first | refine blk_drewN ?_ _ | refine blk_drew ?_ | refine blk_alloc ?_ _)); exact BK254.out)) : gb254 ≠ gb281)); have n8_ := Aside0.mk ((by rw [hg]; exact Nat.ne_of_gt (blk_lt (g := gb254) (o := .cells #[.int .i64 a2_0, .int .i64 a2_1, .int .i64 a2_2] 27 (0, 0)) (by (with_reducible repeat (first | refine blk_drewN ?_ _ | refine blk_drew ?_ | refine blk_alloc ?_ _)); exact BK254.out)) : gb281 ≠ gb254)); have n9_ := Aside0.mk ((by rw [hg]; exact Nat.ne_of_lt (blk_lt (g := gb259) (o := .cells #[.int .i64 t255, .int .i64 t256, .int .i64 t257] 27 (0, 0)) (by (with_reducible repeat (first | refine blk_drewN ?_ _ | refine blk_drew ?_ | refine blk_alloc ?_ _)); exact BK259.out)) : gb259 ≠ gb281)); have n10_ := Aside0.mk ((by rw [hg]; exact Nat.ne_of_gt (blk_lt (g := gb259) (o := .cells #[.int .i64 t255, .int .i64 t256, .int .i64 t257] 27 (0, 0)) (by (with_reducible repeat (first | refine blk_drewN ?_ _ | refine blk_drew ?_ | refine blk_alloc ?_ _)); exact BK259.out)) : gb281 ≠ gb259)); have n11_ := Aside0.mk ((by rw [hg]; exact Nat.ne_of_lt (blk_lt (g := gb264) (o := .cells #[.int .i64 t260, .int .i64 t261, .int .i64 t262] 27 (0, 0)) (by (with_reducible repeat (first | refine blk_drewN ?_ _ | refine blk_drew ?_ | refine blk_alloc ?_ _)); exact BK264.out)) : gb264 ≠ gb281)); have n12_ := Aside0.mk ((by rw [hg]; exact Nat.ne_of_gt (blk_lt (g := gb264) (o := .cells #[.int .i64 t260, .int .i64 t261, .int .i64 t262] 27 (0, 0)) (by (with_reducible repeat (first | refine blk_drewN ?_ _ | refine blk_drew ?_ | refine blk_alloc ?_ _)); exact BK264.out)) : gb281 ≠ gb264)); clear BK254; clear BK259; clear BK264; clear HB; have BK254 := n0_; have BK259 := n1_; have BK264 := n2_; have HB := n3_; have BK281 := n4_; have GW281 := n5_; have GE281 := n6_; have NB254_281 := n7_; have NB281_254 := n8_; have NB259_281 := n9_; have NB281_259 := n10_; have NB264_281 := n11_; have NB281_264 := n12_; clear n0_ n1_ n2_ n3_ n4_ n5_ n6_ n7_ n8_ n9_ n10_ n11_ n12_; clear hb hbox hg; have hnb70 := NB281_254.out; have hnc70 := NB254_281.out; have hnb71 := NB281_259.out; have hnc71 := NB259_281.out; have hnb72 := NB281_264.out; have hnc72 := NB264_281.out; have hcz73_0 : w69.cell? ⟨gb281, 0, none⟩ = some (.int .i64 0) := (blk_cell BK281.out 0).trans rfl; have hcz73_1 : w69.cell? ⟨gb281, 1, none⟩ = some (.int .i64 0) := (blk_cell BK281.out 1).trans rfl; have hcz73_2 : w69.cell? ⟨gb281, 2, none⟩ = some (.int .i64 0) := (blk_cell BK281.out 2).trans rfl; have hfz73_0 := blk_frozen BK281.out 0; have hfz73_1 := blk_frozen BK281.out 1; have hfz73_2 := blk_frozen BK281.out 2; have hnb74 := NB254_259.out; have hnc74 := NB259_254.out; have hnb75 := NB254_264.out; have hnc75 := NB264_254.out; have hcz76_0 : w69.cell? ⟨gb254, 0, none⟩ = some (.int .i64 a2_0) := (blk_cell BK254.out 0).trans rfl; have hcz76_1 : w69.cell? ⟨gb254, 1, none⟩ = some (.int .i64 a2_1) := (blk_cell BK254.out 1).trans rfl; have hcz76_2 : w69.cell? ⟨gb254, 2, none⟩ = some (.int .i64 a2_2) := (blk_cell BK254.out 2).trans rfl; have hfz76_0 := blk_frozen BK254.out 0; have hfz76_1 := blk_frozen BK254.out 1; have hfz76_2 := blk_frozen BK254.out 2))
                      go_meet
                      case rel => exact ⟨_, H', ⟨by have := HJ8.out; have := HJ46.out; first | omega | exact Nat.le_refl _⟩, ⟨by (with_reducible repeat (first | refine blk_drewN ?_ _ | refine blk_drew ?_ | refine blk_alloc ?_ _)); refine blk_far ?_ NB254_281.out _; (with_reducible repeat (first | refine blk_drewN ?_ _ | refine blk_drew ?_ | refine blk_alloc ?_ _)); refine blk_far ?_ NB254_281.out _; (with_reducible repeat (first | refine blk_drewN ?_ _ | refine blk_drew ?_ | refine blk_alloc ?_ _)); refine blk_far ?_ NB254_281.out _; (with_reducible repeat (first | refine blk_drewN ?_ _ | refine blk_drew ?_ | refine blk_alloc ?_ _)); exact BK254.out⟩, ⟨by (with_reducible repeat (first | refine blk_drewN ?_ _ | refine blk_drew ?_ | refine blk_alloc ?_ _)); refine blk_far ?_ NB259_281.out _; (with_reducible repeat (first | refine blk_drewN ?_ _ | refine blk_drew ?_ | refine blk_alloc ?_ _)); refine blk_far ?_ NB259_281.out _; (with_reducible repeat (first | refine blk_drewN ?_ _ | refine blk_drew ?_ | refine blk_alloc ?_ _)); refine blk_far ?_ NB259_281.out _; (with_reducible repeat (first | refine blk_drewN ?_ _ | refine blk_drew ?_ | refine blk_alloc ?_ _)); exact BK259.out⟩, ⟨by (with_reducible repeat (first | refine blk_drewN ?_ _ | refine blk_drew ?_ | refine blk_alloc ?_ _)); refine blk_far ?_ NB264_281.out _; (with_reducible repeat (first | refine blk_drewN ?_ _ | refine blk_drew ?_ | refine blk_alloc ?_ _)); refine blk_far ?_ NB264_281.out _; (with_reducible repeat (first | refine blk_drewN ?_ _ | refine blk_drew ?_ | refine blk_alloc ?_ _)); refine blk_far ?_ NB264_281.out _; (with_reducible repeat (first | refine blk_drewN ?_ _ | refine blk_drew ?_ | refine blk_alloc ?_ _)); exact BK264.out⟩, ⟨by repeat (first | (with_reducible first | exact HB.out | apply below_alloc | apply pw_below_drewN | apply below_drew1 | refine below_set ?_ GE254.out | refine below_set ?_ GE259.out | refine below_set ?_ GE264.out | refine below_set ?_ GE281.out) | exact HB.out)⟩⟩
                  · rw [if_neg c57] at H
                    have c57b0 : (t280 == 0) = false := beq_eq_false_iff_ne.mpr c57
                    have c57b1 : (t280 != 0) = true := bne_iff_ne.mpr c57
                    obtain rfl := Option.some.inj H
                    go_wp2_with (first | ((with_reducible refine gate_callee (f := 23) rfl ?_); refine goesL_ (some 109) rfl rfl Tryd.func23 (by kernel_rfl) rfl #[.string t265] rfl (by (try simp only [List.map_toArray, List.map_cons, List.map_nil]); first | done | rfl | (simp only [List.length_drop, List.length_take]; rfl)) ?_; (with_reducible refine (calendar_ParseDate.calls kj46 t265 t277 t278 t279 t280 _ ?side1 A56.out).mono ?_); (case side1 => first | (with_reducible exact hT_md) | exact Tab_md.below hT_md (by repeat (first | (with_reducible first | exact HB.out | apply below_alloc | apply pw_below_drewN | apply below_drew1 | refine below_set ?_ GE254.out | refine below_set ?_ GE259.out | refine below_set ?_ GE264.out) | exact HB.out))); rintro e w77 ⟨rfl, hb⟩; refine ⟨_, rfl, ?_⟩; have n0_ := Aside0.mk (blk_below (g := gb254) (o := .cells #[.int .i64 a2_0, .int .i64 a2_1, .int .i64 a2_2] 27 (0, 0)) (by (with_reducible repeat (first | refine blk_drewN ?_ _ | refine blk_drew ?_ | refine blk_alloc ?_ _)); exact BK254.out) hb); have n1_ := Aside0.mk (blk_below (g := gb259) (o := .cells #[.int .i64 t255, .int .i64 t256, .int .i64 t257] 27 (0, 0)) (by (with_reducible repeat (first | refine blk_drewN ?_ _ | refine blk_drew ?_ | refine blk_alloc ?_ _)); exact BK259.out) hb); have n2_ := Aside0.mk (blk_below (g := gb264) (o := .cells #[.int .i64 t260, .int .i64 t261, .int .i64 t262] 27 (0, 0)) (by (with_reducible repeat (first | refine blk_drewN ?_ _ | refine blk_drew ?_ | refine blk_alloc ?_ _)); exact BK264.out) hb); have n3_ := Aside0.mk (below_step (by repeat (first | (with_reducible first | exact HB.out | apply below_alloc | apply pw_below_drewN | apply below_drew1 | refine below_set ?_ GE254.out | refine below_set ?_ GE259.out | refine below_set ?_ GE264.out) | exact HB.out)) hb); clear BK254; clear BK259; clear BK264; clear HB; have BK254 := n0_; have BK259 := n1_; have BK264 := n2_; have HB := n3_; clear n0_ n1_ n2_ n3_; (try clear hb); (try clear hb2); (try clear hk); (try clear hi)) | ((with_reducible refine gate_dst (N := 25) rfl ?_); refine box_event ?hg (N := 25) ?hd (cs := #[.int .i64 0, .int .i64 0, .int .i64 0]) (t := 27) ?hr ?_; (case hd => rfl); (case hg => rfl); (case hr => first | (go_simp; done) | (go_simp; rfl)); intro gb281 hg w78 hbox hb; have n0_ := Aside0.mk (blk_below (g := gb254) (o := .cells #[.int .i64 a2_0, .int .i64 a2_1, .int .i64 a2_2] 27 (0, 0)) (by (with_reducible repeat (first | refine blk_drewN ?_ _ | refine blk_drew ?_ | refine blk_alloc ?_ _)); exact BK254.out) hb); have n1_ := Aside0.mk (blk_below (g := gb259) (o := .cells #[.int .i64 t255, .int .i64 t256, .int .i64 t257] 27 (0, 0)) (by (with_reducible repeat (first | refine blk_drewN ?_ _ | refine blk_drew ?_ | refine blk_alloc ?_ _)); exact BK259.out) hb); have n2_ := Aside0.mk (blk_below (g := gb264) (o := .cells #[.int .i64 t260, .int .i64 t261, .int .i64 t262] 27 (0, 0)) (by (with_reducible repeat (first | refine blk_drewN ?_ _ | refine blk_drew ?_ | refine blk_alloc ?_ _)); exact BK264.out) hb); have n3_ := Aside0.mk (below_step (by repeat (first | (with_reducible first | exact HB.out | apply below_alloc | apply pw_below_drewN | apply below_drew1 | refine below_set ?_ GE254.out | refine below_set ?_ GE259.out | refine below_set ?_ GE264.out) | exact HB.out)) hb); have n4_ := Aside0.mk (hbox); have n5_ := Aside0.mk ((by rw [hg]; exact (below_size (by repeat (first | (with_reducible first | exact HB.out | apply below_alloc | apply pw_below_drewN | apply below_drew1 | refine below_set ?_ GE254.out | refine below_set ?_ GE259.out | refine below_set ?_ GE264.out) | exact HB.out))) : w.heap.size ≤ gb281)); have n6_ := Aside0.mk ((by rw [hg]; exact (below_size (by repeat (first | (with_reducible first | exact HB.out | apply below_alloc | apply pw_below_drewN | apply below_drew1 | refine below_set ?_ GE254.out | refine below_set ?_ GE259.out | refine below_set ?_ GE264.out) | exact HB.out))) : w.heap.size ≤ gb281)); have n7_ := Aside0.mk ((by rw [hg]; exact Nat.ne_of_lt (blk_lt (g := gb254) (o := .cells #[.int .i64 a2_0, .int .i64 a2_1, .int .i64 a2_2] 27 (0, 0)) (by (with_reducible repeat (first | refine blk_drewN ?_ _ | refine blk_drew ?_ | refine blk_alloc ?_ _)); exact BK254.out)) : gb254 ≠ gb281)); have n8_ := Aside0.mk ((by rw [hg]; exact Nat.ne_of_gt (blk_lt (g := gb254) (o := .cells #[.int .i64 a2_0, .int .i64 a2_1, .int .i64 a2_2] 27 (0, 0)) (by (with_reducible repeat (first | refine blk_drewN ?_ _ | refine blk_drew ?_ | refine blk_alloc ?_ _)); exact BK254.out)) : gb281 ≠ gb254)); have n9_ := Aside0.mk ((by rw [hg]; exact Nat.ne_of_lt (blk_lt (g := gb259) (o := .cells #[.int .i64 t255, .int .i64 t256, .int .i64 t257] 27 (0, 0)) (by (with_reducible repeat (first | refine blk_drewN ?_ _ | refine blk_drew ?_ | refine blk_alloc ?_ _)); exact BK259.out)) : gb259 ≠ gb281)); have n10_ := Aside0.mk ((by rw [hg]; exact Nat.ne_of_gt (blk_lt (g := gb259) (o := .cells #[.int .i64 t255, .int .i64 t256, .int .i64 t257] 27 (0, 0)) (by (with_reducible repeat (first | refine blk_drewN ?_ _ | refine blk_drew ?_ | refine blk_alloc ?_ _)); exact BK259.out)) : gb281 ≠ gb259)); have n11_ := Aside0.mk ((by rw [hg]; exact Nat.ne_of_lt (blk_lt (g := gb264) (o := .cells #[.int .i64 t260, .int .i64 t261, .int .i64 t262] 27 (0, 0)) (by (with_reducible repeat (first | refine blk_drewN ?_ _ | refine blk_drew ?_ | refine blk_alloc ?_ _)); exact BK264.out)) : gb264 ≠ gb281)); have n12_ := Aside0.mk ((by rw [hg]; exact Nat.ne_of_gt (blk_lt (g := gb264) (o := .cells #[.int .i64 t260, .int .i64 t261, .int .i64 t262] 27 (0, 0)) (by (with_reducible repeat (first | refine blk_drewN ?_ _ | refine blk_drew ?_ | refine blk_alloc ?_ _)); exact BK264.out)) : gb281 ≠ gb264)); clear BK254; clear BK259; clear BK264; clear HB; have BK254 := n0_; have BK259 := n1_; have BK264 := n2_; have HB := n3_; have BK281 := n4_; have GW281 := n5_; have GE281 := n6_; have NB254_281 := n7_; have NB281_254 := n8_; have NB259_281 := n9_; have NB281_259 := n10_; have NB264_281 := n11_; have NB281_264 := n12_; clear n0_ n1_ n2_ n3_ n4_ n5_ n6_ n7_ n8_ n9_ n10_ n11_ n12_; clear hb hbox hg; have hnb79 := NB281_254.out; have hnc79 := NB254_281.out; have hnb80 := NB281_259.out; have hnc80 := NB259_281.out; have hnb81 := NB281_264.out; have hnc81 := NB264_281.out; have hcz82_0 : w78.cell? ⟨gb281, 0, none⟩ = some (.int .i64 0) := (blk_cell BK281.out 0).trans rfl; have hcz82_1 : w78.cell? ⟨gb281, 1, none⟩ = some (.int .i64 0) := (blk_cell BK281.out 1).trans rfl; have hcz82_2 : w78.cell? ⟨gb281, 2, none⟩ = some (.int .i64 0) := (blk_cell BK281.out 2).trans rfl; have hfz82_0 := blk_frozen BK281.out 0; have hfz82_1 := blk_frozen BK281.out 1; have hfz82_2 := blk_frozen BK281.out 2))
                    go_ret
                    exact ⟨by first | rfl | (simp [errW_none, errW_some] <;> rfl) | (simp [*, errW_none, errW_some] <;> rfl), by repeat (first | (with_reducible first | exact HB.out | apply below_alloc | apply pw_below_drewN | apply below_drew1 | refine below_set ?_ GE254.out | refine below_set ?_ GE259.out | refine below_set ?_ GE264.out | refine below_set ?_ GE281.out) | exact HB.out)⟩
                · rw [if_neg c55] at H
                  have c55b0 : (t266 == 0) = false := beq_eq_false_iff_ne.mpr c55
                  have c55b1 : (t266 != 0) = true := bne_iff_ne.mpr c55
                  (first | rw [c55b0] | (simp only [i64_w, i32_w]; rw [c55b0]) | skip)
                  have H' := Aside0.mk H
                  clear H
                  go_wp2
                  go_meet
                  case rel => exact ⟨_, H', ⟨by have := HJ8.out; have := HJ46.out; first | omega | exact Nat.le_refl _⟩, ⟨by (with_reducible repeat (first | refine blk_drewN ?_ _ | refine blk_drew ?_ | refine blk_alloc ?_ _)); exact BK254.out⟩, ⟨by (with_reducible repeat (first | refine blk_drewN ?_ _ | refine blk_drew ?_ | refine blk_alloc ?_ _)); exact BK259.out⟩, ⟨by (with_reducible repeat (first | refine blk_drewN ?_ _ | refine blk_drew ?_ | refine blk_alloc ?_ _)); exact BK264.out⟩, ⟨by repeat (first | (with_reducible first | exact HB.out | apply below_alloc | apply pw_below_drewN | apply below_drew1 | refine below_set ?_ GE254.out | refine below_set ?_ GE259.out | refine below_set ?_ GE264.out) | exact HB.out)⟩⟩
              case rest =>
                clear HC54
                try clear c1
                try clear p1
                try clear c2
                try clear p2
                try clear c3
                try clear c4
                try clear c5
                try clear c6
                try clear c7
                try clear c8
                try clear p10
                try clear c13
                try clear c17
                try clear c18
                try clear c23
                try clear c24
                try clear c24b0
                try clear c24b1
                try clear c25
                try clear c25b0
                try clear c26
                try clear c27
                try clear c28
                try clear c29
                try clear c30
                try clear c31
                try clear c31b0
                try clear c31b1
                try clear c32
                try clear c33
                try clear c35
                try clear c37
                try clear c38
                try clear c40
                try clear c42
                try clear c50
                try clear c50b0
                try clear c50b1
                try clear c51
                try clear c51b0
                try clear c51b1
                try clear c52
                try clear c52b0
                try clear c52b1
                try clear c53
                try clear c55
                try clear c55b0
                try clear c55b1
                try clear c57
                try clear c57b0
                try clear c57b1
                try clear c58
                try clear c58b0
                try clear c61
                try clear c62
                try clear c63
                try clear c65
                try clear c66
                try clear c70
                try clear c71
                try clear c72
                try clear c74
                try clear c75
                try clear c79
                try clear c80
                try clear c81
                try clear hcz14_0
                try clear hcz14_1
                try clear hcz14_2
                try clear hcz19_0
                try clear hcz19_1
                try clear hcz19_2
                try clear hcz20_0
                try clear hcz20_1
                try clear hcz20_2
                try clear hcz22_0
                try clear hcz22_1
                try clear hcz22_2
                try clear hcz28_0
                try clear hcz28_1
                try clear hcz28_2
                try clear hcz30_0
                try clear hcz30_1
                try clear hcz30_2
                try clear hcz34_0
                try clear hcz34_1
                try clear hcz34_2
                try clear hcz36_0
                try clear hcz36_1
                try clear hcz36_2
                try clear hcz39_0
                try clear hcz39_1
                try clear hcz39_2
                try clear hcz41_0
                try clear hcz41_1
                try clear hcz41_2
                try clear hcz64_0
                try clear hcz64_1
                try clear hcz64_2
                try clear hcz67_0
                try clear hcz67_1
                try clear hcz67_2
                try clear hcz73_0
                try clear hcz73_1
                try clear hcz73_2
                try clear hcz76_0
                try clear hcz76_1
                try clear hcz76_2
                try clear hcz82_0
                try clear hcz82_1
                try clear hcz82_2
                try clear hfz14_0
                try clear hfz14_1
                try clear hfz14_2
                try clear hfz19_0
                try clear hfz19_1
                try clear hfz19_2
                try clear hfz20_0
                try clear hfz20_1
                try clear hfz20_2
                try clear hfz22_0
                try clear hfz22_1
                try clear hfz22_2
                try clear hfz28_0
                try clear hfz28_1
                try clear hfz28_2
                try clear hfz30_0
                try clear hfz30_1
                try clear hfz30_2
                try clear hfz34_0
                try clear hfz34_1
                try clear hfz34_2
                try clear hfz36_0
                try clear hfz36_1
                try clear hfz36_2
                try clear hfz39_0
                try clear hfz39_1
                try clear hfz39_2
                try clear hfz41_0
                try clear hfz41_1
                try clear hfz41_2
                try clear hfz64_0
                try clear hfz64_1
                try clear hfz64_2
                try clear hfz67_0
                try clear hfz67_1
                try clear hfz67_2
                try clear hfz73_0
                try clear hfz73_1
                try clear hfz73_2
                try clear hfz76_0
                try clear hfz76_1
                try clear hfz76_2
                try clear hfz82_0
                try clear hfz82_1
                try clear hfz82_2
                try clear p1
                try clear p10
                try clear p2
                obtain ⟨kq, HA, HJ53, BK254, BK259, BK264, HB⟩ := hcut
                cases kq with
                | zero => exact absurd HA.out (by simp [pairinglaw6_CalendarDates.j2])
                | succ kj53 =>
                  have H := HA.out
                  clear HA
                  simp only [pairinglaw6_CalendarDates.j2] at H
                  by_cases c83 : t274 = 0
                  · rw [if_pos c83] at H
                    have c83b0 : (t274 == 0) = true := beq_iff_eq.mpr c83
                    have c83b1 : (t274 != 0) = false := bne_eq_false_iff_eq.mpr c83
                    clear c83
                    replace H := Option.bind_eq_some_iff.mp H
                    obtain ⟨⟨t282, t283⟩, A840, H⟩ := H
                    replace H : (if t283 = 0 then (if t282 = a3 then ((pairinglaw6_awake.f kj53).bind fun t284 => (some t284)) else (some false)) else (some false)) = some r := H
                    have A84 := Aside0.mk A840
                    clear A840
                    by_cases c85 : t283 = 0
                    · rw [if_pos c85] at H
                      have c85b0 : (t283 == 0) = true := beq_iff_eq.mpr c85
                      have c85b1 : (t283 != 0) = false := bne_eq_false_iff_eq.mpr c85
                      clear c85
                      by_cases c86 : t282 = a3
                      · rw [if_pos c86] at H
                        have c86b0 : (t282 == a3) = true := beq_iff_eq.mpr c86
                        have c86b1 : (t282 != a3) = false := bne_eq_false_iff_eq.mpr c86
                        clear c86
                        replace H := Option.bind_eq_some_iff.mp H
                        obtain ⟨t284, A870, H⟩ := H
                        replace H : (some t284) = some r := H
                        have A87 := Aside0.mk A870
                        clear A870
                        obtain rfl := Option.some.inj H
                        go_wp2_with (first | ((with_reducible refine gate_callee (f := 27) rfl ?_); refine goesL_ (some 123) rfl rfl Tryd.func27 (by kernel_rfl) rfl #[.string t273] rfl (by (try simp only [List.map_toArray, List.map_cons, List.map_nil]); first | done | rfl | (simp only [List.length_drop, List.length_take]; rfl)) ?_; (with_reducible refine (calendar_ParseClock.calls kj53 t273 t282 t283 _ A84.out).mono ?_); rintro e w' ⟨rfl, ⟨nd, rfl⟩⟩; refine ⟨_, rfl, ?_⟩) | ((with_reducible refine gate_callee (f := 12) rfl ?_); refine goesL_ (some 133) rfl rfl Tryd.func12 (by kernel_rfl) rfl #[] rfl (by (try simp only [List.map_toArray, List.map_cons, List.map_nil]); first | done | rfl | (simp only [List.length_drop, List.length_take]; rfl)) ?_; (with_reducible refine (pairinglaw6_awake.calls kj53  t284 _ ?side1 A87.out).mono ?_); (case side1 => first | (with_reducible exact hT_md) | exact Tab_md.below hT_md (by repeat (first | (with_reducible first | exact HB.out | apply below_alloc | apply pw_below_drewN | apply below_drew1 | refine below_set ?_ GE254.out | refine below_set ?_ GE259.out | refine below_set ?_ GE264.out) | exact HB.out))); rintro e w88 ⟨rfl, hb⟩; refine ⟨_, rfl, ?_⟩; have n0_ := Aside0.mk (blk_below (g := gb254) (o := .cells #[.int .i64 a2_0, .int .i64 a2_1, .int .i64 a2_2] 27 (0, 0)) (by (with_reducible repeat (first | refine blk_drewN ?_ _ | refine blk_drew ?_ | refine blk_alloc ?_ _)); exact BK254.out) hb); have n1_ := Aside0.mk (blk_below (g := gb259) (o := .cells #[.int .i64 t255, .int .i64 t256, .int .i64 t257] 27 (0, 0)) (by (with_reducible repeat (first | refine blk_drewN ?_ _ | refine blk_drew ?_ | refine blk_alloc ?_ _)); exact BK259.out) hb); have n2_ := Aside0.mk (blk_below (g := gb264) (o := .cells #[.int .i64 t260, .int .i64 t261, .int .i64 t262] 27 (0, 0)) (by (with_reducible repeat (first | refine blk_drewN ?_ _ | refine blk_drew ?_ | refine blk_alloc ?_ _)); exact BK264.out) hb); have n3_ := Aside0.mk (below_step (by repeat (first | (with_reducible first | exact HB.out | apply below_alloc | apply pw_below_drewN | apply below_drew1 | refine below_set ?_ GE254.out | refine below_set ?_ GE259.out | refine below_set ?_ GE264.out) | exact HB.out)) hb); clear BK254; clear BK259; clear BK264; clear HB; have BK254 := n0_; have BK259 := n1_; have BK264 := n2_; have HB := n3_; clear n0_ n1_ n2_ n3_; (try clear hb); (try clear hb2); (try clear hk); (try clear hi)))
                        go_ret
                        exact ⟨by first | rfl | (simp [errW_none, errW_some] <;> rfl) | (simp [*, errW_none, errW_some] <;> rfl), by repeat (first | (with_reducible first | exact HB.out | apply below_alloc | apply pw_below_drewN | apply below_drew1 | refine below_set ?_ GE254.out | refine below_set ?_ GE259.out | refine below_set ?_ GE264.out) | exact HB.out)⟩
                      · rw [if_neg c86] at H
                        have c86b0 : (t282 == a3) = false := beq_eq_false_iff_ne.mpr c86
                        have c86b1 : (t282 != a3) = true := bne_iff_ne.mpr c86
                        obtain rfl := Option.some.inj H
                        go_wp2_with (first | ((with_reducible refine gate_callee (f := 27) rfl ?_); refine goesL_ (some 123) rfl rfl Tryd.func27 (by kernel_rfl) rfl #[.string t273] rfl (by (try simp only [List.map_toArray, List.map_cons, List.map_nil]); first | done | rfl | (simp only [List.length_drop, List.length_take]; rfl)) ?_; (with_reducible refine (calendar_ParseClock.calls kj53 t273 t282 t283 _ A84.out).mono ?_); rintro e w' ⟨rfl, ⟨nd, rfl⟩⟩; refine ⟨_, rfl, ?_⟩))
                        go_ret
                        exact ⟨by first | rfl | (simp [errW_none, errW_some] <;> rfl) | (simp [*, errW_none, errW_some] <;> rfl), by repeat (first | (with_reducible first | exact HB.out | apply below_alloc | apply pw_below_drewN | apply below_drew1 | refine below_set ?_ GE254.out | refine below_set ?_ GE259.out | refine below_set ?_ GE264.out) | exact HB.out)⟩
                    · rw [if_neg c85] at H
                      have c85b0 : (t283 == 0) = false := beq_eq_false_iff_ne.mpr c85
                      have c85b1 : (t283 != 0) = true := bne_iff_ne.mpr c85
                      obtain rfl := Option.some.inj H
                      go_wp2_with (first | ((with_reducible refine gate_callee (f := 27) rfl ?_); refine goesL_ (some 123) rfl rfl Tryd.func27 (by kernel_rfl) rfl #[.string t273] rfl (by (try simp only [List.map_toArray, List.map_cons, List.map_nil]); first | done | rfl | (simp only [List.length_drop, List.length_take]; rfl)) ?_; (with_reducible refine (calendar_ParseClock.calls kj53 t273 t282 t283 _ A84.out).mono ?_); rintro e w' ⟨rfl, ⟨nd, rfl⟩⟩; refine ⟨_, rfl, ?_⟩))
                      go_ret
                      exact ⟨by first | rfl | (simp [errW_none, errW_some] <;> rfl) | (simp [*, errW_none, errW_some] <;> rfl), by repeat (first | (with_reducible first | exact HB.out | apply below_alloc | apply pw_below_drewN | apply below_drew1 | refine below_set ?_ GE254.out | refine below_set ?_ GE259.out | refine below_set ?_ GE264.out) | exact HB.out)⟩
                  · rw [if_neg c83] at H
                    have c83b0 : (t274 == 0) = false := beq_eq_false_iff_ne.mpr c83
                    have c83b1 : (t274 != 0) = true := bne_iff_ne.mpr c83
                    replace H := Option.bind_eq_some_iff.mp H
                    obtain ⟨t285, A890, H⟩ := H
                    replace H : (some t285) = some r := H
                    have A89 := Aside0.mk A890
                    clear A890
                    obtain rfl := Option.some.inj H
                    go_wp2_with (first | ((with_reducible refine gate_callee (f := 12) rfl ?_); refine goesL_ (some 133) rfl rfl Tryd.func12 (by kernel_rfl) rfl #[] rfl (by (try simp only [List.map_toArray, List.map_cons, List.map_nil]); first | done | rfl | (simp only [List.length_drop, List.length_take]; rfl)) ?_; (with_reducible refine (pairinglaw6_awake.calls kj53  t285 _ ?side1 A89.out).mono ?_); (case side1 => first | (with_reducible exact hT_md) | exact Tab_md.below hT_md (by repeat (first | (with_reducible first | exact HB.out | apply below_alloc | apply pw_below_drewN | apply below_drew1 | refine below_set ?_ GE254.out | refine below_set ?_ GE259.out | refine below_set ?_ GE264.out) | exact HB.out))); rintro e w90 ⟨rfl, hb⟩; refine ⟨_, rfl, ?_⟩; have n0_ := Aside0.mk (blk_below (g := gb254) (o := .cells #[.int .i64 a2_0, .int .i64 a2_1, .int .i64 a2_2] 27 (0, 0)) (by (with_reducible repeat (first | refine blk_drewN ?_ _ | refine blk_drew ?_ | refine blk_alloc ?_ _)); exact BK254.out) hb); have n1_ := Aside0.mk (blk_below (g := gb259) (o := .cells #[.int .i64 t255, .int .i64 t256, .int .i64 t257] 27 (0, 0)) (by (with_reducible repeat (first | refine blk_drewN ?_ _ | refine blk_drew ?_ | refine blk_alloc ?_ _)); exact BK259.out) hb); have n2_ := Aside0.mk (blk_below (g := gb264) (o := .cells #[.int .i64 t260, .int .i64 t261, .int .i64 t262] 27 (0, 0)) (by (with_reducible repeat (first | refine blk_drewN ?_ _ | refine blk_drew ?_ | refine blk_alloc ?_ _)); exact BK264.out) hb); have n3_ := Aside0.mk (below_step (by repeat (first | (with_reducible first | exact HB.out | apply below_alloc | apply pw_below_drewN | apply below_drew1 | refine below_set ?_ GE254.out | refine below_set ?_ GE259.out | refine below_set ?_ GE264.out) | exact HB.out)) hb); clear BK254; clear BK259; clear BK264; clear HB; have BK254 := n0_; have BK259 := n1_; have BK264 := n2_; have HB := n3_; clear n0_ n1_ n2_ n3_; (try clear hb); (try clear hb2); (try clear hk); (try clear hi)))
                    go_ret
                    exact ⟨by first | rfl | (simp [errW_none, errW_some] <;> rfl) | (simp [*, errW_none, errW_some] <;> rfl), by repeat (first | (with_reducible first | exact HB.out | apply below_alloc | apply pw_below_drewN | apply below_drew1 | refine below_set ?_ GE254.out | refine below_set ?_ GE259.out | refine below_set ?_ GE264.out) | exact HB.out)⟩

/-- THE ONE PURE STATEMENT of pairinglaw6_CalendarDates. -/
def pairinglaw6_CalendarDates.Pure : Prop := ∀ (a0 : ByteArray) (a1 : ByteArray) (a2 : S27) (a3 : Int), a0.size ≤ 140737488351232 → a1.size ≤ 140737488351232 → ((Lit.int .i64 a2.f0).wf = true ∧ (Lit.int .i64 a2.f1).wf = true ∧ (Lit.int .i64 a2.f2).wf = true) → (Lit.int .i64 a3).wf = true → ∃ k, pairinglaw6_CalendarDates.f k a0 a1 (a2).f0 (a2).f1 (a2).f2 a3 = some true

end Go.Proofs.YtdpkemjbiengfaaDoor.QCal
