/- Written by a program (wip/myprint.py): the Go functions that the laws reach, each as a plain Lean function, and a proof that the machine's call answers as that function says. -/
import Derived.Test.YtdpkemjbiengfaaDoorQCal0
import Derived.Test.YtdpkemjbiengfaaDoorQCal6
namespace Go.Proofs.YtdpkemjbiengfaaDoor.QCal
open Go.RowKit Go.Proofs.YtdpkemjbiengfaaDoorW.PrintWords Go.Proofs.YtdpkemjbiengfaaDoorW.PrintLast Go.Proofs.YtdpkemjbiengfaaDoorW.PrintMore
attribute [local go_sem] max2_int min2_int max_two min_two max_three min_three max_four min_four   -- for this text's walks alone
set_option linter.unusedVariables false
set_option linter.unusedSimpArgs false

/-! ### pairingref5_DayNumber: function 18 -/
mutual
def pairingref5_DayNumber.l0 : Nat → Int → Int → Int → Int → Int → Option (Int × Int)
  | 0, _, _, _, _, _ => none
  | k + 1, x4, x5, x153000, x153001, x153002 => if x5 < x153000 then ((pairingref5_leap.f x5).bind fun t154 => (if t154 = true then (pairingref5_DayNumber.l0 k (wrap64 ((wrap64 (x4 + 365)) + 1)) (wrap64 (x5 + 1)) x153000 x153001 x153002) else (pairingref5_DayNumber.l0 k (wrap64 (x4 + 365)) (wrap64 (x5 + 1)) x153000 x153001 x153002))) else (pairingref5_DayNumber.l1 k x4 1 x153000 x153001 x153002)
def pairingref5_DayNumber.l1 : Nat → Int → Int → Int → Int → Int → Option (Int × Int)
  | 0, _, _, _, _, _ => none
  | k + 1, x4, x6, x153000, x153001, x153002 => if x6 < x153001 then ((pairingref5_DaysInMonth.f k x153000 x6).bind fun bt155 => (pairingref5_DayNumber.l1 k (wrap64 (x4 + bt155.1)) (wrap64 (x6 + 1)) x153000 x153001 x153002)) else (some (wrap64 ((wrap64 (x4 + x153002)) - 1), 0))
end
def pairingref5_DayNumber.f (k : Nat) (a0_0 : Int) (a0_1 : Int) (a0_2 : Int) : Option (Int × Int) := (pairingref5_IsDate.f k a0_0 a0_1 a0_2).bind fun t153 => (if t153 = true then (pairingref5_DayNumber.l0 k (-365) 1999 a0_0 a0_1 a0_2) else (some (0, 5)))
theorem pairingref5_DayNumber.mono_l : ∀ k, (∀ y0 y1 y2 y3 y4, LeO (pairingref5_DayNumber.l0 k y0 y1 y2 y3 y4) (pairingref5_DayNumber.l0 (k + 1) y0 y1 y2 y3 y4)) ∧ (∀ y0 y1 y2 y3 y4, LeO (pairingref5_DayNumber.l1 k y0 y1 y2 y3 y4) (pairingref5_DayNumber.l1 (k + 1) y0 y1 y2 y3 y4))
  | 0 => ⟨fun _ _ _ _ _ r h => by simp [pairingref5_DayNumber.l0] at h, fun _ _ _ _ _ r h => by simp [pairingref5_DayNumber.l1] at h⟩
  | k + 1 => by
    obtain ⟨ih0, ih1⟩ := pairingref5_DayNumber.mono_l k
    refine ⟨?_, ?_⟩
    · intro y0 y1 y2 y3 y4
      unfold pairingref5_DayNumber.l0
      repeat' first
      | (with_reducible exact ih0 _ _ _ _ _)
      | (with_reducible exact ih1 _ _ _ _ _)
      | (with_reducible exact pairingref5_DaysInMonth.mono _ _ _)
      | (with_reducible exact pairingref5_IsDate.mono _ _ _ _)
      | (with_reducible exact LeO.refl _)
      | (with_reducible exact LeO.none _)
      | (with_reducible refine LeO.ite ?_ ?_)
      | (with_reducible refine LeO.bind ?_ (fun _ => ?_))
      | exact ih0 _ _ _ _ _
      | exact ih1 _ _ _ _ _
      | exact pairingref5_DaysInMonth.mono _ _ _
      | exact pairingref5_IsDate.mono _ _ _ _
      | exact LeO.none _
      | refine LeO.ite ?_ ?_
      | refine LeO.bind ?_ (fun _ => ?_)
    · intro y0 y1 y2 y3 y4
      unfold pairingref5_DayNumber.l1
      repeat' first
      | (with_reducible exact ih0 _ _ _ _ _)
      | (with_reducible exact ih1 _ _ _ _ _)
      | (with_reducible exact pairingref5_DaysInMonth.mono _ _ _)
      | (with_reducible exact pairingref5_IsDate.mono _ _ _ _)
      | (with_reducible exact LeO.refl _)
      | (with_reducible exact LeO.none _)
      | (with_reducible refine LeO.ite ?_ ?_)
      | (with_reducible refine LeO.bind ?_ (fun _ => ?_))
      | exact ih0 _ _ _ _ _
      | exact ih1 _ _ _ _ _
      | exact pairingref5_DaysInMonth.mono _ _ _
      | exact pairingref5_IsDate.mono _ _ _ _
      | exact LeO.none _
      | refine LeO.ite ?_ ?_
      | refine LeO.bind ?_ (fun _ => ?_)
theorem pairingref5_DayNumber.mono : ∀ a0 a1 a2 k, LeO (pairingref5_DayNumber.f k a0 a1 a2) (pairingref5_DayNumber.f (k + 1) a0 a1 a2) := by
  intro a0 a1 a2 k
  obtain ⟨ih0, ih1⟩ := pairingref5_DayNumber.mono_l k
  unfold pairingref5_DayNumber.f
  repeat' first
      | (with_reducible exact ih0 _ _ _ _ _)
      | (with_reducible exact ih1 _ _ _ _ _)
      | (with_reducible exact pairingref5_DaysInMonth.mono _ _ _)
      | (with_reducible exact pairingref5_IsDate.mono _ _ _ _)
      | (with_reducible exact LeO.refl _)
      | (with_reducible exact LeO.none _)
      | (with_reducible refine LeO.ite ?_ ?_)
      | (with_reducible refine LeO.bind ?_ (fun _ => ?_))
      | exact ih0 _ _ _ _ _
      | exact ih1 _ _ _ _ _
      | exact pairingref5_DaysInMonth.mono _ _ _
      | exact pairingref5_IsDate.mono _ _ _ _
      | exact LeO.none _
      | refine LeO.ite ?_ ?_
      | refine LeO.bind ?_ (fun _ => ?_)
set_option maxHeartbeats 8000000 in
set_option maxRecDepth 100000 in
theorem pairingref5_DayNumber.calls (k : Nat) (a0_0 : Int) (a0_1 : Int) (a0_2 : Int) (r1 : Int) (r2 : Int) (w : World) (h : pairingref5_DayNumber.f k a0_0 a0_1 a0_2 = some (r1, r2)) :
    Calls Tryd.prog 18 #[.agg #[.int .i64 a0_0, .int .i64 a0_1, .int .i64 a0_2]] w fun e w' => e = .returned (.tuple #[.int .i64 r1, .int .i64 r2]) ∧ Below w.heap.size w w' := by
  have hu27 := Tryd.underlying27
  have HB := Aside0.mk (Below.refl w.heap.size w)
  have H : ((pairingref5_IsDate.f k a0_0 a0_1 a0_2).bind fun t153 => (if t153 = true then (pairingref5_DayNumber.l0 k (-365) 1999 a0_0 a0_1 a0_2) else (some (0, 5)))) = some (r1, r2) := h
  clear h
  replace H := Option.bind_eq_some_iff.mp H
  obtain ⟨t153, A20, H⟩ := H
  replace H : (if t153 = true then (pairingref5_DayNumber.l0 k (-365) 1999 a0_0 a0_1 a0_2) else (some (0, 5))) = some (r1, r2) := H
  have A2 := Aside0.mk A20
  clear A20
  by_cases c3 : t153 = true
  · subst c3
    have H1 : (pairingref5_DayNumber.l0 k (-365) 1999 a0_0 a0_1 a0_2) = some (r1, r2) := by rw [if_pos rfl] at H; exact H
    clear H
    have H := H1
    clear H1
    have H' := Aside0.mk H
    clear H
    go_enter Tryd.func18, Tryd.ntmps18
    go_wp2_with (first | ((with_reducible refine gate_dst (N := 1) rfl ?_); refine box_event ?hg (N := 1) ?hd (cs := #[.int .i64 a0_0, .int .i64 a0_1, .int .i64 a0_2]) (t := 27) ?hr ?_; (case hd => rfl); (case hg => rfl); (case hr => first | (go_simp; done) | (go_simp; rfl)); intro gb152 hg w4 hbox hb; have n0_ := Aside0.mk (below_step (by repeat (first | (with_reducible first | exact HB.out | apply below_alloc | apply pw_below_drewN | apply below_drew1) | exact HB.out)) hb); have n1_ := Aside0.mk (hbox); have n2_ := Aside0.mk ((by rw [hg]; exact (below_size (by repeat (first | (with_reducible first | exact HB.out | apply below_alloc | apply pw_below_drewN | apply below_drew1) | exact HB.out))) : w.heap.size ≤ gb152)); have n3_ := Aside0.mk ((by rw [hg]; exact (below_size (by repeat (first | (with_reducible first | exact HB.out | apply below_alloc | apply pw_below_drewN | apply below_drew1) | exact HB.out))) : w.heap.size ≤ gb152)); clear HB; have HB := n0_; have BK152 := n1_; have GW152 := n2_; have GE152 := n3_; clear n0_ n1_ n2_ n3_; clear hb hbox hg; have hcz5_0 : w4.cell? ⟨gb152, 0, none⟩ = some (.int .i64 a0_0) := (blk_cell BK152.out 0).trans rfl; have hcz5_1 : w4.cell? ⟨gb152, 1, none⟩ = some (.int .i64 a0_1) := (blk_cell BK152.out 1).trans rfl; have hcz5_2 : w4.cell? ⟨gb152, 2, none⟩ = some (.int .i64 a0_2) := (blk_cell BK152.out 2).trans rfl; have hfz5_0 := blk_frozen BK152.out 0; have hfz5_1 := blk_frozen BK152.out 1; have hfz5_2 := blk_frozen BK152.out 2) | ((with_reducible refine gate_callee (f := 43) rfl ?_); refine goesL_ (some 10) rfl rfl Tryd.func43 (by kernel_rfl) rfl #[.agg #[.int .i64 a0_0, .int .i64 a0_1, .int .i64 a0_2]] rfl (by (try simp only [List.map_toArray, List.map_cons, List.map_nil]); first | done | rfl | (simp only [List.length_drop, List.length_take]; rfl)) ?_; (with_reducible refine (pairingref5_IsDate.calls k a0_0 a0_1 a0_2 true _ A2.out).mono ?_); rintro e w6 ⟨rfl, hb⟩; refine ⟨_, rfl, ?_⟩; have n0_ := Aside0.mk (blk_below (g := gb152) (o := .cells #[.int .i64 a0_0, .int .i64 a0_1, .int .i64 a0_2] 27 (0, 0)) (by (with_reducible repeat (first | refine blk_drewN ?_ _ | refine blk_drew ?_ | refine blk_alloc ?_ _)); exact BK152.out) hb); have n1_ := Aside0.mk (below_step (by repeat (first | (with_reducible first | exact HB.out | apply below_alloc | apply pw_below_drewN | apply below_drew1 | refine below_set ?_ GE152.out) | exact HB.out)) hb); clear BK152; clear HB; have BK152 := n0_; have HB := n1_; clear n0_ n1_; (try clear hb); (try clear hb2); (try clear hk); (try clear hi)))
    go_loopg [4, 5] k (fun kq v4 v5 w' => ∃ (x4_1 : Int) (x5_1 : Int), v4 = .int .i64 x4_1 ∧ v5 = .int .i64 x5_1 ∧ Aside0 (pairingref5_DayNumber.l0 kq x4_1 x5_1 a0_0 a0_1 a0_2 = some (r1, r2)) ∧ Aside0 (kq ≤ k) ∧ Aside0 (w'.heap[gb152]? = some (.cells #[.int .i64 a0_0, .int .i64 a0_1, .int .i64 a0_2] 27 (0, 0))) ∧ Aside0 (Below w.heap.size w w'))
    case atStart => exact ⟨((-365)), (1999), (by first | rfl | (simp; done) | (simp [*]; done)), (by first | rfl | (simp; done) | (simp [*]; done)), H', ⟨Nat.le_refl _⟩, ⟨by (with_reducible repeat (first | refine blk_drewN ?_ _ | refine blk_drew ?_ | refine blk_alloc ?_ _)); exact BK152.out⟩, ⟨by repeat (first | (with_reducible first | exact HB.out | apply below_alloc | apply pw_below_drewN | apply below_drew1 | refine below_set ?_ GE152.out) | exact HB.out)⟩⟩
    case round =>
      clear H'
      try clear c1
      try clear p2
      try clear c3
      try clear c4
      try clear hcz5_0
      try clear hcz5_1
      try clear hcz5_2
      try clear hfz5_0
      try clear hfz5_1
      try clear hfz5_2
      obtain ⟨x4_1, x5_1, rfl, rfl, HA, HK1, BK152, HB⟩ := hrel
      cases gk with
      | zero => exact absurd HA.out (by simp [pairingref5_DayNumber.l0])
      | succ k1 =>
        have H := HA.out
        clear HA
        simp only [pairingref5_DayNumber.l0] at H
        by_cases c7 : x5_1 < a0_0
        · rw [if_pos c7] at H
          have c7b0 : decide (x5_1 < a0_0) = true := decide_eq_true c7
          clear c7
          replace H := Option.bind_eq_some_iff.mp H
          obtain ⟨t154, A80, H⟩ := H
          replace H : (if t154 = true then (pairingref5_DayNumber.l0 k1 (wrap64 ((wrap64 (x4_1 + 365)) + 1)) (wrap64 (x5_1 + 1)) a0_0 a0_1 a0_2) else (pairingref5_DayNumber.l0 k1 (wrap64 (x4_1 + 365)) (wrap64 (x5_1 + 1)) a0_0 a0_1 a0_2)) = some (r1, r2) := H
          have A8 := Aside0.mk A80
          clear A80
          by_cases c9 : t154 = true
          · subst c9
            have H1 : (pairingref5_DayNumber.l0 k1 (wrap64 ((wrap64 (x4_1 + 365)) + 1)) (wrap64 (x5_1 + 1)) a0_0 a0_1 a0_2) = some (r1, r2) := by rw [if_pos rfl] at H; exact H
            clear H
            have H := H1
            clear H1
            have H' := Aside0.mk H
            clear H
            have hcz10_0 : wr.cell? ⟨gb152, 0, none⟩ = some (.int .i64 a0_0) := (blk_cell BK152.out 0).trans rfl
            have hcz10_1 : wr.cell? ⟨gb152, 1, none⟩ = some (.int .i64 a0_1) := (blk_cell BK152.out 1).trans rfl
            have hcz10_2 : wr.cell? ⟨gb152, 2, none⟩ = some (.int .i64 a0_2) := (blk_cell BK152.out 2).trans rfl
            have hfz10_0 := blk_frozen BK152.out 0
            have hfz10_1 := blk_frozen BK152.out 1
            have hfz10_2 := blk_frozen BK152.out 2
            go_wp2_with (first | ((with_reducible refine gate_callee (f := 41) rfl ?_); refine goesL_ (some 21) rfl rfl Tryd.func41 (by kernel_rfl) rfl #[.int .i64 x5_1] rfl (by (try simp only [List.map_toArray, List.map_cons, List.map_nil]); first | done | rfl | (simp only [List.length_drop, List.length_take]; rfl)) ?_; (with_reducible refine (pairingref5_leap.calls x5_1 true _ A8.out).mono ?_); rintro e w' ⟨rfl, ⟨nd, rfl⟩⟩; refine ⟨_, rfl, ?_⟩))
            go_roundg k1
            case measure => have := HK1.out; omega
            case rel => exact ⟨(wrap64 ((wrap64 (x4_1 + 365)) + 1)), (wrap64 (x5_1 + 1)), (by first | rfl | (simp; done) | (simp [*]; done)), (by first | rfl | (simp; done) | (simp [*]; done)), H', ⟨by have := HK1.out; omega⟩, ⟨by (with_reducible repeat (first | refine blk_drewN ?_ _ | refine blk_drew ?_ | refine blk_alloc ?_ _)); exact BK152.out⟩, ⟨by repeat (first | (with_reducible first | exact HB.out | apply below_alloc | apply pw_below_drewN | apply below_drew1 | refine below_set ?_ GE152.out) | exact HB.out)⟩⟩
          · replace c9 := Bool.eq_false_iff.mpr c9
            subst c9
            have H1 : (pairingref5_DayNumber.l0 k1 (wrap64 (x4_1 + 365)) (wrap64 (x5_1 + 1)) a0_0 a0_1 a0_2) = some (r1, r2) := by rw [if_neg (show ¬ (false = true) by decide)] at H; exact H
            clear H
            have H := H1
            clear H1
            have H' := Aside0.mk H
            clear H
            have hcz11_0 : wr.cell? ⟨gb152, 0, none⟩ = some (.int .i64 a0_0) := (blk_cell BK152.out 0).trans rfl
            have hcz11_1 : wr.cell? ⟨gb152, 1, none⟩ = some (.int .i64 a0_1) := (blk_cell BK152.out 1).trans rfl
            have hcz11_2 : wr.cell? ⟨gb152, 2, none⟩ = some (.int .i64 a0_2) := (blk_cell BK152.out 2).trans rfl
            have hfz11_0 := blk_frozen BK152.out 0
            have hfz11_1 := blk_frozen BK152.out 1
            have hfz11_2 := blk_frozen BK152.out 2
            go_wp2_with (first | ((with_reducible refine gate_callee (f := 41) rfl ?_); refine goesL_ (some 21) rfl rfl Tryd.func41 (by kernel_rfl) rfl #[.int .i64 x5_1] rfl (by (try simp only [List.map_toArray, List.map_cons, List.map_nil]); first | done | rfl | (simp only [List.length_drop, List.length_take]; rfl)) ?_; (with_reducible refine (pairingref5_leap.calls x5_1 false _ A8.out).mono ?_); rintro e w' ⟨rfl, ⟨nd, rfl⟩⟩; refine ⟨_, rfl, ?_⟩))
            go_roundg k1
            case measure => have := HK1.out; omega
            case rel => exact ⟨(wrap64 (x4_1 + 365)), (wrap64 (x5_1 + 1)), (by first | rfl | (simp; done) | (simp [*]; done)), (by first | rfl | (simp; done) | (simp [*]; done)), H', ⟨by have := HK1.out; omega⟩, ⟨by (with_reducible repeat (first | refine blk_drewN ?_ _ | refine blk_drew ?_ | refine blk_alloc ?_ _)); exact BK152.out⟩, ⟨by repeat (first | (with_reducible first | exact HB.out | apply below_alloc | apply pw_below_drewN | apply below_drew1 | refine below_set ?_ GE152.out) | exact HB.out)⟩⟩
        · rw [if_neg c7] at H
          have c7b0 : decide (x5_1 < a0_0) = false := decide_eq_false c7
          clear c7
          have H' := Aside0.mk H
          clear H
          have hcz12_0 : wr.cell? ⟨gb152, 0, none⟩ = some (.int .i64 a0_0) := (blk_cell BK152.out 0).trans rfl
          have hcz12_1 : wr.cell? ⟨gb152, 1, none⟩ = some (.int .i64 a0_1) := (blk_cell BK152.out 1).trans rfl
          have hcz12_2 : wr.cell? ⟨gb152, 2, none⟩ = some (.int .i64 a0_2) := (blk_cell BK152.out 2).trans rfl
          have hfz12_0 := blk_frozen BK152.out 0
          have hfz12_1 := blk_frozen BK152.out 1
          have hfz12_2 := blk_frozen BK152.out 2
          go_wp2
          go_loopg [4, 6] k1 (fun kq v4 v6 w' => ∃ (x4_2 : Int) (x6_2 : Int), v4 = .int .i64 x4_2 ∧ v6 = .int .i64 x6_2 ∧ Aside0 (pairingref5_DayNumber.l1 kq x4_2 x6_2 a0_0 a0_1 a0_2 = some (r1, r2)) ∧ Aside0 (kq ≤ k1) ∧ Aside0 (w'.heap[gb152]? = some (.cells #[.int .i64 a0_0, .int .i64 a0_1, .int .i64 a0_2] 27 (0, 0))) ∧ Aside0 (Below w.heap.size w w'))
          case atStart => exact ⟨(x4_1), (1), (by first | rfl | (simp; done) | (simp [*]; done)), (by first | rfl | (simp; done) | (simp [*]; done)), H', ⟨Nat.le_refl _⟩, ⟨by (with_reducible repeat (first | refine blk_drewN ?_ _ | refine blk_drew ?_ | refine blk_alloc ?_ _)); exact BK152.out⟩, ⟨by repeat (first | (with_reducible first | exact HB.out | apply below_alloc | apply pw_below_drewN | apply below_drew1 | refine below_set ?_ GE152.out) | exact HB.out)⟩⟩
          case round =>
            clear H'
            try clear c1
            try clear p2
            try clear c3
            try clear c4
            try clear p6
            try clear c7
            try clear c7b0
            try clear c9
            try clear hcz10_0
            try clear hcz10_1
            try clear hcz10_2
            try clear hcz11_0
            try clear hcz11_1
            try clear hcz11_2
            try clear hcz12_0
            try clear hcz12_1
            try clear hcz12_2
            try clear hcz5_0
            try clear hcz5_1
            try clear hcz5_2
            try clear hfz10_0
            try clear hfz10_1
            try clear hfz10_2
            try clear hfz11_0
            try clear hfz11_1
            try clear hfz11_2
            try clear hfz12_0
            try clear hfz12_1
            try clear hfz12_2
            try clear hfz5_0
            try clear hfz5_1
            try clear hfz5_2
            try clear p2
            obtain ⟨x4_2, x6_2, rfl, rfl, HA, HK2, BK152, HB⟩ := hrel
            cases gk with
            | zero => exact absurd HA.out (by simp [pairingref5_DayNumber.l1])
            | succ k2 =>
              have H := HA.out
              clear HA
              simp only [pairingref5_DayNumber.l1] at H
              by_cases c13 : x6_2 < a0_1
              · rw [if_pos c13] at H
                have c13b0 : decide (x6_2 < a0_1) = true := decide_eq_true c13
                clear c13
                replace H := Option.bind_eq_some_iff.mp H
                obtain ⟨⟨t155, t156⟩, A140, H⟩ := H
                replace H : (pairingref5_DayNumber.l1 k2 (wrap64 (x4_2 + t155)) (wrap64 (x6_2 + 1)) a0_0 a0_1 a0_2) = some (r1, r2) := H
                have A14 := Aside0.mk A140
                clear A140
                have H' := Aside0.mk H
                clear H
                have hcz15_0 : wr.cell? ⟨gb152, 0, none⟩ = some (.int .i64 a0_0) := (blk_cell BK152.out 0).trans rfl
                have hcz15_1 : wr.cell? ⟨gb152, 1, none⟩ = some (.int .i64 a0_1) := (blk_cell BK152.out 1).trans rfl
                have hcz15_2 : wr.cell? ⟨gb152, 2, none⟩ = some (.int .i64 a0_2) := (blk_cell BK152.out 2).trans rfl
                have hfz15_0 := blk_frozen BK152.out 0
                have hfz15_1 := blk_frozen BK152.out 1
                have hfz15_2 := blk_frozen BK152.out 2
                go_wp2_with (first | ((with_reducible refine gate_callee (f := 14) rfl ?_); refine goesL_ (some 34) rfl rfl Tryd.func14 (by kernel_rfl) rfl #[.int .i64 a0_0, .int .i64 x6_2] rfl (by (try simp only [List.map_toArray, List.map_cons, List.map_nil]); first | done | rfl | (simp only [List.length_drop, List.length_take]; rfl)) ?_; (with_reducible refine (pairingref5_DaysInMonth.calls k2 a0_0 x6_2 t155 t156 _ A14.out).mono ?_); rintro e w' ⟨rfl, ⟨nd, rfl⟩⟩; refine ⟨_, rfl, ?_⟩))
                go_roundg k2
                case measure => have := HK1.out; have := HK2.out; omega
                case rel => exact ⟨(wrap64 (x4_2 + t155)), (wrap64 (x6_2 + 1)), (by first | rfl | (simp; done) | (simp [*]; done)), (by first | rfl | (simp; done) | (simp [*]; done)), H', ⟨by have := HK1.out; have := HK2.out; omega⟩, ⟨by (with_reducible repeat (first | refine blk_drewN ?_ _ | refine blk_drew ?_ | refine blk_alloc ?_ _)); exact BK152.out⟩, ⟨by repeat (first | (with_reducible first | exact HB.out | apply below_alloc | apply pw_below_drewN | apply below_drew1 | refine below_set ?_ GE152.out) | exact HB.out)⟩⟩
              · rw [if_neg c13] at H
                have c13b0 : decide (x6_2 < a0_1) = false := decide_eq_false c13
                clear c13
                simp only [Option.some.injEq, Prod.mk.injEq] at H
                obtain ⟨rfl, rfl⟩ := H
                have hcz16_0 : wr.cell? ⟨gb152, 0, none⟩ = some (.int .i64 a0_0) := (blk_cell BK152.out 0).trans rfl
                have hcz16_1 : wr.cell? ⟨gb152, 1, none⟩ = some (.int .i64 a0_1) := (blk_cell BK152.out 1).trans rfl
                have hcz16_2 : wr.cell? ⟨gb152, 2, none⟩ = some (.int .i64 a0_2) := (blk_cell BK152.out 2).trans rfl
                have hfz16_0 := blk_frozen BK152.out 0
                have hfz16_1 := blk_frozen BK152.out 1
                have hfz16_2 := blk_frozen BK152.out 2
                go_wp2
                go_ret2
                exact ⟨by first | rfl | (simp [errW_none, errW_some] <;> rfl) | (simp [*, errW_none, errW_some] <;> rfl), by repeat (first | (with_reducible first | exact HB.out | apply below_alloc | apply pw_below_drewN | apply below_drew1 | refine below_set ?_ GE152.out) | exact HB.out)⟩
  · replace c3 := Bool.eq_false_iff.mpr c3
    subst c3
    have H1 : (some (0, 5)) = some (r1, r2) := by rw [if_neg (show ¬ (false = true) by decide)] at H; exact H
    clear H
    have H := H1
    clear H1
    simp only [Option.some.injEq, Prod.mk.injEq] at H
    obtain ⟨rfl, rfl⟩ := H
    go_enter Tryd.func18, Tryd.ntmps18
    go_wp2_with (first | ((with_reducible refine gate_dst (N := 1) rfl ?_); refine box_event ?hg (N := 1) ?hd (cs := #[.int .i64 a0_0, .int .i64 a0_1, .int .i64 a0_2]) (t := 27) ?hr ?_; (case hd => rfl); (case hg => rfl); (case hr => first | (go_simp; done) | (go_simp; rfl)); intro gb152 hg w17 hbox hb; have n0_ := Aside0.mk (below_step (by repeat (first | (with_reducible first | exact HB.out | apply below_alloc | apply pw_below_drewN | apply below_drew1) | exact HB.out)) hb); have n1_ := Aside0.mk (hbox); have n2_ := Aside0.mk ((by rw [hg]; exact (below_size (by repeat (first | (with_reducible first | exact HB.out | apply below_alloc | apply pw_below_drewN | apply below_drew1) | exact HB.out))) : w.heap.size ≤ gb152)); have n3_ := Aside0.mk ((by rw [hg]; exact (below_size (by repeat (first | (with_reducible first | exact HB.out | apply below_alloc | apply pw_below_drewN | apply below_drew1) | exact HB.out))) : w.heap.size ≤ gb152)); clear HB; have HB := n0_; have BK152 := n1_; have GW152 := n2_; have GE152 := n3_; clear n0_ n1_ n2_ n3_; clear hb hbox hg; have hcz18_0 : w17.cell? ⟨gb152, 0, none⟩ = some (.int .i64 a0_0) := (blk_cell BK152.out 0).trans rfl; have hcz18_1 : w17.cell? ⟨gb152, 1, none⟩ = some (.int .i64 a0_1) := (blk_cell BK152.out 1).trans rfl; have hcz18_2 : w17.cell? ⟨gb152, 2, none⟩ = some (.int .i64 a0_2) := (blk_cell BK152.out 2).trans rfl; have hfz18_0 := blk_frozen BK152.out 0; have hfz18_1 := blk_frozen BK152.out 1; have hfz18_2 := blk_frozen BK152.out 2) | ((with_reducible refine gate_callee (f := 43) rfl ?_); refine goesL_ (some 10) rfl rfl Tryd.func43 (by kernel_rfl) rfl #[.agg #[.int .i64 a0_0, .int .i64 a0_1, .int .i64 a0_2]] rfl (by (try simp only [List.map_toArray, List.map_cons, List.map_nil]); first | done | rfl | (simp only [List.length_drop, List.length_take]; rfl)) ?_; (with_reducible refine (pairingref5_IsDate.calls k a0_0 a0_1 a0_2 false _ A2.out).mono ?_); rintro e w19 ⟨rfl, hb⟩; refine ⟨_, rfl, ?_⟩; have n0_ := Aside0.mk (blk_below (g := gb152) (o := .cells #[.int .i64 a0_0, .int .i64 a0_1, .int .i64 a0_2] 27 (0, 0)) (by (with_reducible repeat (first | refine blk_drewN ?_ _ | refine blk_drew ?_ | refine blk_alloc ?_ _)); exact BK152.out) hb); have n1_ := Aside0.mk (below_step (by repeat (first | (with_reducible first | exact HB.out | apply below_alloc | apply pw_below_drewN | apply below_drew1 | refine below_set ?_ GE152.out) | exact HB.out)) hb); clear BK152; clear HB; have BK152 := n0_; have HB := n1_; clear n0_ n1_; (try clear hb); (try clear hb2); (try clear hk); (try clear hi)))
    go_ret2
    exact ⟨by first | rfl | (simp [errW_none, errW_some] <;> rfl) | (simp [*, errW_none, errW_some] <;> rfl), by repeat (first | (with_reducible first | exact HB.out | apply below_alloc | apply pw_below_drewN | apply below_drew1 | refine below_set ?_ GE152.out) | exact HB.out)⟩

/-! ### pairingref5_DateOf: function 20 -/
mutual
def pairingref5_DateOf.j0 : Nat → Int → Bool → Option (Int × Int × Int × Int)
  | 0, _, _ => none
  | k + 1, x0, x22 => if x22 = true then (some (0, 0, 0, 5)) else (pairingref5_DateOf.l0 k (wrap64 (x0 + 365)) 1999)
def pairingref5_DateOf.l0 : Nat → Int → Int → Option (Int × Int × Int × Int)
  | 0, _, _ => none
  | k + 1, x6, x7 => if x7 ≤ 2100 then (pairingref5_DateOf.l1 k x6 x7 1) else (some (0, 0, 0, 5))
def pairingref5_DateOf.l1 : Nat → Int → Int → Int → Option (Int × Int × Int × Int)
  | 0, _, _, _ => none
  | k + 1, x6, x7, x8 => if x8 ≤ 12 then ((pairingref5_DaysInMonth.f k x7 x8).bind fun bt168 => (if x6 < bt168.1 then (some (x7, x8, wrap64 (x6 + 1), 0)) else (pairingref5_DateOf.l1 k (wrap64 (x6 - bt168.1)) x7 (wrap64 (x8 + 1))))) else (pairingref5_DateOf.l0 k x6 (wrap64 (x7 + 1)))
end
def pairingref5_DateOf.f (k : Nat) (a0 : Int) : Option (Int × Int × Int × Int) := (pairingref5_DayNumber.f k 2100 12 31).bind fun bt166 => (if a0 < (-365) then (pairingref5_DateOf.j0 k a0 true) else (pairingref5_DateOf.j0 k a0 (decide (a0 > bt166.1))))
theorem pairingref5_DateOf.mono_l : ∀ k, (∀ y0 y1, LeO (pairingref5_DateOf.j0 k y0 y1) (pairingref5_DateOf.j0 (k + 1) y0 y1)) ∧ (∀ y0 y1, LeO (pairingref5_DateOf.l0 k y0 y1) (pairingref5_DateOf.l0 (k + 1) y0 y1)) ∧ (∀ y0 y1 y2, LeO (pairingref5_DateOf.l1 k y0 y1 y2) (pairingref5_DateOf.l1 (k + 1) y0 y1 y2))
  | 0 => ⟨fun _ _ r h => by simp [pairingref5_DateOf.j0] at h, fun _ _ r h => by simp [pairingref5_DateOf.l0] at h, fun _ _ _ r h => by simp [pairingref5_DateOf.l1] at h⟩
  | k + 1 => by
    obtain ⟨ih0, ih1, ih2⟩ := pairingref5_DateOf.mono_l k
    refine ⟨?_, ?_, ?_⟩
    · intro y0 y1
      unfold pairingref5_DateOf.j0
      repeat' first
      | (with_reducible exact ih0 _ _)
      | (with_reducible exact ih1 _ _)
      | (with_reducible exact ih2 _ _ _)
      | (with_reducible exact pairingref5_DayNumber.mono _ _ _ _)
      | (with_reducible exact pairingref5_DaysInMonth.mono _ _ _)
      | (with_reducible exact LeO.refl _)
      | (with_reducible exact LeO.none _)
      | (with_reducible refine LeO.ite ?_ ?_)
      | (with_reducible refine LeO.bind ?_ (fun _ => ?_))
      | exact ih0 _ _
      | exact ih1 _ _
      | exact ih2 _ _ _
      | exact pairingref5_DayNumber.mono _ _ _ _
      | exact pairingref5_DaysInMonth.mono _ _ _
      | exact LeO.none _
      | refine LeO.ite ?_ ?_
      | refine LeO.bind ?_ (fun _ => ?_)
    · intro y0 y1
      unfold pairingref5_DateOf.l0
      repeat' first
      | (with_reducible exact ih0 _ _)
      | (with_reducible exact ih1 _ _)
      | (with_reducible exact ih2 _ _ _)
      | (with_reducible exact pairingref5_DayNumber.mono _ _ _ _)
      | (with_reducible exact pairingref5_DaysInMonth.mono _ _ _)
      | (with_reducible exact LeO.refl _)
      | (with_reducible exact LeO.none _)
      | (with_reducible refine LeO.ite ?_ ?_)
      | (with_reducible refine LeO.bind ?_ (fun _ => ?_))
      | exact ih0 _ _
      | exact ih1 _ _
      | exact ih2 _ _ _
      | exact pairingref5_DayNumber.mono _ _ _ _
      | exact pairingref5_DaysInMonth.mono _ _ _
      | exact LeO.none _
      | refine LeO.ite ?_ ?_
      | refine LeO.bind ?_ (fun _ => ?_)
    · intro y0 y1 y2
      unfold pairingref5_DateOf.l1
      repeat' first
      | (with_reducible exact ih0 _ _)
      | (with_reducible exact ih1 _ _)
      | (with_reducible exact ih2 _ _ _)
      | (with_reducible exact pairingref5_DayNumber.mono _ _ _ _)
      | (with_reducible exact pairingref5_DaysInMonth.mono _ _ _)
      | (with_reducible exact LeO.refl _)
      | (with_reducible exact LeO.none _)
      | (with_reducible refine LeO.ite ?_ ?_)
      | (with_reducible refine LeO.bind ?_ (fun _ => ?_))
      | exact ih0 _ _
      | exact ih1 _ _
      | exact ih2 _ _ _
      | exact pairingref5_DayNumber.mono _ _ _ _
      | exact pairingref5_DaysInMonth.mono _ _ _
      | exact LeO.none _
      | refine LeO.ite ?_ ?_
      | refine LeO.bind ?_ (fun _ => ?_)
theorem pairingref5_DateOf.mono : ∀ a0 k, LeO (pairingref5_DateOf.f k a0) (pairingref5_DateOf.f (k + 1) a0) := by
  intro a0 k
  obtain ⟨ih0, ih1, ih2⟩ := pairingref5_DateOf.mono_l k
  unfold pairingref5_DateOf.f
  repeat' first
      | (with_reducible exact ih0 _ _)
      | (with_reducible exact ih1 _ _)
      | (with_reducible exact ih2 _ _ _)
      | (with_reducible exact pairingref5_DayNumber.mono _ _ _ _)
      | (with_reducible exact pairingref5_DaysInMonth.mono _ _ _)
      | (with_reducible exact LeO.refl _)
      | (with_reducible exact LeO.none _)
      | (with_reducible refine LeO.ite ?_ ?_)
      | (with_reducible refine LeO.bind ?_ (fun _ => ?_))
      | exact ih0 _ _
      | exact ih1 _ _
      | exact ih2 _ _ _
      | exact pairingref5_DayNumber.mono _ _ _ _
      | exact pairingref5_DaysInMonth.mono _ _ _
      | exact LeO.none _
      | refine LeO.ite ?_ ?_
      | refine LeO.bind ?_ (fun _ => ?_)
set_option maxHeartbeats 8000000 in
set_option maxRecDepth 100000 in
theorem pairingref5_DateOf.calls (k : Nat) (a0 : Int) (r1 : Int) (r2 : Int) (r3 : Int) (r4 : Int) (w : World) (h : pairingref5_DateOf.f k a0 = some (r1, r2, r3, r4)) :
    Calls Tryd.prog 20 #[.int .i64 a0] w fun e w' => e = .returned (.tuple #[.agg #[.int .i64 r1, .int .i64 r2, .int .i64 r3], .int .i64 r4]) ∧ Below w.heap.size w w' := by
  have hu27 := Tryd.underlying27
  have HB := Aside0.mk (Below.refl w.heap.size w)
  have H : ((pairingref5_DayNumber.f k 2100 12 31).bind fun bt166 => (if a0 < (-365) then (pairingref5_DateOf.j0 k a0 true) else (pairingref5_DateOf.j0 k a0 (decide (a0 > bt166.1))))) = some (r1, r2, r3, r4) := h
  clear h
  replace H := Option.bind_eq_some_iff.mp H
  obtain ⟨⟨t166, t167⟩, A20, H⟩ := H
  replace H : (if a0 < (-365) then (pairingref5_DateOf.j0 k a0 true) else (pairingref5_DateOf.j0 k a0 (decide (a0 > t166)))) = some (r1, r2, r3, r4) := H
  have A2 := Aside0.mk A20
  clear A20
  have HC3 := Aside0.mk H
  clear H
  go_enter Tryd.func20, Tryd.ntmps20
  go_upto_region 2 with (first | ((with_reducible refine gate_dst (N := 2) rfl ?_); refine box_event ?hg (N := 2) ?hd (cs := #[.int .i64 0, .int .i64 0, .int .i64 0]) (t := 27) ?hr ?_; (case hd => rfl); (case hg => rfl); (case hr => first | (go_simp; done) | (go_simp; rfl)); intro gb165 hg w4 hbox hb; have n0_ := Aside0.mk (below_step (by repeat (first | (with_reducible first | exact HB.out | apply below_alloc | apply pw_below_drewN | apply below_drew1) | exact HB.out)) hb); have n1_ := Aside0.mk (hbox); have n2_ := Aside0.mk ((by rw [hg]; exact (below_size (by repeat (first | (with_reducible first | exact HB.out | apply below_alloc | apply pw_below_drewN | apply below_drew1) | exact HB.out))) : w.heap.size ≤ gb165)); have n3_ := Aside0.mk ((by rw [hg]; exact (below_size (by repeat (first | (with_reducible first | exact HB.out | apply below_alloc | apply pw_below_drewN | apply below_drew1) | exact HB.out))) : w.heap.size ≤ gb165)); clear HB; have HB := n0_; have BK165 := n1_; have GW165 := n2_; have GE165 := n3_; clear n0_ n1_ n2_ n3_; clear hb hbox hg) | ((with_reducible refine gate_callee (f := 18) rfl ?_); refine goesL_ (some 13) rfl rfl Tryd.func18 (by kernel_rfl) rfl #[.agg #[.int .i64 2100, .int .i64 12, .int .i64 31]] rfl (by (try simp only [List.map_toArray, List.map_cons, List.map_nil]); first | done | rfl | (simp only [List.length_drop, List.length_take]; rfl)) ?_; (with_reducible refine (pairingref5_DayNumber.calls k 2100 12 31 t166 t167 _ A2.out).mono ?_); rintro e w5 ⟨rfl, hb⟩; refine ⟨_, rfl, ?_⟩; have n0_ := Aside0.mk (blk_below (g := gb165) (o := .cells #[.int .i64 0, .int .i64 0, .int .i64 0] 27 (0, 0)) (by (with_reducible repeat (first | refine blk_drewN ?_ _ | refine blk_drew ?_ | refine blk_alloc ?_ _)); exact BK165.out) hb); have n1_ := Aside0.mk (below_step (by repeat (first | (with_reducible first | exact HB.out | apply below_alloc | apply pw_below_drewN | apply below_drew1 | refine below_set ?_ GE165.out) | exact HB.out)) hb); clear BK165; clear HB; have BK165 := n0_; have HB := n1_; clear n0_ n1_; (try clear hb); (try clear hb2); (try clear hk); (try clear hi)))
  (try simp only [Act.put, List.setIfInBounds_toArray, List.set_cons_zero, List.set_cons_succ])
  go_cut [22] (fun v22 wc => ∃ (kq : Nat) (x22_2 : Bool), v22 = .bool x22_2 ∧ Aside0 (pairingref5_DateOf.j0 kq a0 x22_2 = some (r1, r2, r3, r4)) ∧ Aside0 (kq ≤ k) ∧ Aside0 (wc.heap[gb165]? = some (.cells #[.int .i64 0, .int .i64 0, .int .i64 0] 27 (0, 0))) ∧ Aside0 (Below w.heap.size w wc))
  case first =>
    have H := HC3.out
    clear HC3
    by_cases c6 : a0 < (-365)
    · rw [if_pos c6] at H
      have c6b0 : decide (a0 < (-365)) = true := decide_eq_true c6
      clear c6
      (first | rw [c6b0] | (simp only [i64_w, i32_w]; rw [c6b0]) | skip)
      have H' := Aside0.mk H
      clear H
      go_wp2
      go_meet
      case rel => exact ⟨_, (true), (by first | rfl | (simp; done) | (simp [*]; done)), H', ⟨by first | omega | exact Nat.le_refl _⟩, ⟨by (with_reducible repeat (first | refine blk_drewN ?_ _ | refine blk_drew ?_ | refine blk_alloc ?_ _)); exact BK165.out⟩, ⟨by repeat (first | (with_reducible first | exact HB.out | apply below_alloc | apply pw_below_drewN | apply below_drew1 | refine below_set ?_ GE165.out) | exact HB.out)⟩⟩
    · rw [if_neg c6] at H
      have c6b0 : decide (a0 < (-365)) = false := decide_eq_false c6
      clear c6
      (first | rw [c6b0] | (simp only [i64_w, i32_w]; rw [c6b0]) | skip)
      have H' := Aside0.mk H
      clear H
      go_wp2
      go_meet
      case rel => exact ⟨_, (decide (a0 > t166)), (by first | rfl | (simp; done) | (simp [*]; done)), H', ⟨by first | omega | exact Nat.le_refl _⟩, ⟨by (with_reducible repeat (first | refine blk_drewN ?_ _ | refine blk_drew ?_ | refine blk_alloc ?_ _)); exact BK165.out⟩, ⟨by repeat (first | (with_reducible first | exact HB.out | apply below_alloc | apply pw_below_drewN | apply below_drew1 | refine below_set ?_ GE165.out) | exact HB.out)⟩⟩
  case rest =>
    clear HC3
    try clear c1
    try clear c2
    try clear p2
    try clear c6
    try clear c6b0
    obtain ⟨kq, x22_2, rfl, HA, HJ2, BK165, HB⟩ := hcut
    cases kq with
    | zero => exact absurd HA.out (by simp [pairingref5_DateOf.j0])
    | succ kj2 =>
      have H := HA.out
      clear HA
      simp only [pairingref5_DateOf.j0] at H
      by_cases c7 : x22_2 = true
      · subst c7
        have H1 : (some (0, 0, 0, 5)) = some (r1, r2, r3, r4) := by rw [if_pos rfl] at H; exact H
        clear H
        have H := H1
        clear H1
        simp only [Option.some.injEq, Prod.mk.injEq] at H
        obtain ⟨rfl, rfl, rfl, rfl⟩ := H
        have hcz8_0 : wc.cell? ⟨gb165, 0, none⟩ = some (.int .i64 0) := (blk_cell BK165.out 0).trans rfl
        have hcz8_1 : wc.cell? ⟨gb165, 1, none⟩ = some (.int .i64 0) := (blk_cell BK165.out 1).trans rfl
        have hcz8_2 : wc.cell? ⟨gb165, 2, none⟩ = some (.int .i64 0) := (blk_cell BK165.out 2).trans rfl
        have hfz8_0 := blk_frozen BK165.out 0
        have hfz8_1 := blk_frozen BK165.out 1
        have hfz8_2 := blk_frozen BK165.out 2
        go_wp2
        refine bodyPost_ret (results_ct rfl _ _ gb165 27 #[.int .i64 0, .int .i64 0, .int .i64 0] (0, 0) _ rfl (by (with_reducible repeat (first | refine blk_drewN ?_ _ | refine blk_drew ?_ | refine blk_alloc ?_ _)); refine blk_put (cs := #[.int .i64 0, .int .i64 0, .int .i64 0]) ?_ 2 _ rfl; (with_reducible repeat (first | refine blk_drewN ?_ _ | refine blk_drew ?_ | refine blk_alloc ?_ _)); refine blk_put (cs := #[.int .i64 0, .int .i64 0, .int .i64 0]) ?_ 1 _ rfl; (with_reducible repeat (first | refine blk_drewN ?_ _ | refine blk_drew ?_ | refine blk_alloc ?_ _)); refine blk_put (cs := #[.int .i64 0, .int .i64 0, .int .i64 0]) ?_ 0 _ rfl; (with_reducible repeat (first | refine blk_drewN ?_ _ | refine blk_drew ?_ | refine blk_alloc ?_ _)); exact BK165.out) Tryd.underlying27 rfl (by kernel_rfl)) rfl ?_
        exact ⟨by first | rfl | (simp [errW_none, errW_some] <;> rfl) | (simp [*, errW_none, errW_some] <;> rfl), by repeat (first | (with_reducible first | exact HB.out | apply below_alloc | apply pw_below_drewN | apply below_drew1 | refine below_set ?_ GE165.out) | exact HB.out)⟩
      · replace c7 := Bool.eq_false_iff.mpr c7
        subst c7
        have H1 : (pairingref5_DateOf.l0 kj2 (wrap64 (a0 + 365)) 1999) = some (r1, r2, r3, r4) := by rw [if_neg (show ¬ (false = true) by decide)] at H; exact H
        clear H
        have H := H1
        clear H1
        have H' := Aside0.mk H
        clear H
        go_wp2
        go_loopg [6, 7] kj2 (fun kq v6 v7 w' => ∃ (x6_2 : Int) (x7_2 : Int) (x166000_2 : Int) (x166001_2 : Int) (x166002_2 : Int), v6 = .int .i64 x6_2 ∧ v7 = .int .i64 x7_2 ∧ Aside0 (pairingref5_DateOf.l0 kq x6_2 x7_2 = some (r1, r2, r3, r4)) ∧ Aside0 (kq ≤ kj2) ∧ Aside0 (w'.heap[gb165]? = some (.cells #[.int .i64 x166000_2, .int .i64 x166001_2, .int .i64 x166002_2] 27 (0, 0))) ∧ Aside0 (Below w.heap.size w w'))
        case atStart => exact ⟨(wrap64 (a0 + 365)), (1999), (0), (0), (0), (by first | rfl | (simp; done) | (simp [*]; done)), (by first | rfl | (simp; done) | (simp [*]; done)), H', ⟨Nat.le_refl _⟩, ⟨by (with_reducible repeat (first | refine blk_drewN ?_ _ | refine blk_drew ?_ | refine blk_alloc ?_ _)); exact BK165.out⟩, ⟨by repeat (first | (with_reducible first | exact HB.out | apply below_alloc | apply pw_below_drewN | apply below_drew1 | refine below_set ?_ GE165.out) | exact HB.out)⟩⟩
        case round =>
          clear H'
          try clear c1
          try clear c2
          try clear p2
          try clear c6
          try clear c6b0
          try clear p6
          try clear c7
          try clear hcz8_0
          try clear hcz8_1
          try clear hcz8_2
          try clear hfz8_0
          try clear hfz8_1
          try clear hfz8_2
          try clear p2
          obtain ⟨x6_2, x7_2, x166000_2, x166001_2, x166002_2, rfl, rfl, HA, HK2, BK165, HB⟩ := hrel
          cases gk with
          | zero => exact absurd HA.out (by simp [pairingref5_DateOf.l0])
          | succ k2 =>
            have H := HA.out
            clear HA
            simp only [pairingref5_DateOf.l0] at H
            by_cases c9 : x7_2 ≤ 2100
            · rw [if_pos c9] at H
              have c9b0 : decide (x7_2 ≤ 2100) = true := decide_eq_true c9
              clear c9
              have H' := Aside0.mk H
              clear H
              go_wp2
              go_loopg [6, 8] k2 (fun kq v6 v8 w' => ∃ (x6_3 : Int) (x8_3 : Int) (x166000_3 : Int) (x166001_3 : Int) (x166002_3 : Int), v6 = .int .i64 x6_3 ∧ v8 = .int .i64 x8_3 ∧ Aside0 (pairingref5_DateOf.l1 kq x6_3 x7_2 x8_3 = some (r1, r2, r3, r4)) ∧ Aside0 (kq ≤ k2) ∧ Aside0 (w'.heap[gb165]? = some (.cells #[.int .i64 x166000_3, .int .i64 x166001_3, .int .i64 x166002_3] 27 (0, 0))) ∧ Aside0 (Below w.heap.size w w'))
              case atStart => exact ⟨(x6_2), (1), (x166000_2), (x166001_2), (x166002_2), (by first | rfl | (simp; done) | (simp [*]; done)), (by first | rfl | (simp; done) | (simp [*]; done)), H', ⟨Nat.le_refl _⟩, ⟨by (with_reducible repeat (first | refine blk_drewN ?_ _ | refine blk_drew ?_ | refine blk_alloc ?_ _)); exact BK165.out⟩, ⟨by repeat (first | (with_reducible first | exact HB.out | apply below_alloc | apply pw_below_drewN | apply below_drew1 | refine below_set ?_ GE165.out) | exact HB.out)⟩⟩
              case round =>
                clear H'
                try clear c1
                try clear c2
                try clear p2
                try clear c6
                try clear c6b0
                try clear p6
                try clear c7
                try clear c9
                try clear c9b0
                try clear hcz8_0
                try clear hcz8_1
                try clear hcz8_2
                try clear hfz8_0
                try clear hfz8_1
                try clear hfz8_2
                try clear p2
                try clear p6
                obtain ⟨x6_3, x8_3, x166000_3, x166001_3, x166002_3, rfl, rfl, HA, HK3, BK165, HB⟩ := hrel
                cases gk with
                | zero => exact absurd HA.out (by simp [pairingref5_DateOf.l1])
                | succ k3 =>
                  have H := HA.out
                  clear HA
                  simp only [pairingref5_DateOf.l1] at H
                  by_cases c10 : x8_3 ≤ 12
                  · rw [if_pos c10] at H
                    have c10b0 : decide (x8_3 ≤ 12) = true := decide_eq_true c10
                    clear c10
                    replace H := Option.bind_eq_some_iff.mp H
                    obtain ⟨⟨t168, t169⟩, A110, H⟩ := H
                    replace H : (if x6_3 < t168 then (some (x7_2, x8_3, wrap64 (x6_3 + 1), 0)) else (pairingref5_DateOf.l1 k3 (wrap64 (x6_3 - t168)) x7_2 (wrap64 (x8_3 + 1)))) = some (r1, r2, r3, r4) := H
                    have A11 := Aside0.mk A110
                    clear A110
                    by_cases c12 : x6_3 < t168
                    · rw [if_pos c12] at H
                      have c12b0 : decide (x6_3 < t168) = true := decide_eq_true c12
                      clear c12
                      simp only [Option.some.injEq, Prod.mk.injEq] at H
                      obtain ⟨rfl, rfl, rfl, rfl⟩ := H
                      go_wp2_with (first | ((with_reducible refine gate_callee (f := 14) rfl ?_); refine goesL_ (some 37) rfl rfl Tryd.func14 (by kernel_rfl) rfl #[.int .i64 x7_2, .int .i64 x8_3] rfl (by (try simp only [List.map_toArray, List.map_cons, List.map_nil]); first | done | rfl | (simp only [List.length_drop, List.length_take]; rfl)) ?_; (with_reducible refine (pairingref5_DaysInMonth.calls k3 x7_2 x8_3 t168 t169 _ A11.out).mono ?_); rintro e w' ⟨rfl, ⟨nd, rfl⟩⟩; refine ⟨_, rfl, ?_⟩; (try (rw [drewN_self wr]; generalize hq_ : World.drewN wr _ = wr; have n0_ : Aside0 (wr.heap[gb165]? = some (.cells #[.int .i64 x166000_3, .int .i64 x166001_3, .int .i64 x166002_3] 27 (0, 0))) := ⟨by rw [← hq_]; exact (by (with_reducible repeat (first | refine blk_drewN ?_ _ | refine blk_drew ?_ | refine blk_alloc ?_ _)); exact BK165.out)⟩; have n1_ : Aside0 (Below w.heap.size w wr) := ⟨by rw [← hq_]; exact (by repeat (first | (with_reducible first | exact HB.out | apply below_alloc | apply pw_below_drewN | apply below_drew1 | refine below_set ?_ GE165.out) | exact HB.out))⟩; clear BK165 HB hq_; have BK165 := n0_; have HB := n1_; clear n0_ n1_)); have hcz13_0 : wr.cell? ⟨gb165, 0, none⟩ = some (.int .i64 x166000_3) := (blk_cell BK165.out 0).trans rfl; have hcz13_1 : wr.cell? ⟨gb165, 1, none⟩ = some (.int .i64 x166001_3) := (blk_cell BK165.out 1).trans rfl; have hcz13_2 : wr.cell? ⟨gb165, 2, none⟩ = some (.int .i64 x166002_3) := (blk_cell BK165.out 2).trans rfl; have hfz13_0 := blk_frozen BK165.out 0; have hfz13_1 := blk_frozen BK165.out 1; have hfz13_2 := blk_frozen BK165.out 2))
                      refine bodyPost_ret (results_ct rfl _ _ gb165 27 #[.int .i64 x7_2, .int .i64 x8_3, .int .i64 (wrap64 (x6_3 + 1))] (0, 0) _ rfl (by (with_reducible repeat (first | refine blk_drewN ?_ _ | refine blk_drew ?_ | refine blk_alloc ?_ _)); refine blk_put (cs := #[.int .i64 x7_2, .int .i64 x8_3, .int .i64 x166002_3]) ?_ 2 _ rfl; (with_reducible repeat (first | refine blk_drewN ?_ _ | refine blk_drew ?_ | refine blk_alloc ?_ _)); refine blk_put (cs := #[.int .i64 x7_2, .int .i64 x166001_3, .int .i64 x166002_3]) ?_ 1 _ rfl; (with_reducible repeat (first | refine blk_drewN ?_ _ | refine blk_drew ?_ | refine blk_alloc ?_ _)); refine blk_put (cs := #[.int .i64 x166000_3, .int .i64 x166001_3, .int .i64 x166002_3]) ?_ 0 _ rfl; (with_reducible repeat (first | refine blk_drewN ?_ _ | refine blk_drew ?_ | refine blk_alloc ?_ _)); exact BK165.out) Tryd.underlying27 rfl (by kernel_rfl)) rfl ?_
                      exact ⟨by first | rfl | (simp [errW_none, errW_some] <;> rfl) | (simp [*, errW_none, errW_some] <;> rfl), by repeat (first | (with_reducible first | exact HB.out | apply below_alloc | apply pw_below_drewN | apply below_drew1 | refine below_set ?_ GE165.out) | exact HB.out)⟩
                    · rw [if_neg c12] at H
                      have c12b0 : decide (x6_3 < t168) = false := decide_eq_false c12
                      clear c12
                      have H' := Aside0.mk H
                      clear H
                      go_wp2_with (first | ((with_reducible refine gate_callee (f := 14) rfl ?_); refine goesL_ (some 37) rfl rfl Tryd.func14 (by kernel_rfl) rfl #[.int .i64 x7_2, .int .i64 x8_3] rfl (by (try simp only [List.map_toArray, List.map_cons, List.map_nil]); first | done | rfl | (simp only [List.length_drop, List.length_take]; rfl)) ?_; (with_reducible refine (pairingref5_DaysInMonth.calls k3 x7_2 x8_3 t168 t169 _ A11.out).mono ?_); rintro e w' ⟨rfl, ⟨nd, rfl⟩⟩; refine ⟨_, rfl, ?_⟩))
                      go_roundg k3
                      case measure => have := HJ2.out; have := HK2.out; have := HK3.out; omega
                      case rel => exact ⟨(wrap64 (x6_3 - t168)), (wrap64 (x8_3 + 1)), (x166000_3), (x166001_3), (x166002_3), (by first | rfl | (simp; done) | (simp [*]; done)), (by first | rfl | (simp; done) | (simp [*]; done)), H', ⟨by have := HJ2.out; have := HK2.out; have := HK3.out; omega⟩, ⟨by (with_reducible repeat (first | refine blk_drewN ?_ _ | refine blk_drew ?_ | refine blk_alloc ?_ _)); exact BK165.out⟩, ⟨by repeat (first | (with_reducible first | exact HB.out | apply below_alloc | apply pw_below_drewN | apply below_drew1 | refine below_set ?_ GE165.out) | exact HB.out)⟩⟩
                  · rw [if_neg c10] at H
                    have c10b0 : decide (x8_3 ≤ 12) = false := decide_eq_false c10
                    clear c10
                    have H' := Aside0.mk H
                    clear H
                    go_wp2
                    go_roundg k3
                    case measure => have := HJ2.out; have := HK2.out; have := HK3.out; omega
                    case rel => exact ⟨(x6_3), (wrap64 (x7_2 + 1)), (x166000_3), (x166001_3), (x166002_3), (by first | rfl | (simp; done) | (simp [*]; done)), (by first | rfl | (simp; done) | (simp [*]; done)), H', ⟨by have := HJ2.out; have := HK2.out; have := HK3.out; omega⟩, ⟨by (with_reducible repeat (first | refine blk_drewN ?_ _ | refine blk_drew ?_ | refine blk_alloc ?_ _)); exact BK165.out⟩, ⟨by repeat (first | (with_reducible first | exact HB.out | apply below_alloc | apply pw_below_drewN | apply below_drew1 | refine below_set ?_ GE165.out) | exact HB.out)⟩⟩
            · rw [if_neg c9] at H
              have c9b0 : decide (x7_2 ≤ 2100) = false := decide_eq_false c9
              clear c9
              simp only [Option.some.injEq, Prod.mk.injEq] at H
              obtain ⟨rfl, rfl, rfl, rfl⟩ := H
              have hcz14_0 : wr.cell? ⟨gb165, 0, none⟩ = some (.int .i64 x166000_2) := (blk_cell BK165.out 0).trans rfl
              have hcz14_1 : wr.cell? ⟨gb165, 1, none⟩ = some (.int .i64 x166001_2) := (blk_cell BK165.out 1).trans rfl
              have hcz14_2 : wr.cell? ⟨gb165, 2, none⟩ = some (.int .i64 x166002_2) := (blk_cell BK165.out 2).trans rfl
              have hfz14_0 := blk_frozen BK165.out 0
              have hfz14_1 := blk_frozen BK165.out 1
              have hfz14_2 := blk_frozen BK165.out 2
              go_wp2
              refine bodyPost_ret (results_ct rfl _ _ gb165 27 #[.int .i64 0, .int .i64 0, .int .i64 0] (0, 0) _ rfl (by (with_reducible repeat (first | refine blk_drewN ?_ _ | refine blk_drew ?_ | refine blk_alloc ?_ _)); refine blk_put (cs := #[.int .i64 0, .int .i64 0, .int .i64 x166002_2]) ?_ 2 _ rfl; (with_reducible repeat (first | refine blk_drewN ?_ _ | refine blk_drew ?_ | refine blk_alloc ?_ _)); refine blk_put (cs := #[.int .i64 0, .int .i64 x166001_2, .int .i64 x166002_2]) ?_ 1 _ rfl; (with_reducible repeat (first | refine blk_drewN ?_ _ | refine blk_drew ?_ | refine blk_alloc ?_ _)); refine blk_put (cs := #[.int .i64 x166000_2, .int .i64 x166001_2, .int .i64 x166002_2]) ?_ 0 _ rfl; (with_reducible repeat (first | refine blk_drewN ?_ _ | refine blk_drew ?_ | refine blk_alloc ?_ _)); exact BK165.out) Tryd.underlying27 rfl (by kernel_rfl)) rfl ?_
              exact ⟨by first | rfl | (simp [errW_none, errW_some] <;> rfl) | (simp [*, errW_none, errW_some] <;> rfl), by repeat (first | (with_reducible first | exact HB.out | apply below_alloc | apply pw_below_drewN | apply below_drew1 | refine below_set ?_ GE165.out) | exact HB.out)⟩

end Go.Proofs.YtdpkemjbiengfaaDoor.QCal
