/- The law IntegerDivision. -/
import Derived.Test.YtegnnghoiffmhaaDoorKDM
import Derived.Test.YtegnnghoiffmhaaDoorGLight
import Derived.Test.YtegnnghoiffmhaaDoorISame
import Derived.Test.YtegnnghoiffmhaaDoorIKeep
import Derived.Deep.DeepCutAuto
import Derived.Deep.RegionHeld3
namespace Go.Proofs.YtegnnghoiffmhaaDoor.Big
open Go.RowKit Go.Proofs.YtegnnghoiffmhaaDoorW.PrintWords Go.Proofs.YtegnnghoiffmhaaDoorW.PrintLast
set_option linter.unusedVariables false
set_option linter.unusedSimpArgs false
attribute [local go_sem ↓] Go.wp_at_zero Go.wp_at_succ

set_option maxHeartbeats 4000000 in
set_option maxRecDepth 100000 in
theorem division_no (n0 : Bool) (n1 : Bool) (A0 : Option Addr) (A1 : Option Addr) (c0 : Nat) (c1 : Nat) (xs0 : List Int) (xs1 : List Int) (w : World) (h0 : Rd w A0 c0 xs0) (h1 : Rd w A1 c1 xs1) (hl0 : xs0.length ≤ 35184372088832) (hl1 : xs1.length ≤ 35184372088832) (hT : Tab_p10 w) (hsum : ¬ [xs0.length, xs1.length].sum ≤ 60) :
    Calls Tryd.prog 3 #[.agg #[.bool n0, .slice A0 xs0.length c0], .agg #[.bool n1, .slice A1 xs1.length c1]] w fun e w' => e = .returned (.bool true) ∧ Below w.heap.size w w' := by
  have HT := Aside0.mk hT
  have HL := Aside0.mk (show decide ([xs0.length, xs1.length].sum ≤ 60) = false from decide_eq_false hsum)
  clear hT
  simp only [List.sum_cons, List.sum_nil, Nat.add_zero] at hsum
  have hK := (((KP.start w).row h0).row h1)
  go_enter Tryd.func3, Tryd.ntmps3
  go_upto_region 0 with (fail)
  go_cut [2, 3, 4] (fun v2 v3 v4 wc => ∃ (g2_1 : Nat) (g3_2 : Nat), v2 = .pointer (some ⟨g2_1, 0, none⟩) ∧ v3 = .pointer (some ⟨g3_2, 0, none⟩) ∧ v4 = .bool false ∧ Aside0 (KP w wc [(g3_2, [.bool n1, .slice A1 xs1.length c1], 24), (g2_1, [.bool n0, .slice A0 xs0.length c0], 24)] [(A1, c1, xs1), (A0, c0, xs0)]))
  case first =>
    go_wp2
    go_meet
    all_goals refine ⟨_, _, rfl, rfl, rfl, ⟨?_⟩⟩
    all_goals first
      | (exact ((hK.new [.bool n0, .slice A0 xs0.length c0] 24 (NoDig.bool _ (NoDig.slice _ _ _ NoDig.nil)) (by first | rfl | simp)).new [.bool n1, .slice A1 xs1.length c1] 24 (NoDig.bool _ (NoDig.slice _ _ _ NoDig.nil)) (by first | rfl | simp)))
  clear hK
  obtain ⟨g2_1, g3_2, rfl, rfl, rfl, hK0⟩ := hcut
  have hK := hK0.out
  clear hK0
  go_upto_region 1 with (fail)
  go_cut [15] (fun v15 wc => v15 = .bool true ∧ Aside0 (KP w wc [(g3_2, [.bool n1, .slice A1 xs1.length c1], 24), (g2_1, [.bool n0, .slice A0 xs0.length c0], 24)] [(A1, c1, xs1), (A0, c0, xs0)]))
  case first =>
    have hc := And.intro ((hK.at_ (g := g2_1) (cs := [.bool n0, .slice A0 xs0.length c0]) (t := 24) (by repeat (first | exact List.mem_cons_self | apply List.mem_cons_of_mem)) 0 rfl : World.cell? _ _ = some (.bool n0))) (And.intro ((hK.at_ (g := g2_1) (cs := [.bool n0, .slice A0 xs0.length c0]) (t := 24) (by repeat (first | exact List.mem_cons_self | apply List.mem_cons_of_mem)) 1 rfl : World.cell? _ _ = some (.slice A0 xs0.length c0))) (And.intro ((hK.at_ (g := g3_2) (cs := [.bool n1, .slice A1 xs1.length c1]) (t := 24) (by repeat (first | exact List.mem_cons_self | apply List.mem_cons_of_mem)) 0 rfl : World.cell? _ _ = some (.bool n1))) ((hK.at_ (g := g3_2) (cs := [.bool n1, .slice A1 xs1.length c1]) (t := 24) (by repeat (first | exact List.mem_cons_self | apply List.mem_cons_of_mem)) 1 rfl : World.cell? _ _ = some (.slice A1 xs1.length c1)))))
    go_wp2_with (first | (go_at_call 12; (with_reducible refine (Light_2 n0 n1 A0 A1 xs0.length c0 xs1.length c1 _ _ hl0 hl1 false HL.out).mono ?_); rintro e w_1 ⟨rfl, hb⟩; replace hK := (hK.alloc _).below hb; clear hb; clear hc; have hc := And.intro ((hK.at_ (g := g2_1) (cs := [.bool n0, .slice A0 xs0.length c0]) (t := 24) (by repeat (first | exact List.mem_cons_self | apply List.mem_cons_of_mem)) 0 rfl : World.cell? _ _ = some (.bool n0))) (And.intro ((hK.at_ (g := g2_1) (cs := [.bool n0, .slice A0 xs0.length c0]) (t := 24) (by repeat (first | exact List.mem_cons_self | apply List.mem_cons_of_mem)) 1 rfl : World.cell? _ _ = some (.slice A0 xs0.length c0))) (And.intro ((hK.at_ (g := g3_2) (cs := [.bool n1, .slice A1 xs1.length c1]) (t := 24) (by repeat (first | exact List.mem_cons_self | apply List.mem_cons_of_mem)) 0 rfl : World.cell? _ _ = some (.bool n1))) ((hK.at_ (g := g3_2) (cs := [.bool n1, .slice A1 xs1.length c1]) (t := 24) (by repeat (first | exact List.mem_cons_self | apply List.mem_cons_of_mem)) 1 rfl : World.cell? _ _ = some (.slice A1 xs1.length c1)))))))
    go_meet
    exact ⟨rfl, ⟨hK⟩⟩
  clear hK
  obtain ⟨rfl, hK0⟩ := hcut
  have hK := hK0.out
  clear hK0
  go_upto_region 2 with (fail)
  go_cut [4] (fun v4 wc => v4 = .bool true ∧ Aside0 (KP w wc [(g3_2, [.bool n1, .slice A1 xs1.length c1], 24), (g2_1, [.bool n0, .slice A0 xs0.length c0], 24)] [(A1, c1, xs1), (A0, c0, xs0)]))
  case first =>
    go_wp2_with (first | (go_at_call 13; (with_reducible refine (awake_any _ (HT.out.below hK.be)).mono ?_); rintro e w_2 ⟨rfl, hb⟩; replace hK := hK.below hb; clear hb))
    go_meet
    exact ⟨rfl, ⟨hK⟩⟩
  clear hK
  obtain ⟨rfl, hK0⟩ := hcut
  have hK := hK0.out
  clear hK0
  go_wp2
  go_ret
  exact ⟨rfl, hK.be⟩
set_option maxHeartbeats 4000000 in
set_option maxRecDepth 100000 in
theorem division_yes (n0 : Bool) (n1 : Bool) (A0 : Option Addr) (A1 : Option Addr) (c0 : Nat) (c1 : Nat) (xs0 : List Int) (xs1 : List Int) (w : World) (h0 : Rd w A0 c0 xs0) (h1 : Rd w A1 c1 xs1) (hl0 : xs0.length ≤ 35184372088832) (hl1 : xs1.length ≤ 35184372088832) (hT : Tab_p10 w) (hsum : [xs0.length, xs1.length].sum ≤ 60) (hb0 : iv n1 xs1 ≠ 0) :
    Calls Tryd.prog 3 #[.agg #[.bool n0, .slice A0 xs0.length c0], .agg #[.bool n1, .slice A1 xs1.length c1]] w fun e w' => e = .returned (.bool true) ∧ Below w.heap.size w w' := by
  have HT := Aside0.mk hT
  have HL := Aside0.mk (show decide ([xs0.length, xs1.length].sum ≤ 60) = true from decide_eq_true hsum)
  clear hT
  simp only [List.sum_cons, List.sum_nil, Nat.add_zero] at hsum
  obtain ⟨a, e0⟩ : ∃ z, iv n0 xs0 = z := ⟨_, rfl⟩
  have E_a := Aside0.mk e0
  have l_a : (mg a).length ≤ 60 := by rw [← e0]; exact mg_iv_le n0 h0.dig (by omega)
  clear e0
  obtain ⟨b, e1⟩ : ∃ z, iv n1 xs1 = z := ⟨_, rfl⟩
  have E_b := Aside0.mk e1
  have l_b : (mg b).length ≤ 60 := by rw [← e1]; exact mg_iv_le n1 h1.dig (by omega)
  clear e1
  have hK := (((KP.start w).row h0).row h1)
  have N_b := Aside0.mk (show b ≠ 0 by rw [← E_b.out]; exact hb0)
  clear hb0
  go_enter Tryd.func3, Tryd.ntmps3
  go_upto_region 0 with (fail)
  go_cut [2, 3, 4] (fun v2 v3 v4 wc => ∃ (g2_1 : Nat) (g3_2 : Nat), v2 = .pointer (some ⟨g2_1, 0, none⟩) ∧ v3 = .pointer (some ⟨g3_2, 0, none⟩) ∧ v4 = .bool false ∧ Aside0 (KP w wc [(g3_2, [.bool n1, .slice A1 xs1.length c1], 24), (g2_1, [.bool n0, .slice A0 xs0.length c0], 24)] [(A1, c1, xs1), (A0, c0, xs0)]))
  case first =>
    go_wp2
    go_meet
    all_goals refine ⟨_, _, rfl, rfl, rfl, ⟨?_⟩⟩
    all_goals first
      | (exact ((hK.new [.bool n0, .slice A0 xs0.length c0] 24 (NoDig.bool _ (NoDig.slice _ _ _ NoDig.nil)) (by first | rfl | simp)).new [.bool n1, .slice A1 xs1.length c1] 24 (NoDig.bool _ (NoDig.slice _ _ _ NoDig.nil)) (by first | rfl | simp)))
  clear hK
  obtain ⟨g2_1, g3_2, rfl, rfl, rfl, hK0⟩ := hcut
  have hK := hK0.out
  clear hK0
  go_upto_region 1 with (fail)
  go_cut [15] (fun v15 wc => v15 = .bool false ∧ Aside0 (KP w wc [(g3_2, [.bool n1, .slice A1 xs1.length c1], 24), (g2_1, [.bool n0, .slice A0 xs0.length c0], 24)] [(A1, c1, xs1), (A0, c0, xs0)]))
  case first =>
    have hc := And.intro ((hK.at_ (g := g2_1) (cs := [.bool n0, .slice A0 xs0.length c0]) (t := 24) (by repeat (first | exact List.mem_cons_self | apply List.mem_cons_of_mem)) 0 rfl : World.cell? _ _ = some (.bool n0))) (And.intro ((hK.at_ (g := g2_1) (cs := [.bool n0, .slice A0 xs0.length c0]) (t := 24) (by repeat (first | exact List.mem_cons_self | apply List.mem_cons_of_mem)) 1 rfl : World.cell? _ _ = some (.slice A0 xs0.length c0))) (And.intro ((hK.at_ (g := g3_2) (cs := [.bool n1, .slice A1 xs1.length c1]) (t := 24) (by repeat (first | exact List.mem_cons_self | apply List.mem_cons_of_mem)) 0 rfl : World.cell? _ _ = some (.bool n1))) ((hK.at_ (g := g3_2) (cs := [.bool n1, .slice A1 xs1.length c1]) (t := 24) (by repeat (first | exact List.mem_cons_self | apply List.mem_cons_of_mem)) 1 rfl : World.cell? _ _ = some (.slice A1 xs1.length c1)))))
    go_wp2_with (first | (go_at_call 12; (with_reducible refine (Light_2 n0 n1 A0 A1 xs0.length c0 xs1.length c1 _ _ hl0 hl1 true HL.out).mono ?_); rintro e w_1 ⟨rfl, hb⟩; replace hK := (hK.alloc _).below hb; clear hb; clear hc; have hc := And.intro ((hK.at_ (g := g2_1) (cs := [.bool n0, .slice A0 xs0.length c0]) (t := 24) (by repeat (first | exact List.mem_cons_self | apply List.mem_cons_of_mem)) 0 rfl : World.cell? _ _ = some (.bool n0))) (And.intro ((hK.at_ (g := g2_1) (cs := [.bool n0, .slice A0 xs0.length c0]) (t := 24) (by repeat (first | exact List.mem_cons_self | apply List.mem_cons_of_mem)) 1 rfl : World.cell? _ _ = some (.slice A0 xs0.length c0))) (And.intro ((hK.at_ (g := g3_2) (cs := [.bool n1, .slice A1 xs1.length c1]) (t := 24) (by repeat (first | exact List.mem_cons_self | apply List.mem_cons_of_mem)) 0 rfl : World.cell? _ _ = some (.bool n1))) ((hK.at_ (g := g3_2) (cs := [.bool n1, .slice A1 xs1.length c1]) (t := 24) (by repeat (first | exact List.mem_cons_self | apply List.mem_cons_of_mem)) 1 rfl : World.cell? _ _ = some (.slice A1 xs1.length c1)))))))
    go_meet
    exact ⟨rfl, ⟨hK⟩⟩
  clear hK
  obtain ⟨rfl, hK0⟩ := hcut
  have hK := hK0.out
  clear hK0
  obtain ⟨r3, e_r3⟩ : ∃ z : Int, a.fdiv b = z := ⟨_, rfl⟩
  have E_r3 := Aside0.mk e_r3
  have l_r3 : (mg r3).length ≤ 61 := by rw [← e_r3]; exact mg_fdiv N_b.out l_a
  clear e_r3
  obtain ⟨r4, e_r4⟩ : ∃ z : Int, a.fmod b = z := ⟨_, rfl⟩
  have E_r4 := Aside0.mk e_r4
  have l_r4 : (mg r4).length ≤ 60 := by rw [← e_r4]; exact mg_fmod N_b.out l_b
  clear e_r4
  go_upto_region 3 with (fail)
  go_cut [5, 6, 7] (fun v5 v6 v7 wc => ∃ (g5_7 : Nat) (g6_8 : Nat) (A_r3_5 : Option Addr) (c_r3_5 : Nat) (A_r4_6 : Option Addr) (c_r4_6 : Nat), v5 = .pointer (some ⟨g5_7, 0, none⟩) ∧ v6 = .pointer (some ⟨g6_8, 0, none⟩) ∧ v7 = .int .i64 0 ∧ Aside0 (KP w wc [(g6_8, [.bool (ng r4), .slice A_r4_6 (mg r4).length c_r4_6], 24), (g5_7, [.bool (ng r3), .slice A_r3_5 (mg r3).length c_r3_5], 24), (g3_2, [.bool n1, .slice A1 xs1.length c1], 24), (g2_1, [.bool n0, .slice A0 xs0.length c0], 24)] [(A_r4_6, c_r4_6, (mg r4)), (A_r3_5, c_r3_5, (mg r3)), (A1, c1, xs1), (A0, c0, xs0)]))
  case first =>
    have hc := And.intro ((hK.at_ (g := g2_1) (cs := [.bool n0, .slice A0 xs0.length c0]) (t := 24) (by repeat (first | exact List.mem_cons_self | apply List.mem_cons_of_mem)) 0 rfl : World.cell? _ _ = some (.bool n0))) (And.intro ((hK.at_ (g := g2_1) (cs := [.bool n0, .slice A0 xs0.length c0]) (t := 24) (by repeat (first | exact List.mem_cons_self | apply List.mem_cons_of_mem)) 1 rfl : World.cell? _ _ = some (.slice A0 xs0.length c0))) (And.intro ((hK.at_ (g := g3_2) (cs := [.bool n1, .slice A1 xs1.length c1]) (t := 24) (by repeat (first | exact List.mem_cons_self | apply List.mem_cons_of_mem)) 0 rfl : World.cell? _ _ = some (.bool n1))) ((hK.at_ (g := g3_2) (cs := [.bool n1, .slice A1 xs1.length c1]) (t := 24) (by repeat (first | exact List.mem_cons_self | apply List.mem_cons_of_mem)) 1 rfl : World.cell? _ _ = some (.slice A1 xs1.length c1)))))
    go_wp2_with (first | (go_at_call 14; (with_reducible refine (divmod_v n0 n1 A0 A1 c0 c1 xs0 xs1 _ (hK.rd _ _ _ (by repeat (first | exact List.mem_cons_self | apply List.mem_cons_of_mem))) (hK.rd _ _ _ (by repeat (first | exact List.mem_cons_self | apply List.mem_cons_of_mem))) (by omega) (by omega) a b r3 r4 E_a.out E_b.out N_b.out E_r3.out E_r4.out).mono ?_); rintro e w_2 ⟨A_r3_5, c_r3_5, A_r4_6, c_r4_6, rfl, hQ, hR, hb⟩; replace hK := ((hK.below hb).row hQ).row hR; clear hb hQ hR; clear hc; have hc := And.intro ((hK.at_ (g := g2_1) (cs := [.bool n0, .slice A0 xs0.length c0]) (t := 24) (by repeat (first | exact List.mem_cons_self | apply List.mem_cons_of_mem)) 0 rfl : World.cell? _ _ = some (.bool n0))) (And.intro ((hK.at_ (g := g2_1) (cs := [.bool n0, .slice A0 xs0.length c0]) (t := 24) (by repeat (first | exact List.mem_cons_self | apply List.mem_cons_of_mem)) 1 rfl : World.cell? _ _ = some (.slice A0 xs0.length c0))) (And.intro ((hK.at_ (g := g3_2) (cs := [.bool n1, .slice A1 xs1.length c1]) (t := 24) (by repeat (first | exact List.mem_cons_self | apply List.mem_cons_of_mem)) 0 rfl : World.cell? _ _ = some (.bool n1))) ((hK.at_ (g := g3_2) (cs := [.bool n1, .slice A1 xs1.length c1]) (t := 24) (by repeat (first | exact List.mem_cons_self | apply List.mem_cons_of_mem)) 1 rfl : World.cell? _ _ = some (.slice A1 xs1.length c1)))))))
    go_meet
    all_goals refine ⟨_, _, A_r3_5, c_r3_5, A_r4_6, c_r4_6, rfl, rfl, rfl, ⟨?_⟩⟩
    all_goals first
      | (exact ((hK.new [.bool (ng r3), .slice A_r3_5 (mg r3).length c_r3_5] 24 (NoDig.bool _ (NoDig.slice _ _ _ NoDig.nil)) (by first | rfl | simp)).new [.bool (ng r4), .slice A_r4_6 (mg r4).length c_r4_6] 24 (NoDig.bool _ (NoDig.slice _ _ _ NoDig.nil)) (by first | rfl | simp)))
  clear hK
  obtain ⟨g5_7, g6_8, A_r3_5, c_r3_5, A_r4_6, c_r4_6, rfl, rfl, rfl, hK0⟩ := hcut
  have hK := hK0.out
  clear hK0
  go_upto_region 4 with (fail)
  go_cut [8, 9, 10] (fun v8 v9 v10 wc => ∃ (g8_11 : Nat) (g9_12 : Nat) (A_r3_9 : Option Addr) (c_r3_9 : Nat) (A_r4_10 : Option Addr) (c_r4_10 : Nat), v8 = .pointer (some ⟨g8_11, 0, none⟩) ∧ v9 = .pointer (some ⟨g9_12, 0, none⟩) ∧ v10 = .int .i64 0 ∧ Aside0 (KP w wc [(g9_12, [.bool (ng r4), .slice A_r4_10 (mg r4).length c_r4_10], 24), (g8_11, [.bool (ng r3), .slice A_r3_9 (mg r3).length c_r3_9], 24), (g6_8, [.bool (ng r4), .slice A_r4_6 (mg r4).length c_r4_6], 24), (g5_7, [.bool (ng r3), .slice A_r3_5 (mg r3).length c_r3_5], 24), (g3_2, [.bool n1, .slice A1 xs1.length c1], 24), (g2_1, [.bool n0, .slice A0 xs0.length c0], 24)] [(A_r4_10, c_r4_10, (mg r4)), (A_r3_9, c_r3_9, (mg r3)), (A_r4_6, c_r4_6, (mg r4)), (A_r3_5, c_r3_5, (mg r3)), (A1, c1, xs1), (A0, c0, xs0)]))
  case first =>
    have hc := And.intro ((hK.at_ (g := g2_1) (cs := [.bool n0, .slice A0 xs0.length c0]) (t := 24) (by repeat (first | exact List.mem_cons_self | apply List.mem_cons_of_mem)) 0 rfl : World.cell? _ _ = some (.bool n0))) (And.intro ((hK.at_ (g := g2_1) (cs := [.bool n0, .slice A0 xs0.length c0]) (t := 24) (by repeat (first | exact List.mem_cons_self | apply List.mem_cons_of_mem)) 1 rfl : World.cell? _ _ = some (.slice A0 xs0.length c0))) (And.intro ((hK.at_ (g := g3_2) (cs := [.bool n1, .slice A1 xs1.length c1]) (t := 24) (by repeat (first | exact List.mem_cons_self | apply List.mem_cons_of_mem)) 0 rfl : World.cell? _ _ = some (.bool n1))) ((hK.at_ (g := g3_2) (cs := [.bool n1, .slice A1 xs1.length c1]) (t := 24) (by repeat (first | exact List.mem_cons_self | apply List.mem_cons_of_mem)) 1 rfl : World.cell? _ _ = some (.slice A1 xs1.length c1)))))
    go_wp2_with (first | (go_at_call 15; (with_reducible refine (DivMod_ref n0 n1 A0 A1 c0 c1 xs0 xs1 _ (hK.rd _ _ _ (by repeat (first | exact List.mem_cons_self | apply List.mem_cons_of_mem))) (hK.rd _ _ _ (by repeat (first | exact List.mem_cons_self | apply List.mem_cons_of_mem))) (by omega) (by omega) a b r3 r4 E_a.out E_b.out N_b.out E_r3.out E_r4.out).mono ?_); rintro e w_3 ⟨A_r3_9, c_r3_9, A_r4_10, c_r4_10, rfl, hQ, hR, hb⟩; replace hK := ((hK.below hb).row hQ).row hR; clear hb hQ hR; clear hc; have hc := And.intro ((hK.at_ (g := g2_1) (cs := [.bool n0, .slice A0 xs0.length c0]) (t := 24) (by repeat (first | exact List.mem_cons_self | apply List.mem_cons_of_mem)) 0 rfl : World.cell? _ _ = some (.bool n0))) (And.intro ((hK.at_ (g := g2_1) (cs := [.bool n0, .slice A0 xs0.length c0]) (t := 24) (by repeat (first | exact List.mem_cons_self | apply List.mem_cons_of_mem)) 1 rfl : World.cell? _ _ = some (.slice A0 xs0.length c0))) (And.intro ((hK.at_ (g := g3_2) (cs := [.bool n1, .slice A1 xs1.length c1]) (t := 24) (by repeat (first | exact List.mem_cons_self | apply List.mem_cons_of_mem)) 0 rfl : World.cell? _ _ = some (.bool n1))) ((hK.at_ (g := g3_2) (cs := [.bool n1, .slice A1 xs1.length c1]) (t := 24) (by repeat (first | exact List.mem_cons_self | apply List.mem_cons_of_mem)) 1 rfl : World.cell? _ _ = some (.slice A1 xs1.length c1)))))))
    go_meet
    all_goals refine ⟨_, _, A_r3_9, c_r3_9, A_r4_10, c_r4_10, rfl, rfl, rfl, ⟨?_⟩⟩
    all_goals first
      | (exact ((hK.new [.bool (ng r3), .slice A_r3_9 (mg r3).length c_r3_9] 24 (NoDig.bool _ (NoDig.slice _ _ _ NoDig.nil)) (by first | rfl | simp)).new [.bool (ng r4), .slice A_r4_10 (mg r4).length c_r4_10] 24 (NoDig.bool _ (NoDig.slice _ _ _ NoDig.nil)) (by first | rfl | simp)))
  clear hK
  obtain ⟨g8_11, g9_12, A_r3_9, c_r3_9, A_r4_10, c_r4_10, rfl, rfl, rfl, hK0⟩ := hcut
  have hK := hK0.out
  clear hK0
  go_upto_region 5 with (fail)
  go_cut [4] (fun v4 wc => v4 = .bool true ∧ Aside0 (KP w wc [(g9_12, [.bool (ng r4), .slice A_r4_10 (mg r4).length c_r4_10], 24), (g8_11, [.bool (ng r3), .slice A_r3_9 (mg r3).length c_r3_9], 24), (g6_8, [.bool (ng r4), .slice A_r4_6 (mg r4).length c_r4_6], 24), (g5_7, [.bool (ng r3), .slice A_r3_5 (mg r3).length c_r3_5], 24), (g3_2, [.bool n1, .slice A1 xs1.length c1], 24), (g2_1, [.bool n0, .slice A0 xs0.length c0], 24)] [(A_r4_10, c_r4_10, (mg r4)), (A_r3_9, c_r3_9, (mg r3)), (A_r4_6, c_r4_6, (mg r4)), (A_r3_5, c_r3_5, (mg r3)), (A1, c1, xs1), (A0, c0, xs0)]))
  case first =>
    have hc := And.intro ((hK.at_ (g := g5_7) (cs := [.bool (ng r3), .slice A_r3_5 (mg r3).length c_r3_5]) (t := 24) (by repeat (first | exact List.mem_cons_self | apply List.mem_cons_of_mem)) 0 rfl : World.cell? _ _ = some (.bool (ng r3)))) (And.intro ((hK.at_ (g := g5_7) (cs := [.bool (ng r3), .slice A_r3_5 (mg r3).length c_r3_5]) (t := 24) (by repeat (first | exact List.mem_cons_self | apply List.mem_cons_of_mem)) 1 rfl : World.cell? _ _ = some (.slice A_r3_5 (mg r3).length c_r3_5))) (And.intro ((hK.at_ (g := g8_11) (cs := [.bool (ng r3), .slice A_r3_9 (mg r3).length c_r3_9]) (t := 24) (by repeat (first | exact List.mem_cons_self | apply List.mem_cons_of_mem)) 0 rfl : World.cell? _ _ = some (.bool (ng r3)))) (And.intro ((hK.at_ (g := g8_11) (cs := [.bool (ng r3), .slice A_r3_9 (mg r3).length c_r3_9]) (t := 24) (by repeat (first | exact List.mem_cons_self | apply List.mem_cons_of_mem)) 1 rfl : World.cell? _ _ = some (.slice A_r3_9 (mg r3).length c_r3_9))) (And.intro ((hK.at_ (g := g6_8) (cs := [.bool (ng r4), .slice A_r4_6 (mg r4).length c_r4_6]) (t := 24) (by repeat (first | exact List.mem_cons_self | apply List.mem_cons_of_mem)) 0 rfl : World.cell? _ _ = some (.bool (ng r4)))) (And.intro ((hK.at_ (g := g6_8) (cs := [.bool (ng r4), .slice A_r4_6 (mg r4).length c_r4_6]) (t := 24) (by repeat (first | exact List.mem_cons_self | apply List.mem_cons_of_mem)) 1 rfl : World.cell? _ _ = some (.slice A_r4_6 (mg r4).length c_r4_6))) (And.intro ((hK.at_ (g := g9_12) (cs := [.bool (ng r4), .slice A_r4_10 (mg r4).length c_r4_10]) (t := 24) (by repeat (first | exact List.mem_cons_self | apply List.mem_cons_of_mem)) 0 rfl : World.cell? _ _ = some (.bool (ng r4)))) ((hK.at_ (g := g9_12) (cs := [.bool (ng r4), .slice A_r4_10 (mg r4).length c_r4_10]) (t := 24) (by repeat (first | exact List.mem_cons_self | apply List.mem_cons_of_mem)) 1 rfl : World.cell? _ _ = some (.slice A_r4_10 (mg r4).length c_r4_10)))))))))
    go_wp2_with (first | (go_at_call 16; (with_reducible refine (same_v A_r3_5 A_r3_9 c_r3_5 c_r3_9 _ r3 r3 (hK.rd _ _ _ (by repeat (first | exact List.mem_cons_self | apply List.mem_cons_of_mem))) (hK.rd _ _ _ (by repeat (first | exact List.mem_cons_self | apply List.mem_cons_of_mem))) (by omega) (by omega) rfl).mono ?_); rintro e w_4 ⟨rfl, hb⟩; replace hK := hK.below hb; clear hb; clear hc; have hc := And.intro ((hK.at_ (g := g5_7) (cs := [.bool (ng r3), .slice A_r3_5 (mg r3).length c_r3_5]) (t := 24) (by repeat (first | exact List.mem_cons_self | apply List.mem_cons_of_mem)) 0 rfl : World.cell? _ _ = some (.bool (ng r3)))) (And.intro ((hK.at_ (g := g5_7) (cs := [.bool (ng r3), .slice A_r3_5 (mg r3).length c_r3_5]) (t := 24) (by repeat (first | exact List.mem_cons_self | apply List.mem_cons_of_mem)) 1 rfl : World.cell? _ _ = some (.slice A_r3_5 (mg r3).length c_r3_5))) (And.intro ((hK.at_ (g := g8_11) (cs := [.bool (ng r3), .slice A_r3_9 (mg r3).length c_r3_9]) (t := 24) (by repeat (first | exact List.mem_cons_self | apply List.mem_cons_of_mem)) 0 rfl : World.cell? _ _ = some (.bool (ng r3)))) (And.intro ((hK.at_ (g := g8_11) (cs := [.bool (ng r3), .slice A_r3_9 (mg r3).length c_r3_9]) (t := 24) (by repeat (first | exact List.mem_cons_self | apply List.mem_cons_of_mem)) 1 rfl : World.cell? _ _ = some (.slice A_r3_9 (mg r3).length c_r3_9))) (And.intro ((hK.at_ (g := g6_8) (cs := [.bool (ng r4), .slice A_r4_6 (mg r4).length c_r4_6]) (t := 24) (by repeat (first | exact List.mem_cons_self | apply List.mem_cons_of_mem)) 0 rfl : World.cell? _ _ = some (.bool (ng r4)))) (And.intro ((hK.at_ (g := g6_8) (cs := [.bool (ng r4), .slice A_r4_6 (mg r4).length c_r4_6]) (t := 24) (by repeat (first | exact List.mem_cons_self | apply List.mem_cons_of_mem)) 1 rfl : World.cell? _ _ = some (.slice A_r4_6 (mg r4).length c_r4_6))) (And.intro ((hK.at_ (g := g9_12) (cs := [.bool (ng r4), .slice A_r4_10 (mg r4).length c_r4_10]) (t := 24) (by repeat (first | exact List.mem_cons_self | apply List.mem_cons_of_mem)) 0 rfl : World.cell? _ _ = some (.bool (ng r4)))) ((hK.at_ (g := g9_12) (cs := [.bool (ng r4), .slice A_r4_10 (mg r4).length c_r4_10]) (t := 24) (by repeat (first | exact List.mem_cons_self | apply List.mem_cons_of_mem)) 1 rfl : World.cell? _ _ = some (.slice A_r4_10 (mg r4).length c_r4_10)))))))))) | (go_at_call 16; (with_reducible refine (same_v A_r4_6 A_r4_10 c_r4_6 c_r4_10 _ r4 r4 (hK.rd _ _ _ (by repeat (first | exact List.mem_cons_self | apply List.mem_cons_of_mem))) (hK.rd _ _ _ (by repeat (first | exact List.mem_cons_self | apply List.mem_cons_of_mem))) (by omega) (by omega) rfl).mono ?_); rintro e w_5 ⟨rfl, hb⟩; replace hK := hK.below hb; clear hb; clear hc; have hc := And.intro ((hK.at_ (g := g5_7) (cs := [.bool (ng r3), .slice A_r3_5 (mg r3).length c_r3_5]) (t := 24) (by repeat (first | exact List.mem_cons_self | apply List.mem_cons_of_mem)) 0 rfl : World.cell? _ _ = some (.bool (ng r3)))) (And.intro ((hK.at_ (g := g5_7) (cs := [.bool (ng r3), .slice A_r3_5 (mg r3).length c_r3_5]) (t := 24) (by repeat (first | exact List.mem_cons_self | apply List.mem_cons_of_mem)) 1 rfl : World.cell? _ _ = some (.slice A_r3_5 (mg r3).length c_r3_5))) (And.intro ((hK.at_ (g := g8_11) (cs := [.bool (ng r3), .slice A_r3_9 (mg r3).length c_r3_9]) (t := 24) (by repeat (first | exact List.mem_cons_self | apply List.mem_cons_of_mem)) 0 rfl : World.cell? _ _ = some (.bool (ng r3)))) (And.intro ((hK.at_ (g := g8_11) (cs := [.bool (ng r3), .slice A_r3_9 (mg r3).length c_r3_9]) (t := 24) (by repeat (first | exact List.mem_cons_self | apply List.mem_cons_of_mem)) 1 rfl : World.cell? _ _ = some (.slice A_r3_9 (mg r3).length c_r3_9))) (And.intro ((hK.at_ (g := g6_8) (cs := [.bool (ng r4), .slice A_r4_6 (mg r4).length c_r4_6]) (t := 24) (by repeat (first | exact List.mem_cons_self | apply List.mem_cons_of_mem)) 0 rfl : World.cell? _ _ = some (.bool (ng r4)))) (And.intro ((hK.at_ (g := g6_8) (cs := [.bool (ng r4), .slice A_r4_6 (mg r4).length c_r4_6]) (t := 24) (by repeat (first | exact List.mem_cons_self | apply List.mem_cons_of_mem)) 1 rfl : World.cell? _ _ = some (.slice A_r4_6 (mg r4).length c_r4_6))) (And.intro ((hK.at_ (g := g9_12) (cs := [.bool (ng r4), .slice A_r4_10 (mg r4).length c_r4_10]) (t := 24) (by repeat (first | exact List.mem_cons_self | apply List.mem_cons_of_mem)) 0 rfl : World.cell? _ _ = some (.bool (ng r4)))) ((hK.at_ (g := g9_12) (cs := [.bool (ng r4), .slice A_r4_10 (mg r4).length c_r4_10]) (t := 24) (by repeat (first | exact List.mem_cons_self | apply List.mem_cons_of_mem)) 1 rfl : World.cell? _ _ = some (.slice A_r4_10 (mg r4).length c_r4_10)))))))))) | (go_at_call 13; (with_reducible refine (awake_any _ (HT.out.below hK.be)).mono ?_); rintro e w_6 ⟨rfl, hb⟩; replace hK := hK.below hb; clear hb; clear hc; have hc := And.intro ((hK.at_ (g := g5_7) (cs := [.bool (ng r3), .slice A_r3_5 (mg r3).length c_r3_5]) (t := 24) (by repeat (first | exact List.mem_cons_self | apply List.mem_cons_of_mem)) 0 rfl : World.cell? _ _ = some (.bool (ng r3)))) (And.intro ((hK.at_ (g := g5_7) (cs := [.bool (ng r3), .slice A_r3_5 (mg r3).length c_r3_5]) (t := 24) (by repeat (first | exact List.mem_cons_self | apply List.mem_cons_of_mem)) 1 rfl : World.cell? _ _ = some (.slice A_r3_5 (mg r3).length c_r3_5))) (And.intro ((hK.at_ (g := g8_11) (cs := [.bool (ng r3), .slice A_r3_9 (mg r3).length c_r3_9]) (t := 24) (by repeat (first | exact List.mem_cons_self | apply List.mem_cons_of_mem)) 0 rfl : World.cell? _ _ = some (.bool (ng r3)))) (And.intro ((hK.at_ (g := g8_11) (cs := [.bool (ng r3), .slice A_r3_9 (mg r3).length c_r3_9]) (t := 24) (by repeat (first | exact List.mem_cons_self | apply List.mem_cons_of_mem)) 1 rfl : World.cell? _ _ = some (.slice A_r3_9 (mg r3).length c_r3_9))) (And.intro ((hK.at_ (g := g6_8) (cs := [.bool (ng r4), .slice A_r4_6 (mg r4).length c_r4_6]) (t := 24) (by repeat (first | exact List.mem_cons_self | apply List.mem_cons_of_mem)) 0 rfl : World.cell? _ _ = some (.bool (ng r4)))) (And.intro ((hK.at_ (g := g6_8) (cs := [.bool (ng r4), .slice A_r4_6 (mg r4).length c_r4_6]) (t := 24) (by repeat (first | exact List.mem_cons_self | apply List.mem_cons_of_mem)) 1 rfl : World.cell? _ _ = some (.slice A_r4_6 (mg r4).length c_r4_6))) (And.intro ((hK.at_ (g := g9_12) (cs := [.bool (ng r4), .slice A_r4_10 (mg r4).length c_r4_10]) (t := 24) (by repeat (first | exact List.mem_cons_self | apply List.mem_cons_of_mem)) 0 rfl : World.cell? _ _ = some (.bool (ng r4)))) ((hK.at_ (g := g9_12) (cs := [.bool (ng r4), .slice A_r4_10 (mg r4).length c_r4_10]) (t := 24) (by repeat (first | exact List.mem_cons_self | apply List.mem_cons_of_mem)) 1 rfl : World.cell? _ _ = some (.slice A_r4_10 (mg r4).length c_r4_10)))))))))))
    go_meet
    exact ⟨rfl, ⟨hK⟩⟩
  clear hK
  obtain ⟨rfl, hK0⟩ := hcut
  have hK := hK0.out
  clear hK0
  go_wp2
  go_ret
  exact ⟨rfl, hK.be⟩
set_option maxHeartbeats 4000000 in
set_option maxRecDepth 100000 in
theorem division_zero (n0 : Bool) (n1 : Bool) (A0 : Option Addr) (A1 : Option Addr) (c0 : Nat) (c1 : Nat) (xs0 : List Int) (xs1 : List Int) (w : World) (h0 : Rd w A0 c0 xs0) (h1 : Rd w A1 c1 xs1) (hl0 : xs0.length ≤ 35184372088832) (hl1 : xs1.length ≤ 35184372088832) (hT : Tab_p10 w) (hsum : [xs0.length, xs1.length].sum ≤ 60) (hb0 : iv n1 xs1 = 0) :
    Calls Tryd.prog 3 #[.agg #[.bool n0, .slice A0 xs0.length c0], .agg #[.bool n1, .slice A1 xs1.length c1]] w fun e w' => e = .returned (.bool true) ∧ Below w.heap.size w w' := by
  have HT := Aside0.mk hT
  have HL := Aside0.mk (show decide ([xs0.length, xs1.length].sum ≤ 60) = true from decide_eq_true hsum)
  clear hT
  simp only [List.sum_cons, List.sum_nil, Nat.add_zero] at hsum
  obtain ⟨a, e0⟩ : ∃ z, iv n0 xs0 = z := ⟨_, rfl⟩
  have E_a := Aside0.mk e0
  have l_a : (mg a).length ≤ 60 := by rw [← e0]; exact mg_iv_le n0 h0.dig (by omega)
  clear e0
  obtain ⟨b, e1⟩ : ∃ z, iv n1 xs1 = z := ⟨_, rfl⟩
  have E_b := Aside0.mk e1
  have l_b : (mg b).length ≤ 60 := by rw [← e1]; exact mg_iv_le n1 h1.dig (by omega)
  clear e1
  have hK := (((KP.start w).row h0).row h1)
  have Z_b := Aside0.mk (show b = 0 by rw [← E_b.out]; exact hb0)
  have Z_i := Aside0.mk hb0
  clear hb0
  go_enter Tryd.func3, Tryd.ntmps3
  have l_0 : (mg 0).length ≤ 60 := by rw [mg_zero]; simp
  go_upto_region 0 with (fail)
  go_cut [2, 3, 4] (fun v2 v3 v4 wc => ∃ (g2_1 : Nat) (g3_2 : Nat), v2 = .pointer (some ⟨g2_1, 0, none⟩) ∧ v3 = .pointer (some ⟨g3_2, 0, none⟩) ∧ v4 = .bool false ∧ Aside0 (KP w wc [(g3_2, [.bool n1, .slice A1 xs1.length c1], 24), (g2_1, [.bool n0, .slice A0 xs0.length c0], 24)] [(A1, c1, xs1), (A0, c0, xs0)]))
  case first =>
    go_wp2
    go_meet
    all_goals refine ⟨_, _, rfl, rfl, rfl, ⟨?_⟩⟩
    all_goals first
      | (exact ((hK.new [.bool n0, .slice A0 xs0.length c0] 24 (NoDig.bool _ (NoDig.slice _ _ _ NoDig.nil)) (by first | rfl | simp)).new [.bool n1, .slice A1 xs1.length c1] 24 (NoDig.bool _ (NoDig.slice _ _ _ NoDig.nil)) (by first | rfl | simp)))
  clear hK
  obtain ⟨g2_1, g3_2, rfl, rfl, rfl, hK0⟩ := hcut
  have hK := hK0.out
  clear hK0
  go_upto_region 1 with (fail)
  go_cut [15] (fun v15 wc => v15 = .bool false ∧ Aside0 (KP w wc [(g3_2, [.bool n1, .slice A1 xs1.length c1], 24), (g2_1, [.bool n0, .slice A0 xs0.length c0], 24)] [(A1, c1, xs1), (A0, c0, xs0)]))
  case first =>
    have hc := And.intro ((hK.at_ (g := g2_1) (cs := [.bool n0, .slice A0 xs0.length c0]) (t := 24) (by repeat (first | exact List.mem_cons_self | apply List.mem_cons_of_mem)) 0 rfl : World.cell? _ _ = some (.bool n0))) (And.intro ((hK.at_ (g := g2_1) (cs := [.bool n0, .slice A0 xs0.length c0]) (t := 24) (by repeat (first | exact List.mem_cons_self | apply List.mem_cons_of_mem)) 1 rfl : World.cell? _ _ = some (.slice A0 xs0.length c0))) (And.intro ((hK.at_ (g := g3_2) (cs := [.bool n1, .slice A1 xs1.length c1]) (t := 24) (by repeat (first | exact List.mem_cons_self | apply List.mem_cons_of_mem)) 0 rfl : World.cell? _ _ = some (.bool n1))) ((hK.at_ (g := g3_2) (cs := [.bool n1, .slice A1 xs1.length c1]) (t := 24) (by repeat (first | exact List.mem_cons_self | apply List.mem_cons_of_mem)) 1 rfl : World.cell? _ _ = some (.slice A1 xs1.length c1)))))
    go_wp2_with (first | (go_at_call 12; (with_reducible refine (Light_2 n0 n1 A0 A1 xs0.length c0 xs1.length c1 _ _ hl0 hl1 true HL.out).mono ?_); rintro e w_1 ⟨rfl, hb⟩; replace hK := (hK.alloc _).below hb; clear hb; clear hc; have hc := And.intro ((hK.at_ (g := g2_1) (cs := [.bool n0, .slice A0 xs0.length c0]) (t := 24) (by repeat (first | exact List.mem_cons_self | apply List.mem_cons_of_mem)) 0 rfl : World.cell? _ _ = some (.bool n0))) (And.intro ((hK.at_ (g := g2_1) (cs := [.bool n0, .slice A0 xs0.length c0]) (t := 24) (by repeat (first | exact List.mem_cons_self | apply List.mem_cons_of_mem)) 1 rfl : World.cell? _ _ = some (.slice A0 xs0.length c0))) (And.intro ((hK.at_ (g := g3_2) (cs := [.bool n1, .slice A1 xs1.length c1]) (t := 24) (by repeat (first | exact List.mem_cons_self | apply List.mem_cons_of_mem)) 0 rfl : World.cell? _ _ = some (.bool n1))) ((hK.at_ (g := g3_2) (cs := [.bool n1, .slice A1 xs1.length c1]) (t := 24) (by repeat (first | exact List.mem_cons_self | apply List.mem_cons_of_mem)) 1 rfl : World.cell? _ _ = some (.slice A1 xs1.length c1)))))))
    go_meet
    exact ⟨rfl, ⟨hK⟩⟩
  clear hK
  obtain ⟨rfl, hK0⟩ := hcut
  have hK := hK0.out
  clear hK0
  go_upto_region 3 with (fail)
  go_cut [5, 6, 7] (fun v5 v6 v7 wc => ∃ (g5_5 : Nat) (g6_6 : Nat) (A_0_3 : Option Addr) (c_0_3 : Nat) (A_0_4 : Option Addr) (c_0_4 : Nat), v5 = .pointer (some ⟨g5_5, 0, none⟩) ∧ v6 = .pointer (some ⟨g6_6, 0, none⟩) ∧ v7 = .int .i64 11 ∧ Aside0 (KP w wc [(g6_6, [.bool (ng 0), .slice A_0_4 (mg 0).length c_0_4], 24), (g5_5, [.bool (ng 0), .slice A_0_3 (mg 0).length c_0_3], 24), (g3_2, [.bool n1, .slice A1 xs1.length c1], 24), (g2_1, [.bool n0, .slice A0 xs0.length c0], 24)] [(A_0_4, c_0_4, (mg 0)), (A_0_3, c_0_3, (mg 0)), (A1, c1, xs1), (A0, c0, xs0)]))
  case first =>
    have hc := And.intro ((hK.at_ (g := g2_1) (cs := [.bool n0, .slice A0 xs0.length c0]) (t := 24) (by repeat (first | exact List.mem_cons_self | apply List.mem_cons_of_mem)) 0 rfl : World.cell? _ _ = some (.bool n0))) (And.intro ((hK.at_ (g := g2_1) (cs := [.bool n0, .slice A0 xs0.length c0]) (t := 24) (by repeat (first | exact List.mem_cons_self | apply List.mem_cons_of_mem)) 1 rfl : World.cell? _ _ = some (.slice A0 xs0.length c0))) (And.intro ((hK.at_ (g := g3_2) (cs := [.bool n1, .slice A1 xs1.length c1]) (t := 24) (by repeat (first | exact List.mem_cons_self | apply List.mem_cons_of_mem)) 0 rfl : World.cell? _ _ = some (.bool n1))) ((hK.at_ (g := g3_2) (cs := [.bool n1, .slice A1 xs1.length c1]) (t := 24) (by repeat (first | exact List.mem_cons_self | apply List.mem_cons_of_mem)) 1 rfl : World.cell? _ _ = some (.slice A1 xs1.length c1)))))
    go_wp2_with (first | (go_at_call 14; (with_reducible refine (DivMod_zero n0 n1 A0 A1 c0 c1 xs0 xs1 _ (hK.rd _ _ _ (by repeat (first | exact List.mem_cons_self | apply List.mem_cons_of_mem))) (hK.rd _ _ _ (by repeat (first | exact List.mem_cons_self | apply List.mem_cons_of_mem))) (by omega) (by omega) Z_i.out).mono ?_); rintro e w_2 ⟨A_0_3, c_0_3, A_0_4, c_0_4, rfl, hQ, hR, hb⟩; replace hK := ((hK.below hb).row hQ).row hR; clear hb hQ hR; clear hc; have hc := And.intro ((hK.at_ (g := g2_1) (cs := [.bool n0, .slice A0 xs0.length c0]) (t := 24) (by repeat (first | exact List.mem_cons_self | apply List.mem_cons_of_mem)) 0 rfl : World.cell? _ _ = some (.bool n0))) (And.intro ((hK.at_ (g := g2_1) (cs := [.bool n0, .slice A0 xs0.length c0]) (t := 24) (by repeat (first | exact List.mem_cons_self | apply List.mem_cons_of_mem)) 1 rfl : World.cell? _ _ = some (.slice A0 xs0.length c0))) (And.intro ((hK.at_ (g := g3_2) (cs := [.bool n1, .slice A1 xs1.length c1]) (t := 24) (by repeat (first | exact List.mem_cons_self | apply List.mem_cons_of_mem)) 0 rfl : World.cell? _ _ = some (.bool n1))) ((hK.at_ (g := g3_2) (cs := [.bool n1, .slice A1 xs1.length c1]) (t := 24) (by repeat (first | exact List.mem_cons_self | apply List.mem_cons_of_mem)) 1 rfl : World.cell? _ _ = some (.slice A1 xs1.length c1)))))))
    go_meet
    all_goals refine ⟨_, _, A_0_3, c_0_3, A_0_4, c_0_4, rfl, rfl, rfl, ⟨?_⟩⟩
    all_goals first
      | (exact ((hK.new [.bool (ng 0), .slice A_0_3 (mg 0).length c_0_3] 24 (NoDig.bool _ (NoDig.slice _ _ _ NoDig.nil)) (by first | rfl | simp)).new [.bool (ng 0), .slice A_0_4 (mg 0).length c_0_4] 24 (NoDig.bool _ (NoDig.slice _ _ _ NoDig.nil)) (by first | rfl | simp)))
  clear hK
  obtain ⟨g5_5, g6_6, A_0_3, c_0_3, A_0_4, c_0_4, rfl, rfl, rfl, hK0⟩ := hcut
  have hK := hK0.out
  clear hK0
  go_upto_region 4 with (fail)
  go_cut [8, 9, 10] (fun v8 v9 v10 wc => ∃ (g8_9 : Nat) (g9_10 : Nat) (A_0_7 : Option Addr) (c_0_7 : Nat) (A_0_8 : Option Addr) (c_0_8 : Nat), v8 = .pointer (some ⟨g8_9, 0, none⟩) ∧ v9 = .pointer (some ⟨g9_10, 0, none⟩) ∧ v10 = .int .i64 11 ∧ Aside0 (KP w wc [(g9_10, [.bool (ng 0), .slice A_0_8 (mg 0).length c_0_8], 24), (g8_9, [.bool (ng 0), .slice A_0_7 (mg 0).length c_0_7], 24), (g6_6, [.bool (ng 0), .slice A_0_4 (mg 0).length c_0_4], 24), (g5_5, [.bool (ng 0), .slice A_0_3 (mg 0).length c_0_3], 24), (g3_2, [.bool n1, .slice A1 xs1.length c1], 24), (g2_1, [.bool n0, .slice A0 xs0.length c0], 24)] [(A_0_8, c_0_8, (mg 0)), (A_0_7, c_0_7, (mg 0)), (A_0_4, c_0_4, (mg 0)), (A_0_3, c_0_3, (mg 0)), (A1, c1, xs1), (A0, c0, xs0)]))
  case first =>
    have hc := And.intro ((hK.at_ (g := g2_1) (cs := [.bool n0, .slice A0 xs0.length c0]) (t := 24) (by repeat (first | exact List.mem_cons_self | apply List.mem_cons_of_mem)) 0 rfl : World.cell? _ _ = some (.bool n0))) (And.intro ((hK.at_ (g := g2_1) (cs := [.bool n0, .slice A0 xs0.length c0]) (t := 24) (by repeat (first | exact List.mem_cons_self | apply List.mem_cons_of_mem)) 1 rfl : World.cell? _ _ = some (.slice A0 xs0.length c0))) (And.intro ((hK.at_ (g := g3_2) (cs := [.bool n1, .slice A1 xs1.length c1]) (t := 24) (by repeat (first | exact List.mem_cons_self | apply List.mem_cons_of_mem)) 0 rfl : World.cell? _ _ = some (.bool n1))) ((hK.at_ (g := g3_2) (cs := [.bool n1, .slice A1 xs1.length c1]) (t := 24) (by repeat (first | exact List.mem_cons_self | apply List.mem_cons_of_mem)) 1 rfl : World.cell? _ _ = some (.slice A1 xs1.length c1)))))
    go_wp2_with (first | (go_at_call 15; (with_reducible refine (DivMod_ref0 n0 n1 A0 A1 c0 c1 xs0 xs1 _ (hK.rd _ _ _ (by repeat (first | exact List.mem_cons_self | apply List.mem_cons_of_mem))) (hK.rd _ _ _ (by repeat (first | exact List.mem_cons_self | apply List.mem_cons_of_mem))) 60 (by omega) (by omega) (by omega) a b E_a.out E_b.out Z_b.out).mono ?_); rintro e w_3 ⟨A_0_7, c_0_7, A_0_8, c_0_8, rfl, hQ, hR, hb⟩; replace hK := ((hK.below hb).row hQ).row hR; clear hb hQ hR; clear hc; have hc := And.intro ((hK.at_ (g := g2_1) (cs := [.bool n0, .slice A0 xs0.length c0]) (t := 24) (by repeat (first | exact List.mem_cons_self | apply List.mem_cons_of_mem)) 0 rfl : World.cell? _ _ = some (.bool n0))) (And.intro ((hK.at_ (g := g2_1) (cs := [.bool n0, .slice A0 xs0.length c0]) (t := 24) (by repeat (first | exact List.mem_cons_self | apply List.mem_cons_of_mem)) 1 rfl : World.cell? _ _ = some (.slice A0 xs0.length c0))) (And.intro ((hK.at_ (g := g3_2) (cs := [.bool n1, .slice A1 xs1.length c1]) (t := 24) (by repeat (first | exact List.mem_cons_self | apply List.mem_cons_of_mem)) 0 rfl : World.cell? _ _ = some (.bool n1))) ((hK.at_ (g := g3_2) (cs := [.bool n1, .slice A1 xs1.length c1]) (t := 24) (by repeat (first | exact List.mem_cons_self | apply List.mem_cons_of_mem)) 1 rfl : World.cell? _ _ = some (.slice A1 xs1.length c1)))))))
    go_meet
    all_goals refine ⟨_, _, A_0_7, c_0_7, A_0_8, c_0_8, rfl, rfl, rfl, ⟨?_⟩⟩
    all_goals first
      | (exact ((hK.new [.bool (ng 0), .slice A_0_7 (mg 0).length c_0_7] 24 (NoDig.bool _ (NoDig.slice _ _ _ NoDig.nil)) (by first | rfl | simp)).new [.bool (ng 0), .slice A_0_8 (mg 0).length c_0_8] 24 (NoDig.bool _ (NoDig.slice _ _ _ NoDig.nil)) (by first | rfl | simp)))
  clear hK
  obtain ⟨g8_9, g9_10, A_0_7, c_0_7, A_0_8, c_0_8, rfl, rfl, rfl, hK0⟩ := hcut
  have hK := hK0.out
  clear hK0
  go_upto_region 5 with (fail)
  go_cut [4] (fun v4 wc => v4 = .bool true ∧ Aside0 (KP w wc [(g9_10, [.bool (ng 0), .slice A_0_8 (mg 0).length c_0_8], 24), (g8_9, [.bool (ng 0), .slice A_0_7 (mg 0).length c_0_7], 24), (g6_6, [.bool (ng 0), .slice A_0_4 (mg 0).length c_0_4], 24), (g5_5, [.bool (ng 0), .slice A_0_3 (mg 0).length c_0_3], 24), (g3_2, [.bool n1, .slice A1 xs1.length c1], 24), (g2_1, [.bool n0, .slice A0 xs0.length c0], 24)] [(A_0_8, c_0_8, (mg 0)), (A_0_7, c_0_7, (mg 0)), (A_0_4, c_0_4, (mg 0)), (A_0_3, c_0_3, (mg 0)), (A1, c1, xs1), (A0, c0, xs0)]))
  case first =>
    have hc := And.intro ((hK.at_ (g := g5_5) (cs := [.bool (ng 0), .slice A_0_3 (mg 0).length c_0_3]) (t := 24) (by repeat (first | exact List.mem_cons_self | apply List.mem_cons_of_mem)) 0 rfl : World.cell? _ _ = some (.bool (ng 0)))) (And.intro ((hK.at_ (g := g5_5) (cs := [.bool (ng 0), .slice A_0_3 (mg 0).length c_0_3]) (t := 24) (by repeat (first | exact List.mem_cons_self | apply List.mem_cons_of_mem)) 1 rfl : World.cell? _ _ = some (.slice A_0_3 (mg 0).length c_0_3))) (And.intro ((hK.at_ (g := g8_9) (cs := [.bool (ng 0), .slice A_0_7 (mg 0).length c_0_7]) (t := 24) (by repeat (first | exact List.mem_cons_self | apply List.mem_cons_of_mem)) 0 rfl : World.cell? _ _ = some (.bool (ng 0)))) (And.intro ((hK.at_ (g := g8_9) (cs := [.bool (ng 0), .slice A_0_7 (mg 0).length c_0_7]) (t := 24) (by repeat (first | exact List.mem_cons_self | apply List.mem_cons_of_mem)) 1 rfl : World.cell? _ _ = some (.slice A_0_7 (mg 0).length c_0_7))) (And.intro ((hK.at_ (g := g6_6) (cs := [.bool (ng 0), .slice A_0_4 (mg 0).length c_0_4]) (t := 24) (by repeat (first | exact List.mem_cons_self | apply List.mem_cons_of_mem)) 0 rfl : World.cell? _ _ = some (.bool (ng 0)))) (And.intro ((hK.at_ (g := g6_6) (cs := [.bool (ng 0), .slice A_0_4 (mg 0).length c_0_4]) (t := 24) (by repeat (first | exact List.mem_cons_self | apply List.mem_cons_of_mem)) 1 rfl : World.cell? _ _ = some (.slice A_0_4 (mg 0).length c_0_4))) (And.intro ((hK.at_ (g := g9_10) (cs := [.bool (ng 0), .slice A_0_8 (mg 0).length c_0_8]) (t := 24) (by repeat (first | exact List.mem_cons_self | apply List.mem_cons_of_mem)) 0 rfl : World.cell? _ _ = some (.bool (ng 0)))) ((hK.at_ (g := g9_10) (cs := [.bool (ng 0), .slice A_0_8 (mg 0).length c_0_8]) (t := 24) (by repeat (first | exact List.mem_cons_self | apply List.mem_cons_of_mem)) 1 rfl : World.cell? _ _ = some (.slice A_0_8 (mg 0).length c_0_8)))))))))
    go_wp2_with (first | (go_at_call 16; (with_reducible refine (same_v A_0_3 A_0_7 c_0_3 c_0_7 _ 0 0 (hK.rd _ _ _ (by repeat (first | exact List.mem_cons_self | apply List.mem_cons_of_mem))) (hK.rd _ _ _ (by repeat (first | exact List.mem_cons_self | apply List.mem_cons_of_mem))) (by omega) (by omega) rfl).mono ?_); rintro e w_4 ⟨rfl, hb⟩; replace hK := hK.below hb; clear hb; clear hc; have hc := And.intro ((hK.at_ (g := g5_5) (cs := [.bool (ng 0), .slice A_0_3 (mg 0).length c_0_3]) (t := 24) (by repeat (first | exact List.mem_cons_self | apply List.mem_cons_of_mem)) 0 rfl : World.cell? _ _ = some (.bool (ng 0)))) (And.intro ((hK.at_ (g := g5_5) (cs := [.bool (ng 0), .slice A_0_3 (mg 0).length c_0_3]) (t := 24) (by repeat (first | exact List.mem_cons_self | apply List.mem_cons_of_mem)) 1 rfl : World.cell? _ _ = some (.slice A_0_3 (mg 0).length c_0_3))) (And.intro ((hK.at_ (g := g8_9) (cs := [.bool (ng 0), .slice A_0_7 (mg 0).length c_0_7]) (t := 24) (by repeat (first | exact List.mem_cons_self | apply List.mem_cons_of_mem)) 0 rfl : World.cell? _ _ = some (.bool (ng 0)))) (And.intro ((hK.at_ (g := g8_9) (cs := [.bool (ng 0), .slice A_0_7 (mg 0).length c_0_7]) (t := 24) (by repeat (first | exact List.mem_cons_self | apply List.mem_cons_of_mem)) 1 rfl : World.cell? _ _ = some (.slice A_0_7 (mg 0).length c_0_7))) (And.intro ((hK.at_ (g := g6_6) (cs := [.bool (ng 0), .slice A_0_4 (mg 0).length c_0_4]) (t := 24) (by repeat (first | exact List.mem_cons_self | apply List.mem_cons_of_mem)) 0 rfl : World.cell? _ _ = some (.bool (ng 0)))) (And.intro ((hK.at_ (g := g6_6) (cs := [.bool (ng 0), .slice A_0_4 (mg 0).length c_0_4]) (t := 24) (by repeat (first | exact List.mem_cons_self | apply List.mem_cons_of_mem)) 1 rfl : World.cell? _ _ = some (.slice A_0_4 (mg 0).length c_0_4))) (And.intro ((hK.at_ (g := g9_10) (cs := [.bool (ng 0), .slice A_0_8 (mg 0).length c_0_8]) (t := 24) (by repeat (first | exact List.mem_cons_self | apply List.mem_cons_of_mem)) 0 rfl : World.cell? _ _ = some (.bool (ng 0)))) ((hK.at_ (g := g9_10) (cs := [.bool (ng 0), .slice A_0_8 (mg 0).length c_0_8]) (t := 24) (by repeat (first | exact List.mem_cons_self | apply List.mem_cons_of_mem)) 1 rfl : World.cell? _ _ = some (.slice A_0_8 (mg 0).length c_0_8)))))))))) | (go_at_call 16; (with_reducible refine (same_v A_0_4 A_0_8 c_0_4 c_0_8 _ 0 0 (hK.rd _ _ _ (by repeat (first | exact List.mem_cons_self | apply List.mem_cons_of_mem))) (hK.rd _ _ _ (by repeat (first | exact List.mem_cons_self | apply List.mem_cons_of_mem))) (by omega) (by omega) rfl).mono ?_); rintro e w_5 ⟨rfl, hb⟩; replace hK := hK.below hb; clear hb; clear hc; have hc := And.intro ((hK.at_ (g := g5_5) (cs := [.bool (ng 0), .slice A_0_3 (mg 0).length c_0_3]) (t := 24) (by repeat (first | exact List.mem_cons_self | apply List.mem_cons_of_mem)) 0 rfl : World.cell? _ _ = some (.bool (ng 0)))) (And.intro ((hK.at_ (g := g5_5) (cs := [.bool (ng 0), .slice A_0_3 (mg 0).length c_0_3]) (t := 24) (by repeat (first | exact List.mem_cons_self | apply List.mem_cons_of_mem)) 1 rfl : World.cell? _ _ = some (.slice A_0_3 (mg 0).length c_0_3))) (And.intro ((hK.at_ (g := g8_9) (cs := [.bool (ng 0), .slice A_0_7 (mg 0).length c_0_7]) (t := 24) (by repeat (first | exact List.mem_cons_self | apply List.mem_cons_of_mem)) 0 rfl : World.cell? _ _ = some (.bool (ng 0)))) (And.intro ((hK.at_ (g := g8_9) (cs := [.bool (ng 0), .slice A_0_7 (mg 0).length c_0_7]) (t := 24) (by repeat (first | exact List.mem_cons_self | apply List.mem_cons_of_mem)) 1 rfl : World.cell? _ _ = some (.slice A_0_7 (mg 0).length c_0_7))) (And.intro ((hK.at_ (g := g6_6) (cs := [.bool (ng 0), .slice A_0_4 (mg 0).length c_0_4]) (t := 24) (by repeat (first | exact List.mem_cons_self | apply List.mem_cons_of_mem)) 0 rfl : World.cell? _ _ = some (.bool (ng 0)))) (And.intro ((hK.at_ (g := g6_6) (cs := [.bool (ng 0), .slice A_0_4 (mg 0).length c_0_4]) (t := 24) (by repeat (first | exact List.mem_cons_self | apply List.mem_cons_of_mem)) 1 rfl : World.cell? _ _ = some (.slice A_0_4 (mg 0).length c_0_4))) (And.intro ((hK.at_ (g := g9_10) (cs := [.bool (ng 0), .slice A_0_8 (mg 0).length c_0_8]) (t := 24) (by repeat (first | exact List.mem_cons_self | apply List.mem_cons_of_mem)) 0 rfl : World.cell? _ _ = some (.bool (ng 0)))) ((hK.at_ (g := g9_10) (cs := [.bool (ng 0), .slice A_0_8 (mg 0).length c_0_8]) (t := 24) (by repeat (first | exact List.mem_cons_self | apply List.mem_cons_of_mem)) 1 rfl : World.cell? _ _ = some (.slice A_0_8 (mg 0).length c_0_8)))))))))) | (go_at_call 13; (with_reducible refine (awake_any _ (HT.out.below hK.be)).mono ?_); rintro e w_6 ⟨rfl, hb⟩; replace hK := hK.below hb; clear hb; clear hc; have hc := And.intro ((hK.at_ (g := g5_5) (cs := [.bool (ng 0), .slice A_0_3 (mg 0).length c_0_3]) (t := 24) (by repeat (first | exact List.mem_cons_self | apply List.mem_cons_of_mem)) 0 rfl : World.cell? _ _ = some (.bool (ng 0)))) (And.intro ((hK.at_ (g := g5_5) (cs := [.bool (ng 0), .slice A_0_3 (mg 0).length c_0_3]) (t := 24) (by repeat (first | exact List.mem_cons_self | apply List.mem_cons_of_mem)) 1 rfl : World.cell? _ _ = some (.slice A_0_3 (mg 0).length c_0_3))) (And.intro ((hK.at_ (g := g8_9) (cs := [.bool (ng 0), .slice A_0_7 (mg 0).length c_0_7]) (t := 24) (by repeat (first | exact List.mem_cons_self | apply List.mem_cons_of_mem)) 0 rfl : World.cell? _ _ = some (.bool (ng 0)))) (And.intro ((hK.at_ (g := g8_9) (cs := [.bool (ng 0), .slice A_0_7 (mg 0).length c_0_7]) (t := 24) (by repeat (first | exact List.mem_cons_self | apply List.mem_cons_of_mem)) 1 rfl : World.cell? _ _ = some (.slice A_0_7 (mg 0).length c_0_7))) (And.intro ((hK.at_ (g := g6_6) (cs := [.bool (ng 0), .slice A_0_4 (mg 0).length c_0_4]) (t := 24) (by repeat (first | exact List.mem_cons_self | apply List.mem_cons_of_mem)) 0 rfl : World.cell? _ _ = some (.bool (ng 0)))) (And.intro ((hK.at_ (g := g6_6) (cs := [.bool (ng 0), .slice A_0_4 (mg 0).length c_0_4]) (t := 24) (by repeat (first | exact List.mem_cons_self | apply List.mem_cons_of_mem)) 1 rfl : World.cell? _ _ = some (.slice A_0_4 (mg 0).length c_0_4))) (And.intro ((hK.at_ (g := g9_10) (cs := [.bool (ng 0), .slice A_0_8 (mg 0).length c_0_8]) (t := 24) (by repeat (first | exact List.mem_cons_self | apply List.mem_cons_of_mem)) 0 rfl : World.cell? _ _ = some (.bool (ng 0)))) ((hK.at_ (g := g9_10) (cs := [.bool (ng 0), .slice A_0_8 (mg 0).length c_0_8]) (t := 24) (by repeat (first | exact List.mem_cons_self | apply List.mem_cons_of_mem)) 1 rfl : World.cell? _ _ = some (.slice A_0_8 (mg 0).length c_0_8)))))))))))
    go_meet
    exact ⟨rfl, ⟨hK⟩⟩
  clear hK
  obtain ⟨rfl, hK0⟩ := hcut
  have hK := hK0.out
  clear hK0
  go_wp2
  go_ret
  exact ⟨rfl, hK.be⟩
theorem division_any (n0 n1 : Bool) (A0 A1 : Option Addr) (c0 c1 : Nat) (xs0 xs1 : List Int) (w : World) (h0 : Rd w A0 c0 xs0) (h1 : Rd w A1 c1 xs1) (hl0 : xs0.length ≤ 35184372088832) (hl1 : xs1.length ≤ 35184372088832) (hT : Tab_p10 w) :
    Calls Tryd.prog 3 #[.agg #[.bool n0, .slice A0 xs0.length c0], .agg #[.bool n1, .slice A1 xs1.length c1]] w fun e w' => e = .returned (.bool true) ∧ Below w.heap.size w w' := by
  by_cases h : [xs0.length, xs1.length].sum ≤ 60
  · by_cases hb : iv n1 xs1 = 0
    · exact division_zero n0 n1 A0 A1 c0 c1 xs0 xs1 w h0 h1 hl0 hl1 hT h hb
    · exact division_yes n0 n1 A0 A1 c0 c1 xs0 xs1 w h0 h1 hl0 hl1 hT h hb
  · exact division_no n0 n1 A0 A1 c0 c1 xs0 xs1 w h0 h1 hl0 hl1 hT h
end Go.Proofs.YtegnnghoiffmhaaDoor.Big
