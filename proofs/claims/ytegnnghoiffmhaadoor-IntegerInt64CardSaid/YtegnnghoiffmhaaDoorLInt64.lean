/- The law IntegerInt64. -/
import Derived.Test.YtegnnghoiffmhaaDoorKDM
import Derived.Test.YtegnnghoiffmhaaDoorGLight
import Derived.Test.YtegnnghoiffmhaaDoorISame
import Derived.Test.YtegnnghoiffmhaaDoorIKeep
import Derived.Test.YtegnnghoiffmhaaDoorJInt64
import Derived.Test.YtegnnghoiffmhaaDoorIKinds
import Derived.Deep.DeepCutAuto
import Derived.Deep.RegionHeld3
namespace Go.Proofs.YtegnnghoiffmhaaDoor.Big
open Go.RowKit Go.Proofs.YtegnnghoiffmhaaDoorW.PrintWords Go.Proofs.YtegnnghoiffmhaaDoorW.PrintLast
set_option linter.unusedVariables false
set_option linter.unusedSimpArgs false
attribute [local go_sem ↓] Go.wp_at_zero Go.wp_at_succ

theorem ToInt64_v (n : Bool) (A : Option Addr) (c : Nat) (xs : List Int) (w : World) (h : Rd w A c xs) (hl : xs.length ≤ 274877906944) (z m e : Int) (hz : iv n xs = z) (hm : tiv z = m) (he : tie z = e) :
    Calls Tryd.prog 22 #[.agg #[.bool n, .slice A xs.length c]] w fun e' w' => e' = .returned (.tuple #[.int .i64 m, .int .i64 e]) ∧ Below w.heap.size w w' := by subst hz hm he; exact ToInt64_any n A c xs w h hl
theorem ToInt64_r (n : Bool) (A : Option Addr) (c : Nat) (xs : List Int) (w : World) (h : Rd w A c xs) (hl : xs.length ≤ 274877906944) (z m e : Int) (hz : iv n xs = z) (hm : tiv z = m) (he : tie z = e) :
    Calls Tryd.prog 23 #[.agg #[.bool n, .slice A xs.length c]] w fun e' w' => e' = .returned (.tuple #[.int .i64 m, .int .i64 e]) ∧ Below w.heap.size w w' := by subst hm he; exact ToInt64_ref n A c xs w h hl z hz
set_option maxHeartbeats 4000000 in
set_option maxRecDepth 100000 in
theorem int64_no (n0 : Bool) (A0 : Option Addr) (c0 : Nat) (xs0 : List Int) (m : Int) (w : World) (h0 : Rd w A0 c0 xs0) (hl0 : xs0.length ≤ 35184372088832) (ho_m : -9223372036854775808 ≤ m ∧ m ≤ 9223372036854775807) (hT : Tab_p10 w) (hsum : ¬ [xs0.length].sum ≤ 60) :
    Calls Tryd.prog 5 #[.int .i64 m, .agg #[.bool n0, .slice A0 xs0.length c0]] w fun e w' => e = .returned (.bool true) ∧ Below w.heap.size w w' := by
  have HT := Aside0.mk hT
  have HL := Aside0.mk (show decide ([xs0.length].sum ≤ 60) = false from decide_eq_false hsum)
  clear hT
  simp only [List.sum_cons, List.sum_nil, Nat.add_zero] at hsum
  have hK := ((KP.start w).row h0)
  obtain ⟨hm0, hm1⟩ := ho_m
  go_enter Tryd.func5, Tryd.ntmps5
  go_upto_region 0 with (fail)
  go_cut [3, 4] (fun v3 v4 wc => ∃ (g3_1 : Nat), v3 = .pointer (some ⟨g3_1, 0, none⟩) ∧ v4 = .bool false ∧ Aside0 (KP w wc [(g3_1, [.bool n0, .slice A0 xs0.length c0], 24)] [(A0, c0, xs0)]))
  case first =>
    go_wp2
    go_meet
    all_goals refine ⟨_, rfl, rfl, ⟨?_⟩⟩
    all_goals first
      | (exact (hK.new [.bool n0, .slice A0 xs0.length c0] 24 (NoDig.bool _ (NoDig.slice _ _ _ NoDig.nil)) (by first | rfl | simp)))
  clear hK
  obtain ⟨g3_1, rfl, rfl, hK0⟩ := hcut
  have hK := hK0.out
  clear hK0
  go_upto_region 1 with (fail)
  go_cut [15] (fun v15 wc => v15 = .bool true ∧ Aside0 (KP w wc [(g3_1, [.bool n0, .slice A0 xs0.length c0], 24)] [(A0, c0, xs0)]))
  case first =>
    have hc := And.intro ((hK.at_ (g := g3_1) (cs := [.bool n0, .slice A0 xs0.length c0]) (t := 24) (by repeat (first | exact List.mem_cons_self | apply List.mem_cons_of_mem)) 0 rfl : World.cell? _ _ = some (.bool n0))) ((hK.at_ (g := g3_1) (cs := [.bool n0, .slice A0 xs0.length c0]) (t := 24) (by repeat (first | exact List.mem_cons_self | apply List.mem_cons_of_mem)) 1 rfl : World.cell? _ _ = some (.slice A0 xs0.length c0)))
    go_wp2_with (first | (go_at_call 12; (with_reducible refine (Light_1 n0 A0 xs0.length c0 _ _ hl0 false HL.out).mono ?_); rintro e w_1 ⟨rfl, hb⟩; replace hK := (hK.alloc _).below hb; clear hb; clear hc; have hc := And.intro ((hK.at_ (g := g3_1) (cs := [.bool n0, .slice A0 xs0.length c0]) (t := 24) (by repeat (first | exact List.mem_cons_self | apply List.mem_cons_of_mem)) 0 rfl : World.cell? _ _ = some (.bool n0))) ((hK.at_ (g := g3_1) (cs := [.bool n0, .slice A0 xs0.length c0]) (t := 24) (by repeat (first | exact List.mem_cons_self | apply List.mem_cons_of_mem)) 1 rfl : World.cell? _ _ = some (.slice A0 xs0.length c0)))))
    go_meet
    exact ⟨rfl, ⟨hK⟩⟩
  clear hK
  obtain ⟨rfl, hK0⟩ := hcut
  have hK := hK0.out
  clear hK0
  go_upto_region 2 with (fail)
  go_cut [4] (fun v4 wc => v4 = .bool true ∧ Aside0 (KP w wc [(g3_1, [.bool n0, .slice A0 xs0.length c0], 24)] [(A0, c0, xs0)]))
  case first =>
    go_wp2_with (first | (go_at_call 13; (with_reducible refine (awake_any _ (HT.out.below hK.be)).mono ?_); rintro e w_2 ⟨rfl, hb⟩; replace hK := hK.below hb; clear hb))
    go_meet
    exact ⟨rfl, ⟨hK⟩⟩
  clear hK
  obtain ⟨rfl, hK0⟩ := hcut
  have hK := hK0.out
  clear hK0
  go_wp2
  go_ret
  exact ⟨rfl, hK.be⟩
set_option maxHeartbeats 4000000 in
set_option maxRecDepth 100000 in
theorem int64_yes (n0 : Bool) (A0 : Option Addr) (c0 : Nat) (xs0 : List Int) (m : Int) (w : World) (h0 : Rd w A0 c0 xs0) (hl0 : xs0.length ≤ 35184372088832) (ho_m : -9223372036854775808 ≤ m ∧ m ≤ 9223372036854775807) (hT : Tab_p10 w) (hsum : [xs0.length].sum ≤ 60) :
    Calls Tryd.prog 5 #[.int .i64 m, .agg #[.bool n0, .slice A0 xs0.length c0]] w fun e w' => e = .returned (.bool true) ∧ Below w.heap.size w w' := by
  have HT := Aside0.mk hT
  have HL := Aside0.mk (show decide ([xs0.length].sum ≤ 60) = true from decide_eq_true hsum)
  clear hT
  simp only [List.sum_cons, List.sum_nil, Nat.add_zero] at hsum
  obtain ⟨a, e0⟩ : ∃ z, iv n0 xs0 = z := ⟨_, rfl⟩
  have E_a := Aside0.mk e0
  have l_a : (mg a).length ≤ 60 := by rw [← e0]; exact mg_iv_le n0 h0.dig (by omega)
  clear e0
  have hK := ((KP.start w).row h0)
  obtain ⟨hm0, hm1⟩ := ho_m
  go_enter Tryd.func5, Tryd.ntmps5
  go_upto_region 0 with (fail)
  go_cut [3, 4] (fun v3 v4 wc => ∃ (g3_1 : Nat), v3 = .pointer (some ⟨g3_1, 0, none⟩) ∧ v4 = .bool false ∧ Aside0 (KP w wc [(g3_1, [.bool n0, .slice A0 xs0.length c0], 24)] [(A0, c0, xs0)]))
  case first =>
    go_wp2
    go_meet
    all_goals refine ⟨_, rfl, rfl, ⟨?_⟩⟩
    all_goals first
      | (exact (hK.new [.bool n0, .slice A0 xs0.length c0] 24 (NoDig.bool _ (NoDig.slice _ _ _ NoDig.nil)) (by first | rfl | simp)))
  clear hK
  obtain ⟨g3_1, rfl, rfl, hK0⟩ := hcut
  have hK := hK0.out
  clear hK0
  go_upto_region 1 with (fail)
  go_cut [15] (fun v15 wc => v15 = .bool false ∧ Aside0 (KP w wc [(g3_1, [.bool n0, .slice A0 xs0.length c0], 24)] [(A0, c0, xs0)]))
  case first =>
    have hc := And.intro ((hK.at_ (g := g3_1) (cs := [.bool n0, .slice A0 xs0.length c0]) (t := 24) (by repeat (first | exact List.mem_cons_self | apply List.mem_cons_of_mem)) 0 rfl : World.cell? _ _ = some (.bool n0))) ((hK.at_ (g := g3_1) (cs := [.bool n0, .slice A0 xs0.length c0]) (t := 24) (by repeat (first | exact List.mem_cons_self | apply List.mem_cons_of_mem)) 1 rfl : World.cell? _ _ = some (.slice A0 xs0.length c0)))
    go_wp2_with (first | (go_at_call 12; (with_reducible refine (Light_1 n0 A0 xs0.length c0 _ _ hl0 true HL.out).mono ?_); rintro e w_1 ⟨rfl, hb⟩; replace hK := (hK.alloc _).below hb; clear hb; clear hc; have hc := And.intro ((hK.at_ (g := g3_1) (cs := [.bool n0, .slice A0 xs0.length c0]) (t := 24) (by repeat (first | exact List.mem_cons_self | apply List.mem_cons_of_mem)) 0 rfl : World.cell? _ _ = some (.bool n0))) ((hK.at_ (g := g3_1) (cs := [.bool n0, .slice A0 xs0.length c0]) (t := 24) (by repeat (first | exact List.mem_cons_self | apply List.mem_cons_of_mem)) 1 rfl : World.cell? _ _ = some (.slice A0 xs0.length c0)))))
    go_meet
    exact ⟨rfl, ⟨hK⟩⟩
  clear hK
  obtain ⟨rfl, hK0⟩ := hcut
  have hK := hK0.out
  clear hK0
  obtain ⟨r2, e_r2⟩ : ∃ z : Int, m = z := ⟨_, rfl⟩
  have E_r2 := Aside0.mk e_r2
  have l_r2 : (mg r2).length ≤ 3 := by rw [← e_r2]; exact mg_i64 (by omega) (by omega)
  clear e_r2
  go_upto_region 3 with (fail)
  go_cut [5] (fun v5 wc => ∃ (g5_4 : Nat) (A_r2_3 : Option Addr) (c_r2_3 : Nat), v5 = .pointer (some ⟨g5_4, 0, none⟩) ∧ Aside0 (KP w wc [(g5_4, [.bool (ng r2), .slice A_r2_3 (mg r2).length c_r2_3], 24), (g3_1, [.bool n0, .slice A0 xs0.length c0], 24)] [(A_r2_3, c_r2_3, (mg r2)), (A0, c0, xs0)]))
  case first =>
    go_wp2_with (first | (go_at_call 21; (with_reducible refine (from_v m r2 _ (by omega) (by omega) E_r2.out).mono ?_); rintro e w_2 ⟨A_r2_3, c_r2_3, rfl, hR, hb⟩; replace hK := (hK.below hb).row hR; clear hb hR))
    go_meet
    all_goals refine ⟨_, A_r2_3, c_r2_3, rfl, ⟨?_⟩⟩
    all_goals first
      | (exact (hK.new [.bool (ng r2), .slice A_r2_3 (mg r2).length c_r2_3] 24 (NoDig.bool _ (NoDig.slice _ _ _ NoDig.nil)) (by first | rfl | simp)))
  clear hK
  obtain ⟨g5_4, A_r2_3, c_r2_3, rfl, hK0⟩ := hcut
  have hK := hK0.out
  clear hK0
  have E_m_5 := Aside0.mk (show tiv r2 = m from by (rw [← E_r2.out]; unfold tiv; rw [if_pos ⟨hm0, hm1⟩]))
  have E_0_6 := Aside0.mk (show tie r2 = 0 from by (rw [← E_r2.out]; unfold tie; rw [if_pos ⟨hm0, hm1⟩]))
  go_upto_region 4 with (fail)
  go_cut [6, 7] (fun v6 v7 wc => v6 = .int .i64 m ∧ v7 = .int .i64 0 ∧ Aside0 (KP w wc [(g5_4, [.bool (ng r2), .slice A_r2_3 (mg r2).length c_r2_3], 24), (g3_1, [.bool n0, .slice A0 xs0.length c0], 24)] [(A_r2_3, c_r2_3, (mg r2)), (A0, c0, xs0)]))
  case first =>
    have hc := And.intro ((hK.at_ (g := g5_4) (cs := [.bool (ng r2), .slice A_r2_3 (mg r2).length c_r2_3]) (t := 24) (by repeat (first | exact List.mem_cons_self | apply List.mem_cons_of_mem)) 0 rfl : World.cell? _ _ = some (.bool (ng r2)))) ((hK.at_ (g := g5_4) (cs := [.bool (ng r2), .slice A_r2_3 (mg r2).length c_r2_3]) (t := 24) (by repeat (first | exact List.mem_cons_self | apply List.mem_cons_of_mem)) 1 rfl : World.cell? _ _ = some (.slice A_r2_3 (mg r2).length c_r2_3)))
    go_wp2_with (first | (go_at_call 22; (with_reducible refine (ToInt64_v (ng r2) A_r2_3 c_r2_3 (mg r2) _ (hK.rd _ _ _ (by repeat (first | exact List.mem_cons_self | apply List.mem_cons_of_mem))) (by omega) r2 m 0 (iv_canon _) E_m_5.out E_0_6.out).mono ?_); rintro e w_3 ⟨rfl, hb⟩; replace hK := hK.below hb; clear hb; clear hc; have hc := And.intro ((hK.at_ (g := g5_4) (cs := [.bool (ng r2), .slice A_r2_3 (mg r2).length c_r2_3]) (t := 24) (by repeat (first | exact List.mem_cons_self | apply List.mem_cons_of_mem)) 0 rfl : World.cell? _ _ = some (.bool (ng r2)))) ((hK.at_ (g := g5_4) (cs := [.bool (ng r2), .slice A_r2_3 (mg r2).length c_r2_3]) (t := 24) (by repeat (first | exact List.mem_cons_self | apply List.mem_cons_of_mem)) 1 rfl : World.cell? _ _ = some (.slice A_r2_3 (mg r2).length c_r2_3)))))
    go_meet
    exact ⟨rfl, rfl, ⟨hK⟩⟩
  clear hK
  obtain ⟨rfl, rfl, hK0⟩ := hcut
  have hK := hK0.out
  clear hK0
  obtain ⟨r7, e_r7⟩ : ∃ z : Int, tiv a = z := ⟨_, rfl⟩
  have E_r7 := Aside0.mk e_r7
  clear e_r7
  obtain ⟨r8, e_r8⟩ : ∃ z : Int, tie a = z := ⟨_, rfl⟩
  have E_r8 := Aside0.mk e_r8
  clear e_r8
  go_upto_region 5 with (fail)
  go_cut [8, 9] (fun v8 v9 wc => v8 = .int .i64 r7 ∧ v9 = .int .i64 r8 ∧ Aside0 (KP w wc [(g5_4, [.bool (ng r2), .slice A_r2_3 (mg r2).length c_r2_3], 24), (g3_1, [.bool n0, .slice A0 xs0.length c0], 24)] [(A_r2_3, c_r2_3, (mg r2)), (A0, c0, xs0)]))
  case first =>
    have hc := And.intro ((hK.at_ (g := g3_1) (cs := [.bool n0, .slice A0 xs0.length c0]) (t := 24) (by repeat (first | exact List.mem_cons_self | apply List.mem_cons_of_mem)) 0 rfl : World.cell? _ _ = some (.bool n0))) ((hK.at_ (g := g3_1) (cs := [.bool n0, .slice A0 xs0.length c0]) (t := 24) (by repeat (first | exact List.mem_cons_self | apply List.mem_cons_of_mem)) 1 rfl : World.cell? _ _ = some (.slice A0 xs0.length c0)))
    go_wp2_with (first | (go_at_call 22; (with_reducible refine (ToInt64_v n0 A0 c0 xs0 _ (hK.rd _ _ _ (by repeat (first | exact List.mem_cons_self | apply List.mem_cons_of_mem))) (by omega) a r7 r8 E_a.out E_r7.out E_r8.out).mono ?_); rintro e w_4 ⟨rfl, hb⟩; replace hK := hK.below hb; clear hb; clear hc; have hc := And.intro ((hK.at_ (g := g3_1) (cs := [.bool n0, .slice A0 xs0.length c0]) (t := 24) (by repeat (first | exact List.mem_cons_self | apply List.mem_cons_of_mem)) 0 rfl : World.cell? _ _ = some (.bool n0))) ((hK.at_ (g := g3_1) (cs := [.bool n0, .slice A0 xs0.length c0]) (t := 24) (by repeat (first | exact List.mem_cons_self | apply List.mem_cons_of_mem)) 1 rfl : World.cell? _ _ = some (.slice A0 xs0.length c0)))))
    go_meet
    exact ⟨rfl, rfl, ⟨hK⟩⟩
  clear hK
  obtain ⟨rfl, rfl, hK0⟩ := hcut
  have hK := hK0.out
  clear hK0
  go_upto_region 6 with (fail)
  go_cut [10, 11] (fun v10 v11 wc => v10 = .int .i64 r7 ∧ v11 = .int .i64 r8 ∧ Aside0 (KP w wc [(g5_4, [.bool (ng r2), .slice A_r2_3 (mg r2).length c_r2_3], 24), (g3_1, [.bool n0, .slice A0 xs0.length c0], 24)] [(A_r2_3, c_r2_3, (mg r2)), (A0, c0, xs0)]))
  case first =>
    have hc := And.intro ((hK.at_ (g := g3_1) (cs := [.bool n0, .slice A0 xs0.length c0]) (t := 24) (by repeat (first | exact List.mem_cons_self | apply List.mem_cons_of_mem)) 0 rfl : World.cell? _ _ = some (.bool n0))) ((hK.at_ (g := g3_1) (cs := [.bool n0, .slice A0 xs0.length c0]) (t := 24) (by repeat (first | exact List.mem_cons_self | apply List.mem_cons_of_mem)) 1 rfl : World.cell? _ _ = some (.slice A0 xs0.length c0)))
    go_wp2_with (first | (go_at_call 23; (with_reducible refine (ToInt64_r n0 A0 c0 xs0 _ (hK.rd _ _ _ (by repeat (first | exact List.mem_cons_self | apply List.mem_cons_of_mem))) (by omega) a r7 r8 E_a.out E_r7.out E_r8.out).mono ?_); rintro e w_5 ⟨rfl, hb⟩; replace hK := hK.below hb; clear hb; clear hc; have hc := And.intro ((hK.at_ (g := g3_1) (cs := [.bool n0, .slice A0 xs0.length c0]) (t := 24) (by repeat (first | exact List.mem_cons_self | apply List.mem_cons_of_mem)) 0 rfl : World.cell? _ _ = some (.bool n0))) ((hK.at_ (g := g3_1) (cs := [.bool n0, .slice A0 xs0.length c0]) (t := 24) (by repeat (first | exact List.mem_cons_self | apply List.mem_cons_of_mem)) 1 rfl : World.cell? _ _ = some (.slice A0 xs0.length c0)))))
    go_meet
    exact ⟨rfl, rfl, ⟨hK⟩⟩
  clear hK
  obtain ⟨rfl, rfl, hK0⟩ := hcut
  have hK := hK0.out
  clear hK0
  go_upto_region 7 with (fail)
  go_cut [4] (fun v4 wc => ∃ (A_r2_9 : Option Addr) (c_r2_9 : Nat), v4 = .bool true ∧ Aside0 (KP w wc [(g5_4, [.bool (ng r2), .slice A_r2_3 (mg r2).length c_r2_3], 24), (g3_1, [.bool n0, .slice A0 xs0.length c0], 24)] [(A_r2_9, c_r2_9, (mg r2)), (A_r2_3, c_r2_3, (mg r2)), (A0, c0, xs0)]))
  case first =>
    replace hK := hK.drew
    refine start_ (n := 27) (S := (fun W => W.cell? ⟨g5_4, 0, none⟩ = some (.bool (ng r2)) ∧ W.cell? ⟨g5_4, 1, none⟩ = some (.slice A_r2_3 (mg r2).length c_r2_3))) (ds := []) #[false, false, false, false, false, false, false, false, false, false, false, false, false, false, false, false, false, false, false, false, false, false, false, false, false, false, false] (by kernel_rfl) rfl rfl (And.intro ((hK.at_ (g := g5_4) (cs := [.bool (ng r2), .slice A_r2_3 (mg r2).length c_r2_3]) (t := 24) (by repeat (first | exact List.mem_cons_self | apply List.mem_cons_of_mem)) 0 rfl : World.cell? _ _ = some (.bool (ng r2)))) ((hK.at_ (g := g5_4) (cs := [.bool (ng r2), .slice A_r2_3 (mg r2).length c_r2_3]) (t := 24) (by repeat (first | exact List.mem_cons_self | apply List.mem_cons_of_mem)) 1 rfl : World.cell? _ _ = some (.slice A_r2_3 (mg r2).length c_r2_3)))) (fun hHeld => ?_)
    generalize World.drew _ = wd at hK hHeld ⊢
    refine take_ (i := 0) (N := some 34) (v := ?_) (a' := ?_) #[true, false, false, false, false, false, false, false, false, false, false, false, false, false, false, false, false, false, false, false, false, false, false, false, false, false, false] rfl rfl (by kernel_rfl) (fun _ _ _ h => h) (Or.inl ⟨by rfl, ?_⟩) hHeld ?_ ?_
    rotate_left
    · rintro w' ⟨s0, s1⟩
      go_simp
      with_reducible rfl
    rotate_left
    · simp only [Act.put, List.setIfInBounds_toArray, List.set_cons_zero, List.set_cons_succ, i64_w, i32_w]
      rfl
    refine pure_ (i := 1) (N := some 35) (v := ?_) (a' := ?_) #[true, true, false, false, false, false, false, false, false, false, false, false, false, false, false, false, false, false, false, false, false, false, false, false, false, false, false] rfl rfl (by kernel_rfl) (fun _ _ _ h => h) (Or.inl ⟨by rfl, ?_⟩) ?_ ?_
    rotate_left
    · intro w'
      go_simp
      with_reducible rfl
    rotate_left
    · simp only [Act.put, List.setIfInBounds_toArray, List.set_cons_zero, List.set_cons_succ, i64_w, i32_w]
      rfl
    refine one_ (i := 2) (N := some 36) #[true, true, true, false, false, false, false, false, false, false, false, false, false, false, false, false, false, false, false, false, false, false, false, false, false, false, false] rfl rfl (by kernel_rfl) (by decide) (fun KK hKK => ?_)
    refine goes_ Tryd.func24 (by kernel_rfl) rfl #[.int .i64 m] (by rfl) rfl rfl (by (try simp only [List.map_toArray, List.map_cons, List.map_nil]); first | done | rfl) ?_
    refine (from_ref m r2 _ (by omega) (by omega) E_r2.out).mono ?_
    rintro e w_6 ⟨A_r2_9, c_r2_9, rfl, hR, hb⟩
    refine ⟨_, rfl, ?_⟩
    replace hK := (hK.below hb).row hR
    clear hb hR
    refine hKK.out _ _ (And.intro ((hK.at_ (g := g5_4) (cs := [.bool (ng r2), .slice A_r2_3 (mg r2).length c_r2_3]) (t := 24) (by repeat (first | exact List.mem_cons_self | apply List.mem_cons_of_mem)) 0 rfl : World.cell? _ _ = some (.bool (ng r2)))) ((hK.at_ (g := g5_4) (cs := [.bool (ng r2), .slice A_r2_3 (mg r2).length c_r2_3]) (t := 24) (by repeat (first | exact List.mem_cons_self | apply List.mem_cons_of_mem)) 1 rfl : World.cell? _ _ = some (.slice A_r2_3 (mg r2).length c_r2_3)))) (fun hHeld => ?_)
    refine norm_ (a' := ?_) ?_ ?_
    rotate_left
    · show Act.put _ (some 36) _ = _
      simp only [Act.put, List.setIfInBounds_toArray, List.set_cons_zero, List.set_cons_succ, i64_w, i32_w]
      rfl
    refine one_ (i := 3) (N := some 37) #[true, true, true, true, false, false, false, false, false, false, false, false, false, false, false, false, false, false, false, false, false, false, false, false, false, false, false] rfl rfl (by kernel_rfl) (by decide) (fun KK hKK => ?_)
    refine goes_ Tryd.func16 (by kernel_rfl) rfl #[.agg #[.bool (ng r2), .slice A_r2_3 (mg r2).length c_r2_3], .agg #[.bool (ng r2), .slice A_r2_9 (mg r2).length c_r2_9]] (by rfl) rfl rfl (by (try simp only [List.map_toArray, List.map_cons, List.map_nil]); first | done | rfl) ?_
    refine (same_v A_r2_3 A_r2_9 c_r2_3 c_r2_9 _ r2 r2 (hK.rd _ _ _ (by repeat (first | exact List.mem_cons_self | apply List.mem_cons_of_mem))) (hK.rd _ _ _ (by repeat (first | exact List.mem_cons_self | apply List.mem_cons_of_mem))) (by omega) (by omega) rfl).mono ?_
    rintro e w_7 ⟨rfl, hb⟩
    refine ⟨_, rfl, ?_⟩
    replace hK := hK.below hb
    clear hb
    refine hKK.out _ _ (And.intro ((hK.at_ (g := g5_4) (cs := [.bool (ng r2), .slice A_r2_3 (mg r2).length c_r2_3]) (t := 24) (by repeat (first | exact List.mem_cons_self | apply List.mem_cons_of_mem)) 0 rfl : World.cell? _ _ = some (.bool (ng r2)))) ((hK.at_ (g := g5_4) (cs := [.bool (ng r2), .slice A_r2_3 (mg r2).length c_r2_3]) (t := 24) (by repeat (first | exact List.mem_cons_self | apply List.mem_cons_of_mem)) 1 rfl : World.cell? _ _ = some (.slice A_r2_3 (mg r2).length c_r2_3)))) (fun hHeld => ?_)
    refine norm_ (a' := ?_) ?_ ?_
    rotate_left
    · show Act.put _ (some 37) _ = _
      simp only [Act.put, List.setIfInBounds_toArray, List.set_cons_zero, List.set_cons_succ, i64_w, i32_w]
      rfl
    refine pure_ (i := 4) (N := some 38) (v := ?_) (a' := ?_) #[true, true, true, true, true, false, false, false, false, false, false, false, false, false, false, false, false, false, false, false, false, false, false, false, false, false, false] rfl rfl (by kernel_rfl) (fun _ _ _ h => h) (Or.inl ⟨by rfl, ?_⟩) ?_ ?_
    rotate_left
    · intro w'
      go_simp
      with_reducible rfl
    rotate_left
    · simp only [Act.put, List.setIfInBounds_toArray, List.set_cons_zero, List.set_cons_succ, i64_w, i32_w]
      rfl
    refine pure_ (i := 5) (N := some 39) (v := ?_) (a' := ?_) #[true, true, true, true, true, true, false, false, false, false, false, false, false, false, false, false, false, false, false, false, false, false, false, false, false, false, false] rfl rfl (by kernel_rfl) (fun _ _ _ h => h) (Or.inl ⟨by rfl, ?_⟩) ?_ ?_
    rotate_left
    · intro w'
      go_simp
      with_reducible rfl
    rotate_left
    · simp only [Act.put, List.setIfInBounds_toArray, List.set_cons_zero, List.set_cons_succ, i64_w, i32_w]
      rfl
    refine pure_ (i := 6) (N := some 40) (v := ?_) (a' := ?_) #[true, true, true, true, true, true, true, false, false, false, false, false, false, false, false, false, false, false, false, false, false, false, false, false, false, false, false] rfl rfl (by kernel_rfl) (fun _ _ _ h => h) (Or.inl ⟨by rfl, ?_⟩) ?_ ?_
    rotate_left
    · intro w'
      go_simp
      with_reducible rfl
    rotate_left
    · simp only [Act.put, List.setIfInBounds_toArray, List.set_cons_zero, List.set_cons_succ, i64_w, i32_w]
      rfl
    refine pure_ (i := 7) (N := some 41) (v := ?_) (a' := ?_) #[true, true, true, true, true, true, true, true, false, false, false, false, false, false, false, false, false, false, false, false, false, false, false, false, false, false, false] rfl rfl (by kernel_rfl) (fun _ _ _ h => h) (Or.inl ⟨by rfl, ?_⟩) ?_ ?_
    rotate_left
    · intro w'
      go_simp
      with_reducible rfl
    rotate_left
    · simp only [Act.put, List.setIfInBounds_toArray, List.set_cons_zero, List.set_cons_succ, i64_w, i32_w]
      rfl
    refine pure_ (i := 8) (N := some 42) (v := ?_) (a' := ?_) #[true, true, true, true, true, true, true, true, true, false, false, false, false, false, false, false, false, false, false, false, false, false, false, false, false, false, false] rfl rfl (by kernel_rfl) (fun _ _ _ h => h) (Or.inl ⟨by rfl, ?_⟩) ?_ ?_
    rotate_left
    · intro w'
      go_simp
      with_reducible rfl
    rotate_left
    · simp only [Act.put, List.setIfInBounds_toArray, List.set_cons_zero, List.set_cons_succ, i64_w, i32_w]
      rfl
    refine pure_ (i := 9) (N := some 43) (v := ?_) (a' := ?_) #[true, true, true, true, true, true, true, true, true, true, false, false, false, false, false, false, false, false, false, false, false, false, false, false, false, false, false] rfl rfl (by kernel_rfl) (fun _ _ _ h => h) (Or.inl ⟨by rfl, ?_⟩) ?_ ?_
    rotate_left
    · intro w'
      go_simp
      with_reducible rfl
    rotate_left
    · simp only [Act.put, List.setIfInBounds_toArray, List.set_cons_zero, List.set_cons_succ, i64_w, i32_w]
      rfl
    refine pure_ (i := 10) (N := some 44) (v := ?_) (a' := ?_) #[true, true, true, true, true, true, true, true, true, true, true, false, false, false, false, false, false, false, false, false, false, false, false, false, false, false, false] rfl rfl (by kernel_rfl) (fun _ _ _ h => h) (Or.inl ⟨by rfl, ?_⟩) ?_ ?_
    rotate_left
    · intro w'
      go_simp
      with_reducible rfl
    rotate_left
    · simp only [Act.put, List.setIfInBounds_toArray, List.set_cons_zero, List.set_cons_succ, i64_w, i32_w]
      rfl
    refine pure_ (i := 11) (N := some 45) (v := ?_) (a' := ?_) #[true, true, true, true, true, true, true, true, true, true, true, true, false, false, false, false, false, false, false, false, false, false, false, false, false, false, false] rfl rfl (by kernel_rfl) (fun _ _ _ h => h) (Or.inl ⟨by rfl, ?_⟩) ?_ ?_
    rotate_left
    · intro w'
      go_simp
      with_reducible rfl
    rotate_left
    · simp only [Act.put, List.setIfInBounds_toArray, List.set_cons_zero, List.set_cons_succ, i64_w, i32_w]
      rfl
    refine pure_ (i := 12) (N := some 46) (v := ?_) (a' := ?_) #[true, true, true, true, true, true, true, true, true, true, true, true, true, false, false, false, false, false, false, false, false, false, false, false, false, false, false] rfl rfl (by kernel_rfl) (fun _ _ _ h => h) (Or.inl ⟨by rfl, ?_⟩) ?_ ?_
    rotate_left
    · intro w'
      go_simp
      with_reducible rfl
    rotate_left
    · simp only [Act.put, List.setIfInBounds_toArray, List.set_cons_zero, List.set_cons_succ, i64_w, i32_w]
      rfl
    refine pure_ (i := 13) (N := some 47) (v := ?_) (a' := ?_) #[true, true, true, true, true, true, true, true, true, true, true, true, true, true, false, false, false, false, false, false, false, false, false, false, false, false, false] rfl rfl (by kernel_rfl) (fun _ _ _ h => h) (Or.inl ⟨by rfl, ?_⟩) ?_ ?_
    rotate_left
    · intro w'
      go_simp
      with_reducible rfl
    rotate_left
    · simp only [Act.put, List.setIfInBounds_toArray, List.set_cons_zero, List.set_cons_succ, i64_w, i32_w]
      rfl
    refine pure_ (i := 14) (N := some 48) (v := ?_) (a' := ?_) #[true, true, true, true, true, true, true, true, true, true, true, true, true, true, true, false, false, false, false, false, false, false, false, false, false, false, false] rfl rfl (by kernel_rfl) (fun _ _ _ h => h) (Or.inl ⟨by rfl, ?_⟩) ?_ ?_
    rotate_left
    · intro w'
      go_simp
      with_reducible rfl
    rotate_left
    · simp only [Act.put, List.setIfInBounds_toArray, List.set_cons_zero, List.set_cons_succ, i64_w, i32_w]
      rfl
    refine pure_ (i := 15) (N := some 49) (v := ?_) (a' := ?_) #[true, true, true, true, true, true, true, true, true, true, true, true, true, true, true, true, false, false, false, false, false, false, false, false, false, false, false] rfl rfl (by kernel_rfl) (fun _ _ _ h => h) (Or.inl ⟨by rfl, ?_⟩) ?_ ?_
    rotate_left
    · intro w'
      go_simp
      with_reducible rfl
    rotate_left
    · simp only [Act.put, List.setIfInBounds_toArray, List.set_cons_zero, List.set_cons_succ, i64_w, i32_w]
      rfl
    refine pure_ (i := 16) (N := some 50) (v := ?_) (a' := ?_) #[true, true, true, true, true, true, true, true, true, true, true, true, true, true, true, true, true, false, false, false, false, false, false, false, false, false, false] rfl rfl (by kernel_rfl) (fun _ _ _ h => h) (Or.inl ⟨by rfl, ?_⟩) ?_ ?_
    rotate_left
    · intro w'
      go_simp
      with_reducible rfl
    rotate_left
    · simp only [Act.put, List.setIfInBounds_toArray, List.set_cons_zero, List.set_cons_succ, i64_w, i32_w]
      rfl
    refine pure_ (i := 17) (N := some 51) (v := ?_) (a' := ?_) #[true, true, true, true, true, true, true, true, true, true, true, true, true, true, true, true, true, true, false, false, false, false, false, false, false, false, false] rfl rfl (by kernel_rfl) (fun _ _ _ h => h) (Or.inl ⟨by rfl, ?_⟩) ?_ ?_
    rotate_left
    · intro w'
      go_simp
      with_reducible rfl
    rotate_left
    · simp only [Act.put, List.setIfInBounds_toArray, List.set_cons_zero, List.set_cons_succ, i64_w, i32_w]
      rfl
    refine pure_ (i := 18) (N := some 52) (v := ?_) (a' := ?_) #[true, true, true, true, true, true, true, true, true, true, true, true, true, true, true, true, true, true, true, false, false, false, false, false, false, false, false] rfl rfl (by kernel_rfl) (fun _ _ _ h => h) (Or.inl ⟨by rfl, ?_⟩) ?_ ?_
    rotate_left
    · intro w'
      go_simp
      with_reducible rfl
    rotate_left
    · simp only [Act.put, List.setIfInBounds_toArray, List.set_cons_zero, List.set_cons_succ, i64_w, i32_w]
      rfl
    refine pure_ (i := 19) (N := some 53) (v := ?_) (a' := ?_) #[true, true, true, true, true, true, true, true, true, true, true, true, true, true, true, true, true, true, true, true, false, false, false, false, false, false, false] rfl rfl (by kernel_rfl) (fun _ _ _ h => h) (Or.inl ⟨by rfl, ?_⟩) ?_ ?_
    rotate_left
    · intro w'
      go_simp
      with_reducible rfl
    rotate_left
    · simp only [Act.put, List.setIfInBounds_toArray, List.set_cons_zero, List.set_cons_succ, i64_w, i32_w]
      rfl
    refine pure_ (i := 20) (N := some 54) (v := ?_) (a' := ?_) #[true, true, true, true, true, true, true, true, true, true, true, true, true, true, true, true, true, true, true, true, true, false, false, false, false, false, false] rfl rfl (by kernel_rfl) (fun _ _ _ h => h) (Or.inl ⟨by rfl, ?_⟩) ?_ ?_
    rotate_left
    · intro w'
      go_simp
      with_reducible rfl
    rotate_left
    · simp only [Act.put, List.setIfInBounds_toArray, List.set_cons_zero, List.set_cons_succ, i64_w, i32_w]
      rfl
    refine pure_ (i := 21) (N := some 55) (v := ?_) (a' := ?_) #[true, true, true, true, true, true, true, true, true, true, true, true, true, true, true, true, true, true, true, true, true, true, false, false, false, false, false] rfl rfl (by kernel_rfl) (fun _ _ _ h => h) (Or.inl ⟨by rfl, ?_⟩) ?_ ?_
    rotate_left
    · intro w'
      go_simp
      with_reducible rfl
    rotate_left
    · simp only [Act.put, List.setIfInBounds_toArray, List.set_cons_zero, List.set_cons_succ, i64_w, i32_w]
      rfl
    refine pure_ (i := 22) (N := some 56) (v := ?_) (a' := ?_) #[true, true, true, true, true, true, true, true, true, true, true, true, true, true, true, true, true, true, true, true, true, true, true, false, false, false, false] rfl rfl (by kernel_rfl) (fun _ _ _ h => h) (Or.inl ⟨by rfl, ?_⟩) ?_ ?_
    rotate_left
    · intro w'
      go_simp
      with_reducible rfl
    rotate_left
    · simp only [Act.put, List.setIfInBounds_toArray, List.set_cons_zero, List.set_cons_succ, i64_w, i32_w]
      rfl
    refine pure_ (i := 23) (N := some 57) (v := ?_) (a' := ?_) #[true, true, true, true, true, true, true, true, true, true, true, true, true, true, true, true, true, true, true, true, true, true, true, true, false, false, false] rfl rfl (by kernel_rfl) (fun _ _ _ h => h) (Or.inl ⟨by rfl, ?_⟩) ?_ ?_
    rotate_left
    · intro w'
      go_simp
      with_reducible rfl
    rotate_left
    · simp only [Act.put, List.setIfInBounds_toArray, List.set_cons_zero, List.set_cons_succ, i64_w, i32_w]
      rfl
    refine one_ (i := 24) (N := some 58) #[true, true, true, true, true, true, true, true, true, true, true, true, true, true, true, true, true, true, true, true, true, true, true, true, true, false, false] rfl rfl (by kernel_rfl) (by decide) (fun KK hKK => ?_)
    refine goes_ Tryd.func13 (by kernel_rfl) rfl #[] (by rfl) rfl rfl (by (try simp only [List.map_toArray, List.map_cons, List.map_nil]); first | done | rfl) ?_
    refine (awake_any _ (HT.out.below hK.be)).mono ?_
    rintro e w_8 ⟨rfl, hb⟩
    refine ⟨_, rfl, ?_⟩
    replace hK := hK.below hb
    clear hb
    refine hKK.out _ _ (And.intro ((hK.at_ (g := g5_4) (cs := [.bool (ng r2), .slice A_r2_3 (mg r2).length c_r2_3]) (t := 24) (by repeat (first | exact List.mem_cons_self | apply List.mem_cons_of_mem)) 0 rfl : World.cell? _ _ = some (.bool (ng r2)))) ((hK.at_ (g := g5_4) (cs := [.bool (ng r2), .slice A_r2_3 (mg r2).length c_r2_3]) (t := 24) (by repeat (first | exact List.mem_cons_self | apply List.mem_cons_of_mem)) 1 rfl : World.cell? _ _ = some (.slice A_r2_3 (mg r2).length c_r2_3)))) (fun hHeld => ?_)
    refine norm_ (a' := ?_) ?_ ?_
    rotate_left
    · show Act.put _ (some 58) _ = _
      simp only [Act.put, List.setIfInBounds_toArray, List.set_cons_zero, List.set_cons_succ, i64_w, i32_w]
      rfl
    refine pure_ (i := 25) (N := some 59) (v := ?_) (a' := ?_) #[true, true, true, true, true, true, true, true, true, true, true, true, true, true, true, true, true, true, true, true, true, true, true, true, true, true, false] rfl rfl (by kernel_rfl) (fun _ _ _ h => h) (Or.inl ⟨by rfl, ?_⟩) ?_ ?_
    rotate_left
    · intro w'
      go_simp
      with_reducible rfl
    rotate_left
    · simp only [Act.put, List.setIfInBounds_toArray, List.set_cons_zero, List.set_cons_succ, i64_w, i32_w]
      rfl
    refine pure_ (i := 26) (N := some 4) (v := ?_) (a' := ?_) #[true, true, true, true, true, true, true, true, true, true, true, true, true, true, true, true, true, true, true, true, true, true, true, true, true, true, true] rfl rfl (by kernel_rfl) (fun _ _ _ h => h) (Or.inl ⟨by rfl, ?_⟩) ?_ ?_
    rotate_left
    · intro w'
      go_simp
      with_reducible rfl
    rotate_left
    · simp only [Act.put, List.setIfInBounds_toArray, List.set_cons_zero, List.set_cons_succ, i64_w, i32_w]
      rfl
    refine done_ (by kernel_rfl) ?_
    go_wp2
    go_meet
    exact ⟨A_r2_9, c_r2_9, rfl, ⟨hK⟩⟩
  clear hK
  obtain ⟨A_r2_9, c_r2_9, rfl, hK0⟩ := hcut
  have hK := hK0.out
  clear hK0
  go_wp2
  go_ret
  exact ⟨rfl, hK.be⟩
theorem int64_any (n0 : Bool) (A0 : Option Addr) (c0 : Nat) (xs0 : List Int) (m : Int) (w : World) (h0 : Rd w A0 c0 xs0) (hl0 : xs0.length ≤ 35184372088832) (wo : (Lit.int .i64 m).wf = true) (hT : Tab_p10 w) :
    Calls Tryd.prog 5 #[.int .i64 m, .agg #[.bool n0, .slice A0 xs0.length c0]] w fun e w' => e = .returned (.bool true) ∧ Below w.heap.size w w' := by
  have ho_m : -9223372036854775808 ≤ m ∧ m ≤ 9223372036854775807 := by have h := (Lit.wf_int_iff .i64 m).1 wo; simpa [IntKind.min, IntKind.max, IntKind.bits, IntKind.signed] using h
  by_cases h : [xs0.length].sum ≤ 60
  · exact int64_yes n0 A0 c0 xs0 m w h0 hl0 ho_m hT h
  · exact int64_no n0 A0 c0 xs0 m w h0 hl0 ho_m hT h
end Go.Proofs.YtegnnghoiffmhaaDoor.Big
