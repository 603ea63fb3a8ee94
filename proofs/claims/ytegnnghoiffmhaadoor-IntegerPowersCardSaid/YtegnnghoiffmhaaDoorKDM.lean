/- The reference's DivMod. -/
import Derived.Test.YtegnnghoiffmhaaDoorGKeep
import Derived.Test.YtegnnghoiffmhaaDoorKDiv
import Derived.Test.YtegnnghoiffmhaaDoorMC
import Derived.Deep.DeepCutAuto
import Derived.Deep.RegionHeld3
namespace Go.Proofs.YtegnnghoiffmhaaDoor.Big
open Go.RowKit Go.Proofs.YtegnnghoiffmhaaDoorW.PrintWords Go.Proofs.YtegnnghoiffmhaaDoorW.PrintLast
set_option linter.unusedVariables false
set_option linter.unusedSimpArgs false
attribute [local go_sem ↓] Go.wp_at_zero Go.wp_at_succ

theorem from_ref (n z : Int) (w : World) (h0 : -9223372036854775808 ≤ n) (h1 : n ≤ 9223372036854775807) (hz : n = z) :
    Calls Tryd.prog 24 #[.int .i64 n] w fun e w' => Res e w w' z := by subst hz; exact FromInt64_ref n w h0 h1
theorem from_v (n z : Int) (w : World) (h0 : -9223372036854775808 ≤ n) (h1 : n ≤ 9223372036854775807) (hz : n = z) :
    Calls Tryd.prog 21 #[.int .i64 n] w fun e w' => Res e w w' z := by subst hz; exact FromInt64_any n w h0 h1
theorem dm_ref (x y q0 r0 : Int) (qs rs : List Int) (hy : val (mg y) ≠ 0) (hq : val qs = val (mg x) / val (mg y)) (hr : val rs = val (mg x) % val (mg y)) (e1 : iv (!(ng x == ng y)) qs = q0) (e2 : iv (ng x) rs = r0) :
    ((0 < (mg r0).length → (!(ng x == ng y)) = false) → q0 = x.fdiv y ∧ r0 = x.fmod y) ∧ (0 < (mg r0).length → (!(ng x == ng y)) = true → q0 - 1 = x.fdiv y ∧ r0 + y = x.fmod y) := by
  have hp : 0 < val (mg y) := by have := (val_bounds (mg y) (mg_dig y)).1; omega
  have hz : ¬ 0 < (mg r0).length ↔ r0 = 0 := by rw [← mg_nil, ← List.length_eq_zero_iff]; omega
  have ex := iv_canon x
  have ey := iv_canon y
  by_cases hn : ng x = ng y
  · have h := dm_same (ng x) (mg x) (mg y) qs rs hp hq hr
    rw [hn, ey, ← hn, ex, e2] at h
    have e3 : (!(ng x == ng y)) = false := by simp [hn]
    rw [e3] at e1 ⊢
    rw [e1] at h
    exact ⟨fun _ => h, fun _ h2 => by cases h2⟩
  · have e3 : (!(ng x == ng y)) = true := by simp [hn]
    have e4 : ng y = !(ng x) := by cases h1 : ng x <;> cases h2 : ng y <;> simp_all
    rw [e3] at e1 ⊢
    refine ⟨fun h => ?_, fun h _ => ?_⟩
    · have h0 : iv (ng x) rs = 0 := by rw [e2]; exact hz.1 (fun h2 => by have := h h2; cases this)
      have h := dm_diff0 (ng x) (mg x) (mg y) qs rs hp hq hr h0
      rw [← e4, ey, ex, e1, e2] at h
      exact h
    · have h0 : iv (ng x) rs ≠ 0 := by rw [e2]; intro h2; exact (hz.2 h2) h
      have h := dm_diff1 (ng x) (mg x) (mg y) qs rs hp hq hr h0
      rw [← e4, ey, ex, e1, e2] at h
      exact h
set_option maxHeartbeats 4000000 in
set_option maxRecDepth 100000 in
theorem DivMod_gen (n0 : Bool) (n1 : Bool) (A0 : Option Addr) (A1 : Option Addr) (c0 : Nat) (c1 : Nat) (xs0 : List Int) (xs1 : List Int) (w : World) (h0 : Rd w A0 c0 xs0) (h1 : Rd w A1 c1 xs1) (N : Nat) (hN : N ≤ 100000000000) (hl0 : xs0.length ≤ N) (hl1 : xs1.length ≤ N) (x : Int) (y : Int) (q r : Int) (e0 : iv n0 xs0 = x) (e1 : iv n1 xs1 = y) (hy0 : y ≠ 0) (hq : x.fdiv y = q) (hr : x.fmod y = r) :
    Calls Tryd.prog 15 #[.agg #[.bool n0, .slice A0 xs0.length c0], .agg #[.bool n1, .slice A1 xs1.length c1]] w fun e w' => Res2 e w w' q r 0 := by
  have E_x := Aside0.mk e0
  have l_x : (mg x).length ≤ N := by rw [← e0]; exact mg_iv_le n0 h0.dig hl0
  clear e0
  have E_y := Aside0.mk e1
  have l_y : (mg y).length ≤ N := by rw [← e1]; exact mg_iv_le n1 h1.dig hl1
  clear e1
  have hK := (((KP.start w).row h0).row h1)
  have HQ := Aside0.mk (And.intro hq hr)
  have hbY : (((mg y).length : Int) == 0) = false := by rw [beq_eq_false_iff_ne]; intro h; exact hy0 ((mg_nil y).1 (List.eq_nil_of_length_eq_zero (by omega)))
  have HY := Aside0.mk (show val (mg y) ≠ 0 by rw [mg_val]; omega)
  have N_y := Aside0.mk hy0
  clear hq hr hy0
  go_enter Tryd.func15, Tryd.ntmps15
  go_upto_region 0 with (fail)
  go_cut [2, 3, 4, 5, 6] (fun v2 v3 v4 v5 v6 wc => ∃ (g2_1 : Nat) (g3_2 : Nat) (g4_3 : Nat) (g5_4 : Nat), v2 = .pointer (some ⟨g2_1, 0, none⟩) ∧ v3 = .pointer (some ⟨g3_2, 0, none⟩) ∧ v4 = .pointer (some ⟨g4_3, 0, none⟩) ∧ v5 = .pointer (some ⟨g5_4, 0, none⟩) ∧ v6 = .int .i64 0 ∧ Aside0 (KP w wc [(g5_4, [.bool false, .slice none 0 0], 24), (g4_3, [.bool false, .slice none 0 0], 24), (g3_2, [.bool n1, .slice A1 xs1.length c1], 24), (g2_1, [.bool n0, .slice A0 xs0.length c0], 24)] [(A1, c1, xs1), (A0, c0, xs0)]))
  case first =>
    go_wp2
    go_meet
    all_goals refine ⟨_, _, _, _, rfl, rfl, rfl, rfl, rfl, ⟨?_⟩⟩
    all_goals first
      | (exact ((((hK.new [.bool n0, .slice A0 xs0.length c0] 24 (NoDig.bool _ (NoDig.slice _ _ _ NoDig.nil)) (by first | rfl | simp)).new [.bool n1, .slice A1 xs1.length c1] 24 (NoDig.bool _ (NoDig.slice _ _ _ NoDig.nil)) (by first | rfl | simp)).new [.bool false, .slice none 0 0] 24 (NoDig.bool _ (NoDig.slice _ _ _ NoDig.nil)) (by first | rfl | simp)).new [.bool false, .slice none 0 0] 24 (NoDig.bool _ (NoDig.slice _ _ _ NoDig.nil)) (by first | rfl | simp)))
  clear hK
  obtain ⟨g2_1, g3_2, g4_3, g5_4, rfl, rfl, rfl, rfl, rfl, hK0⟩ := hcut
  have hK := hK0.out
  clear hK0
  go_upto_region 1 with (fail)
  go_cut [] (fun wc => ∃ (A_x_5 : Option Addr) (c_x_5 : Nat) (A_y_6 : Option Addr) (c_y_6 : Nat), Aside0 (KP w wc [(g5_4, [.bool false, .slice none 0 0], 24), (g4_3, [.bool false, .slice none 0 0], 24), (g3_2, [.bool (ng y), .slice A_y_6 (mg y).length c_y_6], 24), (g2_1, [.bool (ng x), .slice A_x_5 (mg x).length c_x_5], 24)] [(A_y_6, c_y_6, (mg y)), (A_x_5, c_x_5, (mg x)), (A1, c1, xs1), (A0, c0, xs0)]))
  case first =>
    replace hK := hK.drew
    refine start_ (n := 6) (S := (fun W => W.cell? ⟨g2_1, 0, none⟩ = some (.bool n0) ∧ W.cell? ⟨g2_1, 1, none⟩ = some (.slice A0 xs0.length c0) ∧ W.cell? ⟨g3_2, 0, none⟩ = some (.bool n1) ∧ W.cell? ⟨g3_2, 1, none⟩ = some (.slice A1 xs1.length c1))) (ds := [4, 5]) #[false, false, false, false, false, false] (by kernel_rfl) rfl rfl (And.intro ((hK.at_ (g := g2_1) (cs := [.bool n0, .slice A0 xs0.length c0]) (t := 24) (by repeat (first | exact List.mem_cons_self | apply List.mem_cons_of_mem)) 0 rfl : World.cell? _ _ = some (.bool n0))) (And.intro ((hK.at_ (g := g2_1) (cs := [.bool n0, .slice A0 xs0.length c0]) (t := 24) (by repeat (first | exact List.mem_cons_self | apply List.mem_cons_of_mem)) 1 rfl : World.cell? _ _ = some (.slice A0 xs0.length c0))) (And.intro ((hK.at_ (g := g3_2) (cs := [.bool n1, .slice A1 xs1.length c1]) (t := 24) (by repeat (first | exact List.mem_cons_self | apply List.mem_cons_of_mem)) 0 rfl : World.cell? _ _ = some (.bool n1))) ((hK.at_ (g := g3_2) (cs := [.bool n1, .slice A1 xs1.length c1]) (t := 24) (by repeat (first | exact List.mem_cons_self | apply List.mem_cons_of_mem)) 1 rfl : World.cell? _ _ = some (.slice A1 xs1.length c1)))))) (fun hHeld => ?_)
    generalize World.drew _ = wd at hK hHeld ⊢
    refine take_ (i := 0) (N := some 11) (v := ?_) (a' := ?_) #[true, false, false, false, false, false] rfl rfl (by kernel_rfl) (fun _ _ _ h => h) (Or.inl ⟨by rfl, ?_⟩) hHeld ?_ ?_
    rotate_left
    · rintro w' ⟨s0, s1, s2, s3⟩
      go_simp
      with_reducible rfl
    rotate_left
    · simp only [Act.put, List.setIfInBounds_toArray, List.set_cons_zero, List.set_cons_succ, i64_w, i32_w]
      rfl
    refine take_ (i := 2) (N := some 13) (v := ?_) (a' := ?_) #[true, false, true, false, false, false] rfl rfl (by kernel_rfl) (fun _ _ _ h => h) (Or.inl ⟨by rfl, ?_⟩) hHeld ?_ ?_
    rotate_left
    · rintro w' ⟨s0, s1, s2, s3⟩
      go_simp
      with_reducible rfl
    rotate_left
    · simp only [Act.put, List.setIfInBounds_toArray, List.set_cons_zero, List.set_cons_succ, i64_w, i32_w]
      rfl
    refine one_ (i := 1) (N := some 12) #[true, true, true, false, false, false] rfl rfl (by kernel_rfl) (by decide) (fun KK hKK => ?_)
    refine goes_ Tryd.func39 (by kernel_rfl) rfl #[.agg #[.bool n0, .slice A0 xs0.length c0]] (by rfl) rfl rfl (by (try simp only [List.map_toArray, List.map_cons, List.map_nil]); first | done | rfl) ?_
    refine (Canon_v n0 A0 c0 xs0 _ (hK.rd _ _ _ (by repeat (first | exact List.mem_cons_self | apply List.mem_cons_of_mem))) (by omega) x E_x.out).mono ?_
    rintro e w_1 ⟨A_x_5, c_x_5, rfl, hR, hb⟩
    refine ⟨_, rfl, ?_⟩
    replace hK := (hK.below hb).row hR
    clear hb hR
    refine hKK.out _ _ (And.intro ((hK.at_ (g := g2_1) (cs := [.bool n0, .slice A0 xs0.length c0]) (t := 24) (by repeat (first | exact List.mem_cons_self | apply List.mem_cons_of_mem)) 0 rfl : World.cell? _ _ = some (.bool n0))) (And.intro ((hK.at_ (g := g2_1) (cs := [.bool n0, .slice A0 xs0.length c0]) (t := 24) (by repeat (first | exact List.mem_cons_self | apply List.mem_cons_of_mem)) 1 rfl : World.cell? _ _ = some (.slice A0 xs0.length c0))) (And.intro ((hK.at_ (g := g3_2) (cs := [.bool n1, .slice A1 xs1.length c1]) (t := 24) (by repeat (first | exact List.mem_cons_self | apply List.mem_cons_of_mem)) 0 rfl : World.cell? _ _ = some (.bool n1))) ((hK.at_ (g := g3_2) (cs := [.bool n1, .slice A1 xs1.length c1]) (t := 24) (by repeat (first | exact List.mem_cons_self | apply List.mem_cons_of_mem)) 1 rfl : World.cell? _ _ = some (.slice A1 xs1.length c1)))))) (fun hHeld => ?_)
    refine norm_ (a' := ?_) ?_ ?_
    rotate_left
    · show Act.put _ (some 12) _ = _
      simp only [Act.put, List.setIfInBounds_toArray, List.set_cons_zero, List.set_cons_succ, i64_w, i32_w]
      rfl
    refine one_ (i := 3) (N := some 14) #[true, true, true, true, false, false] rfl rfl (by kernel_rfl) (by decide) (fun KK hKK => ?_)
    refine goes_ Tryd.func39 (by kernel_rfl) rfl #[.agg #[.bool n1, .slice A1 xs1.length c1]] (by rfl) rfl rfl (by (try simp only [List.map_toArray, List.map_cons, List.map_nil]); first | done | rfl) ?_
    refine (Canon_v n1 A1 c1 xs1 _ (hK.rd _ _ _ (by repeat (first | exact List.mem_cons_self | apply List.mem_cons_of_mem))) (by omega) y E_y.out).mono ?_
    rintro e w_2 ⟨A_y_6, c_y_6, rfl, hR, hb⟩
    refine ⟨_, rfl, ?_⟩
    replace hK := (hK.below hb).row hR
    clear hb hR
    refine hKK.out _ _ (And.intro ((hK.at_ (g := g2_1) (cs := [.bool n0, .slice A0 xs0.length c0]) (t := 24) (by repeat (first | exact List.mem_cons_self | apply List.mem_cons_of_mem)) 0 rfl : World.cell? _ _ = some (.bool n0))) (And.intro ((hK.at_ (g := g2_1) (cs := [.bool n0, .slice A0 xs0.length c0]) (t := 24) (by repeat (first | exact List.mem_cons_self | apply List.mem_cons_of_mem)) 1 rfl : World.cell? _ _ = some (.slice A0 xs0.length c0))) (And.intro ((hK.at_ (g := g3_2) (cs := [.bool n1, .slice A1 xs1.length c1]) (t := 24) (by repeat (first | exact List.mem_cons_self | apply List.mem_cons_of_mem)) 0 rfl : World.cell? _ _ = some (.bool n1))) ((hK.at_ (g := g3_2) (cs := [.bool n1, .slice A1 xs1.length c1]) (t := 24) (by repeat (first | exact List.mem_cons_self | apply List.mem_cons_of_mem)) 1 rfl : World.cell? _ _ = some (.slice A1 xs1.length c1)))))) (fun hHeld => ?_)
    refine norm_ (a' := ?_) ?_ ?_
    rotate_left
    · show Act.put _ (some 14) _ = _
      simp only [Act.put, List.setIfInBounds_toArray, List.set_cons_zero, List.set_cons_succ, i64_w, i32_w]
      rfl
    have hc := And.intro ((hK.at_ (g := g2_1) (cs := [.bool n0, .slice A0 xs0.length c0]) (t := 24) (by repeat (first | exact List.mem_cons_self | apply List.mem_cons_of_mem)) 0 rfl : World.cell? _ _ = some (.bool n0))) (And.intro ((hK.at_ (g := g2_1) (cs := [.bool n0, .slice A0 xs0.length c0]) (t := 24) (by repeat (first | exact List.mem_cons_self | apply List.mem_cons_of_mem)) 1 rfl : World.cell? _ _ = some (.slice A0 xs0.length c0))) (And.intro (hK.free (g := g2_1) (cs := [.bool n0, .slice A0 xs0.length c0]) (t := 24) (by repeat (first | exact List.mem_cons_self | apply List.mem_cons_of_mem)) 0) (hK.free (g := g2_1) (cs := [.bool n0, .slice A0 xs0.length c0]) (t := 24) (by repeat (first | exact List.mem_cons_self | apply List.mem_cons_of_mem)) 1)))
    refine last_ (i := 4) (N := none) #[true, true, true, true, true, false] rfl rfl (by kernel_rfl) (by decide) (fun KK hKK => ?_)
    refine skip_ (w1 := ?_) (by rfl) rfl ?_ ?_
    rotate_left
    · go_simp
      rfl
    clear hc
    replace hK := ((hK.put 3 0 (.bool (ng x)) (by rfl) (by intro x h; cases h) (by rfl)).put 3 1 (.slice A_x_5 (mg x).length c_x_5) (by rfl) (by intro x h; cases h) (by rfl))
    refine hKK.out _ _ ?_
    have hc := And.intro ((hK.at_ (g := g3_2) (cs := [.bool n1, .slice A1 xs1.length c1]) (t := 24) (by repeat (first | exact List.mem_cons_self | apply List.mem_cons_of_mem)) 0 rfl : World.cell? _ _ = some (.bool n1))) (And.intro ((hK.at_ (g := g3_2) (cs := [.bool n1, .slice A1 xs1.length c1]) (t := 24) (by repeat (first | exact List.mem_cons_self | apply List.mem_cons_of_mem)) 1 rfl : World.cell? _ _ = some (.slice A1 xs1.length c1))) (And.intro (hK.free (g := g3_2) (cs := [.bool n1, .slice A1 xs1.length c1]) (t := 24) (by repeat (first | exact List.mem_cons_self | apply List.mem_cons_of_mem)) 0) (hK.free (g := g3_2) (cs := [.bool n1, .slice A1 xs1.length c1]) (t := 24) (by repeat (first | exact List.mem_cons_self | apply List.mem_cons_of_mem)) 1)))
    refine last_ (i := 5) (N := none) #[true, true, true, true, true, true] rfl rfl (by kernel_rfl) (by decide) (fun KK hKK => ?_)
    refine skip_ (w1 := ?_) (by rfl) rfl ?_ ?_
    rotate_left
    · go_simp
      rfl
    clear hc
    replace hK := ((hK.put 2 0 (.bool (ng y)) (by rfl) (by intro x h; cases h) (by rfl)).put 2 1 (.slice A_y_6 (mg y).length c_y_6) (by rfl) (by intro x h; cases h) (by rfl))
    refine hKK.out _ _ ?_
    refine done_ (by kernel_rfl) ?_
    go_wp2
    go_meet
    exact ⟨A_x_5, c_x_5, A_y_6, c_y_6, ⟨hK⟩⟩
  clear hK
  obtain ⟨A_x_5, c_x_5, A_y_6, c_y_6, hK0⟩ := hcut
  have hK := hK0.out
  clear hK0
  go_upto_region 2 with (fail)
  go_cut [18] (fun v18 wc => v18 = .bool false ∧ Aside0 (KP w wc [(g5_4, [.bool false, .slice none 0 0], 24), (g4_3, [.bool false, .slice none 0 0], 24), (g3_2, [.bool (ng y), .slice A_y_6 (mg y).length c_y_6], 24), (g2_1, [.bool (ng x), .slice A_x_5 (mg x).length c_x_5], 24)] [(A_y_6, c_y_6, (mg y)), (A_x_5, c_x_5, (mg x)), (A1, c1, xs1), (A0, c0, xs0)]))
  case first =>
    have hc := And.intro ((hK.at_ (g := g3_2) (cs := [.bool (ng y), .slice A_y_6 (mg y).length c_y_6]) (t := 24) (by repeat (first | exact List.mem_cons_self | apply List.mem_cons_of_mem)) 0 rfl : World.cell? _ _ = some (.bool (ng y)))) ((hK.at_ (g := g3_2) (cs := [.bool (ng y), .slice A_y_6 (mg y).length c_y_6]) (t := 24) (by repeat (first | exact List.mem_cons_self | apply List.mem_cons_of_mem)) 1 rfl : World.cell? _ _ = some (.slice A_y_6 (mg y).length c_y_6)))
    go_wp2
    go_meet
    exact ⟨rfl, ⟨hK⟩⟩
  clear hK
  obtain ⟨rfl, hK0⟩ := hcut
  have hK := hK0.out
  clear hK0
  go_upto_region 4 with (fail)
  go_cut [7, 8] (fun v7 v8 wc => ∃ (A_q : Option Addr) (c_q : Nat) (A_r : Option Addr) (c_r : Nat) (qs : List Int) (rs : List Int), v7 = .slice A_q qs.length c_q ∧ v8 = .slice A_r rs.length c_r ∧ Aside0 (val qs = val (mg x) / val (mg y) ∧ val rs = val (mg x) % val (mg y) ∧ qs.length ≤ (mg x).length ∧ rs.length ≤ (mg y).length) ∧ Aside0 (KP w wc [(g5_4, [.bool false, .slice none 0 0], 24), (g4_3, [.bool false, .slice none 0 0], 24), (g3_2, [.bool (ng y), .slice A_y_6 (mg y).length c_y_6], 24), (g2_1, [.bool (ng x), .slice A_x_5 (mg x).length c_x_5], 24)] [(A_r, c_r, rs), (A_q, c_q, qs), (A_y_6, c_y_6, (mg y)), (A_x_5, c_x_5, (mg x)), (A1, c1, xs1), (A0, c0, xs0)]))
  case first =>
    have hc := And.intro ((hK.at_ (g := g2_1) (cs := [.bool (ng x), .slice A_x_5 (mg x).length c_x_5]) (t := 24) (by repeat (first | exact List.mem_cons_self | apply List.mem_cons_of_mem)) 0 rfl : World.cell? _ _ = some (.bool (ng x)))) (And.intro ((hK.at_ (g := g2_1) (cs := [.bool (ng x), .slice A_x_5 (mg x).length c_x_5]) (t := 24) (by repeat (first | exact List.mem_cons_self | apply List.mem_cons_of_mem)) 1 rfl : World.cell? _ _ = some (.slice A_x_5 (mg x).length c_x_5))) (And.intro ((hK.at_ (g := g3_2) (cs := [.bool (ng y), .slice A_y_6 (mg y).length c_y_6]) (t := 24) (by repeat (first | exact List.mem_cons_self | apply List.mem_cons_of_mem)) 0 rfl : World.cell? _ _ = some (.bool (ng y)))) ((hK.at_ (g := g3_2) (cs := [.bool (ng y), .slice A_y_6 (mg y).length c_y_6]) (t := 24) (by repeat (first | exact List.mem_cons_self | apply List.mem_cons_of_mem)) 1 rfl : World.cell? _ _ = some (.slice A_y_6 (mg y).length c_y_6)))))
    go_wp2_with (first | (go_at_call 52; (with_reducible refine (divDigits_any A_x_5 A_y_6 c_x_5 c_y_6 (mg x) (mg y) _ (hK.rd _ _ _ (by repeat (first | exact List.mem_cons_self | apply List.mem_cons_of_mem))) (hK.rd _ _ _ (by repeat (first | exact List.mem_cons_self | apply List.mem_cons_of_mem))) (by omega) (by omega) HY.out).mono ?_); rintro e w_3 ⟨A_q, c_q, qs, A_r, c_r, rs, rfl, hQ, hR, hq1, hr1, hq2, hr2, ht_, hb⟩; replace hK := ((hK.below hb).row hQ).row hR; have F_d := Aside0.mk (And.intro hq1 (And.intro hr1 (And.intro hq2 hr2))); clear hb hQ hR hq1 hr1 hq2 hr2 ht_; clear hc; have hc := And.intro ((hK.at_ (g := g2_1) (cs := [.bool (ng x), .slice A_x_5 (mg x).length c_x_5]) (t := 24) (by repeat (first | exact List.mem_cons_self | apply List.mem_cons_of_mem)) 0 rfl : World.cell? _ _ = some (.bool (ng x)))) (And.intro ((hK.at_ (g := g2_1) (cs := [.bool (ng x), .slice A_x_5 (mg x).length c_x_5]) (t := 24) (by repeat (first | exact List.mem_cons_self | apply List.mem_cons_of_mem)) 1 rfl : World.cell? _ _ = some (.slice A_x_5 (mg x).length c_x_5))) (And.intro ((hK.at_ (g := g3_2) (cs := [.bool (ng y), .slice A_y_6 (mg y).length c_y_6]) (t := 24) (by repeat (first | exact List.mem_cons_self | apply List.mem_cons_of_mem)) 0 rfl : World.cell? _ _ = some (.bool (ng y)))) ((hK.at_ (g := g3_2) (cs := [.bool (ng y), .slice A_y_6 (mg y).length c_y_6]) (t := 24) (by repeat (first | exact List.mem_cons_self | apply List.mem_cons_of_mem)) 1 rfl : World.cell? _ _ = some (.slice A_y_6 (mg y).length c_y_6)))))))
    go_meet
    exact ⟨A_q, c_q, A_r, c_r, qs, rs, rfl, rfl, F_d, ⟨hK⟩⟩
  clear hK
  obtain ⟨A_q, c_q, A_r, c_r, qs, rs, rfl, rfl, F_d, hK0⟩ := hcut
  have hK := hK0.out
  clear hK0
  have l_qs : qs.length ≤ N := by have := F_d.out; omega
  have l_rs : rs.length ≤ N := by have := F_d.out; omega
  obtain ⟨q0, e_q0⟩ : ∃ z : Int, iv (!((ng x) == (ng y))) qs = z := ⟨_, rfl⟩
  have E_q0 := Aside0.mk e_q0
  have l_q0 : (mg q0).length ≤ N := by rw [← e_q0]; exact mg_iv_le _ (hK.rd _ _ _ (by repeat (first | exact List.mem_cons_self | apply List.mem_cons_of_mem))).dig (by omega)
  clear e_q0
  obtain ⟨r0, e_r0⟩ : ∃ z : Int, iv (ng x) rs = z := ⟨_, rfl⟩
  have E_r0 := Aside0.mk e_r0
  have l_r0 : (mg r0).length ≤ N := by rw [← e_r0]; exact mg_iv_le _ (hK.rd _ _ _ (by repeat (first | exact List.mem_cons_self | apply List.mem_cons_of_mem))).dig (by omega)
  clear e_r0
  go_upto_region 5 with (fail)
  go_cut [9, 10] (fun v9 v10 wc => ∃ (g9_9 : Nat) (g10_10 : Nat) (A_q0_7 : Option Addr) (c_q0_7 : Nat) (A_r0_8 : Option Addr) (c_r0_8 : Nat), v9 = .pointer (some ⟨g9_9, 0, none⟩) ∧ v10 = .pointer (some ⟨g10_10, 0, none⟩) ∧ Aside0 (KP w wc [(g10_10, [.bool (ng r0), .slice A_r0_8 (mg r0).length c_r0_8], 24), (g9_9, [.bool (ng q0), .slice A_q0_7 (mg q0).length c_q0_7], 24), (g5_4, [.bool false, .slice none 0 0], 24), (g4_3, [.bool false, .slice none 0 0], 24), (g3_2, [.bool (ng y), .slice A_y_6 (mg y).length c_y_6], 24), (g2_1, [.bool (ng x), .slice A_x_5 (mg x).length c_x_5], 24)] [(A_r0_8, c_r0_8, (mg r0)), (A_q0_7, c_q0_7, (mg q0)), (A_r, c_r, rs), (A_q, c_q, qs), (A_y_6, c_y_6, (mg y)), (A_x_5, c_x_5, (mg x)), (A1, c1, xs1), (A0, c0, xs0)]))
  case first =>
    have s0 := (hK.at_ (g := g2_1) (cs := [.bool (ng x), .slice A_x_5 (mg x).length c_x_5]) (t := 24) (by repeat (first | exact List.mem_cons_self | apply List.mem_cons_of_mem)) 0 rfl : World.cell? _ _ = some (.bool (ng x)))
    have s1 := (hK.at_ (g := g3_2) (cs := [.bool (ng y), .slice A_y_6 (mg y).length c_y_6]) (t := 24) (by repeat (first | exact List.mem_cons_self | apply List.mem_cons_of_mem)) 0 rfl : World.cell? _ _ = some (.bool (ng y)))
    have t0 := hK.lt (g := g2_1) (cs := [.bool (ng x), .slice A_x_5 (mg x).length c_x_5]) (t := 24) (by repeat (first | exact List.mem_cons_self | apply List.mem_cons_of_mem))
    have t1 := hK.lt (g := g3_2) (cs := [.bool (ng y), .slice A_y_6 (mg y).length c_y_6]) (t := 24) (by repeat (first | exact List.mem_cons_self | apply List.mem_cons_of_mem))
    go_region_held3 (fun w' => w'.cell? ⟨g2_1, 0, none⟩ = some (.bool (ng x)) ∧ w'.cell? ⟨g3_2, 0, none⟩ = some (.bool (ng y)))
      (exact ⟨(by (repeat (first | with_reducible assumption | with_reducible refine kp_alloc_cell ?_ | with_reducible refine kp_drew_cell ?_ | with_reducible refine far_cell (by dsimp only; omega) ?_))), (by (repeat (first | with_reducible assumption | with_reducible refine kp_alloc_cell ?_ | with_reducible refine kp_drew_cell ?_ | with_reducible refine far_cell (by dsimp only; omega) ?_)))⟩)
      (first
        | (go_simp; go_at_call 53; (with_reducible refine Calls.mono (Make_v (!((ng x) == (ng y))) A_q c_q qs _ (hK.drew.rd _ _ _ (by repeat (first | exact List.mem_cons_self | apply List.mem_cons_of_mem))) (by omega) q0 E_q0.out) ?_); rintro e w_4 ⟨A_q0_7, c_q0_7, rfl, hR, hb⟩; replace hK := (hK.drew.below hb).row hR; clear hb hR; (try clear hroom); (try have hroom := (And.intro hK.room2 (fun (o : Obj) => (hK.alloc o).room2))); clear s0; clear s1; have s0 := (hK.at_ (g := g2_1) (cs := [.bool (ng x), .slice A_x_5 (mg x).length c_x_5]) (t := 24) (by repeat (first | exact List.mem_cons_self | apply List.mem_cons_of_mem)) 0 rfl : World.cell? _ _ = some (.bool (ng x))); have s1 := (hK.at_ (g := g3_2) (cs := [.bool (ng y), .slice A_y_6 (mg y).length c_y_6]) (t := 24) (by repeat (first | exact List.mem_cons_self | apply List.mem_cons_of_mem)) 0 rfl : World.cell? _ _ = some (.bool (ng y))); have t0 := hK.lt (g := g2_1) (cs := [.bool (ng x), .slice A_x_5 (mg x).length c_x_5]) (t := 24) (by repeat (first | exact List.mem_cons_self | apply List.mem_cons_of_mem)); have t1 := hK.lt (g := g3_2) (cs := [.bool (ng y), .slice A_y_6 (mg y).length c_y_6]) (t := 24) (by repeat (first | exact List.mem_cons_self | apply List.mem_cons_of_mem)))
        | (go_simp; go_at_call 53; (with_reducible refine Calls.mono (Make_v (!((ng x) == (ng y))) A_q c_q qs _ ((hK.new (g := wc.heap.size) [.bool false, .slice none 0 0] 24 (NoDig.bool _ (NoDig.slice _ _ _ NoDig.nil)) (by first | rfl | simp)).drew.rd _ _ _ (by repeat (first | exact List.mem_cons_self | apply List.mem_cons_of_mem))) (by omega) q0 E_q0.out) ?_); rintro e w_4 ⟨A_q0_7, c_q0_7, rfl, hR, hb⟩; replace hK := ((hK.new (g := wc.heap.size) [.bool false, .slice none 0 0] 24 (NoDig.bool _ (NoDig.slice _ _ _ NoDig.nil)) (by first | rfl | simp)).drew.below hb).row hR; clear hb hR; (try clear hroom); (try have hroom := (And.intro hK.room2 (fun (o : Obj) => (hK.alloc o).room2))); clear s0; clear s1; have s0 := (hK.at_ (g := g2_1) (cs := [.bool (ng x), .slice A_x_5 (mg x).length c_x_5]) (t := 24) (by repeat (first | exact List.mem_cons_self | apply List.mem_cons_of_mem)) 0 rfl : World.cell? _ _ = some (.bool (ng x))); have s1 := (hK.at_ (g := g3_2) (cs := [.bool (ng y), .slice A_y_6 (mg y).length c_y_6]) (t := 24) (by repeat (first | exact List.mem_cons_self | apply List.mem_cons_of_mem)) 0 rfl : World.cell? _ _ = some (.bool (ng y))); have t0 := hK.lt (g := g2_1) (cs := [.bool (ng x), .slice A_x_5 (mg x).length c_x_5]) (t := 24) (by repeat (first | exact List.mem_cons_self | apply List.mem_cons_of_mem)); have t1 := hK.lt (g := g3_2) (cs := [.bool (ng y), .slice A_y_6 (mg y).length c_y_6]) (t := 24) (by repeat (first | exact List.mem_cons_self | apply List.mem_cons_of_mem)))
        | (go_simp; go_at_call 53; (with_reducible refine Calls.mono (Make_v (!((ng x) == (ng y))) A_q c_q qs _ (((hK.new (g := wc.heap.size) [.bool false, .slice none 0 0] 24 (NoDig.bool _ (NoDig.slice _ _ _ NoDig.nil)) (by first | rfl | simp)).new (g := wc.heap.size + 1) [.bool false, .slice none 0 0] 24 (NoDig.bool _ (NoDig.slice _ _ _ NoDig.nil)) (by first | rfl | simp)).drew.rd _ _ _ (by repeat (first | exact List.mem_cons_self | apply List.mem_cons_of_mem))) (by omega) q0 E_q0.out) ?_); rintro e w_4 ⟨A_q0_7, c_q0_7, rfl, hR, hb⟩; replace hK := (((hK.new (g := wc.heap.size) [.bool false, .slice none 0 0] 24 (NoDig.bool _ (NoDig.slice _ _ _ NoDig.nil)) (by first | rfl | simp)).new (g := wc.heap.size + 1) [.bool false, .slice none 0 0] 24 (NoDig.bool _ (NoDig.slice _ _ _ NoDig.nil)) (by first | rfl | simp)).drew.below hb).row hR; clear hb hR; (try clear hroom); (try have hroom := (And.intro hK.room2 (fun (o : Obj) => (hK.alloc o).room2))); clear s0; clear s1; have s0 := (hK.at_ (g := g2_1) (cs := [.bool (ng x), .slice A_x_5 (mg x).length c_x_5]) (t := 24) (by repeat (first | exact List.mem_cons_self | apply List.mem_cons_of_mem)) 0 rfl : World.cell? _ _ = some (.bool (ng x))); have s1 := (hK.at_ (g := g3_2) (cs := [.bool (ng y), .slice A_y_6 (mg y).length c_y_6]) (t := 24) (by repeat (first | exact List.mem_cons_self | apply List.mem_cons_of_mem)) 0 rfl : World.cell? _ _ = some (.bool (ng y))); have t0 := hK.lt (g := g2_1) (cs := [.bool (ng x), .slice A_x_5 (mg x).length c_x_5]) (t := 24) (by repeat (first | exact List.mem_cons_self | apply List.mem_cons_of_mem)); have t1 := hK.lt (g := g3_2) (cs := [.bool (ng y), .slice A_y_6 (mg y).length c_y_6]) (t := 24) (by repeat (first | exact List.mem_cons_self | apply List.mem_cons_of_mem)))
        | (go_simp; go_at_call 53; (with_reducible refine Calls.mono (Make_v (ng x) A_r c_r rs _ (hK.rd _ _ _ (by repeat (first | exact List.mem_cons_self | apply List.mem_cons_of_mem))) (by omega) r0 E_r0.out) ?_); rintro e w_5 ⟨A_r0_8, c_r0_8, rfl, hR, hb⟩; replace hK := (hK.below hb).row hR; clear hb hR; (try clear hroom); (try have hroom := (And.intro hK.room2 (fun (o : Obj) => (hK.alloc o).room2))); clear s0; clear s1; have s0 := (hK.at_ (g := g2_1) (cs := [.bool (ng x), .slice A_x_5 (mg x).length c_x_5]) (t := 24) (by repeat (first | exact List.mem_cons_self | apply List.mem_cons_of_mem)) 0 rfl : World.cell? _ _ = some (.bool (ng x))); have s1 := (hK.at_ (g := g3_2) (cs := [.bool (ng y), .slice A_y_6 (mg y).length c_y_6]) (t := 24) (by repeat (first | exact List.mem_cons_self | apply List.mem_cons_of_mem)) 0 rfl : World.cell? _ _ = some (.bool (ng y))); have t0 := hK.lt (g := g2_1) (cs := [.bool (ng x), .slice A_x_5 (mg x).length c_x_5]) (t := 24) (by repeat (first | exact List.mem_cons_self | apply List.mem_cons_of_mem)); have t1 := hK.lt (g := g3_2) (cs := [.bool (ng y), .slice A_y_6 (mg y).length c_y_6]) (t := 24) (by repeat (first | exact List.mem_cons_self | apply List.mem_cons_of_mem)))
        | (go_simp; go_at_call 53; (with_reducible refine Calls.mono (Make_v (ng x) A_r c_r rs _ ((hK.new (g := w_4.heap.size) [.bool false, .slice none 0 0] 24 (NoDig.bool _ (NoDig.slice _ _ _ NoDig.nil)) (by first | rfl | simp)).rd _ _ _ (by repeat (first | exact List.mem_cons_self | apply List.mem_cons_of_mem))) (by omega) r0 E_r0.out) ?_); rintro e w_5 ⟨A_r0_8, c_r0_8, rfl, hR, hb⟩; replace hK := ((hK.new (g := w_4.heap.size) [.bool false, .slice none 0 0] 24 (NoDig.bool _ (NoDig.slice _ _ _ NoDig.nil)) (by first | rfl | simp)).below hb).row hR; clear hb hR; (try clear hroom); (try have hroom := (And.intro hK.room2 (fun (o : Obj) => (hK.alloc o).room2))); clear s0; clear s1; have s0 := (hK.at_ (g := g2_1) (cs := [.bool (ng x), .slice A_x_5 (mg x).length c_x_5]) (t := 24) (by repeat (first | exact List.mem_cons_self | apply List.mem_cons_of_mem)) 0 rfl : World.cell? _ _ = some (.bool (ng x))); have s1 := (hK.at_ (g := g3_2) (cs := [.bool (ng y), .slice A_y_6 (mg y).length c_y_6]) (t := 24) (by repeat (first | exact List.mem_cons_self | apply List.mem_cons_of_mem)) 0 rfl : World.cell? _ _ = some (.bool (ng y))); have t0 := hK.lt (g := g2_1) (cs := [.bool (ng x), .slice A_x_5 (mg x).length c_x_5]) (t := 24) (by repeat (first | exact List.mem_cons_self | apply List.mem_cons_of_mem)); have t1 := hK.lt (g := g3_2) (cs := [.bool (ng y), .slice A_y_6 (mg y).length c_y_6]) (t := 24) (by repeat (first | exact List.mem_cons_self | apply List.mem_cons_of_mem)))
        | (go_simp; go_at_call 53; (with_reducible refine Calls.mono (Make_v (ng x) A_r c_r rs _ (((hK.new (g := w_4.heap.size) [.bool false, .slice none 0 0] 24 (NoDig.bool _ (NoDig.slice _ _ _ NoDig.nil)) (by first | rfl | simp)).new (g := w_4.heap.size + 1) [.bool false, .slice none 0 0] 24 (NoDig.bool _ (NoDig.slice _ _ _ NoDig.nil)) (by first | rfl | simp)).rd _ _ _ (by repeat (first | exact List.mem_cons_self | apply List.mem_cons_of_mem))) (by omega) r0 E_r0.out) ?_); rintro e w_5 ⟨A_r0_8, c_r0_8, rfl, hR, hb⟩; replace hK := (((hK.new (g := w_4.heap.size) [.bool false, .slice none 0 0] 24 (NoDig.bool _ (NoDig.slice _ _ _ NoDig.nil)) (by first | rfl | simp)).new (g := w_4.heap.size + 1) [.bool false, .slice none 0 0] 24 (NoDig.bool _ (NoDig.slice _ _ _ NoDig.nil)) (by first | rfl | simp)).below hb).row hR; clear hb hR; (try clear hroom); (try have hroom := (And.intro hK.room2 (fun (o : Obj) => (hK.alloc o).room2))); clear s0; clear s1; have s0 := (hK.at_ (g := g2_1) (cs := [.bool (ng x), .slice A_x_5 (mg x).length c_x_5]) (t := 24) (by repeat (first | exact List.mem_cons_self | apply List.mem_cons_of_mem)) 0 rfl : World.cell? _ _ = some (.bool (ng x))); have s1 := (hK.at_ (g := g3_2) (cs := [.bool (ng y), .slice A_y_6 (mg y).length c_y_6]) (t := 24) (by repeat (first | exact List.mem_cons_self | apply List.mem_cons_of_mem)) 0 rfl : World.cell? _ _ = some (.bool (ng y))); have t0 := hK.lt (g := g2_1) (cs := [.bool (ng x), .slice A_x_5 (mg x).length c_x_5]) (t := 24) (by repeat (first | exact List.mem_cons_self | apply List.mem_cons_of_mem)); have t1 := hK.lt (g := g3_2) (cs := [.bool (ng y), .slice A_y_6 (mg y).length c_y_6]) (t := 24) (by repeat (first | exact List.mem_cons_self | apply List.mem_cons_of_mem))))
    all_goals (try clear hroom)
    all_goals go_wp2_with (fail)
    all_goals go_meet
    all_goals refine ⟨_, _, A_q0_7, c_q0_7, A_r0_8, c_r0_8, rfl, rfl, ⟨?_⟩⟩
    all_goals first
      | ((with_reducible show KP w (World.setCell (World.setCell (World.setCell (World.setCell w_5 _ (.bool (ng q0))) _ (.slice A_q0_7 (mg q0).length c_q0_7)) _ (.bool (ng r0))) _ (.slice A_r0_8 (mg r0).length c_r0_8)) _ _); exact ((((hK.put 1 0 (.bool (ng q0)) (by rfl) (by intro x h; cases h) (by rfl)).put 1 1 (.slice A_q0_7 (mg q0).length c_q0_7) (by rfl) (by intro x h; cases h) (by rfl)).put 0 0 (.bool (ng r0)) (by rfl) (by intro x h; cases h) (by rfl)).put 0 1 (.slice A_r0_8 (mg r0).length c_r0_8) (by rfl) (by intro x h; cases h) (by rfl)))
      | ((with_reducible show KP w (World.setCell (World.setCell (World.setCell (World.setCell w_5 _ (.bool (ng q0))) _ (.slice A_q0_7 (mg q0).length c_q0_7)) _ (.bool (ng r0))) _ (.slice A_r0_8 (mg r0).length c_r0_8)) _ _); exact ((((hK.put 0 0 (.bool (ng q0)) (by rfl) (by intro x h; cases h) (by rfl)).put 0 1 (.slice A_q0_7 (mg q0).length c_q0_7) (by rfl) (by intro x h; cases h) (by rfl)).put 1 0 (.bool (ng r0)) (by rfl) (by intro x h; cases h) (by rfl)).put 1 1 (.slice A_r0_8 (mg r0).length c_r0_8) (by rfl) (by intro x h; cases h) (by rfl)).swap)
      | ((with_reducible show KP w (World.setCell (World.setCell (World.alloc w_5 (.cells #[.bool (ng r0), .slice A_r0_8 (mg r0).length c_r0_8] 24)) _ (.bool (ng q0))) _ (.slice A_q0_7 (mg q0).length c_q0_7)) _ _); exact (((hK.new (g := w_5.heap.size) [.bool (ng r0), .slice A_r0_8 (mg r0).length c_r0_8] 24 (NoDig.bool _ (NoDig.slice _ _ _ NoDig.nil)) (by first | rfl | simp)).put 1 0 (.bool (ng q0)) (by rfl) (by intro x h; cases h) (by rfl)).put 1 1 (.slice A_q0_7 (mg q0).length c_q0_7) (by rfl) (by intro x h; cases h) (by rfl)))
      | ((with_reducible show KP w (World.setCell (World.setCell (World.setCell (World.setCell (World.alloc w_5 _) _ (.bool (ng q0))) _ (.slice A_q0_7 (mg q0).length c_q0_7)) _ (.bool (ng r0))) _ (.slice A_r0_8 (mg r0).length c_r0_8)) _ _); exact (((((hK.new (g := w_5.heap.size) [.bool false, .slice none 0 0] 24 (NoDig.bool _ (NoDig.slice _ _ _ NoDig.nil)) (by first | rfl | simp)).put 1 0 (.bool (ng q0)) (by rfl) (by intro x h; cases h) (by rfl)).put 1 1 (.slice A_q0_7 (mg q0).length c_q0_7) (by rfl) (by intro x h; cases h) (by rfl)).put 0 0 (.bool (ng r0)) (by rfl) (by intro x h; cases h) (by rfl)).put 0 1 (.slice A_r0_8 (mg r0).length c_r0_8) (by rfl) (by intro x h; cases h) (by rfl)))
      | ((with_reducible show KP w (World.setCell (World.setCell (World.alloc w_5 (.cells #[.bool (ng q0), .slice A_q0_7 (mg q0).length c_q0_7] 24)) _ (.bool (ng r0))) _ (.slice A_r0_8 (mg r0).length c_r0_8)) _ _); exact (((hK.new (g := w_5.heap.size) [.bool (ng q0), .slice A_q0_7 (mg q0).length c_q0_7] 24 (NoDig.bool _ (NoDig.slice _ _ _ NoDig.nil)) (by first | rfl | simp)).put 1 0 (.bool (ng r0)) (by rfl) (by intro x h; cases h) (by rfl)).put 1 1 (.slice A_r0_8 (mg r0).length c_r0_8) (by rfl) (by intro x h; cases h) (by rfl)).swap)
      | ((with_reducible show KP w (World.setCell (World.setCell (World.setCell (World.setCell (World.alloc w_5 _) _ (.bool (ng q0))) _ (.slice A_q0_7 (mg q0).length c_q0_7)) _ (.bool (ng r0))) _ (.slice A_r0_8 (mg r0).length c_r0_8)) _ _); exact (((((hK.new (g := w_5.heap.size) [.bool false, .slice none 0 0] 24 (NoDig.bool _ (NoDig.slice _ _ _ NoDig.nil)) (by first | rfl | simp)).put 0 0 (.bool (ng q0)) (by rfl) (by intro x h; cases h) (by rfl)).put 0 1 (.slice A_q0_7 (mg q0).length c_q0_7) (by rfl) (by intro x h; cases h) (by rfl)).put 1 0 (.bool (ng r0)) (by rfl) (by intro x h; cases h) (by rfl)).put 1 1 (.slice A_r0_8 (mg r0).length c_r0_8) (by rfl) (by intro x h; cases h) (by rfl)).swap)
      | ((with_reducible show KP w (World.alloc (World.alloc w_5 (.cells #[.bool (ng q0), .slice A_q0_7 (mg q0).length c_q0_7] 24)) (.cells #[.bool (ng r0), .slice A_r0_8 (mg r0).length c_r0_8] 24)) _ _); exact ((hK.new (g := w_5.heap.size) [.bool (ng q0), .slice A_q0_7 (mg q0).length c_q0_7] 24 (NoDig.bool _ (NoDig.slice _ _ _ NoDig.nil)) (by first | rfl | simp)).new (g := w_5.heap.size + 1) [.bool (ng r0), .slice A_r0_8 (mg r0).length c_r0_8] 24 (NoDig.bool _ (NoDig.slice _ _ _ NoDig.nil)) (by first | rfl | simp)))
      | ((with_reducible show KP w (World.alloc (World.alloc w_5 (.cells #[.bool (ng r0), .slice A_r0_8 (mg r0).length c_r0_8] 24)) (.cells #[.bool (ng q0), .slice A_q0_7 (mg q0).length c_q0_7] 24)) _ _); exact ((hK.new (g := w_5.heap.size) [.bool (ng r0), .slice A_r0_8 (mg r0).length c_r0_8] 24 (NoDig.bool _ (NoDig.slice _ _ _ NoDig.nil)) (by first | rfl | simp)).new (g := w_5.heap.size + 1) [.bool (ng q0), .slice A_q0_7 (mg q0).length c_q0_7] 24 (NoDig.bool _ (NoDig.slice _ _ _ NoDig.nil)) (by first | rfl | simp)).swap)
  clear hK
  obtain ⟨g9_9, g10_10, A_q0_7, c_q0_7, A_r0_8, c_r0_8, rfl, rfl, hK0⟩ := hcut
  have hK := hK0.out
  clear hK0
  cases hb11 : (decide (0 < (mg r0).length))
  case false =>
    have hphb11 := of_decide_eq_false hb11
    cases hb12 : (!((ng x) == (ng y)))
    case false =>
      go_upto_region 6 with (fail)
      go_cut [50] (fun v50 wc => v50 = .bool false ∧ Aside0 (KP w wc [(g10_10, [.bool (ng r0), .slice A_r0_8 (mg r0).length c_r0_8], 24), (g9_9, [.bool (ng q0), .slice A_q0_7 (mg q0).length c_q0_7], 24), (g5_4, [.bool false, .slice none 0 0], 24), (g4_3, [.bool false, .slice none 0 0], 24), (g3_2, [.bool (ng y), .slice A_y_6 (mg y).length c_y_6], 24), (g2_1, [.bool (ng x), .slice A_x_5 (mg x).length c_x_5], 24)] [(A_r0_8, c_r0_8, (mg r0)), (A_q0_7, c_q0_7, (mg q0)), (A_r, c_r, rs), (A_q, c_q, qs), (A_y_6, c_y_6, (mg y)), (A_x_5, c_x_5, (mg x)), (A1, c1, xs1), (A0, c0, xs0)]))
      case first =>
        have hc := And.intro ((hK.at_ (g := g10_10) (cs := [.bool (ng r0), .slice A_r0_8 (mg r0).length c_r0_8]) (t := 24) (by repeat (first | exact List.mem_cons_self | apply List.mem_cons_of_mem)) 0 rfl : World.cell? _ _ = some (.bool (ng r0)))) ((hK.at_ (g := g10_10) (cs := [.bool (ng r0), .slice A_r0_8 (mg r0).length c_r0_8]) (t := 24) (by repeat (first | exact List.mem_cons_self | apply List.mem_cons_of_mem)) 1 rfl : World.cell? _ _ = some (.slice A_r0_8 (mg r0).length c_r0_8)))
        go_wp2
        go_meet
        exact ⟨rfl, ⟨hK⟩⟩
      clear hK
      obtain ⟨rfl, hK0⟩ := hcut
      have hK := hK0.out
      clear hK0
      go_upto_region 8 with (fail)
      go_cut [6] (fun v6 wc => v6 = .int .i64 0 ∧ Aside0 (KP w wc [(g10_10, [.bool (ng r0), .slice A_r0_8 (mg r0).length c_r0_8], 24), (g9_9, [.bool (ng q0), .slice A_q0_7 (mg q0).length c_q0_7], 24), (g5_4, [.bool (ng r0), .slice A_r0_8 (mg r0).length c_r0_8], 24), (g4_3, [.bool (ng q0), .slice A_q0_7 (mg q0).length c_q0_7], 24), (g3_2, [.bool (ng y), .slice A_y_6 (mg y).length c_y_6], 24), (g2_1, [.bool (ng x), .slice A_x_5 (mg x).length c_x_5], 24)] [(A_r0_8, c_r0_8, (mg r0)), (A_q0_7, c_q0_7, (mg q0)), (A_r, c_r, rs), (A_q, c_q, qs), (A_y_6, c_y_6, (mg y)), (A_x_5, c_x_5, (mg x)), (A1, c1, xs1), (A0, c0, xs0)]))
      case first =>
        replace hK := hK.drew
        refine start_ (n := 5) (S := (fun W => W.cell? ⟨g9_9, 0, none⟩ = some (.bool (ng q0)) ∧ W.cell? ⟨g9_9, 1, none⟩ = some (.slice A_q0_7 (mg q0).length c_q0_7) ∧ W.cell? ⟨g10_10, 0, none⟩ = some (.bool (ng r0)) ∧ W.cell? ⟨g10_10, 1, none⟩ = some (.slice A_r0_8 (mg r0).length c_r0_8))) (ds := []) #[false, false, false, false, false] (by kernel_rfl) rfl rfl (And.intro ((hK.at_ (g := g9_9) (cs := [.bool (ng q0), .slice A_q0_7 (mg q0).length c_q0_7]) (t := 24) (by repeat (first | exact List.mem_cons_self | apply List.mem_cons_of_mem)) 0 rfl : World.cell? _ _ = some (.bool (ng q0)))) (And.intro ((hK.at_ (g := g9_9) (cs := [.bool (ng q0), .slice A_q0_7 (mg q0).length c_q0_7]) (t := 24) (by repeat (first | exact List.mem_cons_self | apply List.mem_cons_of_mem)) 1 rfl : World.cell? _ _ = some (.slice A_q0_7 (mg q0).length c_q0_7))) (And.intro ((hK.at_ (g := g10_10) (cs := [.bool (ng r0), .slice A_r0_8 (mg r0).length c_r0_8]) (t := 24) (by repeat (first | exact List.mem_cons_self | apply List.mem_cons_of_mem)) 0 rfl : World.cell? _ _ = some (.bool (ng r0)))) ((hK.at_ (g := g10_10) (cs := [.bool (ng r0), .slice A_r0_8 (mg r0).length c_r0_8]) (t := 24) (by repeat (first | exact List.mem_cons_self | apply List.mem_cons_of_mem)) 1 rfl : World.cell? _ _ = some (.slice A_r0_8 (mg r0).length c_r0_8)))))) (fun hHeld => ?_)
        generalize World.drew _ = wd at hK hHeld ⊢
        refine take_ (i := 0) (N := some 57) (v := ?_) (a' := ?_) #[true, false, false, false, false] rfl rfl (by kernel_rfl) (fun _ _ _ h => h) (Or.inl ⟨by rfl, ?_⟩) hHeld ?_ ?_
        rotate_left
        · rintro w' ⟨s0, s1, s2, s3⟩
          go_simp
          with_reducible rfl
        rotate_left
        · simp only [Act.put, List.setIfInBounds_toArray, List.set_cons_zero, List.set_cons_succ, i64_w, i32_w]
          rfl
        refine take_ (i := 1) (N := some 58) (v := ?_) (a' := ?_) #[true, true, false, false, false] rfl rfl (by kernel_rfl) (fun _ _ _ h => h) (Or.inl ⟨by rfl, ?_⟩) hHeld ?_ ?_
        rotate_left
        · rintro w' ⟨s0, s1, s2, s3⟩
          go_simp
          with_reducible rfl
        rotate_left
        · simp only [Act.put, List.setIfInBounds_toArray, List.set_cons_zero, List.set_cons_succ, i64_w, i32_w]
          rfl
        have hc := And.intro ((hK.at_ (g := g4_3) (cs := [.bool false, .slice none 0 0]) (t := 24) (by repeat (first | exact List.mem_cons_self | apply List.mem_cons_of_mem)) 0 rfl : World.cell? _ _ = some (.bool false))) (And.intro ((hK.at_ (g := g4_3) (cs := [.bool false, .slice none 0 0]) (t := 24) (by repeat (first | exact List.mem_cons_self | apply List.mem_cons_of_mem)) 1 rfl : World.cell? _ _ = some (.slice none 0 0))) (And.intro (hK.free (g := g4_3) (cs := [.bool false, .slice none 0 0]) (t := 24) (by repeat (first | exact List.mem_cons_self | apply List.mem_cons_of_mem)) 0) (hK.free (g := g4_3) (cs := [.bool false, .slice none 0 0]) (t := 24) (by repeat (first | exact List.mem_cons_self | apply List.mem_cons_of_mem)) 1)))
        refine one_ (i := 2) (N := none) #[true, true, true, false, false] rfl rfl (by kernel_rfl) (by decide) (fun KK hKK => ?_)
        refine skip_ (w1 := ?_) (by rfl) rfl ?_ ?_
        rotate_left
        · go_simp
          rfl
        clear hc
        replace hK := ((hK.put 3 0 (.bool (ng q0)) (by rfl) (by intro x h; cases h) (by rfl)).put 3 1 (.slice A_q0_7 (mg q0).length c_q0_7) (by rfl) (by intro x h; cases h) (by rfl))
        refine hKK.out _ _ (And.intro ((hK.at_ (g := g9_9) (cs := [.bool (ng q0), .slice A_q0_7 (mg q0).length c_q0_7]) (t := 24) (by repeat (first | exact List.mem_cons_self | apply List.mem_cons_of_mem)) 0 rfl : World.cell? _ _ = some (.bool (ng q0)))) (And.intro ((hK.at_ (g := g9_9) (cs := [.bool (ng q0), .slice A_q0_7 (mg q0).length c_q0_7]) (t := 24) (by repeat (first | exact List.mem_cons_self | apply List.mem_cons_of_mem)) 1 rfl : World.cell? _ _ = some (.slice A_q0_7 (mg q0).length c_q0_7))) (And.intro ((hK.at_ (g := g10_10) (cs := [.bool (ng r0), .slice A_r0_8 (mg r0).length c_r0_8]) (t := 24) (by repeat (first | exact List.mem_cons_self | apply List.mem_cons_of_mem)) 0 rfl : World.cell? _ _ = some (.bool (ng r0)))) ((hK.at_ (g := g10_10) (cs := [.bool (ng r0), .slice A_r0_8 (mg r0).length c_r0_8]) (t := 24) (by repeat (first | exact List.mem_cons_self | apply List.mem_cons_of_mem)) 1 rfl : World.cell? _ _ = some (.slice A_r0_8 (mg r0).length c_r0_8)))))) (fun hHeld => ?_)
        have hc := And.intro ((hK.at_ (g := g5_4) (cs := [.bool false, .slice none 0 0]) (t := 24) (by repeat (first | exact List.mem_cons_self | apply List.mem_cons_of_mem)) 0 rfl : World.cell? _ _ = some (.bool false))) (And.intro ((hK.at_ (g := g5_4) (cs := [.bool false, .slice none 0 0]) (t := 24) (by repeat (first | exact List.mem_cons_self | apply List.mem_cons_of_mem)) 1 rfl : World.cell? _ _ = some (.slice none 0 0))) (And.intro (hK.free (g := g5_4) (cs := [.bool false, .slice none 0 0]) (t := 24) (by repeat (first | exact List.mem_cons_self | apply List.mem_cons_of_mem)) 0) (hK.free (g := g5_4) (cs := [.bool false, .slice none 0 0]) (t := 24) (by repeat (first | exact List.mem_cons_self | apply List.mem_cons_of_mem)) 1)))
        refine one_ (i := 3) (N := none) #[true, true, true, true, false] rfl rfl (by kernel_rfl) (by decide) (fun KK hKK => ?_)
        refine skip_ (w1 := ?_) (by rfl) rfl ?_ ?_
        rotate_left
        · go_simp
          rfl
        clear hc
        replace hK := ((hK.put 2 0 (.bool (ng r0)) (by rfl) (by intro x h; cases h) (by rfl)).put 2 1 (.slice A_r0_8 (mg r0).length c_r0_8) (by rfl) (by intro x h; cases h) (by rfl))
        refine hKK.out _ _ (And.intro ((hK.at_ (g := g9_9) (cs := [.bool (ng q0), .slice A_q0_7 (mg q0).length c_q0_7]) (t := 24) (by repeat (first | exact List.mem_cons_self | apply List.mem_cons_of_mem)) 0 rfl : World.cell? _ _ = some (.bool (ng q0)))) (And.intro ((hK.at_ (g := g9_9) (cs := [.bool (ng q0), .slice A_q0_7 (mg q0).length c_q0_7]) (t := 24) (by repeat (first | exact List.mem_cons_self | apply List.mem_cons_of_mem)) 1 rfl : World.cell? _ _ = some (.slice A_q0_7 (mg q0).length c_q0_7))) (And.intro ((hK.at_ (g := g10_10) (cs := [.bool (ng r0), .slice A_r0_8 (mg r0).length c_r0_8]) (t := 24) (by repeat (first | exact List.mem_cons_self | apply List.mem_cons_of_mem)) 0 rfl : World.cell? _ _ = some (.bool (ng r0)))) ((hK.at_ (g := g10_10) (cs := [.bool (ng r0), .slice A_r0_8 (mg r0).length c_r0_8]) (t := 24) (by repeat (first | exact List.mem_cons_self | apply List.mem_cons_of_mem)) 1 rfl : World.cell? _ _ = some (.slice A_r0_8 (mg r0).length c_r0_8)))))) (fun hHeld => ?_)
        refine pure_ (i := 4) (N := some 6) (v := ?_) (a' := ?_) #[true, true, true, true, true] rfl rfl (by kernel_rfl) (fun _ _ _ h => h) (Or.inl ⟨by rfl, ?_⟩) ?_ ?_
        rotate_left
        · intro w'
          go_simp
          with_reducible rfl
        rotate_left
        · simp only [Act.put, List.setIfInBounds_toArray, List.set_cons_zero, List.set_cons_succ, i64_w, i32_w]
          rfl
        refine done_ (by kernel_rfl) ?_
        go_wp2
        go_meet
        exact ⟨rfl, ⟨hK⟩⟩
      clear hK
      obtain ⟨rfl, hK0⟩ := hcut
      have hK := hK0.out
      clear hK0
      have hd := dm_ref x y q0 r0 qs rs HY.out F_d.out.1 F_d.out.2.1 E_q0.out E_r0.out
      have hq := hd.1 (fun h => absurd (by omega) hphb11)
      have e1 := hq.1.trans HQ.out.1
      have e2 := hq.2.trans HQ.out.2
      clear hq hd
      subst e1 e2
      have rr0_0 := (hK.at_ (g := g4_3) (cs := [.bool (ng q0), .slice A_q0_7 (mg q0).length c_q0_7]) (t := 24) (by repeat (first | exact List.mem_cons_self | apply List.mem_cons_of_mem)) 0 rfl : World.cell? _ _ = some (.bool (ng q0)))
      have rr0_1 := (hK.at_ (g := g4_3) (cs := [.bool (ng q0), .slice A_q0_7 (mg q0).length c_q0_7]) (t := 24) (by repeat (first | exact List.mem_cons_self | apply List.mem_cons_of_mem)) 1 rfl : World.cell? _ _ = some (.slice A_q0_7 (mg q0).length c_q0_7))
      have rr1_0 := (hK.at_ (g := g5_4) (cs := [.bool (ng r0), .slice A_r0_8 (mg r0).length c_r0_8]) (t := 24) (by repeat (first | exact List.mem_cons_self | apply List.mem_cons_of_mem)) 0 rfl : World.cell? _ _ = some (.bool (ng r0)))
      have rr1_1 := (hK.at_ (g := g5_4) (cs := [.bool (ng r0), .slice A_r0_8 (mg r0).length c_r0_8]) (t := 24) (by repeat (first | exact List.mem_cons_self | apply List.mem_cons_of_mem)) 1 rfl : World.cell? _ _ = some (.slice A_r0_8 (mg r0).length c_r0_8))
      go_wp2
      exact bodyPost_ret (v := .tuple #[.agg #[.bool (ng q0), .slice A_q0_7 (mg q0).length c_q0_7], .agg #[.bool (ng r0), .slice A_r0_8 (mg r0).length c_r0_8], .int .i64 0]) (by simp [results, Tryd.results15, go_sem, rr0_0, rr0_1, rr1_0, rr1_1]) rfl ⟨_, _, _, _, rfl, hK.rd _ _ _ (by repeat (first | exact List.mem_cons_self | apply List.mem_cons_of_mem)), hK.rd _ _ _ (by repeat (first | exact List.mem_cons_self | apply List.mem_cons_of_mem)), hK.be⟩
    case true =>
      go_upto_region 6 with (fail)
      go_cut [50] (fun v50 wc => v50 = .bool false ∧ Aside0 (KP w wc [(g10_10, [.bool (ng r0), .slice A_r0_8 (mg r0).length c_r0_8], 24), (g9_9, [.bool (ng q0), .slice A_q0_7 (mg q0).length c_q0_7], 24), (g5_4, [.bool false, .slice none 0 0], 24), (g4_3, [.bool false, .slice none 0 0], 24), (g3_2, [.bool (ng y), .slice A_y_6 (mg y).length c_y_6], 24), (g2_1, [.bool (ng x), .slice A_x_5 (mg x).length c_x_5], 24)] [(A_r0_8, c_r0_8, (mg r0)), (A_q0_7, c_q0_7, (mg q0)), (A_r, c_r, rs), (A_q, c_q, qs), (A_y_6, c_y_6, (mg y)), (A_x_5, c_x_5, (mg x)), (A1, c1, xs1), (A0, c0, xs0)]))
      case first =>
        have hc := And.intro ((hK.at_ (g := g10_10) (cs := [.bool (ng r0), .slice A_r0_8 (mg r0).length c_r0_8]) (t := 24) (by repeat (first | exact List.mem_cons_self | apply List.mem_cons_of_mem)) 0 rfl : World.cell? _ _ = some (.bool (ng r0)))) ((hK.at_ (g := g10_10) (cs := [.bool (ng r0), .slice A_r0_8 (mg r0).length c_r0_8]) (t := 24) (by repeat (first | exact List.mem_cons_self | apply List.mem_cons_of_mem)) 1 rfl : World.cell? _ _ = some (.slice A_r0_8 (mg r0).length c_r0_8)))
        go_wp2
        go_meet
        exact ⟨rfl, ⟨hK⟩⟩
      clear hK
      obtain ⟨rfl, hK0⟩ := hcut
      have hK := hK0.out
      clear hK0
      go_upto_region 8 with (fail)
      go_cut [6] (fun v6 wc => v6 = .int .i64 0 ∧ Aside0 (KP w wc [(g10_10, [.bool (ng r0), .slice A_r0_8 (mg r0).length c_r0_8], 24), (g9_9, [.bool (ng q0), .slice A_q0_7 (mg q0).length c_q0_7], 24), (g5_4, [.bool (ng r0), .slice A_r0_8 (mg r0).length c_r0_8], 24), (g4_3, [.bool (ng q0), .slice A_q0_7 (mg q0).length c_q0_7], 24), (g3_2, [.bool (ng y), .slice A_y_6 (mg y).length c_y_6], 24), (g2_1, [.bool (ng x), .slice A_x_5 (mg x).length c_x_5], 24)] [(A_r0_8, c_r0_8, (mg r0)), (A_q0_7, c_q0_7, (mg q0)), (A_r, c_r, rs), (A_q, c_q, qs), (A_y_6, c_y_6, (mg y)), (A_x_5, c_x_5, (mg x)), (A1, c1, xs1), (A0, c0, xs0)]))
      case first =>
        replace hK := hK.drew
        refine start_ (n := 5) (S := (fun W => W.cell? ⟨g9_9, 0, none⟩ = some (.bool (ng q0)) ∧ W.cell? ⟨g9_9, 1, none⟩ = some (.slice A_q0_7 (mg q0).length c_q0_7) ∧ W.cell? ⟨g10_10, 0, none⟩ = some (.bool (ng r0)) ∧ W.cell? ⟨g10_10, 1, none⟩ = some (.slice A_r0_8 (mg r0).length c_r0_8))) (ds := []) #[false, false, false, false, false] (by kernel_rfl) rfl rfl (And.intro ((hK.at_ (g := g9_9) (cs := [.bool (ng q0), .slice A_q0_7 (mg q0).length c_q0_7]) (t := 24) (by repeat (first | exact List.mem_cons_self | apply List.mem_cons_of_mem)) 0 rfl : World.cell? _ _ = some (.bool (ng q0)))) (And.intro ((hK.at_ (g := g9_9) (cs := [.bool (ng q0), .slice A_q0_7 (mg q0).length c_q0_7]) (t := 24) (by repeat (first | exact List.mem_cons_self | apply List.mem_cons_of_mem)) 1 rfl : World.cell? _ _ = some (.slice A_q0_7 (mg q0).length c_q0_7))) (And.intro ((hK.at_ (g := g10_10) (cs := [.bool (ng r0), .slice A_r0_8 (mg r0).length c_r0_8]) (t := 24) (by repeat (first | exact List.mem_cons_self | apply List.mem_cons_of_mem)) 0 rfl : World.cell? _ _ = some (.bool (ng r0)))) ((hK.at_ (g := g10_10) (cs := [.bool (ng r0), .slice A_r0_8 (mg r0).length c_r0_8]) (t := 24) (by repeat (first | exact List.mem_cons_self | apply List.mem_cons_of_mem)) 1 rfl : World.cell? _ _ = some (.slice A_r0_8 (mg r0).length c_r0_8)))))) (fun hHeld => ?_)
        generalize World.drew _ = wd at hK hHeld ⊢
        refine take_ (i := 0) (N := some 57) (v := ?_) (a' := ?_) #[true, false, false, false, false] rfl rfl (by kernel_rfl) (fun _ _ _ h => h) (Or.inl ⟨by rfl, ?_⟩) hHeld ?_ ?_
        rotate_left
        · rintro w' ⟨s0, s1, s2, s3⟩
          go_simp
          with_reducible rfl
        rotate_left
        · simp only [Act.put, List.setIfInBounds_toArray, List.set_cons_zero, List.set_cons_succ, i64_w, i32_w]
          rfl
        refine take_ (i := 1) (N := some 58) (v := ?_) (a' := ?_) #[true, true, false, false, false] rfl rfl (by kernel_rfl) (fun _ _ _ h => h) (Or.inl ⟨by rfl, ?_⟩) hHeld ?_ ?_
        rotate_left
        · rintro w' ⟨s0, s1, s2, s3⟩
          go_simp
          with_reducible rfl
        rotate_left
        · simp only [Act.put, List.setIfInBounds_toArray, List.set_cons_zero, List.set_cons_succ, i64_w, i32_w]
          rfl
        have hc := And.intro ((hK.at_ (g := g4_3) (cs := [.bool false, .slice none 0 0]) (t := 24) (by repeat (first | exact List.mem_cons_self | apply List.mem_cons_of_mem)) 0 rfl : World.cell? _ _ = some (.bool false))) (And.intro ((hK.at_ (g := g4_3) (cs := [.bool false, .slice none 0 0]) (t := 24) (by repeat (first | exact List.mem_cons_self | apply List.mem_cons_of_mem)) 1 rfl : World.cell? _ _ = some (.slice none 0 0))) (And.intro (hK.free (g := g4_3) (cs := [.bool false, .slice none 0 0]) (t := 24) (by repeat (first | exact List.mem_cons_self | apply List.mem_cons_of_mem)) 0) (hK.free (g := g4_3) (cs := [.bool false, .slice none 0 0]) (t := 24) (by repeat (first | exact List.mem_cons_self | apply List.mem_cons_of_mem)) 1)))
        refine one_ (i := 2) (N := none) #[true, true, true, false, false] rfl rfl (by kernel_rfl) (by decide) (fun KK hKK => ?_)
        refine skip_ (w1 := ?_) (by rfl) rfl ?_ ?_
        rotate_left
        · go_simp
          rfl
        clear hc
        replace hK := ((hK.put 3 0 (.bool (ng q0)) (by rfl) (by intro x h; cases h) (by rfl)).put 3 1 (.slice A_q0_7 (mg q0).length c_q0_7) (by rfl) (by intro x h; cases h) (by rfl))
        refine hKK.out _ _ (And.intro ((hK.at_ (g := g9_9) (cs := [.bool (ng q0), .slice A_q0_7 (mg q0).length c_q0_7]) (t := 24) (by repeat (first | exact List.mem_cons_self | apply List.mem_cons_of_mem)) 0 rfl : World.cell? _ _ = some (.bool (ng q0)))) (And.intro ((hK.at_ (g := g9_9) (cs := [.bool (ng q0), .slice A_q0_7 (mg q0).length c_q0_7]) (t := 24) (by repeat (first | exact List.mem_cons_self | apply List.mem_cons_of_mem)) 1 rfl : World.cell? _ _ = some (.slice A_q0_7 (mg q0).length c_q0_7))) (And.intro ((hK.at_ (g := g10_10) (cs := [.bool (ng r0), .slice A_r0_8 (mg r0).length c_r0_8]) (t := 24) (by repeat (first | exact List.mem_cons_self | apply List.mem_cons_of_mem)) 0 rfl : World.cell? _ _ = some (.bool (ng r0)))) ((hK.at_ (g := g10_10) (cs := [.bool (ng r0), .slice A_r0_8 (mg r0).length c_r0_8]) (t := 24) (by repeat (first | exact List.mem_cons_self | apply List.mem_cons_of_mem)) 1 rfl : World.cell? _ _ = some (.slice A_r0_8 (mg r0).length c_r0_8)))))) (fun hHeld => ?_)
        have hc := And.intro ((hK.at_ (g := g5_4) (cs := [.bool false, .slice none 0 0]) (t := 24) (by repeat (first | exact List.mem_cons_self | apply List.mem_cons_of_mem)) 0 rfl : World.cell? _ _ = some (.bool false))) (And.intro ((hK.at_ (g := g5_4) (cs := [.bool false, .slice none 0 0]) (t := 24) (by repeat (first | exact List.mem_cons_self | apply List.mem_cons_of_mem)) 1 rfl : World.cell? _ _ = some (.slice none 0 0))) (And.intro (hK.free (g := g5_4) (cs := [.bool false, .slice none 0 0]) (t := 24) (by repeat (first | exact List.mem_cons_self | apply List.mem_cons_of_mem)) 0) (hK.free (g := g5_4) (cs := [.bool false, .slice none 0 0]) (t := 24) (by repeat (first | exact List.mem_cons_self | apply List.mem_cons_of_mem)) 1)))
        refine one_ (i := 3) (N := none) #[true, true, true, true, false] rfl rfl (by kernel_rfl) (by decide) (fun KK hKK => ?_)
        refine skip_ (w1 := ?_) (by rfl) rfl ?_ ?_
        rotate_left
        · go_simp
          rfl
        clear hc
        replace hK := ((hK.put 2 0 (.bool (ng r0)) (by rfl) (by intro x h; cases h) (by rfl)).put 2 1 (.slice A_r0_8 (mg r0).length c_r0_8) (by rfl) (by intro x h; cases h) (by rfl))
        refine hKK.out _ _ (And.intro ((hK.at_ (g := g9_9) (cs := [.bool (ng q0), .slice A_q0_7 (mg q0).length c_q0_7]) (t := 24) (by repeat (first | exact List.mem_cons_self | apply List.mem_cons_of_mem)) 0 rfl : World.cell? _ _ = some (.bool (ng q0)))) (And.intro ((hK.at_ (g := g9_9) (cs := [.bool (ng q0), .slice A_q0_7 (mg q0).length c_q0_7]) (t := 24) (by repeat (first | exact List.mem_cons_self | apply List.mem_cons_of_mem)) 1 rfl : World.cell? _ _ = some (.slice A_q0_7 (mg q0).length c_q0_7))) (And.intro ((hK.at_ (g := g10_10) (cs := [.bool (ng r0), .slice A_r0_8 (mg r0).length c_r0_8]) (t := 24) (by repeat (first | exact List.mem_cons_self | apply List.mem_cons_of_mem)) 0 rfl : World.cell? _ _ = some (.bool (ng r0)))) ((hK.at_ (g := g10_10) (cs := [.bool (ng r0), .slice A_r0_8 (mg r0).length c_r0_8]) (t := 24) (by repeat (first | exact List.mem_cons_self | apply List.mem_cons_of_mem)) 1 rfl : World.cell? _ _ = some (.slice A_r0_8 (mg r0).length c_r0_8)))))) (fun hHeld => ?_)
        refine pure_ (i := 4) (N := some 6) (v := ?_) (a' := ?_) #[true, true, true, true, true] rfl rfl (by kernel_rfl) (fun _ _ _ h => h) (Or.inl ⟨by rfl, ?_⟩) ?_ ?_
        rotate_left
        · intro w'
          go_simp
          with_reducible rfl
        rotate_left
        · simp only [Act.put, List.setIfInBounds_toArray, List.set_cons_zero, List.set_cons_succ, i64_w, i32_w]
          rfl
        refine done_ (by kernel_rfl) ?_
        go_wp2
        go_meet
        exact ⟨rfl, ⟨hK⟩⟩
      clear hK
      obtain ⟨rfl, hK0⟩ := hcut
      have hK := hK0.out
      clear hK0
      have hd := dm_ref x y q0 r0 qs rs HY.out F_d.out.1 F_d.out.2.1 E_q0.out E_r0.out
      have hq := hd.1 (fun h => absurd (by omega) hphb11)
      have e1 := hq.1.trans HQ.out.1
      have e2 := hq.2.trans HQ.out.2
      clear hq hd
      subst e1 e2
      have rr0_0 := (hK.at_ (g := g4_3) (cs := [.bool (ng q0), .slice A_q0_7 (mg q0).length c_q0_7]) (t := 24) (by repeat (first | exact List.mem_cons_self | apply List.mem_cons_of_mem)) 0 rfl : World.cell? _ _ = some (.bool (ng q0)))
      have rr0_1 := (hK.at_ (g := g4_3) (cs := [.bool (ng q0), .slice A_q0_7 (mg q0).length c_q0_7]) (t := 24) (by repeat (first | exact List.mem_cons_self | apply List.mem_cons_of_mem)) 1 rfl : World.cell? _ _ = some (.slice A_q0_7 (mg q0).length c_q0_7))
      have rr1_0 := (hK.at_ (g := g5_4) (cs := [.bool (ng r0), .slice A_r0_8 (mg r0).length c_r0_8]) (t := 24) (by repeat (first | exact List.mem_cons_self | apply List.mem_cons_of_mem)) 0 rfl : World.cell? _ _ = some (.bool (ng r0)))
      have rr1_1 := (hK.at_ (g := g5_4) (cs := [.bool (ng r0), .slice A_r0_8 (mg r0).length c_r0_8]) (t := 24) (by repeat (first | exact List.mem_cons_self | apply List.mem_cons_of_mem)) 1 rfl : World.cell? _ _ = some (.slice A_r0_8 (mg r0).length c_r0_8))
      go_wp2
      exact bodyPost_ret (v := .tuple #[.agg #[.bool (ng q0), .slice A_q0_7 (mg q0).length c_q0_7], .agg #[.bool (ng r0), .slice A_r0_8 (mg r0).length c_r0_8], .int .i64 0]) (by simp [results, Tryd.results15, go_sem, rr0_0, rr0_1, rr1_0, rr1_1]) rfl ⟨_, _, _, _, rfl, hK.rd _ _ _ (by repeat (first | exact List.mem_cons_self | apply List.mem_cons_of_mem)), hK.rd _ _ _ (by repeat (first | exact List.mem_cons_self | apply List.mem_cons_of_mem)), hK.be⟩
  case true =>
    have hphb11 := of_decide_eq_true hb11
    cases hb13 : (!((ng x) == (ng y)))
    case false =>
      go_upto_region 6 with (fail)
      go_cut [50] (fun v50 wc => v50 = .bool false ∧ Aside0 (KP w wc [(g10_10, [.bool (ng r0), .slice A_r0_8 (mg r0).length c_r0_8], 24), (g9_9, [.bool (ng q0), .slice A_q0_7 (mg q0).length c_q0_7], 24), (g5_4, [.bool false, .slice none 0 0], 24), (g4_3, [.bool false, .slice none 0 0], 24), (g3_2, [.bool (ng y), .slice A_y_6 (mg y).length c_y_6], 24), (g2_1, [.bool (ng x), .slice A_x_5 (mg x).length c_x_5], 24)] [(A_r0_8, c_r0_8, (mg r0)), (A_q0_7, c_q0_7, (mg q0)), (A_r, c_r, rs), (A_q, c_q, qs), (A_y_6, c_y_6, (mg y)), (A_x_5, c_x_5, (mg x)), (A1, c1, xs1), (A0, c0, xs0)]))
      case first =>
        have hc := And.intro ((hK.at_ (g := g10_10) (cs := [.bool (ng r0), .slice A_r0_8 (mg r0).length c_r0_8]) (t := 24) (by repeat (first | exact List.mem_cons_self | apply List.mem_cons_of_mem)) 0 rfl : World.cell? _ _ = some (.bool (ng r0)))) (And.intro ((hK.at_ (g := g10_10) (cs := [.bool (ng r0), .slice A_r0_8 (mg r0).length c_r0_8]) (t := 24) (by repeat (first | exact List.mem_cons_self | apply List.mem_cons_of_mem)) 1 rfl : World.cell? _ _ = some (.slice A_r0_8 (mg r0).length c_r0_8))) (And.intro ((hK.at_ (g := g2_1) (cs := [.bool (ng x), .slice A_x_5 (mg x).length c_x_5]) (t := 24) (by repeat (first | exact List.mem_cons_self | apply List.mem_cons_of_mem)) 0 rfl : World.cell? _ _ = some (.bool (ng x)))) (And.intro ((hK.at_ (g := g2_1) (cs := [.bool (ng x), .slice A_x_5 (mg x).length c_x_5]) (t := 24) (by repeat (first | exact List.mem_cons_self | apply List.mem_cons_of_mem)) 1 rfl : World.cell? _ _ = some (.slice A_x_5 (mg x).length c_x_5))) (And.intro ((hK.at_ (g := g3_2) (cs := [.bool (ng y), .slice A_y_6 (mg y).length c_y_6]) (t := 24) (by repeat (first | exact List.mem_cons_self | apply List.mem_cons_of_mem)) 0 rfl : World.cell? _ _ = some (.bool (ng y)))) ((hK.at_ (g := g3_2) (cs := [.bool (ng y), .slice A_y_6 (mg y).length c_y_6]) (t := 24) (by repeat (first | exact List.mem_cons_self | apply List.mem_cons_of_mem)) 1 rfl : World.cell? _ _ = some (.slice A_y_6 (mg y).length c_y_6)))))))
        go_wp2
        go_meet
        exact ⟨rfl, ⟨hK⟩⟩
      clear hK
      obtain ⟨rfl, hK0⟩ := hcut
      have hK := hK0.out
      clear hK0
      go_upto_region 8 with (fail)
      go_cut [6] (fun v6 wc => v6 = .int .i64 0 ∧ Aside0 (KP w wc [(g10_10, [.bool (ng r0), .slice A_r0_8 (mg r0).length c_r0_8], 24), (g9_9, [.bool (ng q0), .slice A_q0_7 (mg q0).length c_q0_7], 24), (g5_4, [.bool (ng r0), .slice A_r0_8 (mg r0).length c_r0_8], 24), (g4_3, [.bool (ng q0), .slice A_q0_7 (mg q0).length c_q0_7], 24), (g3_2, [.bool (ng y), .slice A_y_6 (mg y).length c_y_6], 24), (g2_1, [.bool (ng x), .slice A_x_5 (mg x).length c_x_5], 24)] [(A_r0_8, c_r0_8, (mg r0)), (A_q0_7, c_q0_7, (mg q0)), (A_r, c_r, rs), (A_q, c_q, qs), (A_y_6, c_y_6, (mg y)), (A_x_5, c_x_5, (mg x)), (A1, c1, xs1), (A0, c0, xs0)]))
      case first =>
        replace hK := hK.drew
        refine start_ (n := 5) (S := (fun W => W.cell? ⟨g9_9, 0, none⟩ = some (.bool (ng q0)) ∧ W.cell? ⟨g9_9, 1, none⟩ = some (.slice A_q0_7 (mg q0).length c_q0_7) ∧ W.cell? ⟨g10_10, 0, none⟩ = some (.bool (ng r0)) ∧ W.cell? ⟨g10_10, 1, none⟩ = some (.slice A_r0_8 (mg r0).length c_r0_8))) (ds := []) #[false, false, false, false, false] (by kernel_rfl) rfl rfl (And.intro ((hK.at_ (g := g9_9) (cs := [.bool (ng q0), .slice A_q0_7 (mg q0).length c_q0_7]) (t := 24) (by repeat (first | exact List.mem_cons_self | apply List.mem_cons_of_mem)) 0 rfl : World.cell? _ _ = some (.bool (ng q0)))) (And.intro ((hK.at_ (g := g9_9) (cs := [.bool (ng q0), .slice A_q0_7 (mg q0).length c_q0_7]) (t := 24) (by repeat (first | exact List.mem_cons_self | apply List.mem_cons_of_mem)) 1 rfl : World.cell? _ _ = some (.slice A_q0_7 (mg q0).length c_q0_7))) (And.intro ((hK.at_ (g := g10_10) (cs := [.bool (ng r0), .slice A_r0_8 (mg r0).length c_r0_8]) (t := 24) (by repeat (first | exact List.mem_cons_self | apply List.mem_cons_of_mem)) 0 rfl : World.cell? _ _ = some (.bool (ng r0)))) ((hK.at_ (g := g10_10) (cs := [.bool (ng r0), .slice A_r0_8 (mg r0).length c_r0_8]) (t := 24) (by repeat (first | exact List.mem_cons_self | apply List.mem_cons_of_mem)) 1 rfl : World.cell? _ _ = some (.slice A_r0_8 (mg r0).length c_r0_8)))))) (fun hHeld => ?_)
        generalize World.drew _ = wd at hK hHeld ⊢
        refine take_ (i := 0) (N := some 57) (v := ?_) (a' := ?_) #[true, false, false, false, false] rfl rfl (by kernel_rfl) (fun _ _ _ h => h) (Or.inl ⟨by rfl, ?_⟩) hHeld ?_ ?_
        rotate_left
        · rintro w' ⟨s0, s1, s2, s3⟩
          go_simp
          with_reducible rfl
        rotate_left
        · simp only [Act.put, List.setIfInBounds_toArray, List.set_cons_zero, List.set_cons_succ, i64_w, i32_w]
          rfl
        refine take_ (i := 1) (N := some 58) (v := ?_) (a' := ?_) #[true, true, false, false, false] rfl rfl (by kernel_rfl) (fun _ _ _ h => h) (Or.inl ⟨by rfl, ?_⟩) hHeld ?_ ?_
        rotate_left
        · rintro w' ⟨s0, s1, s2, s3⟩
          go_simp
          with_reducible rfl
        rotate_left
        · simp only [Act.put, List.setIfInBounds_toArray, List.set_cons_zero, List.set_cons_succ, i64_w, i32_w]
          rfl
        have hc := And.intro ((hK.at_ (g := g4_3) (cs := [.bool false, .slice none 0 0]) (t := 24) (by repeat (first | exact List.mem_cons_self | apply List.mem_cons_of_mem)) 0 rfl : World.cell? _ _ = some (.bool false))) (And.intro ((hK.at_ (g := g4_3) (cs := [.bool false, .slice none 0 0]) (t := 24) (by repeat (first | exact List.mem_cons_self | apply List.mem_cons_of_mem)) 1 rfl : World.cell? _ _ = some (.slice none 0 0))) (And.intro (hK.free (g := g4_3) (cs := [.bool false, .slice none 0 0]) (t := 24) (by repeat (first | exact List.mem_cons_self | apply List.mem_cons_of_mem)) 0) (hK.free (g := g4_3) (cs := [.bool false, .slice none 0 0]) (t := 24) (by repeat (first | exact List.mem_cons_self | apply List.mem_cons_of_mem)) 1)))
        refine one_ (i := 2) (N := none) #[true, true, true, false, false] rfl rfl (by kernel_rfl) (by decide) (fun KK hKK => ?_)
        refine skip_ (w1 := ?_) (by rfl) rfl ?_ ?_
        rotate_left
        · go_simp
          rfl
        clear hc
        replace hK := ((hK.put 3 0 (.bool (ng q0)) (by rfl) (by intro x h; cases h) (by rfl)).put 3 1 (.slice A_q0_7 (mg q0).length c_q0_7) (by rfl) (by intro x h; cases h) (by rfl))
        refine hKK.out _ _ (And.intro ((hK.at_ (g := g9_9) (cs := [.bool (ng q0), .slice A_q0_7 (mg q0).length c_q0_7]) (t := 24) (by repeat (first | exact List.mem_cons_self | apply List.mem_cons_of_mem)) 0 rfl : World.cell? _ _ = some (.bool (ng q0)))) (And.intro ((hK.at_ (g := g9_9) (cs := [.bool (ng q0), .slice A_q0_7 (mg q0).length c_q0_7]) (t := 24) (by repeat (first | exact List.mem_cons_self | apply List.mem_cons_of_mem)) 1 rfl : World.cell? _ _ = some (.slice A_q0_7 (mg q0).length c_q0_7))) (And.intro ((hK.at_ (g := g10_10) (cs := [.bool (ng r0), .slice A_r0_8 (mg r0).length c_r0_8]) (t := 24) (by repeat (first | exact List.mem_cons_self | apply List.mem_cons_of_mem)) 0 rfl : World.cell? _ _ = some (.bool (ng r0)))) ((hK.at_ (g := g10_10) (cs := [.bool (ng r0), .slice A_r0_8 (mg r0).length c_r0_8]) (t := 24) (by repeat (first | exact List.mem_cons_self | apply List.mem_cons_of_mem)) 1 rfl : World.cell? _ _ = some (.slice A_r0_8 (mg r0).length c_r0_8)))))) (fun hHeld => ?_)
        have hc := And.intro ((hK.at_ (g := g5_4) (cs := [.bool false, .slice none 0 0]) (t := 24) (by repeat (first | exact List.mem_cons_self | apply List.mem_cons_of_mem)) 0 rfl : World.cell? _ _ = some (.bool false))) (And.intro ((hK.at_ (g := g5_4) (cs := [.bool false, .slice none 0 0]) (t := 24) (by repeat (first | exact List.mem_cons_self | apply List.mem_cons_of_mem)) 1 rfl : World.cell? _ _ = some (.slice none 0 0))) (And.intro (hK.free (g := g5_4) (cs := [.bool false, .slice none 0 0]) (t := 24) (by repeat (first | exact List.mem_cons_self | apply List.mem_cons_of_mem)) 0) (hK.free (g := g5_4) (cs := [.bool false, .slice none 0 0]) (t := 24) (by repeat (first | exact List.mem_cons_self | apply List.mem_cons_of_mem)) 1)))
        refine one_ (i := 3) (N := none) #[true, true, true, true, false] rfl rfl (by kernel_rfl) (by decide) (fun KK hKK => ?_)
        refine skip_ (w1 := ?_) (by rfl) rfl ?_ ?_
        rotate_left
        · go_simp
          rfl
        clear hc
        replace hK := ((hK.put 2 0 (.bool (ng r0)) (by rfl) (by intro x h; cases h) (by rfl)).put 2 1 (.slice A_r0_8 (mg r0).length c_r0_8) (by rfl) (by intro x h; cases h) (by rfl))
        refine hKK.out _ _ (And.intro ((hK.at_ (g := g9_9) (cs := [.bool (ng q0), .slice A_q0_7 (mg q0).length c_q0_7]) (t := 24) (by repeat (first | exact List.mem_cons_self | apply List.mem_cons_of_mem)) 0 rfl : World.cell? _ _ = some (.bool (ng q0)))) (And.intro ((hK.at_ (g := g9_9) (cs := [.bool (ng q0), .slice A_q0_7 (mg q0).length c_q0_7]) (t := 24) (by repeat (first | exact List.mem_cons_self | apply List.mem_cons_of_mem)) 1 rfl : World.cell? _ _ = some (.slice A_q0_7 (mg q0).length c_q0_7))) (And.intro ((hK.at_ (g := g10_10) (cs := [.bool (ng r0), .slice A_r0_8 (mg r0).length c_r0_8]) (t := 24) (by repeat (first | exact List.mem_cons_self | apply List.mem_cons_of_mem)) 0 rfl : World.cell? _ _ = some (.bool (ng r0)))) ((hK.at_ (g := g10_10) (cs := [.bool (ng r0), .slice A_r0_8 (mg r0).length c_r0_8]) (t := 24) (by repeat (first | exact List.mem_cons_self | apply List.mem_cons_of_mem)) 1 rfl : World.cell? _ _ = some (.slice A_r0_8 (mg r0).length c_r0_8)))))) (fun hHeld => ?_)
        refine pure_ (i := 4) (N := some 6) (v := ?_) (a' := ?_) #[true, true, true, true, true] rfl rfl (by kernel_rfl) (fun _ _ _ h => h) (Or.inl ⟨by rfl, ?_⟩) ?_ ?_
        rotate_left
        · intro w'
          go_simp
          with_reducible rfl
        rotate_left
        · simp only [Act.put, List.setIfInBounds_toArray, List.set_cons_zero, List.set_cons_succ, i64_w, i32_w]
          rfl
        refine done_ (by kernel_rfl) ?_
        go_wp2
        go_meet
        exact ⟨rfl, ⟨hK⟩⟩
      clear hK
      obtain ⟨rfl, hK0⟩ := hcut
      have hK := hK0.out
      clear hK0
      have hd := dm_ref x y q0 r0 qs rs HY.out F_d.out.1 F_d.out.2.1 E_q0.out E_r0.out
      have hq := hd.1 (fun _ => hb13)
      have e1 := hq.1.trans HQ.out.1
      have e2 := hq.2.trans HQ.out.2
      clear hq hd
      subst e1 e2
      have rr0_0 := (hK.at_ (g := g4_3) (cs := [.bool (ng q0), .slice A_q0_7 (mg q0).length c_q0_7]) (t := 24) (by repeat (first | exact List.mem_cons_self | apply List.mem_cons_of_mem)) 0 rfl : World.cell? _ _ = some (.bool (ng q0)))
      have rr0_1 := (hK.at_ (g := g4_3) (cs := [.bool (ng q0), .slice A_q0_7 (mg q0).length c_q0_7]) (t := 24) (by repeat (first | exact List.mem_cons_self | apply List.mem_cons_of_mem)) 1 rfl : World.cell? _ _ = some (.slice A_q0_7 (mg q0).length c_q0_7))
      have rr1_0 := (hK.at_ (g := g5_4) (cs := [.bool (ng r0), .slice A_r0_8 (mg r0).length c_r0_8]) (t := 24) (by repeat (first | exact List.mem_cons_self | apply List.mem_cons_of_mem)) 0 rfl : World.cell? _ _ = some (.bool (ng r0)))
      have rr1_1 := (hK.at_ (g := g5_4) (cs := [.bool (ng r0), .slice A_r0_8 (mg r0).length c_r0_8]) (t := 24) (by repeat (first | exact List.mem_cons_self | apply List.mem_cons_of_mem)) 1 rfl : World.cell? _ _ = some (.slice A_r0_8 (mg r0).length c_r0_8))
      go_wp2
      exact bodyPost_ret (v := .tuple #[.agg #[.bool (ng q0), .slice A_q0_7 (mg q0).length c_q0_7], .agg #[.bool (ng r0), .slice A_r0_8 (mg r0).length c_r0_8], .int .i64 0]) (by simp [results, Tryd.results15, go_sem, rr0_0, rr0_1, rr1_0, rr1_1]) rfl ⟨_, _, _, _, rfl, hK.rd _ _ _ (by repeat (first | exact List.mem_cons_self | apply List.mem_cons_of_mem)), hK.rd _ _ _ (by repeat (first | exact List.mem_cons_self | apply List.mem_cons_of_mem)), hK.be⟩
    case true =>
      go_upto_region 6 with (fail)
      go_cut [50] (fun v50 wc => v50 = .bool true ∧ Aside0 (KP w wc [(g10_10, [.bool (ng r0), .slice A_r0_8 (mg r0).length c_r0_8], 24), (g9_9, [.bool (ng q0), .slice A_q0_7 (mg q0).length c_q0_7], 24), (g5_4, [.bool false, .slice none 0 0], 24), (g4_3, [.bool false, .slice none 0 0], 24), (g3_2, [.bool (ng y), .slice A_y_6 (mg y).length c_y_6], 24), (g2_1, [.bool (ng x), .slice A_x_5 (mg x).length c_x_5], 24)] [(A_r0_8, c_r0_8, (mg r0)), (A_q0_7, c_q0_7, (mg q0)), (A_r, c_r, rs), (A_q, c_q, qs), (A_y_6, c_y_6, (mg y)), (A_x_5, c_x_5, (mg x)), (A1, c1, xs1), (A0, c0, xs0)]))
      case first =>
        have hc := And.intro ((hK.at_ (g := g10_10) (cs := [.bool (ng r0), .slice A_r0_8 (mg r0).length c_r0_8]) (t := 24) (by repeat (first | exact List.mem_cons_self | apply List.mem_cons_of_mem)) 0 rfl : World.cell? _ _ = some (.bool (ng r0)))) (And.intro ((hK.at_ (g := g10_10) (cs := [.bool (ng r0), .slice A_r0_8 (mg r0).length c_r0_8]) (t := 24) (by repeat (first | exact List.mem_cons_self | apply List.mem_cons_of_mem)) 1 rfl : World.cell? _ _ = some (.slice A_r0_8 (mg r0).length c_r0_8))) (And.intro ((hK.at_ (g := g2_1) (cs := [.bool (ng x), .slice A_x_5 (mg x).length c_x_5]) (t := 24) (by repeat (first | exact List.mem_cons_self | apply List.mem_cons_of_mem)) 0 rfl : World.cell? _ _ = some (.bool (ng x)))) (And.intro ((hK.at_ (g := g2_1) (cs := [.bool (ng x), .slice A_x_5 (mg x).length c_x_5]) (t := 24) (by repeat (first | exact List.mem_cons_self | apply List.mem_cons_of_mem)) 1 rfl : World.cell? _ _ = some (.slice A_x_5 (mg x).length c_x_5))) (And.intro ((hK.at_ (g := g3_2) (cs := [.bool (ng y), .slice A_y_6 (mg y).length c_y_6]) (t := 24) (by repeat (first | exact List.mem_cons_self | apply List.mem_cons_of_mem)) 0 rfl : World.cell? _ _ = some (.bool (ng y)))) ((hK.at_ (g := g3_2) (cs := [.bool (ng y), .slice A_y_6 (mg y).length c_y_6]) (t := 24) (by repeat (first | exact List.mem_cons_self | apply List.mem_cons_of_mem)) 1 rfl : World.cell? _ _ = some (.slice A_y_6 (mg y).length c_y_6)))))))
        go_wp2
        go_meet
        exact ⟨rfl, ⟨hK⟩⟩
      clear hK
      obtain ⟨rfl, hK0⟩ := hcut
      have hK := hK0.out
      clear hK0
      obtain ⟨one, e_one⟩ : ∃ z : Int, 1 = z := ⟨_, rfl⟩
      have E_one := Aside0.mk e_one
      have l_one : (mg one).length ≤ 3 := by rw [← e_one]; exact mg_i64 (by decide) (by decide)
      clear e_one
      obtain ⟨q1, e_q1⟩ : ∃ z : Int, q0 - one = z := ⟨_, rfl⟩
      have E_q1 := Aside0.mk e_q1
      have l_q1 : (mg q1).length ≤ N + 4 := by rw [← e_q1]; exact mg_sub l_q0 l_one (by omega) (by omega)
      clear e_q1
      obtain ⟨r1, e_r1⟩ : ∃ z : Int, r0 + y = z := ⟨_, rfl⟩
      have E_r1 := Aside0.mk e_r1
      have l_r1 : (mg r1).length ≤ N + 1 := by rw [← e_r1]; exact mg_add l_r0 l_y (by omega) (by omega)
      clear e_r1
      go_upto_region 7 with (fail)
      go_cut [] (fun wc => ∃ (A_one_14 : Option Addr) (c_one_14 : Nat) (A_q1_15 : Option Addr) (c_q1_15 : Nat) (A_r1_16 : Option Addr) (c_r1_16 : Nat), Aside0 (KP w wc [(g10_10, [.bool (ng r1), .slice A_r1_16 (mg r1).length c_r1_16], 24), (g9_9, [.bool (ng q1), .slice A_q1_15 (mg q1).length c_q1_15], 24), (g5_4, [.bool false, .slice none 0 0], 24), (g4_3, [.bool false, .slice none 0 0], 24), (g3_2, [.bool (ng y), .slice A_y_6 (mg y).length c_y_6], 24), (g2_1, [.bool (ng x), .slice A_x_5 (mg x).length c_x_5], 24)] [(A_r1_16, c_r1_16, (mg r1)), (A_q1_15, c_q1_15, (mg q1)), (A_one_14, c_one_14, (mg one)), (A_r0_8, c_r0_8, (mg r0)), (A_q0_7, c_q0_7, (mg q0)), (A_r, c_r, rs), (A_q, c_q, qs), (A_y_6, c_y_6, (mg y)), (A_x_5, c_x_5, (mg x)), (A1, c1, xs1), (A0, c0, xs0)]))
      case first =>
        replace hK := hK.drew
        refine start_ (n := 8) (S := (fun W => W.cell? ⟨g9_9, 0, none⟩ = some (.bool (ng q0)) ∧ W.cell? ⟨g9_9, 1, none⟩ = some (.slice A_q0_7 (mg q0).length c_q0_7) ∧ W.cell? ⟨g10_10, 0, none⟩ = some (.bool (ng r0)) ∧ W.cell? ⟨g10_10, 1, none⟩ = some (.slice A_r0_8 (mg r0).length c_r0_8) ∧ W.cell? ⟨g3_2, 0, none⟩ = some (.bool (ng y)) ∧ W.cell? ⟨g3_2, 1, none⟩ = some (.slice A_y_6 (mg y).length c_y_6))) (ds := [6, 7]) #[false, false, false, false, false, false, false, false] (by kernel_rfl) rfl rfl (And.intro ((hK.at_ (g := g9_9) (cs := [.bool (ng q0), .slice A_q0_7 (mg q0).length c_q0_7]) (t := 24) (by repeat (first | exact List.mem_cons_self | apply List.mem_cons_of_mem)) 0 rfl : World.cell? _ _ = some (.bool (ng q0)))) (And.intro ((hK.at_ (g := g9_9) (cs := [.bool (ng q0), .slice A_q0_7 (mg q0).length c_q0_7]) (t := 24) (by repeat (first | exact List.mem_cons_self | apply List.mem_cons_of_mem)) 1 rfl : World.cell? _ _ = some (.slice A_q0_7 (mg q0).length c_q0_7))) (And.intro ((hK.at_ (g := g10_10) (cs := [.bool (ng r0), .slice A_r0_8 (mg r0).length c_r0_8]) (t := 24) (by repeat (first | exact List.mem_cons_self | apply List.mem_cons_of_mem)) 0 rfl : World.cell? _ _ = some (.bool (ng r0)))) (And.intro ((hK.at_ (g := g10_10) (cs := [.bool (ng r0), .slice A_r0_8 (mg r0).length c_r0_8]) (t := 24) (by repeat (first | exact List.mem_cons_self | apply List.mem_cons_of_mem)) 1 rfl : World.cell? _ _ = some (.slice A_r0_8 (mg r0).length c_r0_8))) (And.intro ((hK.at_ (g := g3_2) (cs := [.bool (ng y), .slice A_y_6 (mg y).length c_y_6]) (t := 24) (by repeat (first | exact List.mem_cons_self | apply List.mem_cons_of_mem)) 0 rfl : World.cell? _ _ = some (.bool (ng y)))) ((hK.at_ (g := g3_2) (cs := [.bool (ng y), .slice A_y_6 (mg y).length c_y_6]) (t := 24) (by repeat (first | exact List.mem_cons_self | apply List.mem_cons_of_mem)) 1 rfl : World.cell? _ _ = some (.slice A_y_6 (mg y).length c_y_6)))))))) (fun hHeld => ?_)
        generalize World.drew _ = wd at hK hHeld ⊢
        refine take_ (i := 0) (N := some 51) (v := ?_) (a' := ?_) #[true, false, false, false, false, false, false, false] rfl rfl (by kernel_rfl) (fun _ _ _ h => h) (Or.inl ⟨by rfl, ?_⟩) hHeld ?_ ?_
        rotate_left
        · rintro w' ⟨s0, s1, s2, s3, s4, s5⟩
          go_simp
          with_reducible rfl
        rotate_left
        · simp only [Act.put, List.setIfInBounds_toArray, List.set_cons_zero, List.set_cons_succ, i64_w, i32_w]
          rfl
        refine take_ (i := 3) (N := some 54) (v := ?_) (a' := ?_) #[true, false, false, true, false, false, false, false] rfl rfl (by kernel_rfl) (fun _ _ _ h => h) (Or.inl ⟨by rfl, ?_⟩) hHeld ?_ ?_
        rotate_left
        · rintro w' ⟨s0, s1, s2, s3, s4, s5⟩
          go_simp
          with_reducible rfl
        rotate_left
        · simp only [Act.put, List.setIfInBounds_toArray, List.set_cons_zero, List.set_cons_succ, i64_w, i32_w]
          rfl
        refine take_ (i := 4) (N := some 55) (v := ?_) (a' := ?_) #[true, false, false, true, true, false, false, false] rfl rfl (by kernel_rfl) (fun _ _ _ h => h) (Or.inl ⟨by rfl, ?_⟩) hHeld ?_ ?_
        rotate_left
        · rintro w' ⟨s0, s1, s2, s3, s4, s5⟩
          go_simp
          with_reducible rfl
        rotate_left
        · simp only [Act.put, List.setIfInBounds_toArray, List.set_cons_zero, List.set_cons_succ, i64_w, i32_w]
          rfl
        refine one_ (i := 1) (N := some 52) #[true, true, false, true, true, false, false, false] rfl rfl (by kernel_rfl) (by decide) (fun KK hKK => ?_)
        refine goes_ Tryd.func24 (by kernel_rfl) rfl #[.int .i64 1] (by rfl) rfl rfl (by (try simp only [List.map_toArray, List.map_cons, List.map_nil]); first | done | rfl) ?_
        refine (from_ref 1 one _ (by decide) (by decide) E_one.out).mono ?_
        rintro e w_6 ⟨A_one_14, c_one_14, rfl, hR, hb⟩
        refine ⟨_, rfl, ?_⟩
        replace hK := (hK.below hb).row hR
        clear hb hR
        refine hKK.out _ _ (And.intro ((hK.at_ (g := g9_9) (cs := [.bool (ng q0), .slice A_q0_7 (mg q0).length c_q0_7]) (t := 24) (by repeat (first | exact List.mem_cons_self | apply List.mem_cons_of_mem)) 0 rfl : World.cell? _ _ = some (.bool (ng q0)))) (And.intro ((hK.at_ (g := g9_9) (cs := [.bool (ng q0), .slice A_q0_7 (mg q0).length c_q0_7]) (t := 24) (by repeat (first | exact List.mem_cons_self | apply List.mem_cons_of_mem)) 1 rfl : World.cell? _ _ = some (.slice A_q0_7 (mg q0).length c_q0_7))) (And.intro ((hK.at_ (g := g10_10) (cs := [.bool (ng r0), .slice A_r0_8 (mg r0).length c_r0_8]) (t := 24) (by repeat (first | exact List.mem_cons_self | apply List.mem_cons_of_mem)) 0 rfl : World.cell? _ _ = some (.bool (ng r0)))) (And.intro ((hK.at_ (g := g10_10) (cs := [.bool (ng r0), .slice A_r0_8 (mg r0).length c_r0_8]) (t := 24) (by repeat (first | exact List.mem_cons_self | apply List.mem_cons_of_mem)) 1 rfl : World.cell? _ _ = some (.slice A_r0_8 (mg r0).length c_r0_8))) (And.intro ((hK.at_ (g := g3_2) (cs := [.bool (ng y), .slice A_y_6 (mg y).length c_y_6]) (t := 24) (by repeat (first | exact List.mem_cons_self | apply List.mem_cons_of_mem)) 0 rfl : World.cell? _ _ = some (.bool (ng y)))) ((hK.at_ (g := g3_2) (cs := [.bool (ng y), .slice A_y_6 (mg y).length c_y_6]) (t := 24) (by repeat (first | exact List.mem_cons_self | apply List.mem_cons_of_mem)) 1 rfl : World.cell? _ _ = some (.slice A_y_6 (mg y).length c_y_6)))))))) (fun hHeld => ?_)
        refine norm_ (a' := ?_) ?_ ?_
        rotate_left
        · show Act.put _ (some 52) _ = _
          simp only [Act.put, List.setIfInBounds_toArray, List.set_cons_zero, List.set_cons_succ, i64_w, i32_w]
          rfl
        refine one_ (i := 2) (N := some 53) #[true, true, true, true, true, false, false, false] rfl rfl (by kernel_rfl) (by decide) (fun KK hKK => ?_)
        refine goes_ Tryd.func33 (by kernel_rfl) rfl #[.agg #[.bool (ng q0), .slice A_q0_7 (mg q0).length c_q0_7], .agg #[.bool (ng one), .slice A_one_14 (mg one).length c_one_14]] (by rfl) rfl rfl (by (try simp only [List.map_toArray, List.map_cons, List.map_nil]); first | done | rfl) ?_
        refine (Sub_ref (ng q0) (ng one) A_q0_7 A_one_14 c_q0_7 c_one_14 (mg q0) (mg one) _ (hK.rd _ _ _ (by repeat (first | exact List.mem_cons_self | apply List.mem_cons_of_mem))) (hK.rd _ _ _ (by repeat (first | exact List.mem_cons_self | apply List.mem_cons_of_mem))) (by omega) (by omega) q0 one q1 (iv_canon _) (iv_canon _) E_q1.out).mono ?_
        rintro e w_7 ⟨A_q1_15, c_q1_15, rfl, hR, hb⟩
        refine ⟨_, rfl, ?_⟩
        replace hK := (hK.below hb).row hR
        clear hb hR
        refine hKK.out _ _ (And.intro ((hK.at_ (g := g9_9) (cs := [.bool (ng q0), .slice A_q0_7 (mg q0).length c_q0_7]) (t := 24) (by repeat (first | exact List.mem_cons_self | apply List.mem_cons_of_mem)) 0 rfl : World.cell? _ _ = some (.bool (ng q0)))) (And.intro ((hK.at_ (g := g9_9) (cs := [.bool (ng q0), .slice A_q0_7 (mg q0).length c_q0_7]) (t := 24) (by repeat (first | exact List.mem_cons_self | apply List.mem_cons_of_mem)) 1 rfl : World.cell? _ _ = some (.slice A_q0_7 (mg q0).length c_q0_7))) (And.intro ((hK.at_ (g := g10_10) (cs := [.bool (ng r0), .slice A_r0_8 (mg r0).length c_r0_8]) (t := 24) (by repeat (first | exact List.mem_cons_self | apply List.mem_cons_of_mem)) 0 rfl : World.cell? _ _ = some (.bool (ng r0)))) (And.intro ((hK.at_ (g := g10_10) (cs := [.bool (ng r0), .slice A_r0_8 (mg r0).length c_r0_8]) (t := 24) (by repeat (first | exact List.mem_cons_self | apply List.mem_cons_of_mem)) 1 rfl : World.cell? _ _ = some (.slice A_r0_8 (mg r0).length c_r0_8))) (And.intro ((hK.at_ (g := g3_2) (cs := [.bool (ng y), .slice A_y_6 (mg y).length c_y_6]) (t := 24) (by repeat (first | exact List.mem_cons_self | apply List.mem_cons_of_mem)) 0 rfl : World.cell? _ _ = some (.bool (ng y)))) ((hK.at_ (g := g3_2) (cs := [.bool (ng y), .slice A_y_6 (mg y).length c_y_6]) (t := 24) (by repeat (first | exact List.mem_cons_self | apply List.mem_cons_of_mem)) 1 rfl : World.cell? _ _ = some (.slice A_y_6 (mg y).length c_y_6)))))))) (fun hHeld => ?_)
        refine norm_ (a' := ?_) ?_ ?_
        rotate_left
        · show Act.put _ (some 53) _ = _
          simp only [Act.put, List.setIfInBounds_toArray, List.set_cons_zero, List.set_cons_succ, i64_w, i32_w]
          rfl
        refine one_ (i := 5) (N := some 56) #[true, true, true, true, true, true, false, false] rfl rfl (by kernel_rfl) (by decide) (fun KK hKK => ?_)
        refine goes_ Tryd.func32 (by kernel_rfl) rfl #[.agg #[.bool (ng r0), .slice A_r0_8 (mg r0).length c_r0_8], .agg #[.bool (ng y), .slice A_y_6 (mg y).length c_y_6]] (by rfl) rfl rfl (by (try simp only [List.map_toArray, List.map_cons, List.map_nil]); first | done | rfl) ?_
        refine (Add_ref (ng r0) (ng y) A_r0_8 A_y_6 c_r0_8 c_y_6 (mg r0) (mg y) _ (hK.rd _ _ _ (by repeat (first | exact List.mem_cons_self | apply List.mem_cons_of_mem))) (hK.rd _ _ _ (by repeat (first | exact List.mem_cons_self | apply List.mem_cons_of_mem))) (by omega) (by omega) r0 y r1 (iv_canon _) (iv_canon _) E_r1.out).mono ?_
        rintro e w_8 ⟨A_r1_16, c_r1_16, rfl, hR, hb⟩
        refine ⟨_, rfl, ?_⟩
        replace hK := (hK.below hb).row hR
        clear hb hR
        refine hKK.out _ _ (And.intro ((hK.at_ (g := g9_9) (cs := [.bool (ng q0), .slice A_q0_7 (mg q0).length c_q0_7]) (t := 24) (by repeat (first | exact List.mem_cons_self | apply List.mem_cons_of_mem)) 0 rfl : World.cell? _ _ = some (.bool (ng q0)))) (And.intro ((hK.at_ (g := g9_9) (cs := [.bool (ng q0), .slice A_q0_7 (mg q0).length c_q0_7]) (t := 24) (by repeat (first | exact List.mem_cons_self | apply List.mem_cons_of_mem)) 1 rfl : World.cell? _ _ = some (.slice A_q0_7 (mg q0).length c_q0_7))) (And.intro ((hK.at_ (g := g10_10) (cs := [.bool (ng r0), .slice A_r0_8 (mg r0).length c_r0_8]) (t := 24) (by repeat (first | exact List.mem_cons_self | apply List.mem_cons_of_mem)) 0 rfl : World.cell? _ _ = some (.bool (ng r0)))) (And.intro ((hK.at_ (g := g10_10) (cs := [.bool (ng r0), .slice A_r0_8 (mg r0).length c_r0_8]) (t := 24) (by repeat (first | exact List.mem_cons_self | apply List.mem_cons_of_mem)) 1 rfl : World.cell? _ _ = some (.slice A_r0_8 (mg r0).length c_r0_8))) (And.intro ((hK.at_ (g := g3_2) (cs := [.bool (ng y), .slice A_y_6 (mg y).length c_y_6]) (t := 24) (by repeat (first | exact List.mem_cons_self | apply List.mem_cons_of_mem)) 0 rfl : World.cell? _ _ = some (.bool (ng y)))) ((hK.at_ (g := g3_2) (cs := [.bool (ng y), .slice A_y_6 (mg y).length c_y_6]) (t := 24) (by repeat (first | exact List.mem_cons_self | apply List.mem_cons_of_mem)) 1 rfl : World.cell? _ _ = some (.slice A_y_6 (mg y).length c_y_6)))))))) (fun hHeld => ?_)
        refine norm_ (a' := ?_) ?_ ?_
        rotate_left
        · show Act.put _ (some 56) _ = _
          simp only [Act.put, List.setIfInBounds_toArray, List.set_cons_zero, List.set_cons_succ, i64_w, i32_w]
          rfl
        have hc := And.intro ((hK.at_ (g := g9_9) (cs := [.bool (ng q0), .slice A_q0_7 (mg q0).length c_q0_7]) (t := 24) (by repeat (first | exact List.mem_cons_self | apply List.mem_cons_of_mem)) 0 rfl : World.cell? _ _ = some (.bool (ng q0)))) (And.intro ((hK.at_ (g := g9_9) (cs := [.bool (ng q0), .slice A_q0_7 (mg q0).length c_q0_7]) (t := 24) (by repeat (first | exact List.mem_cons_self | apply List.mem_cons_of_mem)) 1 rfl : World.cell? _ _ = some (.slice A_q0_7 (mg q0).length c_q0_7))) (And.intro (hK.free (g := g9_9) (cs := [.bool (ng q0), .slice A_q0_7 (mg q0).length c_q0_7]) (t := 24) (by repeat (first | exact List.mem_cons_self | apply List.mem_cons_of_mem)) 0) (hK.free (g := g9_9) (cs := [.bool (ng q0), .slice A_q0_7 (mg q0).length c_q0_7]) (t := 24) (by repeat (first | exact List.mem_cons_self | apply List.mem_cons_of_mem)) 1)))
        refine last_ (i := 6) (N := none) #[true, true, true, true, true, true, true, false] rfl rfl (by kernel_rfl) (by decide) (fun KK hKK => ?_)
        refine skip_ (w1 := ?_) (by rfl) rfl ?_ ?_
        rotate_left
        · go_simp
          rfl
        clear hc
        replace hK := ((hK.put 1 0 (.bool (ng q1)) (by rfl) (by intro x h; cases h) (by rfl)).put 1 1 (.slice A_q1_15 (mg q1).length c_q1_15) (by rfl) (by intro x h; cases h) (by rfl))
        refine hKK.out _ _ ?_
        have hc := And.intro ((hK.at_ (g := g10_10) (cs := [.bool (ng r0), .slice A_r0_8 (mg r0).length c_r0_8]) (t := 24) (by repeat (first | exact List.mem_cons_self | apply List.mem_cons_of_mem)) 0 rfl : World.cell? _ _ = some (.bool (ng r0)))) (And.intro ((hK.at_ (g := g10_10) (cs := [.bool (ng r0), .slice A_r0_8 (mg r0).length c_r0_8]) (t := 24) (by repeat (first | exact List.mem_cons_self | apply List.mem_cons_of_mem)) 1 rfl : World.cell? _ _ = some (.slice A_r0_8 (mg r0).length c_r0_8))) (And.intro (hK.free (g := g10_10) (cs := [.bool (ng r0), .slice A_r0_8 (mg r0).length c_r0_8]) (t := 24) (by repeat (first | exact List.mem_cons_self | apply List.mem_cons_of_mem)) 0) (hK.free (g := g10_10) (cs := [.bool (ng r0), .slice A_r0_8 (mg r0).length c_r0_8]) (t := 24) (by repeat (first | exact List.mem_cons_self | apply List.mem_cons_of_mem)) 1)))
        refine last_ (i := 7) (N := none) #[true, true, true, true, true, true, true, true] rfl rfl (by kernel_rfl) (by decide) (fun KK hKK => ?_)
        refine skip_ (w1 := ?_) (by rfl) rfl ?_ ?_
        rotate_left
        · go_simp
          rfl
        clear hc
        replace hK := ((hK.put 0 0 (.bool (ng r1)) (by rfl) (by intro x h; cases h) (by rfl)).put 0 1 (.slice A_r1_16 (mg r1).length c_r1_16) (by rfl) (by intro x h; cases h) (by rfl))
        refine hKK.out _ _ ?_
        refine done_ (by kernel_rfl) ?_
        go_wp2
        go_meet
        exact ⟨A_one_14, c_one_14, A_q1_15, c_q1_15, A_r1_16, c_r1_16, ⟨hK⟩⟩
      clear hK
      obtain ⟨A_one_14, c_one_14, A_q1_15, c_q1_15, A_r1_16, c_r1_16, hK0⟩ := hcut
      have hK := hK0.out
      clear hK0
      go_upto_region 8 with (fail)
      go_cut [6] (fun v6 wc => v6 = .int .i64 0 ∧ Aside0 (KP w wc [(g10_10, [.bool (ng r1), .slice A_r1_16 (mg r1).length c_r1_16], 24), (g9_9, [.bool (ng q1), .slice A_q1_15 (mg q1).length c_q1_15], 24), (g5_4, [.bool (ng r1), .slice A_r1_16 (mg r1).length c_r1_16], 24), (g4_3, [.bool (ng q1), .slice A_q1_15 (mg q1).length c_q1_15], 24), (g3_2, [.bool (ng y), .slice A_y_6 (mg y).length c_y_6], 24), (g2_1, [.bool (ng x), .slice A_x_5 (mg x).length c_x_5], 24)] [(A_r1_16, c_r1_16, (mg r1)), (A_q1_15, c_q1_15, (mg q1)), (A_one_14, c_one_14, (mg one)), (A_r0_8, c_r0_8, (mg r0)), (A_q0_7, c_q0_7, (mg q0)), (A_r, c_r, rs), (A_q, c_q, qs), (A_y_6, c_y_6, (mg y)), (A_x_5, c_x_5, (mg x)), (A1, c1, xs1), (A0, c0, xs0)]))
      case first =>
        replace hK := hK.drew
        refine start_ (n := 5) (S := (fun W => W.cell? ⟨g9_9, 0, none⟩ = some (.bool (ng q1)) ∧ W.cell? ⟨g9_9, 1, none⟩ = some (.slice A_q1_15 (mg q1).length c_q1_15) ∧ W.cell? ⟨g10_10, 0, none⟩ = some (.bool (ng r1)) ∧ W.cell? ⟨g10_10, 1, none⟩ = some (.slice A_r1_16 (mg r1).length c_r1_16))) (ds := []) #[false, false, false, false, false] (by kernel_rfl) rfl rfl (And.intro ((hK.at_ (g := g9_9) (cs := [.bool (ng q1), .slice A_q1_15 (mg q1).length c_q1_15]) (t := 24) (by repeat (first | exact List.mem_cons_self | apply List.mem_cons_of_mem)) 0 rfl : World.cell? _ _ = some (.bool (ng q1)))) (And.intro ((hK.at_ (g := g9_9) (cs := [.bool (ng q1), .slice A_q1_15 (mg q1).length c_q1_15]) (t := 24) (by repeat (first | exact List.mem_cons_self | apply List.mem_cons_of_mem)) 1 rfl : World.cell? _ _ = some (.slice A_q1_15 (mg q1).length c_q1_15))) (And.intro ((hK.at_ (g := g10_10) (cs := [.bool (ng r1), .slice A_r1_16 (mg r1).length c_r1_16]) (t := 24) (by repeat (first | exact List.mem_cons_self | apply List.mem_cons_of_mem)) 0 rfl : World.cell? _ _ = some (.bool (ng r1)))) ((hK.at_ (g := g10_10) (cs := [.bool (ng r1), .slice A_r1_16 (mg r1).length c_r1_16]) (t := 24) (by repeat (first | exact List.mem_cons_self | apply List.mem_cons_of_mem)) 1 rfl : World.cell? _ _ = some (.slice A_r1_16 (mg r1).length c_r1_16)))))) (fun hHeld => ?_)
        generalize World.drew _ = wd at hK hHeld ⊢
        refine take_ (i := 0) (N := some 57) (v := ?_) (a' := ?_) #[true, false, false, false, false] rfl rfl (by kernel_rfl) (fun _ _ _ h => h) (Or.inl ⟨by rfl, ?_⟩) hHeld ?_ ?_
        rotate_left
        · rintro w' ⟨s0, s1, s2, s3⟩
          go_simp
          with_reducible rfl
        rotate_left
        · simp only [Act.put, List.setIfInBounds_toArray, List.set_cons_zero, List.set_cons_succ, i64_w, i32_w]
          rfl
        refine take_ (i := 1) (N := some 58) (v := ?_) (a' := ?_) #[true, true, false, false, false] rfl rfl (by kernel_rfl) (fun _ _ _ h => h) (Or.inl ⟨by rfl, ?_⟩) hHeld ?_ ?_
        rotate_left
        · rintro w' ⟨s0, s1, s2, s3⟩
          go_simp
          with_reducible rfl
        rotate_left
        · simp only [Act.put, List.setIfInBounds_toArray, List.set_cons_zero, List.set_cons_succ, i64_w, i32_w]
          rfl
        have hc := And.intro ((hK.at_ (g := g4_3) (cs := [.bool false, .slice none 0 0]) (t := 24) (by repeat (first | exact List.mem_cons_self | apply List.mem_cons_of_mem)) 0 rfl : World.cell? _ _ = some (.bool false))) (And.intro ((hK.at_ (g := g4_3) (cs := [.bool false, .slice none 0 0]) (t := 24) (by repeat (first | exact List.mem_cons_self | apply List.mem_cons_of_mem)) 1 rfl : World.cell? _ _ = some (.slice none 0 0))) (And.intro (hK.free (g := g4_3) (cs := [.bool false, .slice none 0 0]) (t := 24) (by repeat (first | exact List.mem_cons_self | apply List.mem_cons_of_mem)) 0) (hK.free (g := g4_3) (cs := [.bool false, .slice none 0 0]) (t := 24) (by repeat (first | exact List.mem_cons_self | apply List.mem_cons_of_mem)) 1)))
        refine one_ (i := 2) (N := none) #[true, true, true, false, false] rfl rfl (by kernel_rfl) (by decide) (fun KK hKK => ?_)
        refine skip_ (w1 := ?_) (by rfl) rfl ?_ ?_
        rotate_left
        · go_simp
          rfl
        clear hc
        replace hK := ((hK.put 3 0 (.bool (ng q1)) (by rfl) (by intro x h; cases h) (by rfl)).put 3 1 (.slice A_q1_15 (mg q1).length c_q1_15) (by rfl) (by intro x h; cases h) (by rfl))
        refine hKK.out _ _ (And.intro ((hK.at_ (g := g9_9) (cs := [.bool (ng q1), .slice A_q1_15 (mg q1).length c_q1_15]) (t := 24) (by repeat (first | exact List.mem_cons_self | apply List.mem_cons_of_mem)) 0 rfl : World.cell? _ _ = some (.bool (ng q1)))) (And.intro ((hK.at_ (g := g9_9) (cs := [.bool (ng q1), .slice A_q1_15 (mg q1).length c_q1_15]) (t := 24) (by repeat (first | exact List.mem_cons_self | apply List.mem_cons_of_mem)) 1 rfl : World.cell? _ _ = some (.slice A_q1_15 (mg q1).length c_q1_15))) (And.intro ((hK.at_ (g := g10_10) (cs := [.bool (ng r1), .slice A_r1_16 (mg r1).length c_r1_16]) (t := 24) (by repeat (first | exact List.mem_cons_self | apply List.mem_cons_of_mem)) 0 rfl : World.cell? _ _ = some (.bool (ng r1)))) ((hK.at_ (g := g10_10) (cs := [.bool (ng r1), .slice A_r1_16 (mg r1).length c_r1_16]) (t := 24) (by repeat (first | exact List.mem_cons_self | apply List.mem_cons_of_mem)) 1 rfl : World.cell? _ _ = some (.slice A_r1_16 (mg r1).length c_r1_16)))))) (fun hHeld => ?_)
        have hc := And.intro ((hK.at_ (g := g5_4) (cs := [.bool false, .slice none 0 0]) (t := 24) (by repeat (first | exact List.mem_cons_self | apply List.mem_cons_of_mem)) 0 rfl : World.cell? _ _ = some (.bool false))) (And.intro ((hK.at_ (g := g5_4) (cs := [.bool false, .slice none 0 0]) (t := 24) (by repeat (first | exact List.mem_cons_self | apply List.mem_cons_of_mem)) 1 rfl : World.cell? _ _ = some (.slice none 0 0))) (And.intro (hK.free (g := g5_4) (cs := [.bool false, .slice none 0 0]) (t := 24) (by repeat (first | exact List.mem_cons_self | apply List.mem_cons_of_mem)) 0) (hK.free (g := g5_4) (cs := [.bool false, .slice none 0 0]) (t := 24) (by repeat (first | exact List.mem_cons_self | apply List.mem_cons_of_mem)) 1)))
        refine one_ (i := 3) (N := none) #[true, true, true, true, false] rfl rfl (by kernel_rfl) (by decide) (fun KK hKK => ?_)
        refine skip_ (w1 := ?_) (by rfl) rfl ?_ ?_
        rotate_left
        · go_simp
          rfl
        clear hc
        replace hK := ((hK.put 2 0 (.bool (ng r1)) (by rfl) (by intro x h; cases h) (by rfl)).put 2 1 (.slice A_r1_16 (mg r1).length c_r1_16) (by rfl) (by intro x h; cases h) (by rfl))
        refine hKK.out _ _ (And.intro ((hK.at_ (g := g9_9) (cs := [.bool (ng q1), .slice A_q1_15 (mg q1).length c_q1_15]) (t := 24) (by repeat (first | exact List.mem_cons_self | apply List.mem_cons_of_mem)) 0 rfl : World.cell? _ _ = some (.bool (ng q1)))) (And.intro ((hK.at_ (g := g9_9) (cs := [.bool (ng q1), .slice A_q1_15 (mg q1).length c_q1_15]) (t := 24) (by repeat (first | exact List.mem_cons_self | apply List.mem_cons_of_mem)) 1 rfl : World.cell? _ _ = some (.slice A_q1_15 (mg q1).length c_q1_15))) (And.intro ((hK.at_ (g := g10_10) (cs := [.bool (ng r1), .slice A_r1_16 (mg r1).length c_r1_16]) (t := 24) (by repeat (first | exact List.mem_cons_self | apply List.mem_cons_of_mem)) 0 rfl : World.cell? _ _ = some (.bool (ng r1)))) ((hK.at_ (g := g10_10) (cs := [.bool (ng r1), .slice A_r1_16 (mg r1).length c_r1_16]) (t := 24) (by repeat (first | exact List.mem_cons_self | apply List.mem_cons_of_mem)) 1 rfl : World.cell? _ _ = some (.slice A_r1_16 (mg r1).length c_r1_16)))))) (fun hHeld => ?_)
        refine pure_ (i := 4) (N := some 6) (v := ?_) (a' := ?_) #[true, true, true, true, true] rfl rfl (by kernel_rfl) (fun _ _ _ h => h) (Or.inl ⟨by rfl, ?_⟩) ?_ ?_
        rotate_left
        · intro w'
          go_simp
          with_reducible rfl
        rotate_left
        · simp only [Act.put, List.setIfInBounds_toArray, List.set_cons_zero, List.set_cons_succ, i64_w, i32_w]
          rfl
        refine done_ (by kernel_rfl) ?_
        go_wp2
        go_meet
        exact ⟨rfl, ⟨hK⟩⟩
      clear hK
      obtain ⟨rfl, hK0⟩ := hcut
      have hK := hK0.out
      clear hK0
      have hd := dm_ref x y q0 r0 qs rs HY.out F_d.out.1 F_d.out.2.1 E_q0.out E_r0.out
      have hq := hd.2 (by have := hphb11; omega) hb13
      rw [E_r1.out] at hq
      have h1 : q0 - one = q1 := E_q1.out
      have h2 : 1 = one := E_one.out
      rw [h2, h1] at hq
      have e1 := hq.1.trans HQ.out.1
      have e2 := hq.2.trans HQ.out.2
      clear hq hd
      subst e1 e2
      have rr0_0 := (hK.at_ (g := g4_3) (cs := [.bool (ng q1), .slice A_q1_15 (mg q1).length c_q1_15]) (t := 24) (by repeat (first | exact List.mem_cons_self | apply List.mem_cons_of_mem)) 0 rfl : World.cell? _ _ = some (.bool (ng q1)))
      have rr0_1 := (hK.at_ (g := g4_3) (cs := [.bool (ng q1), .slice A_q1_15 (mg q1).length c_q1_15]) (t := 24) (by repeat (first | exact List.mem_cons_self | apply List.mem_cons_of_mem)) 1 rfl : World.cell? _ _ = some (.slice A_q1_15 (mg q1).length c_q1_15))
      have rr1_0 := (hK.at_ (g := g5_4) (cs := [.bool (ng r1), .slice A_r1_16 (mg r1).length c_r1_16]) (t := 24) (by repeat (first | exact List.mem_cons_self | apply List.mem_cons_of_mem)) 0 rfl : World.cell? _ _ = some (.bool (ng r1)))
      have rr1_1 := (hK.at_ (g := g5_4) (cs := [.bool (ng r1), .slice A_r1_16 (mg r1).length c_r1_16]) (t := 24) (by repeat (first | exact List.mem_cons_self | apply List.mem_cons_of_mem)) 1 rfl : World.cell? _ _ = some (.slice A_r1_16 (mg r1).length c_r1_16))
      go_wp2
      exact bodyPost_ret (v := .tuple #[.agg #[.bool (ng q1), .slice A_q1_15 (mg q1).length c_q1_15], .agg #[.bool (ng r1), .slice A_r1_16 (mg r1).length c_r1_16], .int .i64 0]) (by simp [results, Tryd.results15, go_sem, rr0_0, rr0_1, rr1_0, rr1_1]) rfl ⟨_, _, _, _, rfl, hK.rd _ _ _ (by repeat (first | exact List.mem_cons_self | apply List.mem_cons_of_mem)), hK.rd _ _ _ (by repeat (first | exact List.mem_cons_self | apply List.mem_cons_of_mem)), hK.be⟩
theorem DivMod_ref (n0 n1 : Bool) (A0 A1 : Option Addr) (c0 c1 : Nat) (xs ys : List Int) (w : World) (h0 : Rd w A0 c0 xs) (h1 : Rd w A1 c1 ys) (hl0 : xs.length ≤ 100000000000) (hl1 : ys.length ≤ 100000000000) (x y q r : Int) (hx : iv n0 xs = x) (hy : iv n1 ys = y) (hy0 : y ≠ 0) (hq : x.fdiv y = q) (hr : x.fmod y = r) :
    Calls Tryd.prog 15 #[.agg #[.bool n0, .slice A0 xs.length c0], .agg #[.bool n1, .slice A1 ys.length c1]] w fun e w' => Res2 e w w' q r 0 :=
  DivMod_gen n0 n1 A0 A1 c0 c1 xs ys w h0 h1 100000000000 (Nat.le_refl _) hl0 hl1 x y q r hx hy hy0 hq hr
set_option maxHeartbeats 4000000 in
set_option maxRecDepth 100000 in
theorem DivMod_ref0 (n0 : Bool) (n1 : Bool) (A0 : Option Addr) (A1 : Option Addr) (c0 : Nat) (c1 : Nat) (xs0 : List Int) (xs1 : List Int) (w : World) (h0 : Rd w A0 c0 xs0) (h1 : Rd w A1 c1 xs1) (N : Nat) (hN : N ≤ 100000000000) (hl0 : xs0.length ≤ N) (hl1 : xs1.length ≤ N) (x : Int) (y : Int) (e0 : iv n0 xs0 = x) (e1 : iv n1 xs1 = y) (hy0 : y = 0) :
    Calls Tryd.prog 15 #[.agg #[.bool n0, .slice A0 xs0.length c0], .agg #[.bool n1, .slice A1 xs1.length c1]] w fun e w' => Res2 e w w' 0 0 11 := by
  have E_x := Aside0.mk e0
  have l_x : (mg x).length ≤ N := by rw [← e0]; exact mg_iv_le n0 h0.dig hl0
  clear e0
  have E_y := Aside0.mk e1
  have l_y : (mg y).length ≤ N := by rw [← e1]; exact mg_iv_le n1 h1.dig hl1
  clear e1
  have hK := (((KP.start w).row h0).row h1)
  have hbY : (((mg y).length : Int) == 0) = true := by rw [(mg_nil y).2 hy0]; rfl
  clear hy0
  go_enter Tryd.func15, Tryd.ntmps15
  go_upto_region 0 with (fail)
  go_cut [2, 3, 4, 5, 6] (fun v2 v3 v4 v5 v6 wc => ∃ (g2_1 : Nat) (g3_2 : Nat) (g4_3 : Nat) (g5_4 : Nat), v2 = .pointer (some ⟨g2_1, 0, none⟩) ∧ v3 = .pointer (some ⟨g3_2, 0, none⟩) ∧ v4 = .pointer (some ⟨g4_3, 0, none⟩) ∧ v5 = .pointer (some ⟨g5_4, 0, none⟩) ∧ v6 = .int .i64 0 ∧ Aside0 (KP w wc [(g5_4, [.bool false, .slice none 0 0], 24), (g4_3, [.bool false, .slice none 0 0], 24), (g3_2, [.bool n1, .slice A1 xs1.length c1], 24), (g2_1, [.bool n0, .slice A0 xs0.length c0], 24)] [(A1, c1, xs1), (A0, c0, xs0)]))
  case first =>
    go_wp2
    go_meet
    all_goals refine ⟨_, _, _, _, rfl, rfl, rfl, rfl, rfl, ⟨?_⟩⟩
    all_goals first
      | (exact ((((hK.new [.bool n0, .slice A0 xs0.length c0] 24 (NoDig.bool _ (NoDig.slice _ _ _ NoDig.nil)) (by first | rfl | simp)).new [.bool n1, .slice A1 xs1.length c1] 24 (NoDig.bool _ (NoDig.slice _ _ _ NoDig.nil)) (by first | rfl | simp)).new [.bool false, .slice none 0 0] 24 (NoDig.bool _ (NoDig.slice _ _ _ NoDig.nil)) (by first | rfl | simp)).new [.bool false, .slice none 0 0] 24 (NoDig.bool _ (NoDig.slice _ _ _ NoDig.nil)) (by first | rfl | simp)))
  clear hK
  obtain ⟨g2_1, g3_2, g4_3, g5_4, rfl, rfl, rfl, rfl, rfl, hK0⟩ := hcut
  have hK := hK0.out
  clear hK0
  go_upto_region 1 with (fail)
  go_cut [] (fun wc => ∃ (A_x_5 : Option Addr) (c_x_5 : Nat) (A_y_6 : Option Addr) (c_y_6 : Nat), Aside0 (KP w wc [(g5_4, [.bool false, .slice none 0 0], 24), (g4_3, [.bool false, .slice none 0 0], 24), (g3_2, [.bool (ng y), .slice A_y_6 (mg y).length c_y_6], 24), (g2_1, [.bool (ng x), .slice A_x_5 (mg x).length c_x_5], 24)] [(A_y_6, c_y_6, (mg y)), (A_x_5, c_x_5, (mg x)), (A1, c1, xs1), (A0, c0, xs0)]))
  case first =>
    replace hK := hK.drew
    refine start_ (n := 6) (S := (fun W => W.cell? ⟨g2_1, 0, none⟩ = some (.bool n0) ∧ W.cell? ⟨g2_1, 1, none⟩ = some (.slice A0 xs0.length c0) ∧ W.cell? ⟨g3_2, 0, none⟩ = some (.bool n1) ∧ W.cell? ⟨g3_2, 1, none⟩ = some (.slice A1 xs1.length c1))) (ds := [4, 5]) #[false, false, false, false, false, false] (by kernel_rfl) rfl rfl (And.intro ((hK.at_ (g := g2_1) (cs := [.bool n0, .slice A0 xs0.length c0]) (t := 24) (by repeat (first | exact List.mem_cons_self | apply List.mem_cons_of_mem)) 0 rfl : World.cell? _ _ = some (.bool n0))) (And.intro ((hK.at_ (g := g2_1) (cs := [.bool n0, .slice A0 xs0.length c0]) (t := 24) (by repeat (first | exact List.mem_cons_self | apply List.mem_cons_of_mem)) 1 rfl : World.cell? _ _ = some (.slice A0 xs0.length c0))) (And.intro ((hK.at_ (g := g3_2) (cs := [.bool n1, .slice A1 xs1.length c1]) (t := 24) (by repeat (first | exact List.mem_cons_self | apply List.mem_cons_of_mem)) 0 rfl : World.cell? _ _ = some (.bool n1))) ((hK.at_ (g := g3_2) (cs := [.bool n1, .slice A1 xs1.length c1]) (t := 24) (by repeat (first | exact List.mem_cons_self | apply List.mem_cons_of_mem)) 1 rfl : World.cell? _ _ = some (.slice A1 xs1.length c1)))))) (fun hHeld => ?_)
    generalize World.drew _ = wd at hK hHeld ⊢
    refine take_ (i := 0) (N := some 11) (v := ?_) (a' := ?_) #[true, false, false, false, false, false] rfl rfl (by kernel_rfl) (fun _ _ _ h => h) (Or.inl ⟨by rfl, ?_⟩) hHeld ?_ ?_
    rotate_left
    · rintro w' ⟨s0, s1, s2, s3⟩
      go_simp
      with_reducible rfl
    rotate_left
    · simp only [Act.put, List.setIfInBounds_toArray, List.set_cons_zero, List.set_cons_succ, i64_w, i32_w]
      rfl
    refine take_ (i := 2) (N := some 13) (v := ?_) (a' := ?_) #[true, false, true, false, false, false] rfl rfl (by kernel_rfl) (fun _ _ _ h => h) (Or.inl ⟨by rfl, ?_⟩) hHeld ?_ ?_
    rotate_left
    · rintro w' ⟨s0, s1, s2, s3⟩
      go_simp
      with_reducible rfl
    rotate_left
    · simp only [Act.put, List.setIfInBounds_toArray, List.set_cons_zero, List.set_cons_succ, i64_w, i32_w]
      rfl
    refine one_ (i := 1) (N := some 12) #[true, true, true, false, false, false] rfl rfl (by kernel_rfl) (by decide) (fun KK hKK => ?_)
    refine goes_ Tryd.func39 (by kernel_rfl) rfl #[.agg #[.bool n0, .slice A0 xs0.length c0]] (by rfl) rfl rfl (by (try simp only [List.map_toArray, List.map_cons, List.map_nil]); first | done | rfl) ?_
    refine (Canon_v n0 A0 c0 xs0 _ (hK.rd _ _ _ (by repeat (first | exact List.mem_cons_self | apply List.mem_cons_of_mem))) (by omega) x E_x.out).mono ?_
    rintro e w_1 ⟨A_x_5, c_x_5, rfl, hR, hb⟩
    refine ⟨_, rfl, ?_⟩
    replace hK := (hK.below hb).row hR
    clear hb hR
    refine hKK.out _ _ (And.intro ((hK.at_ (g := g2_1) (cs := [.bool n0, .slice A0 xs0.length c0]) (t := 24) (by repeat (first | exact List.mem_cons_self | apply List.mem_cons_of_mem)) 0 rfl : World.cell? _ _ = some (.bool n0))) (And.intro ((hK.at_ (g := g2_1) (cs := [.bool n0, .slice A0 xs0.length c0]) (t := 24) (by repeat (first | exact List.mem_cons_self | apply List.mem_cons_of_mem)) 1 rfl : World.cell? _ _ = some (.slice A0 xs0.length c0))) (And.intro ((hK.at_ (g := g3_2) (cs := [.bool n1, .slice A1 xs1.length c1]) (t := 24) (by repeat (first | exact List.mem_cons_self | apply List.mem_cons_of_mem)) 0 rfl : World.cell? _ _ = some (.bool n1))) ((hK.at_ (g := g3_2) (cs := [.bool n1, .slice A1 xs1.length c1]) (t := 24) (by repeat (first | exact List.mem_cons_self | apply List.mem_cons_of_mem)) 1 rfl : World.cell? _ _ = some (.slice A1 xs1.length c1)))))) (fun hHeld => ?_)
    refine norm_ (a' := ?_) ?_ ?_
    rotate_left
    · show Act.put _ (some 12) _ = _
      simp only [Act.put, List.setIfInBounds_toArray, List.set_cons_zero, List.set_cons_succ, i64_w, i32_w]
      rfl
    refine one_ (i := 3) (N := some 14) #[true, true, true, true, false, false] rfl rfl (by kernel_rfl) (by decide) (fun KK hKK => ?_)
    refine goes_ Tryd.func39 (by kernel_rfl) rfl #[.agg #[.bool n1, .slice A1 xs1.length c1]] (by rfl) rfl rfl (by (try simp only [List.map_toArray, List.map_cons, List.map_nil]); first | done | rfl) ?_
    refine (Canon_v n1 A1 c1 xs1 _ (hK.rd _ _ _ (by repeat (first | exact List.mem_cons_self | apply List.mem_cons_of_mem))) (by omega) y E_y.out).mono ?_
    rintro e w_2 ⟨A_y_6, c_y_6, rfl, hR, hb⟩
    refine ⟨_, rfl, ?_⟩
    replace hK := (hK.below hb).row hR
    clear hb hR
    refine hKK.out _ _ (And.intro ((hK.at_ (g := g2_1) (cs := [.bool n0, .slice A0 xs0.length c0]) (t := 24) (by repeat (first | exact List.mem_cons_self | apply List.mem_cons_of_mem)) 0 rfl : World.cell? _ _ = some (.bool n0))) (And.intro ((hK.at_ (g := g2_1) (cs := [.bool n0, .slice A0 xs0.length c0]) (t := 24) (by repeat (first | exact List.mem_cons_self | apply List.mem_cons_of_mem)) 1 rfl : World.cell? _ _ = some (.slice A0 xs0.length c0))) (And.intro ((hK.at_ (g := g3_2) (cs := [.bool n1, .slice A1 xs1.length c1]) (t := 24) (by repeat (first | exact List.mem_cons_self | apply List.mem_cons_of_mem)) 0 rfl : World.cell? _ _ = some (.bool n1))) ((hK.at_ (g := g3_2) (cs := [.bool n1, .slice A1 xs1.length c1]) (t := 24) (by repeat (first | exact List.mem_cons_self | apply List.mem_cons_of_mem)) 1 rfl : World.cell? _ _ = some (.slice A1 xs1.length c1)))))) (fun hHeld => ?_)
    refine norm_ (a' := ?_) ?_ ?_
    rotate_left
    · show Act.put _ (some 14) _ = _
      simp only [Act.put, List.setIfInBounds_toArray, List.set_cons_zero, List.set_cons_succ, i64_w, i32_w]
      rfl
    have hc := And.intro ((hK.at_ (g := g2_1) (cs := [.bool n0, .slice A0 xs0.length c0]) (t := 24) (by repeat (first | exact List.mem_cons_self | apply List.mem_cons_of_mem)) 0 rfl : World.cell? _ _ = some (.bool n0))) (And.intro ((hK.at_ (g := g2_1) (cs := [.bool n0, .slice A0 xs0.length c0]) (t := 24) (by repeat (first | exact List.mem_cons_self | apply List.mem_cons_of_mem)) 1 rfl : World.cell? _ _ = some (.slice A0 xs0.length c0))) (And.intro (hK.free (g := g2_1) (cs := [.bool n0, .slice A0 xs0.length c0]) (t := 24) (by repeat (first | exact List.mem_cons_self | apply List.mem_cons_of_mem)) 0) (hK.free (g := g2_1) (cs := [.bool n0, .slice A0 xs0.length c0]) (t := 24) (by repeat (first | exact List.mem_cons_self | apply List.mem_cons_of_mem)) 1)))
    refine last_ (i := 4) (N := none) #[true, true, true, true, true, false] rfl rfl (by kernel_rfl) (by decide) (fun KK hKK => ?_)
    refine skip_ (w1 := ?_) (by rfl) rfl ?_ ?_
    rotate_left
    · go_simp
      rfl
    clear hc
    replace hK := ((hK.put 3 0 (.bool (ng x)) (by rfl) (by intro x h; cases h) (by rfl)).put 3 1 (.slice A_x_5 (mg x).length c_x_5) (by rfl) (by intro x h; cases h) (by rfl))
    refine hKK.out _ _ ?_
    have hc := And.intro ((hK.at_ (g := g3_2) (cs := [.bool n1, .slice A1 xs1.length c1]) (t := 24) (by repeat (first | exact List.mem_cons_self | apply List.mem_cons_of_mem)) 0 rfl : World.cell? _ _ = some (.bool n1))) (And.intro ((hK.at_ (g := g3_2) (cs := [.bool n1, .slice A1 xs1.length c1]) (t := 24) (by repeat (first | exact List.mem_cons_self | apply List.mem_cons_of_mem)) 1 rfl : World.cell? _ _ = some (.slice A1 xs1.length c1))) (And.intro (hK.free (g := g3_2) (cs := [.bool n1, .slice A1 xs1.length c1]) (t := 24) (by repeat (first | exact List.mem_cons_self | apply List.mem_cons_of_mem)) 0) (hK.free (g := g3_2) (cs := [.bool n1, .slice A1 xs1.length c1]) (t := 24) (by repeat (first | exact List.mem_cons_self | apply List.mem_cons_of_mem)) 1)))
    refine last_ (i := 5) (N := none) #[true, true, true, true, true, true] rfl rfl (by kernel_rfl) (by decide) (fun KK hKK => ?_)
    refine skip_ (w1 := ?_) (by rfl) rfl ?_ ?_
    rotate_left
    · go_simp
      rfl
    clear hc
    replace hK := ((hK.put 2 0 (.bool (ng y)) (by rfl) (by intro x h; cases h) (by rfl)).put 2 1 (.slice A_y_6 (mg y).length c_y_6) (by rfl) (by intro x h; cases h) (by rfl))
    refine hKK.out _ _ ?_
    refine done_ (by kernel_rfl) ?_
    go_wp2
    go_meet
    exact ⟨A_x_5, c_x_5, A_y_6, c_y_6, ⟨hK⟩⟩
  clear hK
  obtain ⟨A_x_5, c_x_5, A_y_6, c_y_6, hK0⟩ := hcut
  have hK := hK0.out
  clear hK0
  go_upto_region 2 with (fail)
  go_cut [18] (fun v18 wc => v18 = .bool true ∧ Aside0 (KP w wc [(g5_4, [.bool false, .slice none 0 0], 24), (g4_3, [.bool false, .slice none 0 0], 24), (g3_2, [.bool (ng y), .slice A_y_6 (mg y).length c_y_6], 24), (g2_1, [.bool (ng x), .slice A_x_5 (mg x).length c_x_5], 24)] [(A_y_6, c_y_6, (mg y)), (A_x_5, c_x_5, (mg x)), (A1, c1, xs1), (A0, c0, xs0)]))
  case first =>
    have hc := And.intro ((hK.at_ (g := g3_2) (cs := [.bool (ng y), .slice A_y_6 (mg y).length c_y_6]) (t := 24) (by repeat (first | exact List.mem_cons_self | apply List.mem_cons_of_mem)) 0 rfl : World.cell? _ _ = some (.bool (ng y)))) ((hK.at_ (g := g3_2) (cs := [.bool (ng y), .slice A_y_6 (mg y).length c_y_6]) (t := 24) (by repeat (first | exact List.mem_cons_self | apply List.mem_cons_of_mem)) 1 rfl : World.cell? _ _ = some (.slice A_y_6 (mg y).length c_y_6)))
    go_wp2
    go_meet
    exact ⟨rfl, ⟨hK⟩⟩
  clear hK
  obtain ⟨rfl, hK0⟩ := hcut
  have hK := hK0.out
  clear hK0
  go_upto_region 3 with (fail)
  go_cut [6] (fun v6 wc => v6 = .int .i64 11 ∧ Aside0 (KP w wc [(g5_4, [.bool false, .slice none 0 0], 24), (g4_3, [.bool false, .slice none 0 0], 24), (g3_2, [.bool (ng y), .slice A_y_6 (mg y).length c_y_6], 24), (g2_1, [.bool (ng x), .slice A_x_5 (mg x).length c_x_5], 24)] [(A_y_6, c_y_6, (mg y)), (A_x_5, c_x_5, (mg x)), (A1, c1, xs1), (A0, c0, xs0)]))
  case first =>
    have hc := And.intro ((hK.at_ (g := g4_3) (cs := [.bool false, .slice none 0 0]) (t := 24) (by repeat (first | exact List.mem_cons_self | apply List.mem_cons_of_mem)) 0 rfl : World.cell? _ _ = some (.bool false))) (And.intro ((hK.at_ (g := g4_3) (cs := [.bool false, .slice none 0 0]) (t := 24) (by repeat (first | exact List.mem_cons_self | apply List.mem_cons_of_mem)) 1 rfl : World.cell? _ _ = some (.slice none 0 0))) (And.intro ((hK.at_ (g := g5_4) (cs := [.bool false, .slice none 0 0]) (t := 24) (by repeat (first | exact List.mem_cons_self | apply List.mem_cons_of_mem)) 0 rfl : World.cell? _ _ = some (.bool false))) (And.intro ((hK.at_ (g := g5_4) (cs := [.bool false, .slice none 0 0]) (t := 24) (by repeat (first | exact List.mem_cons_self | apply List.mem_cons_of_mem)) 1 rfl : World.cell? _ _ = some (.slice none 0 0))) (And.intro (hK.free (g := g4_3) (cs := [.bool false, .slice none 0 0]) (t := 24) (by repeat (first | exact List.mem_cons_self | apply List.mem_cons_of_mem)) 0) (And.intro (hK.free (g := g4_3) (cs := [.bool false, .slice none 0 0]) (t := 24) (by repeat (first | exact List.mem_cons_self | apply List.mem_cons_of_mem)) 1) (And.intro (hK.free (g := g5_4) (cs := [.bool false, .slice none 0 0]) (t := 24) (by repeat (first | exact List.mem_cons_self | apply List.mem_cons_of_mem)) 0) (And.intro (hK.free (g := g5_4) (cs := [.bool false, .slice none 0 0]) (t := 24) (by repeat (first | exact List.mem_cons_self | apply List.mem_cons_of_mem)) 1) ((hK.apart 0 1 rfl rfl rfl : ¬ g5_4 = g4_3 ∧ ¬ g4_3 = g5_4)))))))))
    go_wp2
    go_meet
    replace hK := ((((hK.put 1 0 (.bool false) (by rfl) (by intro x h; cases h) (by rfl)).put 1 1 (.slice none 0 0) (by rfl) (by intro x h; cases h) (by rfl)).put 0 0 (.bool false) (by rfl) (by intro x h; cases h) (by rfl)).put 0 1 (.slice none 0 0) (by rfl) (by intro x h; cases h) (by rfl))
    exact ⟨rfl, ⟨hK⟩⟩
  clear hK
  obtain ⟨rfl, hK0⟩ := hcut
  have hK := hK0.out
  clear hK0
  have rr0_0 := (hK.at_ (g := g4_3) (cs := [.bool false, .slice none 0 0]) (t := 24) (by repeat (first | exact List.mem_cons_self | apply List.mem_cons_of_mem)) 0 rfl : World.cell? _ _ = some (.bool false))
  have rr0_1 := (hK.at_ (g := g4_3) (cs := [.bool false, .slice none 0 0]) (t := 24) (by repeat (first | exact List.mem_cons_self | apply List.mem_cons_of_mem)) 1 rfl : World.cell? _ _ = some (.slice none 0 0))
  have rr1_0 := (hK.at_ (g := g5_4) (cs := [.bool false, .slice none 0 0]) (t := 24) (by repeat (first | exact List.mem_cons_self | apply List.mem_cons_of_mem)) 0 rfl : World.cell? _ _ = some (.bool false))
  have rr1_1 := (hK.at_ (g := g5_4) (cs := [.bool false, .slice none 0 0]) (t := 24) (by repeat (first | exact List.mem_cons_self | apply List.mem_cons_of_mem)) 1 rfl : World.cell? _ _ = some (.slice none 0 0))
  go_wp2
  exact bodyPost_ret (v := .tuple #[.agg #[.bool false, .slice none 0 0], .agg #[.bool false, .slice none 0 0], .int .i64 11]) (by simp [results, Tryd.results15, go_sem, rr0_0, rr0_1, rr1_0, rr1_1]) rfl ⟨none, 0, none, 0, by simp [mg_zero, ng_zero], by rw [mg_zero]; exact Rd.nil _, by rw [mg_zero]; exact Rd.nil _, hK.be⟩
end Go.Proofs.YtegnnghoiffmhaaDoor.Big
