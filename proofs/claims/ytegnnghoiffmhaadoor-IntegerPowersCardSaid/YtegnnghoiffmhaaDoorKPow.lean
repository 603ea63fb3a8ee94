/- Pow and BitLen: the program's and the reference's. -/
import Derived.Test.YtegnnghoiffmhaaDoorGRows
import Derived.Test.YtegnnghoiffmhaaDoorKDM
import Derived.Test.YtegnnghoiffmhaaDoorKShift
import Derived.Deep.DeepCutAuto
import Derived.Deep.RegionHeld3
namespace Go.Proofs.YtegnnghoiffmhaaDoor.Big
open Go.RowKit Go.Proofs.YtegnnghoiffmhaaDoorW.PrintWords Go.Proofs.YtegnnghoiffmhaaDoorW.PrintLast
set_option linter.unusedVariables false
set_option linter.unusedSimpArgs false
attribute [local go_sem ↓] Go.wp_at_zero Go.wp_at_succ

/-- An integer and an error handed back. -/
def ResE (e : Ending) (w w' : World) (z err : Int) : Prop := ∃ (A : Option Addr) (c : Nat), e = .returned (.tuple #[.agg #[.bool (ng z), .slice A (mg z).length c], .int .i64 err]) ∧ Rd w' A c (mg z) ∧ Below w.heap.size w w'
theorem mg_pow {x O : Int} {N k : Nat} (hx : (mg x).length ≤ N) (hO : (mg O).length ≤ k * N + 1) : (mg (O * x)).length ≤ (k + 1) * N + 1 := mg_mul hO hx (by rw [Nat.add_mul]; omega)
theorem pow_bound {k N : Nat} {O : Int} (hk : k ≤ 64) (hO : (mg O).length ≤ k * N + 1) : (mg O).length ≤ 64 * N + 1 := Nat.le_trans hO (by have := Nat.mul_le_mul_right N hk; omega)
set_option maxHeartbeats 4000000 in
set_option maxRecDepth 100000 in
theorem pow_v_low (n0 : Bool) (A0 : Option Addr) (c0 : Nat) (xs0 : List Int) (w : World) (h0 : Rd w A0 c0 xs0) (N : Nat) (hN : N ≤ 1000000000) (hl0 : xs0.length ≤ N) (x : Int) (n : Int) (e0 : iv n0 xs0 = x) (hn : n < 0) :
    Calls Tryd.prog 43 #[.agg #[.bool n0, .slice A0 xs0.length c0], .int .i64 n] w fun e w' => ResE e w w' 0 5 := by
  have E_x := Aside0.mk e0
  have l_x : (mg x).length ≤ N := by rw [← e0]; exact mg_iv_le n0 h0.dig hl0
  clear e0
  have hK := ((KP.start w).row h0)
  go_enter Tryd.func43, Tryd.ntmps43
  go_upto_region 0 with (fail)
  go_cut [2, 4, 5] (fun v2 v4 v5 wc => ∃ (g2_1 : Nat) (g4_2 : Nat), v2 = .pointer (some ⟨g2_1, 0, none⟩) ∧ v4 = .pointer (some ⟨g4_2, 0, none⟩) ∧ v5 = .int .i64 0 ∧ Aside0 (KP w wc [(g4_2, [.bool false, .slice none 0 0], 24), (g2_1, [.bool n0, .slice A0 xs0.length c0], 24)] [(A0, c0, xs0)]))
  case first =>
    go_wp2
    go_meet
    all_goals refine ⟨_, _, rfl, rfl, rfl, ⟨?_⟩⟩
    all_goals first
      | (exact ((hK.new [.bool n0, .slice A0 xs0.length c0] 24 (NoDig.bool _ (NoDig.slice _ _ _ NoDig.nil)) (by first | rfl | simp)).new [.bool false, .slice none 0 0] 24 (NoDig.bool _ (NoDig.slice _ _ _ NoDig.nil)) (by first | rfl | simp)))
  clear hK
  obtain ⟨g2_1, g4_2, rfl, rfl, rfl, hK0⟩ := hcut
  have hK := hK0.out
  clear hK0
  go_upto_region 1 with (fail)
  go_cut [12] (fun v12 wc => v12 = .bool true ∧ Aside0 (KP w wc [(g4_2, [.bool false, .slice none 0 0], 24), (g2_1, [.bool n0, .slice A0 xs0.length c0], 24)] [(A0, c0, xs0)]))
  case first =>
    go_wp2
    go_meet
    exact ⟨rfl, ⟨hK⟩⟩
  clear hK
  obtain ⟨rfl, hK0⟩ := hcut
  have hK := hK0.out
  clear hK0
  go_upto_region 2 with (fail)
  go_cut [5] (fun v5 wc => v5 = .int .i64 5 ∧ Aside0 (KP w wc [(g4_2, [.bool false, .slice none 0 0], 24), (g2_1, [.bool n0, .slice A0 xs0.length c0], 24)] [(A0, c0, xs0)]))
  case first =>
    have hc := And.intro ((hK.at_ (g := g4_2) (cs := [.bool false, .slice none 0 0]) (t := 24) (by repeat (first | exact List.mem_cons_self | apply List.mem_cons_of_mem)) 0 rfl : World.cell? _ _ = some (.bool false))) (And.intro ((hK.at_ (g := g4_2) (cs := [.bool false, .slice none 0 0]) (t := 24) (by repeat (first | exact List.mem_cons_self | apply List.mem_cons_of_mem)) 1 rfl : World.cell? _ _ = some (.slice none 0 0))) (And.intro (hK.free (g := g4_2) (cs := [.bool false, .slice none 0 0]) (t := 24) (by repeat (first | exact List.mem_cons_self | apply List.mem_cons_of_mem)) 0) (hK.free (g := g4_2) (cs := [.bool false, .slice none 0 0]) (t := 24) (by repeat (first | exact List.mem_cons_self | apply List.mem_cons_of_mem)) 1)))
    go_wp2
    go_meet
    replace hK := ((hK.put 0 0 (.bool false) (by rfl) (by intro x h; cases h) (by rfl)).put 0 1 (.slice none 0 0) (by rfl) (by intro x h; cases h) (by rfl))
    exact ⟨rfl, ⟨hK⟩⟩
  clear hK
  obtain ⟨rfl, hK0⟩ := hcut
  have hK := hK0.out
  clear hK0
  have rr0 := (hK.at_ (g := g4_2) (cs := [.bool false, .slice none 0 0]) (t := 24) (by repeat (first | exact List.mem_cons_self | apply List.mem_cons_of_mem)) 0 rfl : World.cell? _ _ = some (.bool false))
  have rr1 := (hK.at_ (g := g4_2) (cs := [.bool false, .slice none 0 0]) (t := 24) (by repeat (first | exact List.mem_cons_self | apply List.mem_cons_of_mem)) 1 rfl : World.cell? _ _ = some (.slice none 0 0))
  go_wp2
  exact bodyPost_ret (v := .tuple #[.agg #[.bool false, .slice none 0 0], .int .i64 5]) (by simp [results, Tryd.results43, go_sem, rr0, rr1]) rfl ⟨none, 0, by rw [mg_zero, ng_zero]; rfl, by rw [mg_zero]; exact Rd.nil _, hK.be⟩
set_option maxHeartbeats 4000000 in
set_option maxRecDepth 100000 in
theorem pow_v_high (n0 : Bool) (A0 : Option Addr) (c0 : Nat) (xs0 : List Int) (w : World) (h0 : Rd w A0 c0 xs0) (N : Nat) (hN : N ≤ 1000000000) (hl0 : xs0.length ≤ N) (x : Int) (n : Int) (e0 : iv n0 xs0 = x) (hn : 64 < n) :
    Calls Tryd.prog 43 #[.agg #[.bool n0, .slice A0 xs0.length c0], .int .i64 n] w fun e w' => ResE e w w' 0 5 := by
  have E_x := Aside0.mk e0
  have l_x : (mg x).length ≤ N := by rw [← e0]; exact mg_iv_le n0 h0.dig hl0
  clear e0
  have hK := ((KP.start w).row h0)
  have hn0 : ¬ n < 0 := by omega
  go_enter Tryd.func43, Tryd.ntmps43
  go_upto_region 0 with (fail)
  go_cut [2, 4, 5] (fun v2 v4 v5 wc => ∃ (g2_1 : Nat) (g4_2 : Nat), v2 = .pointer (some ⟨g2_1, 0, none⟩) ∧ v4 = .pointer (some ⟨g4_2, 0, none⟩) ∧ v5 = .int .i64 0 ∧ Aside0 (KP w wc [(g4_2, [.bool false, .slice none 0 0], 24), (g2_1, [.bool n0, .slice A0 xs0.length c0], 24)] [(A0, c0, xs0)]))
  case first =>
    go_wp2
    go_meet
    all_goals refine ⟨_, _, rfl, rfl, rfl, ⟨?_⟩⟩
    all_goals first
      | (exact ((hK.new [.bool n0, .slice A0 xs0.length c0] 24 (NoDig.bool _ (NoDig.slice _ _ _ NoDig.nil)) (by first | rfl | simp)).new [.bool false, .slice none 0 0] 24 (NoDig.bool _ (NoDig.slice _ _ _ NoDig.nil)) (by first | rfl | simp)))
  clear hK
  obtain ⟨g2_1, g4_2, rfl, rfl, rfl, hK0⟩ := hcut
  have hK := hK0.out
  clear hK0
  go_upto_region 1 with (fail)
  go_cut [12] (fun v12 wc => v12 = .bool true ∧ Aside0 (KP w wc [(g4_2, [.bool false, .slice none 0 0], 24), (g2_1, [.bool n0, .slice A0 xs0.length c0], 24)] [(A0, c0, xs0)]))
  case first =>
    go_wp2
    go_meet
    exact ⟨rfl, ⟨hK⟩⟩
  clear hK
  obtain ⟨rfl, hK0⟩ := hcut
  have hK := hK0.out
  clear hK0
  go_upto_region 2 with (fail)
  go_cut [5] (fun v5 wc => v5 = .int .i64 5 ∧ Aside0 (KP w wc [(g4_2, [.bool false, .slice none 0 0], 24), (g2_1, [.bool n0, .slice A0 xs0.length c0], 24)] [(A0, c0, xs0)]))
  case first =>
    have hc := And.intro ((hK.at_ (g := g4_2) (cs := [.bool false, .slice none 0 0]) (t := 24) (by repeat (first | exact List.mem_cons_self | apply List.mem_cons_of_mem)) 0 rfl : World.cell? _ _ = some (.bool false))) (And.intro ((hK.at_ (g := g4_2) (cs := [.bool false, .slice none 0 0]) (t := 24) (by repeat (first | exact List.mem_cons_self | apply List.mem_cons_of_mem)) 1 rfl : World.cell? _ _ = some (.slice none 0 0))) (And.intro (hK.free (g := g4_2) (cs := [.bool false, .slice none 0 0]) (t := 24) (by repeat (first | exact List.mem_cons_self | apply List.mem_cons_of_mem)) 0) (hK.free (g := g4_2) (cs := [.bool false, .slice none 0 0]) (t := 24) (by repeat (first | exact List.mem_cons_self | apply List.mem_cons_of_mem)) 1)))
    go_wp2
    go_meet
    replace hK := ((hK.put 0 0 (.bool false) (by rfl) (by intro x h; cases h) (by rfl)).put 0 1 (.slice none 0 0) (by rfl) (by intro x h; cases h) (by rfl))
    exact ⟨rfl, ⟨hK⟩⟩
  clear hK
  obtain ⟨rfl, hK0⟩ := hcut
  have hK := hK0.out
  clear hK0
  have rr0 := (hK.at_ (g := g4_2) (cs := [.bool false, .slice none 0 0]) (t := 24) (by repeat (first | exact List.mem_cons_self | apply List.mem_cons_of_mem)) 0 rfl : World.cell? _ _ = some (.bool false))
  have rr1 := (hK.at_ (g := g4_2) (cs := [.bool false, .slice none 0 0]) (t := 24) (by repeat (first | exact List.mem_cons_self | apply List.mem_cons_of_mem)) 1 rfl : World.cell? _ _ = some (.slice none 0 0))
  go_wp2
  exact bodyPost_ret (v := .tuple #[.agg #[.bool false, .slice none 0 0], .int .i64 5]) (by simp [results, Tryd.results43, go_sem, rr0, rr1]) rfl ⟨none, 0, by rw [mg_zero, ng_zero]; rfl, by rw [mg_zero]; exact Rd.nil _, hK.be⟩
set_option maxHeartbeats 4000000 in
set_option maxRecDepth 100000 in
theorem pow_v_in (n0 : Bool) (A0 : Option Addr) (c0 : Nat) (xs0 : List Int) (w : World) (h0 : Rd w A0 c0 xs0) (N : Nat) (hN : N ≤ 1000000000) (hl0 : xs0.length ≤ N) (x : Int) (n : Nat) (z : Int) (e0 : iv n0 xs0 = x) (hn1 : n ≤ 64) (hz : x ^ n = z) :
    Calls Tryd.prog 43 #[.agg #[.bool n0, .slice A0 xs0.length c0], .int .i64 (n : Int)] w fun e w' => ResE e w w' z 0 := by
  have E_x := Aside0.mk e0
  have l_x : (mg x).length ≤ N := by rw [← e0]; exact mg_iv_le n0 h0.dig hl0
  clear e0
  have hK := ((KP.start w).row h0)
  have HZ := Aside0.mk hz
  clear hz
  have hn0 : ¬ (n : Int) < 0 := by omega
  have hn2 : ¬ 64 < (n : Int) := by omega
  go_enter Tryd.func43, Tryd.ntmps43
  go_upto_region 0 with (fail)
  go_cut [2, 4, 5] (fun v2 v4 v5 wc => ∃ (g2_1 : Nat) (g4_2 : Nat), v2 = .pointer (some ⟨g2_1, 0, none⟩) ∧ v4 = .pointer (some ⟨g4_2, 0, none⟩) ∧ v5 = .int .i64 0 ∧ Aside0 (KP w wc [(g4_2, [.bool false, .slice none 0 0], 24), (g2_1, [.bool n0, .slice A0 xs0.length c0], 24)] [(A0, c0, xs0)]))
  case first =>
    go_wp2
    go_meet
    all_goals refine ⟨_, _, rfl, rfl, rfl, ⟨?_⟩⟩
    all_goals first
      | (exact ((hK.new [.bool n0, .slice A0 xs0.length c0] 24 (NoDig.bool _ (NoDig.slice _ _ _ NoDig.nil)) (by first | rfl | simp)).new [.bool false, .slice none 0 0] 24 (NoDig.bool _ (NoDig.slice _ _ _ NoDig.nil)) (by first | rfl | simp)))
  clear hK
  obtain ⟨g2_1, g4_2, rfl, rfl, rfl, hK0⟩ := hcut
  have hK := hK0.out
  clear hK0
  go_upto_region 1 with (fail)
  go_cut [12] (fun v12 wc => v12 = .bool false ∧ Aside0 (KP w wc [(g4_2, [.bool false, .slice none 0 0], 24), (g2_1, [.bool n0, .slice A0 xs0.length c0], 24)] [(A0, c0, xs0)]))
  case first =>
    go_wp2
    go_meet
    exact ⟨rfl, ⟨hK⟩⟩
  clear hK
  obtain ⟨rfl, hK0⟩ := hcut
  have hK := hK0.out
  clear hK0
  obtain ⟨r3, e_r3⟩ : ∃ z : Int, 1 = z := ⟨_, rfl⟩
  have E_r3 := Aside0.mk e_r3
  have l_r3 : (mg r3).length ≤ 3 := by rw [← e_r3]; exact mg_i64 (by decide) (by decide)
  clear e_r3
  go_upto_region 3 with (fail)
  go_cut [6] (fun v6 wc => ∃ (g6_5 : Nat) (A_r3_4 : Option Addr) (c_r3_4 : Nat), v6 = .pointer (some ⟨g6_5, 0, none⟩) ∧ Aside0 (KP w wc [(g6_5, [.bool (ng r3), .slice A_r3_4 (mg r3).length c_r3_4], 24), (g4_2, [.bool false, .slice none 0 0], 24), (g2_1, [.bool n0, .slice A0 xs0.length c0], 24)] [(A_r3_4, c_r3_4, (mg r3)), (A0, c0, xs0)]))
  case first =>
    go_wp2_with (first | (go_at_call 21; (with_reducible refine (from_v 1 r3 _ (by decide) (by decide) E_r3.out).mono ?_); rintro e w_1 ⟨A_r3_4, c_r3_4, rfl, hR, hb⟩; replace hK := (hK.below hb).row hR; clear hb hR))
    go_meet
    all_goals refine ⟨_, A_r3_4, c_r3_4, rfl, ⟨?_⟩⟩
    all_goals first
      | (exact (hK.new [.bool (ng r3), .slice A_r3_4 (mg r3).length c_r3_4] 24 (NoDig.bool _ (NoDig.slice _ _ _ NoDig.nil)) (by first | rfl | simp)))
  clear hK
  obtain ⟨g6_5, A_r3_4, c_r3_4, rfl, hK0⟩ := hcut
  have hK := hK0.out
  clear hK0
  go_upto_region 4 with (fail)
  go_cut [15, 16] (fun v15 v16 wc => v15 = .int .i64 (n : Int) ∧ v16 = .int .i64 0 ∧ Aside0 (KP w wc [(g6_5, [.bool (ng r3), .slice A_r3_4 (mg r3).length c_r3_4], 24), (g4_2, [.bool false, .slice none 0 0], 24), (g2_1, [.bool n0, .slice A0 xs0.length c0], 24)] [(A_r3_4, c_r3_4, (mg r3)), (A0, c0, xs0)]))
  case first =>
    go_wp2
    go_meet
    exact ⟨rfl, rfl, ⟨hK⟩⟩
  clear hK
  obtain ⟨rfl, rfl, hK0⟩ := hcut
  have hK := hK0.out
  clear hK0
  go_wp2
  go_loopg [16] (n) (fun kq v16 w' => ∃ (k : Nat) (O : Int) (A_l : Option Addr) (c_l : Nat), v16 = .int .i64 (k : Int) ∧ Aside0 (KP w w' [(g6_5, [.bool (ng O), .slice A_l (mg O).length c_l], 24), (g4_2, [.bool false, .slice none 0 0], 24), (g2_1, [.bool n0, .slice A0 xs0.length c0], 24)] [(A_l, c_l, (mg O)), (A0, c0, xs0)]) ∧ Aside0 (O = x ^ k ∧ (mg O).length ≤ k * N + 1 ∧ k ≤ n ∧ k + kq = n))
  case atStart => exact ⟨0, r3, A_r3_4, c_r3_4, (by first | rfl | go_num), ⟨(hK.row (Rd.nil _)).sub (by intro x hx; simp only [List.mem_cons, List.not_mem_nil, or_false] at hx ⊢; rcases hx with rfl | rfl <;> simp)⟩, ⟨by rw [← E_r3.out]; simp, by rw [← E_r3.out]; have : (mg 1).length ≤ 1 := mg_len (by decide) (by decide); omega, by omega, by omega⟩⟩
  case round =>
    clear hK
    obtain ⟨k, O, A_l, c_l, rfl, hK0, HI⟩ := hrel
    have hK := hK0.out
    clear hK0
    have l_O : (mg O).length ≤ 64 * N + 1 := pow_bound (by have := HI.out.2.2.1; omega) HI.out.2.1
    have hk := HI.out.2.2.1
    go_upto_region 5 with (fail)
    go_cut [17] (fun v17 wc => v17 = .bool (decide (k < n)) ∧ Aside0 (KP w wc [(g6_5, [.bool (ng O), .slice A_l (mg O).length c_l], 24), (g4_2, [.bool false, .slice none 0 0], 24), (g2_1, [.bool n0, .slice A0 xs0.length c0], 24)] [(A_l, c_l, (mg O)), (A0, c0, xs0)]))
    case first =>
      go_wp2
      go_meet
      exact ⟨rfl, ⟨hK⟩⟩
    clear hK
    obtain ⟨rfl, hK0⟩ := hcut
    have hK := hK0.out
    clear hK0
    cases hb6 : (decide (k < n))
    case false =>
      have hphb6 := of_decide_eq_false hb6
      have hpC : ¬ k < n := hphb6
      go_upto_region 8 with (fail)
      go_cut [5] (fun v5 wc => v5 = .int .i64 0 ∧ Aside0 (KP w wc [(g6_5, [.bool (ng O), .slice A_l (mg O).length c_l], 24), (g4_2, [.bool (ng O), .slice A_l (mg O).length c_l], 24), (g2_1, [.bool n0, .slice A0 xs0.length c0], 24)] [(A_l, c_l, (mg O)), (A0, c0, xs0)]))
      case first =>
        have hc := And.intro ((hK.at_ (g := g6_5) (cs := [.bool (ng O), .slice A_l (mg O).length c_l]) (t := 24) (by repeat (first | exact List.mem_cons_self | apply List.mem_cons_of_mem)) 0 rfl : World.cell? _ _ = some (.bool (ng O)))) (And.intro ((hK.at_ (g := g6_5) (cs := [.bool (ng O), .slice A_l (mg O).length c_l]) (t := 24) (by repeat (first | exact List.mem_cons_self | apply List.mem_cons_of_mem)) 1 rfl : World.cell? _ _ = some (.slice A_l (mg O).length c_l))) (And.intro ((hK.at_ (g := g4_2) (cs := [.bool false, .slice none 0 0]) (t := 24) (by repeat (first | exact List.mem_cons_self | apply List.mem_cons_of_mem)) 0 rfl : World.cell? _ _ = some (.bool false))) (And.intro ((hK.at_ (g := g4_2) (cs := [.bool false, .slice none 0 0]) (t := 24) (by repeat (first | exact List.mem_cons_self | apply List.mem_cons_of_mem)) 1 rfl : World.cell? _ _ = some (.slice none 0 0))) (And.intro (hK.free (g := g4_2) (cs := [.bool false, .slice none 0 0]) (t := 24) (by repeat (first | exact List.mem_cons_self | apply List.mem_cons_of_mem)) 0) (And.intro (hK.free (g := g4_2) (cs := [.bool false, .slice none 0 0]) (t := 24) (by repeat (first | exact List.mem_cons_self | apply List.mem_cons_of_mem)) 1) ((hK.apart 1 0 rfl rfl rfl : ¬ g4_2 = g6_5 ∧ ¬ g6_5 = g4_2)))))))
        go_wp2
        go_meet
        replace hK := ((hK.put 1 0 (.bool (ng O)) (by rfl) (by intro x h; cases h) (by rfl)).put 1 1 (.slice A_l (mg O).length c_l) (by rfl) (by intro x h; cases h) (by rfl))
        exact ⟨rfl, ⟨hK⟩⟩
      clear hK
      obtain ⟨rfl, hK0⟩ := hcut
      have hK := hK0.out
      clear hK0
      have ez : O = z := by rw [HI.out.1, ← HZ.out, show k = n by have := HI.out.2.2.1; omega]
      subst ez
      have rr0_0 := (hK.at_ (g := g4_2) (cs := [.bool (ng O), .slice A_l (mg O).length c_l]) (t := 24) (by repeat (first | exact List.mem_cons_self | apply List.mem_cons_of_mem)) 0 rfl : World.cell? _ _ = some (.bool (ng O)))
      have rr0_1 := (hK.at_ (g := g4_2) (cs := [.bool (ng O), .slice A_l (mg O).length c_l]) (t := 24) (by repeat (first | exact List.mem_cons_self | apply List.mem_cons_of_mem)) 1 rfl : World.cell? _ _ = some (.slice A_l (mg O).length c_l))
      go_wp2
      exact bodyPost_ret (v := .tuple #[.agg #[.bool (ng O), .slice A_l (mg O).length c_l], .int .i64 0]) (by simp [results, Tryd.results43, go_sem, rr0_0, rr0_1]) rfl ⟨_, _, rfl, hK.rd _ _ _ (by repeat (first | exact List.mem_cons_self | apply List.mem_cons_of_mem)), hK.be⟩
    case true =>
      have hphb6 := of_decide_eq_true hb6
      have hpC : k < n := hphb6
      obtain ⟨r7, e_r7⟩ : ∃ z : Int, O * x = z := ⟨_, rfl⟩
      have E_r7 := Aside0.mk e_r7
      have l_r7 : (mg r7).length ≤ 65 * N + 1 := by rw [← e_r7]; exact mg_mul l_O l_x (by omega)
      clear e_r7
      go_upto_region 6 with (fail)
      have hc := And.intro ((hK.at_ (g := g6_5) (cs := [.bool (ng O), .slice A_l (mg O).length c_l]) (t := 24) (by repeat (first | exact List.mem_cons_self | apply List.mem_cons_of_mem)) 0 rfl : World.cell? _ _ = some (.bool (ng O)))) (And.intro ((hK.at_ (g := g6_5) (cs := [.bool (ng O), .slice A_l (mg O).length c_l]) (t := 24) (by repeat (first | exact List.mem_cons_self | apply List.mem_cons_of_mem)) 1 rfl : World.cell? _ _ = some (.slice A_l (mg O).length c_l))) (And.intro ((hK.at_ (g := g2_1) (cs := [.bool n0, .slice A0 xs0.length c0]) (t := 24) (by repeat (first | exact List.mem_cons_self | apply List.mem_cons_of_mem)) 0 rfl : World.cell? _ _ = some (.bool n0))) (And.intro ((hK.at_ (g := g2_1) (cs := [.bool n0, .slice A0 xs0.length c0]) (t := 24) (by repeat (first | exact List.mem_cons_self | apply List.mem_cons_of_mem)) 1 rfl : World.cell? _ _ = some (.slice A0 xs0.length c0))) (And.intro (hK.free (g := g6_5) (cs := [.bool (ng O), .slice A_l (mg O).length c_l]) (t := 24) (by repeat (first | exact List.mem_cons_self | apply List.mem_cons_of_mem)) 0) (And.intro (hK.free (g := g6_5) (cs := [.bool (ng O), .slice A_l (mg O).length c_l]) (t := 24) (by repeat (first | exact List.mem_cons_self | apply List.mem_cons_of_mem)) 1) ((hK.apart 0 2 rfl rfl rfl : ¬ g6_5 = g2_1 ∧ ¬ g2_1 = g6_5)))))))
      go_wp2_with (first | (go_at_call 18; (with_reducible refine (mul_v (ng O) n0 A_l A0 c_l c0 (mg O) xs0 _ (hK.rd _ _ _ (by repeat (first | exact List.mem_cons_self | apply List.mem_cons_of_mem))) (hK.rd _ _ _ (by repeat (first | exact List.mem_cons_self | apply List.mem_cons_of_mem))) (by omega) (by omega) O x r7 (iv_canon _) E_x.out E_r7.out).mono ?_); rintro e w_2 ⟨A_r7_8, c_r7_8, rfl, hR, hb⟩; replace hK := (hK.below hb).row hR; clear hb hR; clear hc; have hc := And.intro ((hK.at_ (g := g6_5) (cs := [.bool (ng O), .slice A_l (mg O).length c_l]) (t := 24) (by repeat (first | exact List.mem_cons_self | apply List.mem_cons_of_mem)) 0 rfl : World.cell? _ _ = some (.bool (ng O)))) (And.intro ((hK.at_ (g := g6_5) (cs := [.bool (ng O), .slice A_l (mg O).length c_l]) (t := 24) (by repeat (first | exact List.mem_cons_self | apply List.mem_cons_of_mem)) 1 rfl : World.cell? _ _ = some (.slice A_l (mg O).length c_l))) (And.intro ((hK.at_ (g := g2_1) (cs := [.bool n0, .slice A0 xs0.length c0]) (t := 24) (by repeat (first | exact List.mem_cons_self | apply List.mem_cons_of_mem)) 0 rfl : World.cell? _ _ = some (.bool n0))) (And.intro ((hK.at_ (g := g2_1) (cs := [.bool n0, .slice A0 xs0.length c0]) (t := 24) (by repeat (first | exact List.mem_cons_self | apply List.mem_cons_of_mem)) 1 rfl : World.cell? _ _ = some (.slice A0 xs0.length c0))) (And.intro (hK.free (g := g6_5) (cs := [.bool (ng O), .slice A_l (mg O).length c_l]) (t := 24) (by repeat (first | exact List.mem_cons_self | apply List.mem_cons_of_mem)) 0) (And.intro (hK.free (g := g6_5) (cs := [.bool (ng O), .slice A_l (mg O).length c_l]) (t := 24) (by repeat (first | exact List.mem_cons_self | apply List.mem_cons_of_mem)) 1) ((hK.apart 0 2 rfl rfl rfl : ¬ g6_5 = g2_1 ∧ ¬ g2_1 = g6_5)))))))))
      replace hK := ((hK.put 0 0 (.bool (ng r7)) (by rfl) (by intro x h; cases h) (by rfl)).put 0 1 (.slice A_r7_8 (mg r7).length c_r7_8) (by rfl) (by intro x h; cases h) (by rfl))
      go_upto_region 7 with (fail)
      go_wp2
      go_roundg (gk - 1)
      case measure => have := HI.out.2.2.2; have := hpC; omega
      case rel => exact ⟨(k + 1), r7, A_r7_8, c_r7_8, (by first | rfl | go_num), ⟨(hK.row (Rd.nil _)).sub (by intro x hx; simp only [List.mem_cons, List.not_mem_nil, or_false] at hx ⊢; rcases hx with rfl | rfl <;> simp)⟩, ⟨by rw [← E_r7.out, HI.out.1, Int.pow_succ], by rw [← E_r7.out]; exact mg_pow l_x HI.out.2.1, by have := hpC; omega, by have := HI.out.2.2.2; have := hpC; omega⟩⟩
set_option maxHeartbeats 4000000 in
set_option maxRecDepth 100000 in
theorem Pow_ref_low (n0 : Bool) (A0 : Option Addr) (c0 : Nat) (xs0 : List Int) (w : World) (h0 : Rd w A0 c0 xs0) (N : Nat) (hN : N ≤ 1000000000) (hl0 : xs0.length ≤ N) (x : Int) (n : Int) (e0 : iv n0 xs0 = x) (hn : n < 0) :
    Calls Tryd.prog 44 #[.agg #[.bool n0, .slice A0 xs0.length c0], .int .i64 n] w fun e w' => ResE e w w' 0 5 := by
  have E_x := Aside0.mk e0
  have l_x : (mg x).length ≤ N := by rw [← e0]; exact mg_iv_le n0 h0.dig hl0
  clear e0
  have hK := ((KP.start w).row h0)
  go_enter Tryd.func44, Tryd.ntmps44
  go_upto_region 0 with (fail)
  go_cut [2, 4, 5] (fun v2 v4 v5 wc => ∃ (g2_1 : Nat) (g4_2 : Nat), v2 = .pointer (some ⟨g2_1, 0, none⟩) ∧ v4 = .pointer (some ⟨g4_2, 0, none⟩) ∧ v5 = .int .i64 0 ∧ Aside0 (KP w wc [(g4_2, [.bool false, .slice none 0 0], 24), (g2_1, [.bool n0, .slice A0 xs0.length c0], 24)] [(A0, c0, xs0)]))
  case first =>
    go_wp2
    go_meet
    all_goals refine ⟨_, _, rfl, rfl, rfl, ⟨?_⟩⟩
    all_goals first
      | (exact ((hK.new [.bool n0, .slice A0 xs0.length c0] 24 (NoDig.bool _ (NoDig.slice _ _ _ NoDig.nil)) (by first | rfl | simp)).new [.bool false, .slice none 0 0] 24 (NoDig.bool _ (NoDig.slice _ _ _ NoDig.nil)) (by first | rfl | simp)))
  clear hK
  obtain ⟨g2_1, g4_2, rfl, rfl, rfl, hK0⟩ := hcut
  have hK := hK0.out
  clear hK0
  go_upto_region 1 with (fail)
  go_cut [13] (fun v13 wc => v13 = .bool true ∧ Aside0 (KP w wc [(g4_2, [.bool false, .slice none 0 0], 24), (g2_1, [.bool n0, .slice A0 xs0.length c0], 24)] [(A0, c0, xs0)]))
  case first =>
    go_wp2
    go_meet
    exact ⟨rfl, ⟨hK⟩⟩
  clear hK
  obtain ⟨rfl, hK0⟩ := hcut
  have hK := hK0.out
  clear hK0
  go_upto_region 2 with (fail)
  go_cut [5] (fun v5 wc => v5 = .int .i64 5 ∧ Aside0 (KP w wc [(g4_2, [.bool false, .slice none 0 0], 24), (g2_1, [.bool n0, .slice A0 xs0.length c0], 24)] [(A0, c0, xs0)]))
  case first =>
    have hc := And.intro ((hK.at_ (g := g4_2) (cs := [.bool false, .slice none 0 0]) (t := 24) (by repeat (first | exact List.mem_cons_self | apply List.mem_cons_of_mem)) 0 rfl : World.cell? _ _ = some (.bool false))) (And.intro ((hK.at_ (g := g4_2) (cs := [.bool false, .slice none 0 0]) (t := 24) (by repeat (first | exact List.mem_cons_self | apply List.mem_cons_of_mem)) 1 rfl : World.cell? _ _ = some (.slice none 0 0))) (And.intro (hK.free (g := g4_2) (cs := [.bool false, .slice none 0 0]) (t := 24) (by repeat (first | exact List.mem_cons_self | apply List.mem_cons_of_mem)) 0) (hK.free (g := g4_2) (cs := [.bool false, .slice none 0 0]) (t := 24) (by repeat (first | exact List.mem_cons_self | apply List.mem_cons_of_mem)) 1)))
    go_wp2
    go_meet
    replace hK := ((hK.put 0 0 (.bool false) (by rfl) (by intro x h; cases h) (by rfl)).put 0 1 (.slice none 0 0) (by rfl) (by intro x h; cases h) (by rfl))
    exact ⟨rfl, ⟨hK⟩⟩
  clear hK
  obtain ⟨rfl, hK0⟩ := hcut
  have hK := hK0.out
  clear hK0
  have rr0 := (hK.at_ (g := g4_2) (cs := [.bool false, .slice none 0 0]) (t := 24) (by repeat (first | exact List.mem_cons_self | apply List.mem_cons_of_mem)) 0 rfl : World.cell? _ _ = some (.bool false))
  have rr1 := (hK.at_ (g := g4_2) (cs := [.bool false, .slice none 0 0]) (t := 24) (by repeat (first | exact List.mem_cons_self | apply List.mem_cons_of_mem)) 1 rfl : World.cell? _ _ = some (.slice none 0 0))
  go_wp2
  exact bodyPost_ret (v := .tuple #[.agg #[.bool false, .slice none 0 0], .int .i64 5]) (by simp [results, Tryd.results44, go_sem, rr0, rr1]) rfl ⟨none, 0, by rw [mg_zero, ng_zero]; rfl, by rw [mg_zero]; exact Rd.nil _, hK.be⟩
set_option maxHeartbeats 4000000 in
set_option maxRecDepth 100000 in
theorem Pow_ref_high (n0 : Bool) (A0 : Option Addr) (c0 : Nat) (xs0 : List Int) (w : World) (h0 : Rd w A0 c0 xs0) (N : Nat) (hN : N ≤ 1000000000) (hl0 : xs0.length ≤ N) (x : Int) (n : Int) (e0 : iv n0 xs0 = x) (hn : 64 < n) :
    Calls Tryd.prog 44 #[.agg #[.bool n0, .slice A0 xs0.length c0], .int .i64 n] w fun e w' => ResE e w w' 0 5 := by
  have E_x := Aside0.mk e0
  have l_x : (mg x).length ≤ N := by rw [← e0]; exact mg_iv_le n0 h0.dig hl0
  clear e0
  have hK := ((KP.start w).row h0)
  have hn0 : ¬ n < 0 := by omega
  go_enter Tryd.func44, Tryd.ntmps44
  go_upto_region 0 with (fail)
  go_cut [2, 4, 5] (fun v2 v4 v5 wc => ∃ (g2_1 : Nat) (g4_2 : Nat), v2 = .pointer (some ⟨g2_1, 0, none⟩) ∧ v4 = .pointer (some ⟨g4_2, 0, none⟩) ∧ v5 = .int .i64 0 ∧ Aside0 (KP w wc [(g4_2, [.bool false, .slice none 0 0], 24), (g2_1, [.bool n0, .slice A0 xs0.length c0], 24)] [(A0, c0, xs0)]))
  case first =>
    go_wp2
    go_meet
    all_goals refine ⟨_, _, rfl, rfl, rfl, ⟨?_⟩⟩
    all_goals first
      | (exact ((hK.new [.bool n0, .slice A0 xs0.length c0] 24 (NoDig.bool _ (NoDig.slice _ _ _ NoDig.nil)) (by first | rfl | simp)).new [.bool false, .slice none 0 0] 24 (NoDig.bool _ (NoDig.slice _ _ _ NoDig.nil)) (by first | rfl | simp)))
  clear hK
  obtain ⟨g2_1, g4_2, rfl, rfl, rfl, hK0⟩ := hcut
  have hK := hK0.out
  clear hK0
  go_upto_region 1 with (fail)
  go_cut [13] (fun v13 wc => v13 = .bool true ∧ Aside0 (KP w wc [(g4_2, [.bool false, .slice none 0 0], 24), (g2_1, [.bool n0, .slice A0 xs0.length c0], 24)] [(A0, c0, xs0)]))
  case first =>
    go_wp2
    go_meet
    exact ⟨rfl, ⟨hK⟩⟩
  clear hK
  obtain ⟨rfl, hK0⟩ := hcut
  have hK := hK0.out
  clear hK0
  go_upto_region 2 with (fail)
  go_cut [5] (fun v5 wc => v5 = .int .i64 5 ∧ Aside0 (KP w wc [(g4_2, [.bool false, .slice none 0 0], 24), (g2_1, [.bool n0, .slice A0 xs0.length c0], 24)] [(A0, c0, xs0)]))
  case first =>
    have hc := And.intro ((hK.at_ (g := g4_2) (cs := [.bool false, .slice none 0 0]) (t := 24) (by repeat (first | exact List.mem_cons_self | apply List.mem_cons_of_mem)) 0 rfl : World.cell? _ _ = some (.bool false))) (And.intro ((hK.at_ (g := g4_2) (cs := [.bool false, .slice none 0 0]) (t := 24) (by repeat (first | exact List.mem_cons_self | apply List.mem_cons_of_mem)) 1 rfl : World.cell? _ _ = some (.slice none 0 0))) (And.intro (hK.free (g := g4_2) (cs := [.bool false, .slice none 0 0]) (t := 24) (by repeat (first | exact List.mem_cons_self | apply List.mem_cons_of_mem)) 0) (hK.free (g := g4_2) (cs := [.bool false, .slice none 0 0]) (t := 24) (by repeat (first | exact List.mem_cons_self | apply List.mem_cons_of_mem)) 1)))
    go_wp2
    go_meet
    replace hK := ((hK.put 0 0 (.bool false) (by rfl) (by intro x h; cases h) (by rfl)).put 0 1 (.slice none 0 0) (by rfl) (by intro x h; cases h) (by rfl))
    exact ⟨rfl, ⟨hK⟩⟩
  clear hK
  obtain ⟨rfl, hK0⟩ := hcut
  have hK := hK0.out
  clear hK0
  have rr0 := (hK.at_ (g := g4_2) (cs := [.bool false, .slice none 0 0]) (t := 24) (by repeat (first | exact List.mem_cons_self | apply List.mem_cons_of_mem)) 0 rfl : World.cell? _ _ = some (.bool false))
  have rr1 := (hK.at_ (g := g4_2) (cs := [.bool false, .slice none 0 0]) (t := 24) (by repeat (first | exact List.mem_cons_self | apply List.mem_cons_of_mem)) 1 rfl : World.cell? _ _ = some (.slice none 0 0))
  go_wp2
  exact bodyPost_ret (v := .tuple #[.agg #[.bool false, .slice none 0 0], .int .i64 5]) (by simp [results, Tryd.results44, go_sem, rr0, rr1]) rfl ⟨none, 0, by rw [mg_zero, ng_zero]; rfl, by rw [mg_zero]; exact Rd.nil _, hK.be⟩
set_option maxHeartbeats 4000000 in
set_option maxRecDepth 100000 in
theorem Pow_ref_in (n0 : Bool) (A0 : Option Addr) (c0 : Nat) (xs0 : List Int) (w : World) (h0 : Rd w A0 c0 xs0) (N : Nat) (hN : N ≤ 1000000000) (hl0 : xs0.length ≤ N) (x : Int) (n : Nat) (z : Int) (e0 : iv n0 xs0 = x) (hn1 : n ≤ 64) (hz : x ^ n = z) :
    Calls Tryd.prog 44 #[.agg #[.bool n0, .slice A0 xs0.length c0], .int .i64 (n : Int)] w fun e w' => ResE e w w' z 0 := by
  have E_x := Aside0.mk e0
  have l_x : (mg x).length ≤ N := by rw [← e0]; exact mg_iv_le n0 h0.dig hl0
  clear e0
  have hK := ((KP.start w).row h0)
  have HZ := Aside0.mk hz
  clear hz
  have hn0 : ¬ (n : Int) < 0 := by omega
  have hn2 : ¬ 64 < (n : Int) := by omega
  go_enter Tryd.func44, Tryd.ntmps44
  go_upto_region 0 with (fail)
  go_cut [2, 4, 5] (fun v2 v4 v5 wc => ∃ (g2_1 : Nat) (g4_2 : Nat), v2 = .pointer (some ⟨g2_1, 0, none⟩) ∧ v4 = .pointer (some ⟨g4_2, 0, none⟩) ∧ v5 = .int .i64 0 ∧ Aside0 (KP w wc [(g4_2, [.bool false, .slice none 0 0], 24), (g2_1, [.bool n0, .slice A0 xs0.length c0], 24)] [(A0, c0, xs0)]))
  case first =>
    go_wp2
    go_meet
    all_goals refine ⟨_, _, rfl, rfl, rfl, ⟨?_⟩⟩
    all_goals first
      | (exact ((hK.new [.bool n0, .slice A0 xs0.length c0] 24 (NoDig.bool _ (NoDig.slice _ _ _ NoDig.nil)) (by first | rfl | simp)).new [.bool false, .slice none 0 0] 24 (NoDig.bool _ (NoDig.slice _ _ _ NoDig.nil)) (by first | rfl | simp)))
  clear hK
  obtain ⟨g2_1, g4_2, rfl, rfl, rfl, hK0⟩ := hcut
  have hK := hK0.out
  clear hK0
  go_upto_region 1 with (fail)
  go_cut [13] (fun v13 wc => v13 = .bool false ∧ Aside0 (KP w wc [(g4_2, [.bool false, .slice none 0 0], 24), (g2_1, [.bool n0, .slice A0 xs0.length c0], 24)] [(A0, c0, xs0)]))
  case first =>
    go_wp2
    go_meet
    exact ⟨rfl, ⟨hK⟩⟩
  clear hK
  obtain ⟨rfl, hK0⟩ := hcut
  have hK := hK0.out
  clear hK0
  obtain ⟨r3, e_r3⟩ : ∃ z : Int, 1 = z := ⟨_, rfl⟩
  have E_r3 := Aside0.mk e_r3
  have l_r3 : (mg r3).length ≤ 3 := by rw [← e_r3]; exact mg_i64 (by decide) (by decide)
  clear e_r3
  go_upto_region 3 with (fail)
  go_cut [6] (fun v6 wc => ∃ (g6_5 : Nat) (A_r3_4 : Option Addr) (c_r3_4 : Nat), v6 = .pointer (some ⟨g6_5, 0, none⟩) ∧ Aside0 (KP w wc [(g6_5, [.bool (ng r3), .slice A_r3_4 (mg r3).length c_r3_4], 24), (g4_2, [.bool false, .slice none 0 0], 24), (g2_1, [.bool n0, .slice A0 xs0.length c0], 24)] [(A_r3_4, c_r3_4, (mg r3)), (A0, c0, xs0)]))
  case first =>
    go_wp2_with (first | (go_at_call 24; (with_reducible refine (from_ref 1 r3 _ (by decide) (by decide) E_r3.out).mono ?_); rintro e w_1 ⟨A_r3_4, c_r3_4, rfl, hR, hb⟩; replace hK := (hK.below hb).row hR; clear hb hR))
    go_meet
    all_goals refine ⟨_, A_r3_4, c_r3_4, rfl, ⟨?_⟩⟩
    all_goals first
      | (exact (hK.new [.bool (ng r3), .slice A_r3_4 (mg r3).length c_r3_4] 24 (NoDig.bool _ (NoDig.slice _ _ _ NoDig.nil)) (by first | rfl | simp)))
  clear hK
  obtain ⟨g6_5, A_r3_4, c_r3_4, rfl, hK0⟩ := hcut
  have hK := hK0.out
  clear hK0
  go_upto_region 4 with (fail)
  go_cut [7] (fun v7 wc => v7 = .int .i64 0 ∧ Aside0 (KP w wc [(g6_5, [.bool (ng r3), .slice A_r3_4 (mg r3).length c_r3_4], 24), (g4_2, [.bool false, .slice none 0 0], 24), (g2_1, [.bool n0, .slice A0 xs0.length c0], 24)] [(A_r3_4, c_r3_4, (mg r3)), (A0, c0, xs0)]))
  case first =>
    go_wp2
    go_meet
    exact ⟨rfl, ⟨hK⟩⟩
  clear hK
  obtain ⟨rfl, hK0⟩ := hcut
  have hK := hK0.out
  clear hK0
  go_wp2
  go_loopg [7] (n) (fun kq v7 w' => ∃ (k : Nat) (O : Int) (A_l : Option Addr) (c_l : Nat), v7 = .int .i64 (k : Int) ∧ Aside0 (KP w w' [(g6_5, [.bool (ng O), .slice A_l (mg O).length c_l], 24), (g4_2, [.bool false, .slice none 0 0], 24), (g2_1, [.bool n0, .slice A0 xs0.length c0], 24)] [(A_l, c_l, (mg O)), (A0, c0, xs0)]) ∧ Aside0 (O = x ^ k ∧ (mg O).length ≤ k * N + 1 ∧ k ≤ n ∧ k + kq = n))
  case atStart => exact ⟨0, r3, A_r3_4, c_r3_4, (by first | rfl | go_num), ⟨(hK.row (Rd.nil _)).sub (by intro x hx; simp only [List.mem_cons, List.not_mem_nil, or_false] at hx ⊢; rcases hx with rfl | rfl <;> simp)⟩, ⟨by rw [← E_r3.out]; simp, by rw [← E_r3.out]; have : (mg 1).length ≤ 1 := mg_len (by decide) (by decide); omega, by omega, by omega⟩⟩
  case round =>
    clear hK
    obtain ⟨k, O, A_l, c_l, rfl, hK0, HI⟩ := hrel
    have hK := hK0.out
    clear hK0
    have l_O : (mg O).length ≤ 64 * N + 1 := pow_bound (by have := HI.out.2.2.1; omega) HI.out.2.1
    have hk := HI.out.2.2.1
    go_upto_region 5 with (fail)
    go_cut [18] (fun v18 wc => v18 = .bool (decide (k < n)) ∧ Aside0 (KP w wc [(g6_5, [.bool (ng O), .slice A_l (mg O).length c_l], 24), (g4_2, [.bool false, .slice none 0 0], 24), (g2_1, [.bool n0, .slice A0 xs0.length c0], 24)] [(A_l, c_l, (mg O)), (A0, c0, xs0)]))
    case first =>
      go_wp2
      go_meet
      exact ⟨rfl, ⟨hK⟩⟩
    clear hK
    obtain ⟨rfl, hK0⟩ := hcut
    have hK := hK0.out
    clear hK0
    cases hb6 : (decide (k < n))
    case false =>
      have hphb6 := of_decide_eq_false hb6
      have hpC : ¬ k < n := hphb6
      go_upto_region 8 with (fail)
      go_cut [5] (fun v5 wc => v5 = .int .i64 0 ∧ Aside0 (KP w wc [(g6_5, [.bool (ng O), .slice A_l (mg O).length c_l], 24), (g4_2, [.bool (ng O), .slice A_l (mg O).length c_l], 24), (g2_1, [.bool n0, .slice A0 xs0.length c0], 24)] [(A_l, c_l, (mg O)), (A0, c0, xs0)]))
      case first =>
        have hc := And.intro ((hK.at_ (g := g6_5) (cs := [.bool (ng O), .slice A_l (mg O).length c_l]) (t := 24) (by repeat (first | exact List.mem_cons_self | apply List.mem_cons_of_mem)) 0 rfl : World.cell? _ _ = some (.bool (ng O)))) (And.intro ((hK.at_ (g := g6_5) (cs := [.bool (ng O), .slice A_l (mg O).length c_l]) (t := 24) (by repeat (first | exact List.mem_cons_self | apply List.mem_cons_of_mem)) 1 rfl : World.cell? _ _ = some (.slice A_l (mg O).length c_l))) (And.intro ((hK.at_ (g := g4_2) (cs := [.bool false, .slice none 0 0]) (t := 24) (by repeat (first | exact List.mem_cons_self | apply List.mem_cons_of_mem)) 0 rfl : World.cell? _ _ = some (.bool false))) (And.intro ((hK.at_ (g := g4_2) (cs := [.bool false, .slice none 0 0]) (t := 24) (by repeat (first | exact List.mem_cons_self | apply List.mem_cons_of_mem)) 1 rfl : World.cell? _ _ = some (.slice none 0 0))) (And.intro (hK.free (g := g4_2) (cs := [.bool false, .slice none 0 0]) (t := 24) (by repeat (first | exact List.mem_cons_self | apply List.mem_cons_of_mem)) 0) (And.intro (hK.free (g := g4_2) (cs := [.bool false, .slice none 0 0]) (t := 24) (by repeat (first | exact List.mem_cons_self | apply List.mem_cons_of_mem)) 1) ((hK.apart 1 0 rfl rfl rfl : ¬ g4_2 = g6_5 ∧ ¬ g6_5 = g4_2)))))))
        go_wp2
        go_meet
        replace hK := ((hK.put 1 0 (.bool (ng O)) (by rfl) (by intro x h; cases h) (by rfl)).put 1 1 (.slice A_l (mg O).length c_l) (by rfl) (by intro x h; cases h) (by rfl))
        exact ⟨rfl, ⟨hK⟩⟩
      clear hK
      obtain ⟨rfl, hK0⟩ := hcut
      have hK := hK0.out
      clear hK0
      have ez : O = z := by rw [HI.out.1, ← HZ.out, show k = n by have := HI.out.2.2.1; omega]
      subst ez
      have rr0_0 := (hK.at_ (g := g4_2) (cs := [.bool (ng O), .slice A_l (mg O).length c_l]) (t := 24) (by repeat (first | exact List.mem_cons_self | apply List.mem_cons_of_mem)) 0 rfl : World.cell? _ _ = some (.bool (ng O)))
      have rr0_1 := (hK.at_ (g := g4_2) (cs := [.bool (ng O), .slice A_l (mg O).length c_l]) (t := 24) (by repeat (first | exact List.mem_cons_self | apply List.mem_cons_of_mem)) 1 rfl : World.cell? _ _ = some (.slice A_l (mg O).length c_l))
      go_wp2
      exact bodyPost_ret (v := .tuple #[.agg #[.bool (ng O), .slice A_l (mg O).length c_l], .int .i64 0]) (by simp [results, Tryd.results44, go_sem, rr0_0, rr0_1]) rfl ⟨_, _, rfl, hK.rd _ _ _ (by repeat (first | exact List.mem_cons_self | apply List.mem_cons_of_mem)), hK.be⟩
    case true =>
      have hphb6 := of_decide_eq_true hb6
      have hpC : k < n := hphb6
      obtain ⟨r7, e_r7⟩ : ∃ z : Int, O * x = z := ⟨_, rfl⟩
      have E_r7 := Aside0.mk e_r7
      have l_r7 : (mg r7).length ≤ 65 * N + 1 := by rw [← e_r7]; exact mg_mul l_O l_x (by omega)
      clear e_r7
      go_upto_region 7 with (fail)
      have hc := And.intro ((hK.at_ (g := g6_5) (cs := [.bool (ng O), .slice A_l (mg O).length c_l]) (t := 24) (by repeat (first | exact List.mem_cons_self | apply List.mem_cons_of_mem)) 0 rfl : World.cell? _ _ = some (.bool (ng O)))) (And.intro ((hK.at_ (g := g6_5) (cs := [.bool (ng O), .slice A_l (mg O).length c_l]) (t := 24) (by repeat (first | exact List.mem_cons_self | apply List.mem_cons_of_mem)) 1 rfl : World.cell? _ _ = some (.slice A_l (mg O).length c_l))) (And.intro ((hK.at_ (g := g2_1) (cs := [.bool n0, .slice A0 xs0.length c0]) (t := 24) (by repeat (first | exact List.mem_cons_self | apply List.mem_cons_of_mem)) 0 rfl : World.cell? _ _ = some (.bool n0))) (And.intro ((hK.at_ (g := g2_1) (cs := [.bool n0, .slice A0 xs0.length c0]) (t := 24) (by repeat (first | exact List.mem_cons_self | apply List.mem_cons_of_mem)) 1 rfl : World.cell? _ _ = some (.slice A0 xs0.length c0))) (And.intro (hK.free (g := g6_5) (cs := [.bool (ng O), .slice A_l (mg O).length c_l]) (t := 24) (by repeat (first | exact List.mem_cons_self | apply List.mem_cons_of_mem)) 0) (And.intro (hK.free (g := g6_5) (cs := [.bool (ng O), .slice A_l (mg O).length c_l]) (t := 24) (by repeat (first | exact List.mem_cons_self | apply List.mem_cons_of_mem)) 1) ((hK.apart 0 2 rfl rfl rfl : ¬ g6_5 = g2_1 ∧ ¬ g2_1 = g6_5)))))))
      go_wp2_with (first | (go_at_call 34; (with_reducible refine (Mul_ref (ng O) n0 A_l A0 c_l c0 (mg O) xs0 _ (hK.rd _ _ _ (by repeat (first | exact List.mem_cons_self | apply List.mem_cons_of_mem))) (hK.rd _ _ _ (by repeat (first | exact List.mem_cons_self | apply List.mem_cons_of_mem))) (by omega) (by omega) O x r7 (iv_canon _) E_x.out E_r7.out).mono ?_); rintro e w_2 ⟨A_r7_8, c_r7_8, rfl, hR, hb⟩; replace hK := (hK.below hb).row hR; clear hb hR; clear hc; have hc := And.intro ((hK.at_ (g := g6_5) (cs := [.bool (ng O), .slice A_l (mg O).length c_l]) (t := 24) (by repeat (first | exact List.mem_cons_self | apply List.mem_cons_of_mem)) 0 rfl : World.cell? _ _ = some (.bool (ng O)))) (And.intro ((hK.at_ (g := g6_5) (cs := [.bool (ng O), .slice A_l (mg O).length c_l]) (t := 24) (by repeat (first | exact List.mem_cons_self | apply List.mem_cons_of_mem)) 1 rfl : World.cell? _ _ = some (.slice A_l (mg O).length c_l))) (And.intro ((hK.at_ (g := g2_1) (cs := [.bool n0, .slice A0 xs0.length c0]) (t := 24) (by repeat (first | exact List.mem_cons_self | apply List.mem_cons_of_mem)) 0 rfl : World.cell? _ _ = some (.bool n0))) (And.intro ((hK.at_ (g := g2_1) (cs := [.bool n0, .slice A0 xs0.length c0]) (t := 24) (by repeat (first | exact List.mem_cons_self | apply List.mem_cons_of_mem)) 1 rfl : World.cell? _ _ = some (.slice A0 xs0.length c0))) (And.intro (hK.free (g := g6_5) (cs := [.bool (ng O), .slice A_l (mg O).length c_l]) (t := 24) (by repeat (first | exact List.mem_cons_self | apply List.mem_cons_of_mem)) 0) (And.intro (hK.free (g := g6_5) (cs := [.bool (ng O), .slice A_l (mg O).length c_l]) (t := 24) (by repeat (first | exact List.mem_cons_self | apply List.mem_cons_of_mem)) 1) ((hK.apart 0 2 rfl rfl rfl : ¬ g6_5 = g2_1 ∧ ¬ g2_1 = g6_5)))))))))
      replace hK := ((hK.put 0 0 (.bool (ng r7)) (by rfl) (by intro x h; cases h) (by rfl)).put 0 1 (.slice A_r7_8 (mg r7).length c_r7_8) (by rfl) (by intro x h; cases h) (by rfl))
      go_upto_region 6 with (fail)
      go_wp2
      go_roundg (gk - 1)
      case measure => have := HI.out.2.2.2; have := hpC; omega
      case rel => exact ⟨(k + 1), r7, A_r7_8, c_r7_8, (by first | rfl | go_num), ⟨(hK.row (Rd.nil _)).sub (by intro x hx; simp only [List.mem_cons, List.not_mem_nil, or_false] at hx ⊢; rcases hx with rfl | rfl <;> simp)⟩, ⟨by rw [← E_r7.out, HI.out.1, Int.pow_succ], by rw [← E_r7.out]; exact mg_pow l_x HI.out.2.1, by have := hpC; omega, by have := HI.out.2.2.2; have := hpC; omega⟩⟩
theorem bitLen_b (A : Option Addr) (c : Nat) (xs : List Int) (w : World) (h : Rd w A c xs) (hl : xs.length ≤ 1099511627776) (b : Int) (hb : (bl (val xs) : Int) = b) :
    Calls Tryd.prog 71 #[.slice A xs.length c] w fun e w' => e = .returned (.int .i64 b) ∧ Below w.heap.size w w' := by
  refine (bitLen_ref A c xs w h hl).mono ?_
  rintro e w' ⟨rfl, rfl⟩
  exact ⟨by rw [hb], Below.refl _ _⟩
set_option maxHeartbeats 4000000 in
set_option maxRecDepth 100000 in
theorem BitLen_ref (n0 : Bool) (A0 : Option Addr) (c0 : Nat) (xs0 : List Int) (w : World) (h0 : Rd w A0 c0 xs0) (N : Nat) (hN : N ≤ 100000000000) (hl0 : xs0.length ≤ N) (x : Int) (b : Int) (e0 : iv n0 xs0 = x) (hb : (bl (x.natAbs : Int) : Int) = b) :
    Calls Tryd.prog 48 #[.agg #[.bool n0, .slice A0 xs0.length c0]] w fun e w' => e = .returned (.int .i64 b) ∧ Below w.heap.size w w' := by
  have E_x := Aside0.mk e0
  have l_x : (mg x).length ≤ N := by rw [← e0]; exact mg_iv_le n0 h0.dig hl0
  clear e0
  have hK := ((KP.start w).row h0)
  have HB := Aside0.mk (show (bl (val xs0) : Int) = b by rw [← hb, ← E_x.out]; have h := (val_bounds xs0 h0.dig).1; congr 2; unfold iv; cases n0 <;> simp <;> omega)
  clear hb
  go_enter Tryd.func48, Tryd.ntmps48
  go_upto_region 0 with (fail)
  go_cut [1, 2] (fun v1 v2 wc => ∃ (g1_1 : Nat), v1 = .pointer (some ⟨g1_1, 0, none⟩) ∧ v2 = .int .i64 0 ∧ Aside0 (KP w wc [(g1_1, [.bool n0, .slice A0 xs0.length c0], 24)] [(A0, c0, xs0)]))
  case first =>
    go_wp2
    go_meet
    all_goals refine ⟨_, rfl, rfl, ⟨?_⟩⟩
    all_goals first
      | (exact (hK.new [.bool n0, .slice A0 xs0.length c0] 24 (NoDig.bool _ (NoDig.slice _ _ _ NoDig.nil)) (by first | rfl | simp)))
  clear hK
  obtain ⟨g1_1, rfl, rfl, hK0⟩ := hcut
  have hK := hK0.out
  clear hK0
  go_upto_region 1 with (fail)
  go_cut [2] (fun v2 wc => v2 = .int .i64 b ∧ Aside0 (KP w wc [(g1_1, [.bool n0, .slice A0 xs0.length c0], 24)] [(A0, c0, xs0)]))
  case first =>
    have hc := And.intro ((hK.at_ (g := g1_1) (cs := [.bool n0, .slice A0 xs0.length c0]) (t := 24) (by repeat (first | exact List.mem_cons_self | apply List.mem_cons_of_mem)) 0 rfl : World.cell? _ _ = some (.bool n0))) ((hK.at_ (g := g1_1) (cs := [.bool n0, .slice A0 xs0.length c0]) (t := 24) (by repeat (first | exact List.mem_cons_self | apply List.mem_cons_of_mem)) 1 rfl : World.cell? _ _ = some (.slice A0 xs0.length c0)))
    go_wp2_with (first | (go_at_call 71; (with_reducible refine (bitLen_b A0 c0 xs0 _ (hK.rd _ _ _ (by repeat (first | exact List.mem_cons_self | apply List.mem_cons_of_mem))) (by omega) b HB.out).mono ?_); rintro e w_1 ⟨rfl, hb⟩; replace hK := hK.below hb; clear hb; clear hc; have hc := And.intro ((hK.at_ (g := g1_1) (cs := [.bool n0, .slice A0 xs0.length c0]) (t := 24) (by repeat (first | exact List.mem_cons_self | apply List.mem_cons_of_mem)) 0 rfl : World.cell? _ _ = some (.bool n0))) ((hK.at_ (g := g1_1) (cs := [.bool n0, .slice A0 xs0.length c0]) (t := 24) (by repeat (first | exact List.mem_cons_self | apply List.mem_cons_of_mem)) 1 rfl : World.cell? _ _ = some (.slice A0 xs0.length c0)))))
    go_meet
    exact ⟨rfl, ⟨hK⟩⟩
  clear hK
  obtain ⟨rfl, hK0⟩ := hcut
  have hK := hK0.out
  clear hK0
  go_wp2
  go_ret
  exact ⟨rfl, hK.be⟩
end Go.Proofs.YtegnnghoiffmhaaDoor.Big
