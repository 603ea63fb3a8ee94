/- Sqrt: the program's and the reference's. -/
import Derived.Test.YtegnnghoiffmhaaDoorKPow
import Derived.Test.YtegnnghoiffmhaaDoorKBit
import Derived.Test.YtegnnghoiffmhaaDoorKSqMath
import Derived.Deep.DeepCutAuto
import Derived.Deep.RegionHeld3
namespace Go.Proofs.YtegnnghoiffmhaaDoor.Big
open Go.RowKit Go.Proofs.YtegnnghoiffmhaaDoorW.PrintWords Go.Proofs.YtegnnghoiffmhaaDoorW.PrintLast
set_option linter.unusedVariables false
set_option linter.unusedSimpArgs false
attribute [local go_sem ↓] Go.wp_at_zero Go.wp_at_succ

theorem lit1_rd (W : World) : Rd (W.alloc (.cells #[.int .u32 1] 57)) (some ⟨W.heap.size, 0, none⟩) 1 [1] := (Ow.lit1 W W.heap.size 1 (by omega) (Nat.le_refl _)).rd'.2
theorem lit1_rd' (W : World) {g : Nat} (h : W.heap.size = g) : Rd (W.alloc (.cells #[.int .u32 1] 57)) (some ⟨g, 0, none⟩) 1 [1] := h ▸ lit1_rd W
theorem shift_one (A : Option Addr) (c n : Nat) (p : Int) (w : World) (h : Rd w A c [1]) (hn : n ≤ 4398046511104) (hp : (2 : Int) ^ n = p) :
    Calls Tryd.prog 72 #[.slice A 1 c, .int .i64 (n : Int)] w fun e w' => ∃ A' c', e = .returned (.slice A' (mg p).length c') ∧ Rd w' A' c' (mg p) ∧ Below w.heap.size w w' := by
  refine (shift_ref A c n (n / 32) (n % 32) [1] w h (by omega) (by omega) (by simp) (by omega)).mono ?_
  rintro e w' ⟨A', c', cs, rfl, ho, hv, ht⟩
  have hR := ho.ow.rd'.2
  have e1 : cs = mg p := by rw [← ht]; exact trim_mg false hR.dig (by simp only [iv, hv, val, hp.symm]; simp)
  subst e1
  exact ⟨A', c', rfl, hR, ho.be⟩
set_option maxHeartbeats 4000000 in
set_option maxRecDepth 100000 in
theorem Sqrt_ref_neg (n0 : Bool) (A0 : Option Addr) (c0 : Nat) (xs0 : List Int) (w : World) (h0 : Rd w A0 c0 xs0) (N : Nat) (hN : N ≤ 100000000) (hl0 : xs0.length ≤ N) (x : Int) (e0 : iv n0 xs0 = x) (hx0 : x < 0) :
    Calls Tryd.prog 46 #[.agg #[.bool n0, .slice A0 xs0.length c0]] w fun e w' => ResE e w w' 0 5 := by
  have E_x := Aside0.mk e0
  have l_x : (mg x).length ≤ N := by rw [← e0]; exact mg_iv_le n0 h0.dig hl0
  clear e0
  have hK := ((KP.start w).row h0)
  have hb0 : ng x = true := by unfold ng; simpa using hx0
  have HB0 := Aside0.mk hb0
  clear hx0 hb0
  go_enter Tryd.func46, Tryd.ntmps46
  go_upto_region 0 with (fail)
  go_cut [1, 2, 3] (fun v1 v2 v3 wc => ∃ (g1_1 : Nat) (g2_2 : Nat), v1 = .pointer (some ⟨g1_1, 0, none⟩) ∧ v2 = .pointer (some ⟨g2_2, 0, none⟩) ∧ v3 = .int .i64 0 ∧ Aside0 (KP w wc [(g2_2, [.bool false, .slice none 0 0], 24), (g1_1, [.bool n0, .slice A0 xs0.length c0], 24)] [(A0, c0, xs0)]))
  case first =>
    go_wp2
    go_meet
    all_goals refine ⟨_, _, rfl, rfl, rfl, ⟨?_⟩⟩
    all_goals first
      | (exact ((hK.new [.bool n0, .slice A0 xs0.length c0] 24 (NoDig.bool _ (NoDig.slice _ _ _ NoDig.nil)) (by first | rfl | simp)).new [.bool false, .slice none 0 0] 24 (NoDig.bool _ (NoDig.slice _ _ _ NoDig.nil)) (by first | rfl | simp)))
  clear hK
  obtain ⟨g1_1, g2_2, rfl, rfl, rfl, hK0⟩ := hcut
  have hK := hK0.out
  clear hK0
  go_upto_region 1 with (fail)
  go_cut [] (fun wc => ∃ (A_x_3 : Option Addr) (c_x_3 : Nat), Aside0 (KP w wc [(g2_2, [.bool false, .slice none 0 0], 24), (g1_1, [.bool (ng x), .slice A_x_3 (mg x).length c_x_3], 24)] [(A_x_3, c_x_3, (mg x)), (A0, c0, xs0)]))
  case first =>
    have hc := And.intro ((hK.at_ (g := g1_1) (cs := [.bool n0, .slice A0 xs0.length c0]) (t := 24) (by repeat (first | exact List.mem_cons_self | apply List.mem_cons_of_mem)) 0 rfl : World.cell? _ _ = some (.bool n0))) (And.intro ((hK.at_ (g := g1_1) (cs := [.bool n0, .slice A0 xs0.length c0]) (t := 24) (by repeat (first | exact List.mem_cons_self | apply List.mem_cons_of_mem)) 1 rfl : World.cell? _ _ = some (.slice A0 xs0.length c0))) (And.intro (hK.free (g := g1_1) (cs := [.bool n0, .slice A0 xs0.length c0]) (t := 24) (by repeat (first | exact List.mem_cons_self | apply List.mem_cons_of_mem)) 0) (hK.free (g := g1_1) (cs := [.bool n0, .slice A0 xs0.length c0]) (t := 24) (by repeat (first | exact List.mem_cons_self | apply List.mem_cons_of_mem)) 1)))
    go_wp2_with (first | (go_at_call 39; (with_reducible refine (Canon_v n0 A0 c0 xs0 _ (hK.rd _ _ _ (by repeat (first | exact List.mem_cons_self | apply List.mem_cons_of_mem))) (by omega) x E_x.out).mono ?_); rintro e w_1 ⟨A_x_3, c_x_3, rfl, hR, hb⟩; replace hK := (hK.below hb).row hR; clear hb hR; clear hc; have hc := And.intro ((hK.at_ (g := g1_1) (cs := [.bool n0, .slice A0 xs0.length c0]) (t := 24) (by repeat (first | exact List.mem_cons_self | apply List.mem_cons_of_mem)) 0 rfl : World.cell? _ _ = some (.bool n0))) (And.intro ((hK.at_ (g := g1_1) (cs := [.bool n0, .slice A0 xs0.length c0]) (t := 24) (by repeat (first | exact List.mem_cons_self | apply List.mem_cons_of_mem)) 1 rfl : World.cell? _ _ = some (.slice A0 xs0.length c0))) (And.intro (hK.free (g := g1_1) (cs := [.bool n0, .slice A0 xs0.length c0]) (t := 24) (by repeat (first | exact List.mem_cons_self | apply List.mem_cons_of_mem)) 0) (hK.free (g := g1_1) (cs := [.bool n0, .slice A0 xs0.length c0]) (t := 24) (by repeat (first | exact List.mem_cons_self | apply List.mem_cons_of_mem)) 1)))))
    go_meet
    replace hK := ((hK.put 1 0 (.bool (ng x)) (by rfl) (by intro x h; cases h) (by rfl)).put 1 1 (.slice A_x_3 (mg x).length c_x_3) (by rfl) (by intro x h; cases h) (by rfl))
    exact ⟨A_x_3, c_x_3, ⟨hK⟩⟩
  clear hK
  obtain ⟨A_x_3, c_x_3, hK0⟩ := hcut
  have hK := hK0.out
  clear hK0
  have hb0 := HB0.out
  go_upto_region 2 with (fail)
  go_cut [10] (fun v10 wc => v10 = .bool true ∧ Aside0 (KP w wc [(g2_2, [.bool false, .slice none 0 0], 24), (g1_1, [.bool (ng x), .slice A_x_3 (mg x).length c_x_3], 24)] [(A_x_3, c_x_3, (mg x)), (A0, c0, xs0)]))
  case first =>
    have hc := And.intro ((hK.at_ (g := g1_1) (cs := [.bool (ng x), .slice A_x_3 (mg x).length c_x_3]) (t := 24) (by repeat (first | exact List.mem_cons_self | apply List.mem_cons_of_mem)) 0 rfl : World.cell? _ _ = some (.bool (ng x)))) ((hK.at_ (g := g1_1) (cs := [.bool (ng x), .slice A_x_3 (mg x).length c_x_3]) (t := 24) (by repeat (first | exact List.mem_cons_self | apply List.mem_cons_of_mem)) 1 rfl : World.cell? _ _ = some (.slice A_x_3 (mg x).length c_x_3)))
    go_wp2
    go_meet
    exact ⟨rfl, ⟨hK⟩⟩
  clear hK
  obtain ⟨rfl, hK0⟩ := hcut
  have hK := hK0.out
  clear hK0
  clear hb0
  go_upto_region 3 with (fail)
  go_cut [3] (fun v3 wc => v3 = .int .i64 5 ∧ Aside0 (KP w wc [(g2_2, [.bool false, .slice none 0 0], 24), (g1_1, [.bool (ng x), .slice A_x_3 (mg x).length c_x_3], 24)] [(A_x_3, c_x_3, (mg x)), (A0, c0, xs0)]))
  case first =>
    have hc := And.intro ((hK.at_ (g := g2_2) (cs := [.bool false, .slice none 0 0]) (t := 24) (by repeat (first | exact List.mem_cons_self | apply List.mem_cons_of_mem)) 0 rfl : World.cell? _ _ = some (.bool false))) (And.intro ((hK.at_ (g := g2_2) (cs := [.bool false, .slice none 0 0]) (t := 24) (by repeat (first | exact List.mem_cons_self | apply List.mem_cons_of_mem)) 1 rfl : World.cell? _ _ = some (.slice none 0 0))) (And.intro (hK.free (g := g2_2) (cs := [.bool false, .slice none 0 0]) (t := 24) (by repeat (first | exact List.mem_cons_self | apply List.mem_cons_of_mem)) 0) (hK.free (g := g2_2) (cs := [.bool false, .slice none 0 0]) (t := 24) (by repeat (first | exact List.mem_cons_self | apply List.mem_cons_of_mem)) 1)))
    go_wp2
    go_meet
    replace hK := ((hK.put 0 0 (.bool false) (by rfl) (by intro x h; cases h) (by rfl)).put 0 1 (.slice none 0 0) (by rfl) (by intro x h; cases h) (by rfl))
    exact ⟨rfl, ⟨hK⟩⟩
  clear hK
  obtain ⟨rfl, hK0⟩ := hcut
  have hK := hK0.out
  clear hK0
  have rr0 := (hK.at_ (g := g2_2) (cs := [.bool false, .slice none 0 0]) (t := 24) (by repeat (first | exact List.mem_cons_self | apply List.mem_cons_of_mem)) 0 rfl : World.cell? _ _ = some (.bool false))
  have rr1 := (hK.at_ (g := g2_2) (cs := [.bool false, .slice none 0 0]) (t := 24) (by repeat (first | exact List.mem_cons_self | apply List.mem_cons_of_mem)) 1 rfl : World.cell? _ _ = some (.slice none 0 0))
  go_wp2
  exact bodyPost_ret (v := .tuple #[.agg #[.bool false, .slice none 0 0], .int .i64 5]) (by simp [results, Tryd.results46, go_sem, rr0, rr1]) rfl ⟨none, 0, by rw [mg_zero, ng_zero]; rfl, by rw [mg_zero]; exact Rd.nil _, hK.be⟩
set_option maxHeartbeats 4000000 in
set_option maxRecDepth 100000 in
theorem Sqrt_ref (n0 : Bool) (A0 : Option Addr) (c0 : Nat) (xs0 : List Int) (w : World) (h0 : Rd w A0 c0 xs0) (N : Nat) (hN : N ≤ 100000000) (hl0 : xs0.length ≤ N) (x : Int) (z : Int) (e0 : iv n0 xs0 = x) (hx0 : 0 ≤ x) (hz : SQ x z) :
    Calls Tryd.prog 46 #[.agg #[.bool n0, .slice A0 xs0.length c0]] w fun e w' => ResE e w w' z 0 := by
  have E_x := Aside0.mk e0
  have l_x : (mg x).length ≤ N := by rw [← e0]; exact mg_iv_le n0 h0.dig hl0
  clear e0
  have hK := ((KP.start w).row h0)
  have hb0 : ng x = false := by unfold ng; simp; omega
  have HB0 := Aside0.mk hb0
  clear hb0
  have P_x := Aside0.mk hx0
  have HZ := Aside0.mk hz
  obtain ⟨b, hb⟩ : ∃ b, bl x = b := ⟨_, rfl⟩
  obtain ⟨i0, hi⟩ : ∃ i, b / 2 = i := ⟨_, rfl⟩
  have hbN := bl_mg l_x
  have HB := Aside0.mk (And.intro (show (bl (val (mg x)) : Int) = b by rw [mgv hx0, hb]) (show bl x ≤ 2 * (i0 + 1) by omega))
  have hq : Int.tdiv (b : Int) 2 = (i0 : Int) := by rw [Int.tdiv_eq_ediv_of_nonneg (by omega)]; omega
  have hi0 : i0 ≤ 16 * N := by omega
  have hb3 : b ≤ 32 * N := by omega
  clear hz hb hi hbN
  go_enter Tryd.func46, Tryd.ntmps46
  go_upto_region 0 with (fail)
  go_cut [1, 2, 3] (fun v1 v2 v3 wc => ∃ (g1_1 : Nat) (g2_2 : Nat), v1 = .pointer (some ⟨g1_1, 0, none⟩) ∧ v2 = .pointer (some ⟨g2_2, 0, none⟩) ∧ v3 = .int .i64 0 ∧ Aside0 (KP w wc [(g2_2, [.bool false, .slice none 0 0], 24), (g1_1, [.bool n0, .slice A0 xs0.length c0], 24)] [(A0, c0, xs0)]))
  case first =>
    go_wp2
    go_meet
    all_goals refine ⟨_, _, rfl, rfl, rfl, ⟨?_⟩⟩
    all_goals first
      | (exact ((hK.new [.bool n0, .slice A0 xs0.length c0] 24 (NoDig.bool _ (NoDig.slice _ _ _ NoDig.nil)) (by first | rfl | simp)).new [.bool false, .slice none 0 0] 24 (NoDig.bool _ (NoDig.slice _ _ _ NoDig.nil)) (by first | rfl | simp)))
  clear hK
  obtain ⟨g1_1, g2_2, rfl, rfl, rfl, hK0⟩ := hcut
  have hK := hK0.out
  clear hK0
  go_upto_region 1 with (fail)
  go_cut [] (fun wc => ∃ (A_x_3 : Option Addr) (c_x_3 : Nat), Aside0 (KP w wc [(g2_2, [.bool false, .slice none 0 0], 24), (g1_1, [.bool (ng x), .slice A_x_3 (mg x).length c_x_3], 24)] [(A_x_3, c_x_3, (mg x)), (A0, c0, xs0)]))
  case first =>
    have hc := And.intro ((hK.at_ (g := g1_1) (cs := [.bool n0, .slice A0 xs0.length c0]) (t := 24) (by repeat (first | exact List.mem_cons_self | apply List.mem_cons_of_mem)) 0 rfl : World.cell? _ _ = some (.bool n0))) (And.intro ((hK.at_ (g := g1_1) (cs := [.bool n0, .slice A0 xs0.length c0]) (t := 24) (by repeat (first | exact List.mem_cons_self | apply List.mem_cons_of_mem)) 1 rfl : World.cell? _ _ = some (.slice A0 xs0.length c0))) (And.intro (hK.free (g := g1_1) (cs := [.bool n0, .slice A0 xs0.length c0]) (t := 24) (by repeat (first | exact List.mem_cons_self | apply List.mem_cons_of_mem)) 0) (hK.free (g := g1_1) (cs := [.bool n0, .slice A0 xs0.length c0]) (t := 24) (by repeat (first | exact List.mem_cons_self | apply List.mem_cons_of_mem)) 1)))
    go_wp2_with (first | (go_at_call 39; (with_reducible refine (Canon_v n0 A0 c0 xs0 _ (hK.rd _ _ _ (by repeat (first | exact List.mem_cons_self | apply List.mem_cons_of_mem))) (by omega) x E_x.out).mono ?_); rintro e w_1 ⟨A_x_3, c_x_3, rfl, hR, hb⟩; replace hK := (hK.below hb).row hR; clear hb hR; clear hc; have hc := And.intro ((hK.at_ (g := g1_1) (cs := [.bool n0, .slice A0 xs0.length c0]) (t := 24) (by repeat (first | exact List.mem_cons_self | apply List.mem_cons_of_mem)) 0 rfl : World.cell? _ _ = some (.bool n0))) (And.intro ((hK.at_ (g := g1_1) (cs := [.bool n0, .slice A0 xs0.length c0]) (t := 24) (by repeat (first | exact List.mem_cons_self | apply List.mem_cons_of_mem)) 1 rfl : World.cell? _ _ = some (.slice A0 xs0.length c0))) (And.intro (hK.free (g := g1_1) (cs := [.bool n0, .slice A0 xs0.length c0]) (t := 24) (by repeat (first | exact List.mem_cons_self | apply List.mem_cons_of_mem)) 0) (hK.free (g := g1_1) (cs := [.bool n0, .slice A0 xs0.length c0]) (t := 24) (by repeat (first | exact List.mem_cons_self | apply List.mem_cons_of_mem)) 1)))))
    go_meet
    replace hK := ((hK.put 1 0 (.bool (ng x)) (by rfl) (by intro x h; cases h) (by rfl)).put 1 1 (.slice A_x_3 (mg x).length c_x_3) (by rfl) (by intro x h; cases h) (by rfl))
    exact ⟨A_x_3, c_x_3, ⟨hK⟩⟩
  clear hK
  obtain ⟨A_x_3, c_x_3, hK0⟩ := hcut
  have hK := hK0.out
  clear hK0
  have hb0 := HB0.out
  go_upto_region 2 with (fail)
  go_cut [10] (fun v10 wc => v10 = .bool false ∧ Aside0 (KP w wc [(g2_2, [.bool false, .slice none 0 0], 24), (g1_1, [.bool (ng x), .slice A_x_3 (mg x).length c_x_3], 24)] [(A_x_3, c_x_3, (mg x)), (A0, c0, xs0)]))
  case first =>
    have hc := And.intro ((hK.at_ (g := g1_1) (cs := [.bool (ng x), .slice A_x_3 (mg x).length c_x_3]) (t := 24) (by repeat (first | exact List.mem_cons_self | apply List.mem_cons_of_mem)) 0 rfl : World.cell? _ _ = some (.bool (ng x)))) ((hK.at_ (g := g1_1) (cs := [.bool (ng x), .slice A_x_3 (mg x).length c_x_3]) (t := 24) (by repeat (first | exact List.mem_cons_self | apply List.mem_cons_of_mem)) 1 rfl : World.cell? _ _ = some (.slice A_x_3 (mg x).length c_x_3)))
    go_wp2
    go_meet
    exact ⟨rfl, ⟨hK⟩⟩
  clear hK
  obtain ⟨rfl, hK0⟩ := hcut
  have hK := hK0.out
  clear hK0
  clear hb0
  go_upto_region 4 with (fail)
  go_cut [4] (fun v4 wc => ∃ (g4_4 : Nat), v4 = .pointer (some ⟨g4_4, 0, none⟩) ∧ Aside0 (KP w wc [(g4_4, [.bool false, .slice none 0 0], 24), (g2_2, [.bool false, .slice none 0 0], 24), (g1_1, [.bool (ng x), .slice A_x_3 (mg x).length c_x_3], 24)] [(A_x_3, c_x_3, (mg x)), (A0, c0, xs0)]))
  case first =>
    go_wp2
    go_meet
    all_goals refine ⟨_, rfl, ⟨?_⟩⟩
    all_goals first
      | (exact (hK.new [.bool false, .slice none 0 0] 24 (NoDig.bool _ (NoDig.slice _ _ _ NoDig.nil)) (by first | rfl | simp)))
  clear hK
  obtain ⟨g4_4, rfl, hK0⟩ := hcut
  have hK := hK0.out
  clear hK0
  go_upto_region 5 with (fail)
  go_cut [5] (fun v5 wc => v5 = .int .i64 (i0 : Int) ∧ Aside0 (KP w wc [(g4_4, [.bool false, .slice none 0 0], 24), (g2_2, [.bool false, .slice none 0 0], 24), (g1_1, [.bool (ng x), .slice A_x_3 (mg x).length c_x_3], 24)] [(A_x_3, c_x_3, (mg x)), (A0, c0, xs0)]))
  case first =>
    have hc := And.intro ((hK.at_ (g := g1_1) (cs := [.bool (ng x), .slice A_x_3 (mg x).length c_x_3]) (t := 24) (by repeat (first | exact List.mem_cons_self | apply List.mem_cons_of_mem)) 0 rfl : World.cell? _ _ = some (.bool (ng x)))) ((hK.at_ (g := g1_1) (cs := [.bool (ng x), .slice A_x_3 (mg x).length c_x_3]) (t := 24) (by repeat (first | exact List.mem_cons_self | apply List.mem_cons_of_mem)) 1 rfl : World.cell? _ _ = some (.slice A_x_3 (mg x).length c_x_3)))
    go_wp2_with (first | (go_at_call 71; (with_reducible refine (bitLen_b A_x_3 c_x_3 (mg x) _ (hK.rd _ _ _ (by repeat (first | exact List.mem_cons_self | apply List.mem_cons_of_mem))) (by omega) (b : Int) HB.out.1).mono ?_); rintro e w_2 ⟨rfl, hb⟩; replace hK := hK.below hb; clear hb; clear hc; have hc := And.intro ((hK.at_ (g := g1_1) (cs := [.bool (ng x), .slice A_x_3 (mg x).length c_x_3]) (t := 24) (by repeat (first | exact List.mem_cons_self | apply List.mem_cons_of_mem)) 0 rfl : World.cell? _ _ = some (.bool (ng x)))) ((hK.at_ (g := g1_1) (cs := [.bool (ng x), .slice A_x_3 (mg x).length c_x_3]) (t := 24) (by repeat (first | exact List.mem_cons_self | apply List.mem_cons_of_mem)) 1 rfl : World.cell? _ _ = some (.slice A_x_3 (mg x).length c_x_3)))))
    go_meet
    exact ⟨rfl, ⟨hK⟩⟩
  clear hK
  obtain ⟨rfl, hK0⟩ := hcut
  have hK := hK0.out
  clear hK0
  go_wp2
  go_loopg [5, 6] (i0 + 1) (fun kq v5 v6 w' => ∃ (i : Int) (R : Int) (n_R : Bool) (A_R : Option Addr) (c_R : Nat) (xs_R : List Int), v5 = .int .i64 i ∧ Aside0 (KP w w' [(g4_4, [.bool n_R, .slice A_R xs_R.length c_R], 24), (g2_2, [.bool false, .slice none 0 0], 24), (g1_1, [.bool (ng x), .slice A_x_3 (mg x).length c_x_3], 24)] [(A_R, c_R, xs_R), (A_x_3, c_x_3, (mg x)), (A0, c0, xs0)]) ∧ Aside0 (iv n_R xs_R = R ∧ xs_R.length ≤ N ∧ 0 ≤ R ∧ R * R ≤ x ∧ x < (R + 2 ^ kq) * (R + 2 ^ kq) ∧ i + 1 = kq ∧ i ≤ i0 ∧ n_R = ng R ∧ xs_R = mg R))
  case atStart => exact ⟨(i0 : Int), 0, false, none, 0, [], (by first | rfl | go_num), ⟨(hK.row (Rd.nil _)).sub (by intro x hx; simp only [List.mem_cons, List.not_mem_nil, or_false] at hx ⊢; rcases hx with rfl | rfl | rfl <;> simp)⟩, ⟨rfl, by simp, by omega, by have := P_x.out; omega, by have := sq_pow x HB.out.2; simpa using this, by omega, by omega, rfl, mg_zero.symm⟩⟩
  case round =>
    clear hK
    obtain ⟨i, R, n_R, A_R, c_R, xs_R, rfl, hK0, HI⟩ := hrel
    have hK := hK0.out
    clear hK0
    have E_R := Aside0.mk HI.out.1
    have hxl_R := HI.out.2.1
    have l_R : (mg R).length ≤ N := mg_mono HI.out.2.2.1 (root_le HI.out.2.2.1 HI.out.2.2.2.1) l_x
    have hi1 := HI.out.2.2.2.2.2.1
    have hi2 := HI.out.2.2.2.2.2.2.1
    go_upto_region 6 with (fail)
    go_cut [18] (fun v18 wc => v18 = .bool (decide (0 ≤ i)) ∧ Aside0 (KP w wc [(g4_4, [.bool n_R, .slice A_R xs_R.length c_R], 24), (g2_2, [.bool false, .slice none 0 0], 24), (g1_1, [.bool (ng x), .slice A_x_3 (mg x).length c_x_3], 24)] [(A_R, c_R, xs_R), (A_x_3, c_x_3, (mg x)), (A0, c0, xs0)]))
    case first =>
      go_wp2
      go_meet
      exact ⟨rfl, ⟨hK⟩⟩
    clear hK
    obtain ⟨rfl, hK0⟩ := hcut
    have hK := hK0.out
    clear hK0
    cases hb5 : (decide (0 ≤ i))
    case false =>
      have hphb5 := of_decide_eq_false hb5
      have hpi : ¬ 0 ≤ i := hphb5
      go_upto_region 11 with (fail)
      go_cut [3] (fun v3 wc => v3 = .int .i64 0 ∧ Aside0 (KP w wc [(g4_4, [.bool n_R, .slice A_R xs_R.length c_R], 24), (g2_2, [.bool n_R, .slice A_R xs_R.length c_R], 24), (g1_1, [.bool (ng x), .slice A_x_3 (mg x).length c_x_3], 24)] [(A_R, c_R, xs_R), (A_x_3, c_x_3, (mg x)), (A0, c0, xs0)]))
      case first =>
        have hc := And.intro ((hK.at_ (g := g4_4) (cs := [.bool n_R, .slice A_R xs_R.length c_R]) (t := 24) (by repeat (first | exact List.mem_cons_self | apply List.mem_cons_of_mem)) 0 rfl : World.cell? _ _ = some (.bool n_R))) (And.intro ((hK.at_ (g := g4_4) (cs := [.bool n_R, .slice A_R xs_R.length c_R]) (t := 24) (by repeat (first | exact List.mem_cons_self | apply List.mem_cons_of_mem)) 1 rfl : World.cell? _ _ = some (.slice A_R xs_R.length c_R))) (And.intro ((hK.at_ (g := g2_2) (cs := [.bool false, .slice none 0 0]) (t := 24) (by repeat (first | exact List.mem_cons_self | apply List.mem_cons_of_mem)) 0 rfl : World.cell? _ _ = some (.bool false))) (And.intro ((hK.at_ (g := g2_2) (cs := [.bool false, .slice none 0 0]) (t := 24) (by repeat (first | exact List.mem_cons_self | apply List.mem_cons_of_mem)) 1 rfl : World.cell? _ _ = some (.slice none 0 0))) (And.intro (hK.free (g := g2_2) (cs := [.bool false, .slice none 0 0]) (t := 24) (by repeat (first | exact List.mem_cons_self | apply List.mem_cons_of_mem)) 0) (And.intro (hK.free (g := g2_2) (cs := [.bool false, .slice none 0 0]) (t := 24) (by repeat (first | exact List.mem_cons_self | apply List.mem_cons_of_mem)) 1) ((hK.apart 1 0 rfl rfl rfl : ¬ g2_2 = g4_4 ∧ ¬ g4_4 = g2_2)))))))
        go_wp2
        go_meet
        replace hK := ((hK.put 1 0 (.bool n_R) (by rfl) (by intro x h; cases h) (by rfl)).put 1 1 (.slice A_R xs_R.length c_R) (by rfl) (by intro x h; cases h) (by rfl))
        exact ⟨rfl, ⟨hK⟩⟩
      clear hK
      obtain ⟨rfl, hK0⟩ := hcut
      have hK := hK0.out
      clear hK0
      have ez : R = z := by have h := HI.out.2.2.2.2.1; rw [show gk = 0 by omega] at h; exact sq_unique (sq_last HI.out.2.2.1 HI.out.2.2.2.1 h) HZ.out
      obtain ⟨hn_, hx_⟩ := HI.out.2.2.2.2.2.2.2
      subst hn_ hx_ ez
      have rr0_0 := (hK.at_ (g := g2_2) (cs := [.bool (ng R), .slice A_R (mg R).length c_R]) (t := 24) (by repeat (first | exact List.mem_cons_self | apply List.mem_cons_of_mem)) 0 rfl : World.cell? _ _ = some (.bool (ng R)))
      have rr0_1 := (hK.at_ (g := g2_2) (cs := [.bool (ng R), .slice A_R (mg R).length c_R]) (t := 24) (by repeat (first | exact List.mem_cons_self | apply List.mem_cons_of_mem)) 1 rfl : World.cell? _ _ = some (.slice A_R (mg R).length c_R))
      go_wp2
      exact bodyPost_ret (v := .tuple #[.agg #[.bool (ng R), .slice A_R (mg R).length c_R], .int .i64 0]) (by simp [results, Tryd.results46, go_sem, rr0_0, rr0_1]) rfl ⟨_, _, rfl, hK.rd _ _ _ (by repeat (first | exact List.mem_cons_self | apply List.mem_cons_of_mem)), hK.be⟩
    case true =>
      have hphb5 := of_decide_eq_true hb5
      have hpi : 0 ≤ i := hphb5
      obtain ⟨m, rfl⟩ := Int.eq_ofNat_of_zero_le hpi
      obtain ⟨p, hp_⟩ : ∃ p, (2 : Int) ^ m = p := ⟨_, rfl⟩
      have HP := Aside0.mk hp_
      have l_p : (mg p).length ≤ N + 1 := by rw [← hp_]; exact mg_pow2 (by omega)
      have P_p := Aside0.mk (show 0 ≤ p by rw [← hp_]; have := two_pos m; omega)
      clear hp_
      have E_p_6 := Aside0.mk (show iv false (mg p) = p from by exact iv_mg P_p.out)
      obtain ⟨t, e_t⟩ : ∃ z : Int, R + p = z := ⟨_, rfl⟩
      have E_t := Aside0.mk e_t
      have l_t : (mg t).length ≤ N + 2 := by rw [← e_t]; exact mg_add l_R l_p (by omega) (by omega)
      clear e_t
      obtain ⟨r7, e_r7⟩ : ∃ z : Int, t * t = z := ⟨_, rfl⟩
      have E_r7 := Aside0.mk e_r7
      have l_r7 : (mg r7).length ≤ 2 * N + 4 := by rw [← e_r7]; exact mg_mul l_t l_t (by omega)
      clear e_r7
      have E_tt := E_r7
      go_upto_region 8 with (fail)
      go_cut [6] (fun v6 wc => ∃ (g6 : Nat) (A_t : Option Addr) (c_t : Nat), v6 = .pointer (some ⟨g6, 0, none⟩) ∧ Aside0 (KP w wc [(g6, [.bool (ng t), .slice A_t (mg t).length c_t], 24), (g4_4, [.bool n_R, .slice A_R xs_R.length c_R], 24), (g2_2, [.bool false, .slice none 0 0], 24), (g1_1, [.bool (ng x), .slice A_x_3 (mg x).length c_x_3], 24)] [(A_t, c_t, (mg t)), (A_R, c_R, xs_R), (A_x_3, c_x_3, (mg x)), (A0, c0, xs0)]))
      case first =>
        have s0 := (hK.at_ (g := g4_4) (cs := [.bool n_R, .slice A_R xs_R.length c_R]) (t := 24) (by repeat (first | exact List.mem_cons_self | apply List.mem_cons_of_mem)) 0 rfl : World.cell? _ _ = some (.bool n_R))
        have s1 := (hK.at_ (g := g4_4) (cs := [.bool n_R, .slice A_R xs_R.length c_R]) (t := 24) (by repeat (first | exact List.mem_cons_self | apply List.mem_cons_of_mem)) 1 rfl : World.cell? _ _ = some (.slice A_R xs_R.length c_R))
        have t0 := hK.lt (g := g4_4) (cs := [.bool n_R, .slice A_R xs_R.length c_R]) (t := 24) (by repeat (first | exact List.mem_cons_self | apply List.mem_cons_of_mem))
        go_region_held3 (fun w' => w'.cell? ⟨g4_4, 0, none⟩ = some (.bool n_R) ∧ w'.cell? ⟨g4_4, 1, none⟩ = some (.slice A_R xs_R.length c_R))
          (exact ⟨(by (repeat (first | with_reducible assumption | with_reducible refine kp_alloc_cell ?_ | with_reducible refine kp_drew_cell ?_ | with_reducible refine far_cell (by dsimp only; omega) ?_))), (by (repeat (first | with_reducible assumption | with_reducible refine kp_alloc_cell ?_ | with_reducible refine kp_drew_cell ?_ | with_reducible refine far_cell (by dsimp only; omega) ?_)))⟩)
          (first
            | (go_simp; go_at_call 72; (with_reducible refine Calls.mono (shift_one (some ⟨wc.heap.size, 0, none⟩) 1 m p _ (((hK.alloc _).row (lit1_rd' _ (g := wc.heap.size) (by first | rfl | simp))).drew.rd _ _ _ (by repeat (first | exact List.mem_cons_self | apply List.mem_cons_of_mem))) (by omega) HP.out) ?_); rintro e w_s ⟨A_p, c_p, rfl, hR, hb⟩; replace hK := (((hK.alloc _).row (lit1_rd' _ (g := wc.heap.size) (by first | rfl | simp))).drew.below hb).row hR; clear hb hR; (try clear hroom); (try have hroom := hK.room); clear s0 s1; have s0 := (hK.at_ (g := g4_4) (cs := [.bool n_R, .slice A_R xs_R.length c_R]) (t := 24) (by repeat (first | exact List.mem_cons_self | apply List.mem_cons_of_mem)) 0 rfl : World.cell? _ _ = some (.bool n_R)); have s1 := (hK.at_ (g := g4_4) (cs := [.bool n_R, .slice A_R xs_R.length c_R]) (t := 24) (by repeat (first | exact List.mem_cons_self | apply List.mem_cons_of_mem)) 1 rfl : World.cell? _ _ = some (.slice A_R xs_R.length c_R)); have t0 := hK.lt (g := g4_4) (cs := [.bool n_R, .slice A_R xs_R.length c_R]) (t := 24) (by repeat (first | exact List.mem_cons_self | apply List.mem_cons_of_mem)))
            | (go_simp; go_at_call 72; (with_reducible refine Calls.mono (shift_one (some ⟨wc.heap.size + 1, 0, none⟩) 1 m p _ ((((hK.new (g := wc.heap.size) [.bool false, .slice none 0 0] 24 (NoDig.bool _ (NoDig.slice _ _ _ NoDig.nil)) (by first | rfl | simp)).alloc _).row (lit1_rd' _ (g := wc.heap.size + 1) (by first | rfl | simp))).drew.rd _ _ _ (by repeat (first | exact List.mem_cons_self | apply List.mem_cons_of_mem))) (by omega) HP.out) ?_); rintro e w_s ⟨A_p, c_p, rfl, hR, hb⟩; replace hK := ((((hK.new (g := wc.heap.size) [.bool false, .slice none 0 0] 24 (NoDig.bool _ (NoDig.slice _ _ _ NoDig.nil)) (by first | rfl | simp)).alloc _).row (lit1_rd' _ (g := wc.heap.size + 1) (by first | rfl | simp))).drew.below hb).row hR; clear hb hR; (try clear hroom); (try have hroom := hK.room); clear s0 s1; have s0 := (hK.at_ (g := g4_4) (cs := [.bool n_R, .slice A_R xs_R.length c_R]) (t := 24) (by repeat (first | exact List.mem_cons_self | apply List.mem_cons_of_mem)) 0 rfl : World.cell? _ _ = some (.bool n_R)); have s1 := (hK.at_ (g := g4_4) (cs := [.bool n_R, .slice A_R xs_R.length c_R]) (t := 24) (by repeat (first | exact List.mem_cons_self | apply List.mem_cons_of_mem)) 1 rfl : World.cell? _ _ = some (.slice A_R xs_R.length c_R)); have t0 := hK.lt (g := g4_4) (cs := [.bool n_R, .slice A_R xs_R.length c_R]) (t := 24) (by repeat (first | exact List.mem_cons_self | apply List.mem_cons_of_mem)))
            | (go_simp; go_at_call 72; (with_reducible refine Calls.mono (shift_one (some ⟨wc.heap.size, 0, none⟩) 1 m p _ ((((hK.alloc _).row (lit1_rd' _ (g := wc.heap.size) (by first | rfl | simp))).new (g := wc.heap.size + 1) [.bool false, .slice none 0 0] 24 (NoDig.bool _ (NoDig.slice _ _ _ NoDig.nil)) (by first | rfl | simp)).drew.rd _ _ _ (by repeat (first | exact List.mem_cons_self | apply List.mem_cons_of_mem))) (by omega) HP.out) ?_); rintro e w_s ⟨A_p, c_p, rfl, hR, hb⟩; replace hK := ((((hK.alloc _).row (lit1_rd' _ (g := wc.heap.size) (by first | rfl | simp))).new (g := wc.heap.size + 1) [.bool false, .slice none 0 0] 24 (NoDig.bool _ (NoDig.slice _ _ _ NoDig.nil)) (by first | rfl | simp)).drew.below hb).row hR; clear hb hR; (try clear hroom); (try have hroom := hK.room); clear s0 s1; have s0 := (hK.at_ (g := g4_4) (cs := [.bool n_R, .slice A_R xs_R.length c_R]) (t := 24) (by repeat (first | exact List.mem_cons_self | apply List.mem_cons_of_mem)) 0 rfl : World.cell? _ _ = some (.bool n_R)); have s1 := (hK.at_ (g := g4_4) (cs := [.bool n_R, .slice A_R xs_R.length c_R]) (t := 24) (by repeat (first | exact List.mem_cons_self | apply List.mem_cons_of_mem)) 1 rfl : World.cell? _ _ = some (.slice A_R xs_R.length c_R)); have t0 := hK.lt (g := g4_4) (cs := [.bool n_R, .slice A_R xs_R.length c_R]) (t := 24) (by repeat (first | exact List.mem_cons_self | apply List.mem_cons_of_mem)))
            | (go_simp; go_at_call 53; (with_reducible refine Calls.mono (Make_v false A_p c_p (mg p) _ (hK.rd _ _ _ (by repeat (first | exact List.mem_cons_self | apply List.mem_cons_of_mem))) (by omega) p (iv_mg P_p.out)) ?_); rintro e w_m ⟨A_pm, c_pm, rfl, hR, hb⟩; replace hK := (hK.below hb).row hR; clear hb hR; (try clear hroom); (try have hroom := hK.room); clear s0 s1; have s0 := (hK.at_ (g := g4_4) (cs := [.bool n_R, .slice A_R xs_R.length c_R]) (t := 24) (by repeat (first | exact List.mem_cons_self | apply List.mem_cons_of_mem)) 0 rfl : World.cell? _ _ = some (.bool n_R)); have s1 := (hK.at_ (g := g4_4) (cs := [.bool n_R, .slice A_R xs_R.length c_R]) (t := 24) (by repeat (first | exact List.mem_cons_self | apply List.mem_cons_of_mem)) 1 rfl : World.cell? _ _ = some (.slice A_R xs_R.length c_R)); have t0 := hK.lt (g := g4_4) (cs := [.bool n_R, .slice A_R xs_R.length c_R]) (t := 24) (by repeat (first | exact List.mem_cons_self | apply List.mem_cons_of_mem)))
            | (go_simp; go_at_call 53; (with_reducible refine Calls.mono (Make_v false A_p c_p (mg p) _ ((hK.new (g := w_s.heap.size) [.bool false, .slice none 0 0] 24 (NoDig.bool _ (NoDig.slice _ _ _ NoDig.nil)) (by first | rfl | simp)).rd _ _ _ (by repeat (first | exact List.mem_cons_self | apply List.mem_cons_of_mem))) (by omega) p (iv_mg P_p.out)) ?_); rintro e w_m ⟨A_pm, c_pm, rfl, hR, hb⟩; replace hK := ((hK.new (g := w_s.heap.size) [.bool false, .slice none 0 0] 24 (NoDig.bool _ (NoDig.slice _ _ _ NoDig.nil)) (by first | rfl | simp)).below hb).row hR; clear hb hR; (try clear hroom); (try have hroom := hK.room); clear s0 s1; have s0 := (hK.at_ (g := g4_4) (cs := [.bool n_R, .slice A_R xs_R.length c_R]) (t := 24) (by repeat (first | exact List.mem_cons_self | apply List.mem_cons_of_mem)) 0 rfl : World.cell? _ _ = some (.bool n_R)); have s1 := (hK.at_ (g := g4_4) (cs := [.bool n_R, .slice A_R xs_R.length c_R]) (t := 24) (by repeat (first | exact List.mem_cons_self | apply List.mem_cons_of_mem)) 1 rfl : World.cell? _ _ = some (.slice A_R xs_R.length c_R)); have t0 := hK.lt (g := g4_4) (cs := [.bool n_R, .slice A_R xs_R.length c_R]) (t := 24) (by repeat (first | exact List.mem_cons_self | apply List.mem_cons_of_mem)))
            | (go_simp; go_at_call 32; (with_reducible refine Calls.mono (Add_ref n_R (ng p) A_R A_pm c_R c_pm xs_R (mg p) _ (hK.rd _ _ _ (by repeat (first | exact List.mem_cons_self | apply List.mem_cons_of_mem))) (hK.rd _ _ _ (by repeat (first | exact List.mem_cons_self | apply List.mem_cons_of_mem))) (by omega) (by omega) R p t E_R.out (iv_canon _) E_t.out) ?_); rintro e w_a ⟨A_t, c_t, rfl, hR, hb⟩; replace hK := (hK.below hb).row hR; clear hb hR; (try clear hroom); (try have hroom := hK.room); clear s0 s1; have s0 := (hK.at_ (g := g4_4) (cs := [.bool n_R, .slice A_R xs_R.length c_R]) (t := 24) (by repeat (first | exact List.mem_cons_self | apply List.mem_cons_of_mem)) 0 rfl : World.cell? _ _ = some (.bool n_R)); have s1 := (hK.at_ (g := g4_4) (cs := [.bool n_R, .slice A_R xs_R.length c_R]) (t := 24) (by repeat (first | exact List.mem_cons_self | apply List.mem_cons_of_mem)) 1 rfl : World.cell? _ _ = some (.slice A_R xs_R.length c_R)); have t0 := hK.lt (g := g4_4) (cs := [.bool n_R, .slice A_R xs_R.length c_R]) (t := 24) (by repeat (first | exact List.mem_cons_self | apply List.mem_cons_of_mem)))
            | (go_simp; go_at_call 32; (with_reducible refine Calls.mono (Add_ref n_R (ng p) A_R A_pm c_R c_pm xs_R (mg p) _ ((hK.new (g := w_m.heap.size) [.bool false, .slice none 0 0] 24 (NoDig.bool _ (NoDig.slice _ _ _ NoDig.nil)) (by first | rfl | simp)).rd _ _ _ (by repeat (first | exact List.mem_cons_self | apply List.mem_cons_of_mem))) ((hK.new (g := w_m.heap.size) [.bool false, .slice none 0 0] 24 (NoDig.bool _ (NoDig.slice _ _ _ NoDig.nil)) (by first | rfl | simp)).rd _ _ _ (by repeat (first | exact List.mem_cons_self | apply List.mem_cons_of_mem))) (by omega) (by omega) R p t E_R.out (iv_canon _) E_t.out) ?_); rintro e w_a ⟨A_t, c_t, rfl, hR, hb⟩; replace hK := ((hK.new (g := w_m.heap.size) [.bool false, .slice none 0 0] 24 (NoDig.bool _ (NoDig.slice _ _ _ NoDig.nil)) (by first | rfl | simp)).below hb).row hR; clear hb hR; (try clear hroom); (try have hroom := hK.room); clear s0 s1; have s0 := (hK.at_ (g := g4_4) (cs := [.bool n_R, .slice A_R xs_R.length c_R]) (t := 24) (by repeat (first | exact List.mem_cons_self | apply List.mem_cons_of_mem)) 0 rfl : World.cell? _ _ = some (.bool n_R)); have s1 := (hK.at_ (g := g4_4) (cs := [.bool n_R, .slice A_R xs_R.length c_R]) (t := 24) (by repeat (first | exact List.mem_cons_self | apply List.mem_cons_of_mem)) 1 rfl : World.cell? _ _ = some (.slice A_R xs_R.length c_R)); have t0 := hK.lt (g := g4_4) (cs := [.bool n_R, .slice A_R xs_R.length c_R]) (t := 24) (by repeat (first | exact List.mem_cons_self | apply List.mem_cons_of_mem))))
        all_goals (try clear hroom)
        all_goals go_wp2_with (fail)
        all_goals go_meet
        all_goals refine ⟨_, A_t, c_t, rfl, ⟨?_⟩⟩
        all_goals first | ((with_reducible show KP w (World.alloc w_a _) _ _); exact (hK.new (g := w_a.heap.size) [.bool (ng t), .slice A_t (mg t).length c_t] 24 (NoDig.bool _ (NoDig.slice _ _ _ NoDig.nil)) (by first | rfl | simp)).sub (by intro x hx; simp only [List.mem_cons, List.not_mem_nil, or_false] at hx ⊢; rcases hx with rfl | rfl | rfl | rfl <;> simp)) | exact ((hK.put 0 0 (.bool (ng t)) (by rfl) (by intro x h; cases h) (by rfl)).put 0 1 (.slice A_t (mg t).length c_t) (by rfl) (by intro x h; cases h) (by rfl)).sub (by intro x hx; simp only [List.mem_cons, List.not_mem_nil, or_false] at hx ⊢; rcases hx with rfl | rfl | rfl | rfl <;> simp)
      clear hK
      obtain ⟨g6, A_t, c_t, rfl, hK0⟩ := hcut
      have hK := hK0.out
      clear hK0
      obtain ⟨r8, e_r8⟩ : ∃ z : Int, cmpZ r7 x = z := ⟨_, rfl⟩
      have E_r8 := Aside0.mk e_r8
      clear e_r8
      go_upto_region 9 with (fail)
      go_cut [32] (fun v32 wc => ∃ (A_r7_9 : Option Addr) (c_r7_9 : Nat), v32 = .bool (decide (r8 ≤ 0)) ∧ Aside0 (KP w wc [(g6, [.bool (ng t), .slice A_t (mg t).length c_t], 24), (g4_4, [.bool n_R, .slice A_R xs_R.length c_R], 24), (g2_2, [.bool false, .slice none 0 0], 24), (g1_1, [.bool (ng x), .slice A_x_3 (mg x).length c_x_3], 24)] [(A_r7_9, c_r7_9, (mg r7)), (A_t, c_t, (mg t)), (A_R, c_R, xs_R), (A_x_3, c_x_3, (mg x)), (A0, c0, xs0)]))
      case first =>
        replace hK := hK.drew
        refine start_ (n := 6) (S := (fun W => W.cell? ⟨g6, 0, none⟩ = some (.bool (ng t)) ∧ W.cell? ⟨g6, 1, none⟩ = some (.slice A_t (mg t).length c_t) ∧ W.cell? ⟨g1_1, 0, none⟩ = some (.bool (ng x)) ∧ W.cell? ⟨g1_1, 1, none⟩ = some (.slice A_x_3 (mg x).length c_x_3))) (ds := []) #[false, false, false, false, false, false] (by kernel_rfl) rfl rfl (And.intro ((hK.at_ (g := g6) (cs := [.bool (ng t), .slice A_t (mg t).length c_t]) (t := 24) (by repeat (first | exact List.mem_cons_self | apply List.mem_cons_of_mem)) 0 rfl : World.cell? _ _ = some (.bool (ng t)))) (And.intro ((hK.at_ (g := g6) (cs := [.bool (ng t), .slice A_t (mg t).length c_t]) (t := 24) (by repeat (first | exact List.mem_cons_self | apply List.mem_cons_of_mem)) 1 rfl : World.cell? _ _ = some (.slice A_t (mg t).length c_t))) (And.intro ((hK.at_ (g := g1_1) (cs := [.bool (ng x), .slice A_x_3 (mg x).length c_x_3]) (t := 24) (by repeat (first | exact List.mem_cons_self | apply List.mem_cons_of_mem)) 0 rfl : World.cell? _ _ = some (.bool (ng x)))) ((hK.at_ (g := g1_1) (cs := [.bool (ng x), .slice A_x_3 (mg x).length c_x_3]) (t := 24) (by repeat (first | exact List.mem_cons_self | apply List.mem_cons_of_mem)) 1 rfl : World.cell? _ _ = some (.slice A_x_3 (mg x).length c_x_3)))))) (fun hHeld => ?_)
        generalize World.drew _ = wd at hK hHeld ⊢
        refine take_ (i := 0) (N := some 27) (v := ?_) (a' := ?_) #[true, false, false, false, false, false] rfl rfl (by kernel_rfl) (fun _ _ _ h => h) (Or.inl ⟨by rfl, ?_⟩) hHeld ?_ ?_
        rotate_left
        · rintro w' ⟨s0, s1, s2, s3⟩
          go_simp
          with_reducible rfl
        rotate_left
        · simp only [Act.put, List.setIfInBounds_toArray, List.set_cons_zero, List.set_cons_succ, i64_w, i32_w]
          rfl
        refine take_ (i := 1) (N := some 28) (v := ?_) (a' := ?_) #[true, true, false, false, false, false] rfl rfl (by kernel_rfl) (fun _ _ _ h => h) (Or.inl ⟨by rfl, ?_⟩) hHeld ?_ ?_
        rotate_left
        · rintro w' ⟨s0, s1, s2, s3⟩
          go_simp
          with_reducible rfl
        rotate_left
        · simp only [Act.put, List.setIfInBounds_toArray, List.set_cons_zero, List.set_cons_succ, i64_w, i32_w]
          rfl
        refine take_ (i := 3) (N := some 30) (v := ?_) (a' := ?_) #[true, true, false, true, false, false] rfl rfl (by kernel_rfl) (fun _ _ _ h => h) (Or.inl ⟨by rfl, ?_⟩) hHeld ?_ ?_
        rotate_left
        · rintro w' ⟨s0, s1, s2, s3⟩
          go_simp
          with_reducible rfl
        rotate_left
        · simp only [Act.put, List.setIfInBounds_toArray, List.set_cons_zero, List.set_cons_succ, i64_w, i32_w]
          rfl
        refine one_ (i := 2) (N := some 29) #[true, true, true, true, false, false] rfl rfl (by kernel_rfl) (by decide) (fun KK hKK => ?_)
        refine goes_ Tryd.func34 (by kernel_rfl) rfl #[.agg #[.bool (ng t), .slice A_t (mg t).length c_t], .agg #[.bool (ng t), .slice A_t (mg t).length c_t]] (by rfl) rfl rfl (by (try simp only [List.map_toArray, List.map_cons, List.map_nil]); first | done | rfl) ?_
        refine (Mul_ref (ng t) (ng t) A_t A_t c_t c_t (mg t) (mg t) _ (hK.rd _ _ _ (by repeat (first | exact List.mem_cons_self | apply List.mem_cons_of_mem))) (hK.rd _ _ _ (by repeat (first | exact List.mem_cons_self | apply List.mem_cons_of_mem))) (by omega) (by omega) t t r7 (iv_canon _) (iv_canon _) E_r7.out).mono ?_
        rintro e w_3 ⟨A_r7_9, c_r7_9, rfl, hR, hb⟩
        refine ⟨_, rfl, ?_⟩
        replace hK := (hK.below hb).row hR
        clear hb hR
        refine hKK.out _ _ (And.intro ((hK.at_ (g := g6) (cs := [.bool (ng t), .slice A_t (mg t).length c_t]) (t := 24) (by repeat (first | exact List.mem_cons_self | apply List.mem_cons_of_mem)) 0 rfl : World.cell? _ _ = some (.bool (ng t)))) (And.intro ((hK.at_ (g := g6) (cs := [.bool (ng t), .slice A_t (mg t).length c_t]) (t := 24) (by repeat (first | exact List.mem_cons_self | apply List.mem_cons_of_mem)) 1 rfl : World.cell? _ _ = some (.slice A_t (mg t).length c_t))) (And.intro ((hK.at_ (g := g1_1) (cs := [.bool (ng x), .slice A_x_3 (mg x).length c_x_3]) (t := 24) (by repeat (first | exact List.mem_cons_self | apply List.mem_cons_of_mem)) 0 rfl : World.cell? _ _ = some (.bool (ng x)))) ((hK.at_ (g := g1_1) (cs := [.bool (ng x), .slice A_x_3 (mg x).length c_x_3]) (t := 24) (by repeat (first | exact List.mem_cons_self | apply List.mem_cons_of_mem)) 1 rfl : World.cell? _ _ = some (.slice A_x_3 (mg x).length c_x_3)))))) (fun hHeld => ?_)
        refine norm_ (a' := ?_) ?_ ?_
        rotate_left
        · show Act.put _ (some 29) _ = _
          simp only [Act.put, List.setIfInBounds_toArray, List.set_cons_zero, List.set_cons_succ, i64_w, i32_w]
          rfl
        refine one_ (i := 4) (N := some 31) #[true, true, true, true, true, false] rfl rfl (by kernel_rfl) (by decide) (fun KK hKK => ?_)
        refine goes_ Tryd.func27 (by kernel_rfl) rfl #[.agg #[.bool (ng r7), .slice A_r7_9 (mg r7).length c_r7_9], .agg #[.bool (ng x), .slice A_x_3 (mg x).length c_x_3]] (by rfl) rfl rfl (by (try simp only [List.map_toArray, List.map_cons, List.map_nil]); first | done | rfl) ?_
        refine (Compare_ref (ng r7) (ng x) A_r7_9 A_x_3 c_r7_9 c_x_3 (mg r7) (mg x) _ (hK.rd _ _ _ (by repeat (first | exact List.mem_cons_self | apply List.mem_cons_of_mem))) (hK.rd _ _ _ (by repeat (first | exact List.mem_cons_self | apply List.mem_cons_of_mem))) (by omega) (by omega) r7 x r8 (iv_canon _) (iv_canon _) E_r8.out).mono ?_
        rintro e w_4 ⟨rfl, hb⟩
        refine ⟨_, rfl, ?_⟩
        replace hK := hK.below hb
        clear hb
        refine hKK.out _ _ (And.intro ((hK.at_ (g := g6) (cs := [.bool (ng t), .slice A_t (mg t).length c_t]) (t := 24) (by repeat (first | exact List.mem_cons_self | apply List.mem_cons_of_mem)) 0 rfl : World.cell? _ _ = some (.bool (ng t)))) (And.intro ((hK.at_ (g := g6) (cs := [.bool (ng t), .slice A_t (mg t).length c_t]) (t := 24) (by repeat (first | exact List.mem_cons_self | apply List.mem_cons_of_mem)) 1 rfl : World.cell? _ _ = some (.slice A_t (mg t).length c_t))) (And.intro ((hK.at_ (g := g1_1) (cs := [.bool (ng x), .slice A_x_3 (mg x).length c_x_3]) (t := 24) (by repeat (first | exact List.mem_cons_self | apply List.mem_cons_of_mem)) 0 rfl : World.cell? _ _ = some (.bool (ng x)))) ((hK.at_ (g := g1_1) (cs := [.bool (ng x), .slice A_x_3 (mg x).length c_x_3]) (t := 24) (by repeat (first | exact List.mem_cons_self | apply List.mem_cons_of_mem)) 1 rfl : World.cell? _ _ = some (.slice A_x_3 (mg x).length c_x_3)))))) (fun hHeld => ?_)
        refine norm_ (a' := ?_) ?_ ?_
        rotate_left
        · show Act.put _ (some 31) _ = _
          simp only [Act.put, List.setIfInBounds_toArray, List.set_cons_zero, List.set_cons_succ, i64_w, i32_w]
          rfl
        refine pure_ (i := 5) (N := some 32) (v := ?_) (a' := ?_) #[true, true, true, true, true, true] rfl rfl (by kernel_rfl) (fun _ _ _ h => h) (Or.inl ⟨by rfl, ?_⟩) ?_ ?_
        rotate_left
        · intro w'
          go_simp
          with_reducible rfl
        rotate_left
        · simp only [Act.put, List.setIfInBounds_toArray, List.set_cons_zero, List.set_cons_succ, i64_w, i32_w]
          rfl
        refine done_ (by kernel_rfl) ?_
        go_wp2
        go_meet
        exact ⟨A_r7_9, c_r7_9, rfl, ⟨hK⟩⟩
      clear hK
      obtain ⟨A_r7_9, c_r7_9, rfl, hK0⟩ := hcut
      have hK := hK0.out
      clear hK0
      cases hb10 : (decide (r8 ≤ 0))
      case false =>
        have hphb10 := of_decide_eq_false hb10
        have HC := Aside0.mk (show x < r7 by have h := E_r8.out; have h2 := hphb10; unfold cmpZ at h; split at h <;> (try split at h) <;> omega)
        go_upto_region 7 with (fail)
        go_wp2
        have hnew := (sq_bit HI.out.2.2.1 HI.out.2.2.2.1 (by have h := HI.out.2.2.2.2.1; rwa [show gk = m + 1 by omega] at h) HP.out).2 (by rw [E_t.out, E_tt.out]; have := HC.out; omega)
        go_roundg (gk - 1)
        case measure => omega
        case rel => exact ⟨((m : Int) - 1), R, n_R, A_R, c_R, xs_R, (by first | rfl | go_num), ⟨(hK.tail.row (Rd.nil _)).sub (by intro x hx; simp only [List.mem_cons, List.not_mem_nil, or_false] at hx ⊢; rcases hx with rfl | rfl | rfl <;> simp)⟩, ⟨E_R.out, hxl_R, HI.out.2.2.1, HI.out.2.2.2.1, by rw [show gk - 1 = m by omega]; exact hnew, by omega, by omega, HI.out.2.2.2.2.2.2.2.1, HI.out.2.2.2.2.2.2.2.2⟩⟩
      case true =>
        have hphb10 := of_decide_eq_true hb10
        have HC := Aside0.mk (show r7 ≤ x by have h := E_r8.out; have h2 := hphb10; unfold cmpZ at h; split at h <;> (try split at h) <;> omega)
        go_upto_region 10 with (fail)
        have hc := And.intro ((hK.at_ (g := g6) (cs := [.bool (ng t), .slice A_t (mg t).length c_t]) (t := 24) (by repeat (first | exact List.mem_cons_self | apply List.mem_cons_of_mem)) 0 rfl : World.cell? _ _ = some (.bool (ng t)))) (And.intro ((hK.at_ (g := g6) (cs := [.bool (ng t), .slice A_t (mg t).length c_t]) (t := 24) (by repeat (first | exact List.mem_cons_self | apply List.mem_cons_of_mem)) 1 rfl : World.cell? _ _ = some (.slice A_t (mg t).length c_t))) (And.intro ((hK.at_ (g := g4_4) (cs := [.bool n_R, .slice A_R xs_R.length c_R]) (t := 24) (by repeat (first | exact List.mem_cons_self | apply List.mem_cons_of_mem)) 0 rfl : World.cell? _ _ = some (.bool n_R))) (And.intro ((hK.at_ (g := g4_4) (cs := [.bool n_R, .slice A_R xs_R.length c_R]) (t := 24) (by repeat (first | exact List.mem_cons_self | apply List.mem_cons_of_mem)) 1 rfl : World.cell? _ _ = some (.slice A_R xs_R.length c_R))) (And.intro (hK.free (g := g4_4) (cs := [.bool n_R, .slice A_R xs_R.length c_R]) (t := 24) (by repeat (first | exact List.mem_cons_self | apply List.mem_cons_of_mem)) 0) (And.intro (hK.free (g := g4_4) (cs := [.bool n_R, .slice A_R xs_R.length c_R]) (t := 24) (by repeat (first | exact List.mem_cons_self | apply List.mem_cons_of_mem)) 1) ((hK.apart 1 0 rfl rfl rfl : ¬ g4_4 = g6 ∧ ¬ g6 = g4_4)))))))
        go_wp2
        replace hK := ((hK.put 1 0 (.bool (ng t)) (by rfl) (by intro x h; cases h) (by rfl)).put 1 1 (.slice A_t (mg t).length c_t) (by rfl) (by intro x h; cases h) (by rfl))
        go_upto_region 7 with (fail)
        go_wp2
        have hnew := (sq_bit HI.out.2.2.1 HI.out.2.2.2.1 (by have h := HI.out.2.2.2.2.1; rwa [show gk = m + 1 by omega] at h) HP.out).1 (by rw [E_t.out, E_tt.out]; have := HC.out; omega)
        go_roundg (gk - 1)
        case measure => omega
        case rel => exact ⟨((m : Int) - 1), t, (ng t), A_t, c_t, (mg t), (by first | rfl | go_num), ⟨(hK.tail.row (Rd.nil _)).sub (by intro x hx; simp only [List.mem_cons, List.not_mem_nil, or_false] at hx ⊢; rcases hx with rfl | rfl | rfl <;> simp)⟩, ⟨iv_canon _, by have h := hnew.1; have h2 := hnew.2.1; rw [E_t.out] at h h2; exact mg_mono h (root_le h h2) l_x, E_t.out ▸ hnew.1, E_t.out ▸ hnew.2.1, by rw [show gk - 1 = m by omega]; exact E_t.out ▸ hnew.2.2, by omega, by omega, rfl, rfl⟩⟩
theorem canonical_l (n : Bool) (A : Option Addr) (c : Nat) (xs : List Int) (k : Nat) (w : World) (h : Rd w A c xs) (hk : xs.length = k) (hl : k ≤ 274877906944) (z : Int) (hz : iv n xs = z) :
    Calls Tryd.prog 51 #[.bool n, .slice A k c] w fun e w' => Res e w w' z := by subst hk; exact canonical_v n A c xs w h hl z hz
theorem pow_row {m s h : Nat} {z : Int} (hs : s < 32) (hh : h = 32 * m + s) (hz : (2 : Int) ^ h = z) : iv false ((List.replicate (m + 1) 0).set m (2 ^ s % 4294967296)) = z ∧ 0 ≤ (2 : Int) ^ s % 4294967296 ∧ (2 : Int) ^ s % 4294967296 ≤ 4294967295 := by
  have hp := pow_bounds hs
  rw [Int.emod_eq_of_lt (by omega) (by omega)]
  refine ⟨?_, by omega, by omega⟩
  have e0 : dg (List.replicate (m + 1) 0) m = 0 := by simp [dg, List.getD_eq_getElem?_getD]
  simp only [iv, Bool.false_eq_true, if_false]
  rw [val_set _ _ _ (by simp), val_zeros, e0, ← hz, hh, Int.pow_add, pw_two]
  grind
set_option maxHeartbeats 4000000 in
set_option maxRecDepth 100000 in
theorem sqrt_neg (n0 : Bool) (A0 : Option Addr) (c0 : Nat) (xs0 : List Int) (w : World) (h0 : Rd w A0 c0 xs0) (N : Nat) (hN : N ≤ 100000000) (hl0 : xs0.length ≤ N) (x : Int) (e0 : iv n0 xs0 = x) (hx0 : x < 0) :
    Calls Tryd.prog 45 #[.agg #[.bool n0, .slice A0 xs0.length c0]] w fun e w' => ResE e w w' 0 5 := by
  have E_x := Aside0.mk e0
  have l_x : (mg x).length ≤ N := by rw [← e0]; exact mg_iv_le n0 h0.dig hl0
  clear e0
  have hK := ((KP.start w).row h0)
  have E_s := Aside0.mk (show cmpZ x 0 = -1 by unfold cmpZ; simp [hx0])
  clear hx0
  go_enter Tryd.func45, Tryd.ntmps45
  go_upto_region 0 with (fail)
  go_cut [1, 2, 3] (fun v1 v2 v3 wc => ∃ (g1_1 : Nat) (g2_2 : Nat), v1 = .pointer (some ⟨g1_1, 0, none⟩) ∧ v2 = .pointer (some ⟨g2_2, 0, none⟩) ∧ v3 = .int .i64 0 ∧ Aside0 (KP w wc [(g2_2, [.bool false, .slice none 0 0], 24), (g1_1, [.bool n0, .slice A0 xs0.length c0], 24)] [(A0, c0, xs0)]))
  case first =>
    go_wp2
    go_meet
    all_goals refine ⟨_, _, rfl, rfl, rfl, ⟨?_⟩⟩
    all_goals first
      | (exact ((hK.new [.bool n0, .slice A0 xs0.length c0] 24 (NoDig.bool _ (NoDig.slice _ _ _ NoDig.nil)) (by first | rfl | simp)).new [.bool false, .slice none 0 0] 24 (NoDig.bool _ (NoDig.slice _ _ _ NoDig.nil)) (by first | rfl | simp)))
  clear hK
  obtain ⟨g1_1, g2_2, rfl, rfl, rfl, hK0⟩ := hcut
  have hK := hK0.out
  clear hK0
  go_upto_region 1 with (fail)
  go_cut [14] (fun v14 wc => v14 = .int .i64 (-1) ∧ Aside0 (KP w wc [(g2_2, [.bool false, .slice none 0 0], 24), (g1_1, [.bool n0, .slice A0 xs0.length c0], 24)] [(A0, c0, xs0)]))
  case first =>
    have hc := And.intro ((hK.at_ (g := g1_1) (cs := [.bool n0, .slice A0 xs0.length c0]) (t := 24) (by repeat (first | exact List.mem_cons_self | apply List.mem_cons_of_mem)) 0 rfl : World.cell? _ _ = some (.bool n0))) ((hK.at_ (g := g1_1) (cs := [.bool n0, .slice A0 xs0.length c0]) (t := 24) (by repeat (first | exact List.mem_cons_self | apply List.mem_cons_of_mem)) 1 rfl : World.cell? _ _ = some (.slice A0 xs0.length c0)))
    go_wp2_with (first | (go_at_call 19; (with_reducible refine (sign_v n0 A0 c0 xs0 _ (hK.rd _ _ _ (by repeat (first | exact List.mem_cons_self | apply List.mem_cons_of_mem))) (by omega) x (-1) E_x.out E_s.out).mono ?_); rintro e w_1 ⟨rfl, hb⟩; replace hK := hK.below hb; clear hb; clear hc; have hc := And.intro ((hK.at_ (g := g1_1) (cs := [.bool n0, .slice A0 xs0.length c0]) (t := 24) (by repeat (first | exact List.mem_cons_self | apply List.mem_cons_of_mem)) 0 rfl : World.cell? _ _ = some (.bool n0))) ((hK.at_ (g := g1_1) (cs := [.bool n0, .slice A0 xs0.length c0]) (t := 24) (by repeat (first | exact List.mem_cons_self | apply List.mem_cons_of_mem)) 1 rfl : World.cell? _ _ = some (.slice A0 xs0.length c0)))))
    go_meet
    exact ⟨rfl, ⟨hK⟩⟩
  clear hK
  obtain ⟨rfl, hK0⟩ := hcut
  have hK := hK0.out
  clear hK0
  go_upto_region 2 with (fail)
  go_cut [15] (fun v15 wc => v15 = .bool true ∧ Aside0 (KP w wc [(g2_2, [.bool false, .slice none 0 0], 24), (g1_1, [.bool n0, .slice A0 xs0.length c0], 24)] [(A0, c0, xs0)]))
  case first =>
    go_wp2
    go_meet
    exact ⟨rfl, ⟨hK⟩⟩
  clear hK
  obtain ⟨rfl, hK0⟩ := hcut
  have hK := hK0.out
  clear hK0
  go_upto_region 3 with (fail)
  go_cut [3] (fun v3 wc => v3 = .int .i64 5 ∧ Aside0 (KP w wc [(g2_2, [.bool false, .slice none 0 0], 24), (g1_1, [.bool n0, .slice A0 xs0.length c0], 24)] [(A0, c0, xs0)]))
  case first =>
    have hc := And.intro ((hK.at_ (g := g2_2) (cs := [.bool false, .slice none 0 0]) (t := 24) (by repeat (first | exact List.mem_cons_self | apply List.mem_cons_of_mem)) 0 rfl : World.cell? _ _ = some (.bool false))) (And.intro ((hK.at_ (g := g2_2) (cs := [.bool false, .slice none 0 0]) (t := 24) (by repeat (first | exact List.mem_cons_self | apply List.mem_cons_of_mem)) 1 rfl : World.cell? _ _ = some (.slice none 0 0))) (And.intro (hK.free (g := g2_2) (cs := [.bool false, .slice none 0 0]) (t := 24) (by repeat (first | exact List.mem_cons_self | apply List.mem_cons_of_mem)) 0) (hK.free (g := g2_2) (cs := [.bool false, .slice none 0 0]) (t := 24) (by repeat (first | exact List.mem_cons_self | apply List.mem_cons_of_mem)) 1)))
    go_wp2
    go_meet
    replace hK := ((hK.put 0 0 (.bool false) (by rfl) (by intro x h; cases h) (by rfl)).put 0 1 (.slice none 0 0) (by rfl) (by intro x h; cases h) (by rfl))
    exact ⟨rfl, ⟨hK⟩⟩
  clear hK
  obtain ⟨rfl, hK0⟩ := hcut
  have hK := hK0.out
  clear hK0
  have rr0 := (hK.at_ (g := g2_2) (cs := [.bool false, .slice none 0 0]) (t := 24) (by repeat (first | exact List.mem_cons_self | apply List.mem_cons_of_mem)) 0 rfl : World.cell? _ _ = some (.bool false))
  have rr1 := (hK.at_ (g := g2_2) (cs := [.bool false, .slice none 0 0]) (t := 24) (by repeat (first | exact List.mem_cons_self | apply List.mem_cons_of_mem)) 1 rfl : World.cell? _ _ = some (.slice none 0 0))
  go_wp2
  exact bodyPost_ret (v := .tuple #[.agg #[.bool false, .slice none 0 0], .int .i64 5]) (by simp [results, Tryd.results45, go_sem, rr0, rr1]) rfl ⟨none, 0, by rw [mg_zero, ng_zero]; rfl, by rw [mg_zero]; exact Rd.nil _, hK.be⟩
set_option maxHeartbeats 4000000 in
set_option maxRecDepth 100000 in
theorem sqrt_zero (n0 : Bool) (A0 : Option Addr) (c0 : Nat) (xs0 : List Int) (w : World) (h0 : Rd w A0 c0 xs0) (N : Nat) (hN : N ≤ 100000000) (hl0 : xs0.length ≤ N) (x : Int) (e0 : iv n0 xs0 = x) (hx0 : x = 0) :
    Calls Tryd.prog 45 #[.agg #[.bool n0, .slice A0 xs0.length c0]] w fun e w' => ResE e w w' 0 0 := by
  have E_x := Aside0.mk e0
  have l_x : (mg x).length ≤ N := by rw [← e0]; exact mg_iv_le n0 h0.dig hl0
  clear e0
  have hK := ((KP.start w).row h0)
  have E_s := Aside0.mk (show cmpZ x 0 = 0 by unfold cmpZ; simp [hx0])
  clear hx0
  go_enter Tryd.func45, Tryd.ntmps45
  go_upto_region 0 with (fail)
  go_cut [1, 2, 3] (fun v1 v2 v3 wc => ∃ (g1_1 : Nat) (g2_2 : Nat), v1 = .pointer (some ⟨g1_1, 0, none⟩) ∧ v2 = .pointer (some ⟨g2_2, 0, none⟩) ∧ v3 = .int .i64 0 ∧ Aside0 (KP w wc [(g2_2, [.bool false, .slice none 0 0], 24), (g1_1, [.bool n0, .slice A0 xs0.length c0], 24)] [(A0, c0, xs0)]))
  case first =>
    go_wp2
    go_meet
    all_goals refine ⟨_, _, rfl, rfl, rfl, ⟨?_⟩⟩
    all_goals first
      | (exact ((hK.new [.bool n0, .slice A0 xs0.length c0] 24 (NoDig.bool _ (NoDig.slice _ _ _ NoDig.nil)) (by first | rfl | simp)).new [.bool false, .slice none 0 0] 24 (NoDig.bool _ (NoDig.slice _ _ _ NoDig.nil)) (by first | rfl | simp)))
  clear hK
  obtain ⟨g1_1, g2_2, rfl, rfl, rfl, hK0⟩ := hcut
  have hK := hK0.out
  clear hK0
  go_upto_region 1 with (fail)
  go_cut [14] (fun v14 wc => v14 = .int .i64 0 ∧ Aside0 (KP w wc [(g2_2, [.bool false, .slice none 0 0], 24), (g1_1, [.bool n0, .slice A0 xs0.length c0], 24)] [(A0, c0, xs0)]))
  case first =>
    have hc := And.intro ((hK.at_ (g := g1_1) (cs := [.bool n0, .slice A0 xs0.length c0]) (t := 24) (by repeat (first | exact List.mem_cons_self | apply List.mem_cons_of_mem)) 0 rfl : World.cell? _ _ = some (.bool n0))) ((hK.at_ (g := g1_1) (cs := [.bool n0, .slice A0 xs0.length c0]) (t := 24) (by repeat (first | exact List.mem_cons_self | apply List.mem_cons_of_mem)) 1 rfl : World.cell? _ _ = some (.slice A0 xs0.length c0)))
    go_wp2_with (first | (go_at_call 19; (with_reducible refine (sign_v n0 A0 c0 xs0 _ (hK.rd _ _ _ (by repeat (first | exact List.mem_cons_self | apply List.mem_cons_of_mem))) (by omega) x 0 E_x.out E_s.out).mono ?_); rintro e w_1 ⟨rfl, hb⟩; replace hK := hK.below hb; clear hb; clear hc; have hc := And.intro ((hK.at_ (g := g1_1) (cs := [.bool n0, .slice A0 xs0.length c0]) (t := 24) (by repeat (first | exact List.mem_cons_self | apply List.mem_cons_of_mem)) 0 rfl : World.cell? _ _ = some (.bool n0))) ((hK.at_ (g := g1_1) (cs := [.bool n0, .slice A0 xs0.length c0]) (t := 24) (by repeat (first | exact List.mem_cons_self | apply List.mem_cons_of_mem)) 1 rfl : World.cell? _ _ = some (.slice A0 xs0.length c0)))))
    go_meet
    exact ⟨rfl, ⟨hK⟩⟩
  clear hK
  obtain ⟨rfl, hK0⟩ := hcut
  have hK := hK0.out
  clear hK0
  go_upto_region 2 with (fail)
  go_cut [15] (fun v15 wc => v15 = .bool false ∧ Aside0 (KP w wc [(g2_2, [.bool false, .slice none 0 0], 24), (g1_1, [.bool n0, .slice A0 xs0.length c0], 24)] [(A0, c0, xs0)]))
  case first =>
    go_wp2
    go_meet
    exact ⟨rfl, ⟨hK⟩⟩
  clear hK
  obtain ⟨rfl, hK0⟩ := hcut
  have hK := hK0.out
  clear hK0
  go_upto_region 4 with (fail)
  go_cut [18] (fun v18 wc => v18 = .bool true ∧ Aside0 (KP w wc [(g2_2, [.bool false, .slice none 0 0], 24), (g1_1, [.bool n0, .slice A0 xs0.length c0], 24)] [(A0, c0, xs0)]))
  case first =>
    go_wp2
    go_meet
    exact ⟨rfl, ⟨hK⟩⟩
  clear hK
  obtain ⟨rfl, hK0⟩ := hcut
  have hK := hK0.out
  clear hK0
  go_upto_region 5 with (fail)
  go_cut [3] (fun v3 wc => v3 = .int .i64 0 ∧ Aside0 (KP w wc [(g2_2, [.bool false, .slice none 0 0], 24), (g1_1, [.bool n0, .slice A0 xs0.length c0], 24)] [(A0, c0, xs0)]))
  case first =>
    have hc := And.intro ((hK.at_ (g := g2_2) (cs := [.bool false, .slice none 0 0]) (t := 24) (by repeat (first | exact List.mem_cons_self | apply List.mem_cons_of_mem)) 0 rfl : World.cell? _ _ = some (.bool false))) (And.intro ((hK.at_ (g := g2_2) (cs := [.bool false, .slice none 0 0]) (t := 24) (by repeat (first | exact List.mem_cons_self | apply List.mem_cons_of_mem)) 1 rfl : World.cell? _ _ = some (.slice none 0 0))) (And.intro (hK.free (g := g2_2) (cs := [.bool false, .slice none 0 0]) (t := 24) (by repeat (first | exact List.mem_cons_self | apply List.mem_cons_of_mem)) 0) (hK.free (g := g2_2) (cs := [.bool false, .slice none 0 0]) (t := 24) (by repeat (first | exact List.mem_cons_self | apply List.mem_cons_of_mem)) 1)))
    go_wp2
    go_meet
    replace hK := ((hK.put 0 0 (.bool false) (by rfl) (by intro x h; cases h) (by rfl)).put 0 1 (.slice none 0 0) (by rfl) (by intro x h; cases h) (by rfl))
    exact ⟨rfl, ⟨hK⟩⟩
  clear hK
  obtain ⟨rfl, hK0⟩ := hcut
  have hK := hK0.out
  clear hK0
  have rr0 := (hK.at_ (g := g2_2) (cs := [.bool false, .slice none 0 0]) (t := 24) (by repeat (first | exact List.mem_cons_self | apply List.mem_cons_of_mem)) 0 rfl : World.cell? _ _ = some (.bool false))
  have rr1 := (hK.at_ (g := g2_2) (cs := [.bool false, .slice none 0 0]) (t := 24) (by repeat (first | exact List.mem_cons_self | apply List.mem_cons_of_mem)) 1 rfl : World.cell? _ _ = some (.slice none 0 0))
  go_wp2
  exact bodyPost_ret (v := .tuple #[.agg #[.bool false, .slice none 0 0], .int .i64 0]) (by simp [results, Tryd.results45, go_sem, rr0, rr1]) rfl ⟨none, 0, by rw [mg_zero, ng_zero]; rfl, by rw [mg_zero]; exact Rd.nil _, hK.be⟩
set_option maxHeartbeats 4000000 in
set_option maxRecDepth 100000 in
theorem sqrt_pos (n0 : Bool) (A0 : Option Addr) (c0 : Nat) (xs0 : List Int) (w : World) (h0 : Rd w A0 c0 xs0) (N : Nat) (hN : N ≤ 100000000) (hl0 : xs0.length ≤ N) (x : Int) (z : Int) (e0 : iv n0 xs0 = x) (hx0 : 0 < x) (hz : SQ x z) :
    Calls Tryd.prog 45 #[.agg #[.bool n0, .slice A0 xs0.length c0]] w fun e w' => ResE e w w' z 0 := by
  have E_x := Aside0.mk e0
  have l_x : (mg x).length ≤ N := by rw [← e0]; exact mg_iv_le n0 h0.dig hl0
  clear e0
  have hK := ((KP.start w).row h0)
  have E_s := Aside0.mk (show cmpZ x 0 = 1 by unfold cmpZ; rw [if_neg (by omega), if_pos hx0])
  have Q_x := Aside0.mk hx0
  have HZ := Aside0.mk hz
  obtain ⟨b, hb⟩ : ∃ b, bl x = b := ⟨_, rfl⟩
  obtain ⟨h, hh⟩ : ∃ h, (b + 1) / 2 = h := ⟨_, rfl⟩
  obtain ⟨m, hm⟩ : ∃ m, h / 32 = m := ⟨_, rfl⟩
  obtain ⟨s2, hs2⟩ : ∃ m, h % 32 = m := ⟨_, rfl⟩
  have hbN := bl_mg l_x
  have hq : Int.tdiv ((b : Int) + 1) 2 = (h : Int) := by rw [Int.tdiv_eq_ediv_of_nonneg (by omega)]; omega
  have hq2 : Int.tdiv (h : Int) 32 = (m : Int) := by rw [Int.tdiv_eq_ediv_of_nonneg (by omega)]; omega
  have hq3 : Int.tmod (h : Int) 32 = (s2 : Int) := by rw [Int.tmod_eq_emod_of_nonneg (by omega)]; omega
  have HB := Aside0.mk (And.intro (show (bl (x.natAbs : Int) : Int) = (b : Int) by rw [show (x.natAbs : Int) = x by omega, hb]) (show bl x ≤ 2 * h by omega))
  have hsl : s2 < 32 := by omega
  have hh2 : h = 32 * m + s2 := by omega
  obtain ⟨X0, hX0⟩ : ∃ z, (2 : Int) ^ h = z := ⟨_, rfl⟩
  have HX := Aside0.mk (pow_row hsl hh2 hX0)
  have HX1 := Aside0.mk (show 1 ≤ X0 ∧ x < (X0 + 1) * (X0 + 1) by rw [← hX0]; exact sq_start HB.out.2)
  have l_X0 : (mg X0).length ≤ N + 1 := by rw [← hX0]; exact mg_pow2 (by omega)
  have hm1 : m ≤ N := by omega
  have hh3 : h ≤ 16 * N + 1 := by omega
  have hb3 : b ≤ 32 * N := by omega
  clear hz hb hh hm hs2 hbN hX0 hh2 hx0
  go_enter Tryd.func45, Tryd.ntmps45
  go_upto_region 0 with (fail)
  go_cut [1, 2, 3] (fun v1 v2 v3 wc => ∃ (g1_1 : Nat) (g2_2 : Nat), v1 = .pointer (some ⟨g1_1, 0, none⟩) ∧ v2 = .pointer (some ⟨g2_2, 0, none⟩) ∧ v3 = .int .i64 0 ∧ Aside0 (KP w wc [(g2_2, [.bool false, .slice none 0 0], 24), (g1_1, [.bool n0, .slice A0 xs0.length c0], 24)] [(A0, c0, xs0)]))
  case first =>
    go_wp2
    go_meet
    all_goals refine ⟨_, _, rfl, rfl, rfl, ⟨?_⟩⟩
    all_goals first
      | (exact ((hK.new [.bool n0, .slice A0 xs0.length c0] 24 (NoDig.bool _ (NoDig.slice _ _ _ NoDig.nil)) (by first | rfl | simp)).new [.bool false, .slice none 0 0] 24 (NoDig.bool _ (NoDig.slice _ _ _ NoDig.nil)) (by first | rfl | simp)))
  clear hK
  obtain ⟨g1_1, g2_2, rfl, rfl, rfl, hK0⟩ := hcut
  have hK := hK0.out
  clear hK0
  go_upto_region 1 with (fail)
  go_cut [14] (fun v14 wc => v14 = .int .i64 1 ∧ Aside0 (KP w wc [(g2_2, [.bool false, .slice none 0 0], 24), (g1_1, [.bool n0, .slice A0 xs0.length c0], 24)] [(A0, c0, xs0)]))
  case first =>
    have hc := And.intro ((hK.at_ (g := g1_1) (cs := [.bool n0, .slice A0 xs0.length c0]) (t := 24) (by repeat (first | exact List.mem_cons_self | apply List.mem_cons_of_mem)) 0 rfl : World.cell? _ _ = some (.bool n0))) ((hK.at_ (g := g1_1) (cs := [.bool n0, .slice A0 xs0.length c0]) (t := 24) (by repeat (first | exact List.mem_cons_self | apply List.mem_cons_of_mem)) 1 rfl : World.cell? _ _ = some (.slice A0 xs0.length c0)))
    go_wp2_with (first | (go_at_call 19; (with_reducible refine (sign_v n0 A0 c0 xs0 _ (hK.rd _ _ _ (by repeat (first | exact List.mem_cons_self | apply List.mem_cons_of_mem))) (by omega) x 1 E_x.out E_s.out).mono ?_); rintro e w_1 ⟨rfl, hb⟩; replace hK := hK.below hb; clear hb; clear hc; have hc := And.intro ((hK.at_ (g := g1_1) (cs := [.bool n0, .slice A0 xs0.length c0]) (t := 24) (by repeat (first | exact List.mem_cons_self | apply List.mem_cons_of_mem)) 0 rfl : World.cell? _ _ = some (.bool n0))) ((hK.at_ (g := g1_1) (cs := [.bool n0, .slice A0 xs0.length c0]) (t := 24) (by repeat (first | exact List.mem_cons_self | apply List.mem_cons_of_mem)) 1 rfl : World.cell? _ _ = some (.slice A0 xs0.length c0)))))
    go_meet
    exact ⟨rfl, ⟨hK⟩⟩
  clear hK
  obtain ⟨rfl, hK0⟩ := hcut
  have hK := hK0.out
  clear hK0
  go_upto_region 2 with (fail)
  go_cut [15] (fun v15 wc => v15 = .bool false ∧ Aside0 (KP w wc [(g2_2, [.bool false, .slice none 0 0], 24), (g1_1, [.bool n0, .slice A0 xs0.length c0], 24)] [(A0, c0, xs0)]))
  case first =>
    go_wp2
    go_meet
    exact ⟨rfl, ⟨hK⟩⟩
  clear hK
  obtain ⟨rfl, hK0⟩ := hcut
  have hK := hK0.out
  clear hK0
  go_upto_region 4 with (fail)
  go_cut [18] (fun v18 wc => v18 = .bool false ∧ Aside0 (KP w wc [(g2_2, [.bool false, .slice none 0 0], 24), (g1_1, [.bool n0, .slice A0 xs0.length c0], 24)] [(A0, c0, xs0)]))
  case first =>
    go_wp2
    go_meet
    exact ⟨rfl, ⟨hK⟩⟩
  clear hK
  obtain ⟨rfl, hK0⟩ := hcut
  have hK := hK0.out
  clear hK0
  go_upto_region 6 with (fail)
  go_cut [4] (fun v4 wc => v4 = .int .i64 (h : Int) ∧ Aside0 (KP w wc [(g2_2, [.bool false, .slice none 0 0], 24), (g1_1, [.bool n0, .slice A0 xs0.length c0], 24)] [(A0, c0, xs0)]))
  case first =>
    have hc := And.intro ((hK.at_ (g := g1_1) (cs := [.bool n0, .slice A0 xs0.length c0]) (t := 24) (by repeat (first | exact List.mem_cons_self | apply List.mem_cons_of_mem)) 0 rfl : World.cell? _ _ = some (.bool n0))) ((hK.at_ (g := g1_1) (cs := [.bool n0, .slice A0 xs0.length c0]) (t := 24) (by repeat (first | exact List.mem_cons_self | apply List.mem_cons_of_mem)) 1 rfl : World.cell? _ _ = some (.slice A0 xs0.length c0)))
    go_wp2_with (first | (go_at_call 47; (with_reducible refine (bitlen_v n0 A0 c0 xs0 _ (hK.rd _ _ _ (by repeat (first | exact List.mem_cons_self | apply List.mem_cons_of_mem))) (by omega) x (b : Int) E_x.out HB.out.1).mono ?_); rintro e w_2 ⟨rfl, hb⟩; replace hK := hK.below hb; clear hb; clear hc; have hc := And.intro ((hK.at_ (g := g1_1) (cs := [.bool n0, .slice A0 xs0.length c0]) (t := 24) (by repeat (first | exact List.mem_cons_self | apply List.mem_cons_of_mem)) 0 rfl : World.cell? _ _ = some (.bool n0))) ((hK.at_ (g := g1_1) (cs := [.bool n0, .slice A0 xs0.length c0]) (t := 24) (by repeat (first | exact List.mem_cons_self | apply List.mem_cons_of_mem)) 1 rfl : World.cell? _ _ = some (.slice A0 xs0.length c0)))))
    go_meet
    exact ⟨rfl, ⟨hK⟩⟩
  clear hK
  obtain ⟨rfl, hK0⟩ := hcut
  have hK := hK0.out
  clear hK0
  go_wp2_with (first
    | ((with_reducible refine gate_dst (N := 28) rfl ?_); refine make_u32 rfl rfl _ _ rfl (m + 1) (by rfl) (by rfl) (by omega) ?_; intro v5 w5 ho hb; obtain ⟨g5, cap5, rfl, -⟩ := ho.form (by simp); rw [List.length_replicate] at ho; have hge : wc.heap.size ≤ g5 := ho.from_ g5 rfl; obtain ⟨y0, y1⟩ := ho.cell m (by omega); have HP5 := Aside0.mk (ho.put m _ HX.out.2); have HB5 := Aside0.mk (hb.setCell (p := ⟨g5, m, none⟩) hge (.int .u32 (2 ^ s2 % 4294967296))); clear ho hb hge)
    | (go_at_call 51; (with_reducible refine (canonical_l false (some ⟨g5, 0, none⟩) cap5 ((List.replicate (m + 1) 0).set m (2 ^ s2 % 4294967296)) (m + 1) _ HP5.out.rd'.2 (by simp) (by omega) X0 HX.out.1).mono ?_); rintro e w6 ⟨A_X0, c_X0, rfl, hR, hb⟩; replace hK := ((hK.below HB5.out).below hb).row hR; clear hb hR y0 y1))
  replace hK := hK.new (g := w6.heap.size) [.bool (ng X0), .slice A_X0 (mg X0).length c_X0] 24 (NoDig.bool _ (NoDig.slice _ _ _ NoDig.nil)) rfl
  go_wp2
  go_loopg [7, 8, 9, 10, 11, 12] (X0.toNat) (fun kq v7 v8 v9 v10 v11 v12 w' => ∃ (X : Int) (A_l : Option Addr) (c_l : Nat), Aside0 (KP w w' [(w6.heap.size, [.bool (ng X), .slice A_l (mg X).length c_l], 24), (g2_2, [.bool false, .slice none 0 0], 24), (g1_1, [.bool n0, .slice A0 xs0.length c0], 24)] [(A_l, c_l, (mg X)), (A_X0, c_X0, (mg X0)), (A0, c0, xs0)]) ∧ Aside0 (1 ≤ X ∧ x < (X + 1) * (X + 1) ∧ (mg X).length ≤ N + 1 ∧ X.toNat = kq))
  case atStart => exact ⟨X0, A_X0, c_X0, ⟨(hK.row (Rd.nil _)).sub (by intro x hx; simp only [List.mem_cons, List.not_mem_nil, or_false] at hx ⊢; rcases hx with rfl | rfl | rfl <;> simp)⟩, ⟨HX1.out.1, HX1.out.2, l_X0, rfl⟩⟩
  case round =>
    clear hK
    obtain ⟨X, A_l, c_l, hK0, HI⟩ := hrel
    have hK := hK0.out
    clear hK0
    have N_X := Aside0.mk (show X ≠ 0 by have := HI.out.1; omega)
    have l_X := HI.out.2.2.1
    obtain ⟨r3, e_r3⟩ : ∃ z : Int, x.fdiv X = z := ⟨_, rfl⟩
    have E_r3 := Aside0.mk e_r3
    have l_r3 : (mg r3).length ≤ N + 1 := by rw [← e_r3]; exact mg_fdiv N_X.out l_x
    clear e_r3
    obtain ⟨r4, e_r4⟩ : ∃ z : Int, x.fmod X = z := ⟨_, rfl⟩
    have E_r4 := Aside0.mk e_r4
    have l_r4 : (mg r4).length ≤ N + 1 := by rw [← e_r4]; exact mg_fmod N_X.out l_X
    clear e_r4
    go_upto_region 10 with (fail)
    go_cut [7, 8] (fun v7 v8 wc => ∃ (g7_7 : Nat) (g8_8 : Nat) (A_r3_5 : Option Addr) (c_r3_5 : Nat) (A_r4_6 : Option Addr) (c_r4_6 : Nat), v7 = .pointer (some ⟨g7_7, 0, none⟩) ∧ v8 = .pointer (some ⟨g8_8, 0, none⟩) ∧ Aside0 (KP w wc [(g8_8, [.bool (ng r4), .slice A_r4_6 (mg r4).length c_r4_6], 24), (g7_7, [.bool (ng r3), .slice A_r3_5 (mg r3).length c_r3_5], 24), (w6.heap.size, [.bool (ng X), .slice A_l (mg X).length c_l], 24), (g2_2, [.bool false, .slice none 0 0], 24), (g1_1, [.bool n0, .slice A0 xs0.length c0], 24)] [(A_r4_6, c_r4_6, (mg r4)), (A_r3_5, c_r3_5, (mg r3)), (A_l, c_l, (mg X)), (A_X0, c_X0, (mg X0)), (A0, c0, xs0)]))
    case first =>
      have hc := And.intro ((hK.at_ (g := g1_1) (cs := [.bool n0, .slice A0 xs0.length c0]) (t := 24) (by repeat (first | exact List.mem_cons_self | apply List.mem_cons_of_mem)) 0 rfl : World.cell? _ _ = some (.bool n0))) (And.intro ((hK.at_ (g := g1_1) (cs := [.bool n0, .slice A0 xs0.length c0]) (t := 24) (by repeat (first | exact List.mem_cons_self | apply List.mem_cons_of_mem)) 1 rfl : World.cell? _ _ = some (.slice A0 xs0.length c0))) (And.intro ((hK.at_ (g := w6.heap.size) (cs := [.bool (ng X), .slice A_l (mg X).length c_l]) (t := 24) (by repeat (first | exact List.mem_cons_self | apply List.mem_cons_of_mem)) 0 rfl : World.cell? _ _ = some (.bool (ng X)))) ((hK.at_ (g := w6.heap.size) (cs := [.bool (ng X), .slice A_l (mg X).length c_l]) (t := 24) (by repeat (first | exact List.mem_cons_self | apply List.mem_cons_of_mem)) 1 rfl : World.cell? _ _ = some (.slice A_l (mg X).length c_l)))))
      go_wp2_with (first | (go_at_call 14; (with_reducible refine (divmod_v n0 (ng X) A0 A_l c0 c_l xs0 (mg X) _ (hK.rd _ _ _ (by repeat (first | exact List.mem_cons_self | apply List.mem_cons_of_mem))) (hK.rd _ _ _ (by repeat (first | exact List.mem_cons_self | apply List.mem_cons_of_mem))) (by omega) (by omega) x X r3 r4 E_x.out (iv_canon _) N_X.out E_r3.out E_r4.out).mono ?_); rintro e w_3 ⟨A_r3_5, c_r3_5, A_r4_6, c_r4_6, rfl, hQ, hR, hb⟩; replace hK := ((hK.below hb).row hQ).row hR; clear hb hQ hR; clear hc; have hc := And.intro ((hK.at_ (g := g1_1) (cs := [.bool n0, .slice A0 xs0.length c0]) (t := 24) (by repeat (first | exact List.mem_cons_self | apply List.mem_cons_of_mem)) 0 rfl : World.cell? _ _ = some (.bool n0))) (And.intro ((hK.at_ (g := g1_1) (cs := [.bool n0, .slice A0 xs0.length c0]) (t := 24) (by repeat (first | exact List.mem_cons_self | apply List.mem_cons_of_mem)) 1 rfl : World.cell? _ _ = some (.slice A0 xs0.length c0))) (And.intro ((hK.at_ (g := w6.heap.size) (cs := [.bool (ng X), .slice A_l (mg X).length c_l]) (t := 24) (by repeat (first | exact List.mem_cons_self | apply List.mem_cons_of_mem)) 0 rfl : World.cell? _ _ = some (.bool (ng X)))) ((hK.at_ (g := w6.heap.size) (cs := [.bool (ng X), .slice A_l (mg X).length c_l]) (t := 24) (by repeat (first | exact List.mem_cons_self | apply List.mem_cons_of_mem)) 1 rfl : World.cell? _ _ = some (.slice A_l (mg X).length c_l)))))))
      go_meet
      all_goals refine ⟨_, _, A_r3_5, c_r3_5, A_r4_6, c_r4_6, rfl, rfl, ⟨?_⟩⟩
      all_goals first
        | (exact ((hK.new [.bool (ng r3), .slice A_r3_5 (mg r3).length c_r3_5] 24 (NoDig.bool _ (NoDig.slice _ _ _ NoDig.nil)) (by first | rfl | simp)).new [.bool (ng r4), .slice A_r4_6 (mg r4).length c_r4_6] 24 (NoDig.bool _ (NoDig.slice _ _ _ NoDig.nil)) (by first | rfl | simp)))
    clear hK
    obtain ⟨g7_7, g8_8, A_r3_5, c_r3_5, A_r4_6, c_r4_6, rfl, rfl, hK0⟩ := hcut
    have hK := hK0.out
    clear hK0
    obtain ⟨two, e_two⟩ : ∃ z : Int, 2 = z := ⟨_, rfl⟩
    have E_two := Aside0.mk e_two
    have l_two : (mg two).length ≤ 3 := by rw [← e_two]; exact mg_i64 (by decide) (by decide)
    clear e_two
    have N_two := Aside0.mk (show two ≠ 0 by rw [← E_two.out]; decide)
    obtain ⟨r9, e_r9⟩ : ∃ z : Int, X + r3 = z := ⟨_, rfl⟩
    have E_r9 := Aside0.mk e_r9
    have l_r9 : (mg r9).length ≤ N + 2 := by rw [← e_r9]; exact mg_add l_X l_r3 (by omega) (by omega)
    clear e_r9
    obtain ⟨r12, e_r12⟩ : ∃ z : Int, r9.fdiv two = z := ⟨_, rfl⟩
    have E_r12 := Aside0.mk e_r12
    have l_r12 : (mg r12).length ≤ N + 3 := by rw [← e_r12]; exact mg_fdiv N_two.out l_r9
    clear e_r12
    obtain ⟨r13, e_r13⟩ : ∃ z : Int, r9.fmod two = z := ⟨_, rfl⟩
    have E_r13 := Aside0.mk e_r13
    have l_r13 : (mg r13).length ≤ 3 := by rw [← e_r13]; exact mg_fmod N_two.out l_two
    clear e_r13
    go_upto_region 11 with (fail)
    go_cut [10, 11] (fun v10 v11 wc => ∃ (g10_16 : Nat) (g11_17 : Nat) (A_r9_10 : Option Addr) (c_r9_10 : Nat) (A_two_11 : Option Addr) (c_two_11 : Nat) (A_r12_14 : Option Addr) (c_r12_14 : Nat) (A_r13_15 : Option Addr) (c_r13_15 : Nat), v10 = .pointer (some ⟨g10_16, 0, none⟩) ∧ v11 = .pointer (some ⟨g11_17, 0, none⟩) ∧ Aside0 (KP w wc [(g11_17, [.bool (ng r13), .slice A_r13_15 (mg r13).length c_r13_15], 24), (g10_16, [.bool (ng r12), .slice A_r12_14 (mg r12).length c_r12_14], 24), (g8_8, [.bool (ng r4), .slice A_r4_6 (mg r4).length c_r4_6], 24), (g7_7, [.bool (ng r3), .slice A_r3_5 (mg r3).length c_r3_5], 24), (w6.heap.size, [.bool (ng X), .slice A_l (mg X).length c_l], 24), (g2_2, [.bool false, .slice none 0 0], 24), (g1_1, [.bool n0, .slice A0 xs0.length c0], 24)] [(A_r13_15, c_r13_15, (mg r13)), (A_r12_14, c_r12_14, (mg r12)), (A_two_11, c_two_11, (mg two)), (A_r9_10, c_r9_10, (mg r9)), (A_r4_6, c_r4_6, (mg r4)), (A_r3_5, c_r3_5, (mg r3)), (A_l, c_l, (mg X)), (A_X0, c_X0, (mg X0)), (A0, c0, xs0)]))
    case first =>
      have hc := And.intro ((hK.at_ (g := w6.heap.size) (cs := [.bool (ng X), .slice A_l (mg X).length c_l]) (t := 24) (by repeat (first | exact List.mem_cons_self | apply List.mem_cons_of_mem)) 0 rfl : World.cell? _ _ = some (.bool (ng X)))) (And.intro ((hK.at_ (g := w6.heap.size) (cs := [.bool (ng X), .slice A_l (mg X).length c_l]) (t := 24) (by repeat (first | exact List.mem_cons_self | apply List.mem_cons_of_mem)) 1 rfl : World.cell? _ _ = some (.slice A_l (mg X).length c_l))) (And.intro ((hK.at_ (g := g7_7) (cs := [.bool (ng r3), .slice A_r3_5 (mg r3).length c_r3_5]) (t := 24) (by repeat (first | exact List.mem_cons_self | apply List.mem_cons_of_mem)) 0 rfl : World.cell? _ _ = some (.bool (ng r3)))) ((hK.at_ (g := g7_7) (cs := [.bool (ng r3), .slice A_r3_5 (mg r3).length c_r3_5]) (t := 24) (by repeat (first | exact List.mem_cons_self | apply List.mem_cons_of_mem)) 1 rfl : World.cell? _ _ = some (.slice A_r3_5 (mg r3).length c_r3_5)))))
      go_wp2_with (first | (go_at_call 17; (with_reducible refine (add_v (ng X) (ng r3) A_l A_r3_5 c_l c_r3_5 (mg X) (mg r3) _ (hK.rd _ _ _ (by repeat (first | exact List.mem_cons_self | apply List.mem_cons_of_mem))) (hK.rd _ _ _ (by repeat (first | exact List.mem_cons_self | apply List.mem_cons_of_mem))) (by omega) (by omega) X r3 r9 (iv_canon _) (iv_canon _) E_r9.out).mono ?_); rintro e w_4 ⟨A_r9_10, c_r9_10, rfl, hR, hb⟩; replace hK := (hK.below hb).row hR; clear hb hR; clear hc; have hc := And.intro ((hK.at_ (g := w6.heap.size) (cs := [.bool (ng X), .slice A_l (mg X).length c_l]) (t := 24) (by repeat (first | exact List.mem_cons_self | apply List.mem_cons_of_mem)) 0 rfl : World.cell? _ _ = some (.bool (ng X)))) (And.intro ((hK.at_ (g := w6.heap.size) (cs := [.bool (ng X), .slice A_l (mg X).length c_l]) (t := 24) (by repeat (first | exact List.mem_cons_self | apply List.mem_cons_of_mem)) 1 rfl : World.cell? _ _ = some (.slice A_l (mg X).length c_l))) (And.intro ((hK.at_ (g := g7_7) (cs := [.bool (ng r3), .slice A_r3_5 (mg r3).length c_r3_5]) (t := 24) (by repeat (first | exact List.mem_cons_self | apply List.mem_cons_of_mem)) 0 rfl : World.cell? _ _ = some (.bool (ng r3)))) ((hK.at_ (g := g7_7) (cs := [.bool (ng r3), .slice A_r3_5 (mg r3).length c_r3_5]) (t := 24) (by repeat (first | exact List.mem_cons_self | apply List.mem_cons_of_mem)) 1 rfl : World.cell? _ _ = some (.slice A_r3_5 (mg r3).length c_r3_5)))))) | (go_at_call 21; (with_reducible refine (from_v 2 two _ (by decide) (by decide) E_two.out).mono ?_); rintro e w_5 ⟨A_two_11, c_two_11, rfl, hR, hb⟩; replace hK := (hK.below hb).row hR; clear hb hR; clear hc; have hc := And.intro ((hK.at_ (g := w6.heap.size) (cs := [.bool (ng X), .slice A_l (mg X).length c_l]) (t := 24) (by repeat (first | exact List.mem_cons_self | apply List.mem_cons_of_mem)) 0 rfl : World.cell? _ _ = some (.bool (ng X)))) (And.intro ((hK.at_ (g := w6.heap.size) (cs := [.bool (ng X), .slice A_l (mg X).length c_l]) (t := 24) (by repeat (first | exact List.mem_cons_self | apply List.mem_cons_of_mem)) 1 rfl : World.cell? _ _ = some (.slice A_l (mg X).length c_l))) (And.intro ((hK.at_ (g := g7_7) (cs := [.bool (ng r3), .slice A_r3_5 (mg r3).length c_r3_5]) (t := 24) (by repeat (first | exact List.mem_cons_self | apply List.mem_cons_of_mem)) 0 rfl : World.cell? _ _ = some (.bool (ng r3)))) ((hK.at_ (g := g7_7) (cs := [.bool (ng r3), .slice A_r3_5 (mg r3).length c_r3_5]) (t := 24) (by repeat (first | exact List.mem_cons_self | apply List.mem_cons_of_mem)) 1 rfl : World.cell? _ _ = some (.slice A_r3_5 (mg r3).length c_r3_5)))))) | (go_at_call 14; (with_reducible refine (divmod_v (ng r9) (ng two) A_r9_10 A_two_11 c_r9_10 c_two_11 (mg r9) (mg two) _ (hK.rd _ _ _ (by repeat (first | exact List.mem_cons_self | apply List.mem_cons_of_mem))) (hK.rd _ _ _ (by repeat (first | exact List.mem_cons_self | apply List.mem_cons_of_mem))) (by omega) (by omega) r9 two r12 r13 (iv_canon _) (iv_canon _) N_two.out E_r12.out E_r13.out).mono ?_); rintro e w_6 ⟨A_r12_14, c_r12_14, A_r13_15, c_r13_15, rfl, hQ, hR, hb⟩; replace hK := ((hK.below hb).row hQ).row hR; clear hb hQ hR; clear hc; have hc := And.intro ((hK.at_ (g := w6.heap.size) (cs := [.bool (ng X), .slice A_l (mg X).length c_l]) (t := 24) (by repeat (first | exact List.mem_cons_self | apply List.mem_cons_of_mem)) 0 rfl : World.cell? _ _ = some (.bool (ng X)))) (And.intro ((hK.at_ (g := w6.heap.size) (cs := [.bool (ng X), .slice A_l (mg X).length c_l]) (t := 24) (by repeat (first | exact List.mem_cons_self | apply List.mem_cons_of_mem)) 1 rfl : World.cell? _ _ = some (.slice A_l (mg X).length c_l))) (And.intro ((hK.at_ (g := g7_7) (cs := [.bool (ng r3), .slice A_r3_5 (mg r3).length c_r3_5]) (t := 24) (by repeat (first | exact List.mem_cons_self | apply List.mem_cons_of_mem)) 0 rfl : World.cell? _ _ = some (.bool (ng r3)))) ((hK.at_ (g := g7_7) (cs := [.bool (ng r3), .slice A_r3_5 (mg r3).length c_r3_5]) (t := 24) (by repeat (first | exact List.mem_cons_self | apply List.mem_cons_of_mem)) 1 rfl : World.cell? _ _ = some (.slice A_r3_5 (mg r3).length c_r3_5)))))))
      go_meet
      all_goals refine ⟨_, _, A_r9_10, c_r9_10, A_two_11, c_two_11, A_r12_14, c_r12_14, A_r13_15, c_r13_15, rfl, rfl, ⟨?_⟩⟩
      all_goals first
        | (exact ((hK.new [.bool (ng r12), .slice A_r12_14 (mg r12).length c_r12_14] 24 (NoDig.bool _ (NoDig.slice _ _ _ NoDig.nil)) (by first | rfl | simp)).new [.bool (ng r13), .slice A_r13_15 (mg r13).length c_r13_15] 24 (NoDig.bool _ (NoDig.slice _ _ _ NoDig.nil)) (by first | rfl | simp)))
    clear hK
    obtain ⟨g10_16, g11_17, A_r9_10, c_r9_10, A_two_11, c_two_11, A_r12_14, c_r12_14, A_r13_15, c_r13_15, rfl, rfl, hK0⟩ := hcut
    have hK := hK0.out
    clear hK0
    obtain ⟨r18, e_r18⟩ : ∃ z : Int, cmpZ r12 X = z := ⟨_, rfl⟩
    have E_r18 := Aside0.mk e_r18
    clear e_r18
    go_upto_region 12 with (fail)
    go_cut [57] (fun v57 wc => v57 = .bool (decide (0 ≤ r18)) ∧ Aside0 (KP w wc [(g11_17, [.bool (ng r13), .slice A_r13_15 (mg r13).length c_r13_15], 24), (g10_16, [.bool (ng r12), .slice A_r12_14 (mg r12).length c_r12_14], 24), (g8_8, [.bool (ng r4), .slice A_r4_6 (mg r4).length c_r4_6], 24), (g7_7, [.bool (ng r3), .slice A_r3_5 (mg r3).length c_r3_5], 24), (w6.heap.size, [.bool (ng X), .slice A_l (mg X).length c_l], 24), (g2_2, [.bool false, .slice none 0 0], 24), (g1_1, [.bool n0, .slice A0 xs0.length c0], 24)] [(A_r13_15, c_r13_15, (mg r13)), (A_r12_14, c_r12_14, (mg r12)), (A_two_11, c_two_11, (mg two)), (A_r9_10, c_r9_10, (mg r9)), (A_r4_6, c_r4_6, (mg r4)), (A_r3_5, c_r3_5, (mg r3)), (A_l, c_l, (mg X)), (A_X0, c_X0, (mg X0)), (A0, c0, xs0)]))
    case first =>
      have hc := And.intro ((hK.at_ (g := g10_16) (cs := [.bool (ng r12), .slice A_r12_14 (mg r12).length c_r12_14]) (t := 24) (by repeat (first | exact List.mem_cons_self | apply List.mem_cons_of_mem)) 0 rfl : World.cell? _ _ = some (.bool (ng r12)))) (And.intro ((hK.at_ (g := g10_16) (cs := [.bool (ng r12), .slice A_r12_14 (mg r12).length c_r12_14]) (t := 24) (by repeat (first | exact List.mem_cons_self | apply List.mem_cons_of_mem)) 1 rfl : World.cell? _ _ = some (.slice A_r12_14 (mg r12).length c_r12_14))) (And.intro ((hK.at_ (g := w6.heap.size) (cs := [.bool (ng X), .slice A_l (mg X).length c_l]) (t := 24) (by repeat (first | exact List.mem_cons_self | apply List.mem_cons_of_mem)) 0 rfl : World.cell? _ _ = some (.bool (ng X)))) ((hK.at_ (g := w6.heap.size) (cs := [.bool (ng X), .slice A_l (mg X).length c_l]) (t := 24) (by repeat (first | exact List.mem_cons_self | apply List.mem_cons_of_mem)) 1 rfl : World.cell? _ _ = some (.slice A_l (mg X).length c_l)))))
      go_wp2_with (first | (go_at_call 25; (with_reducible refine (compare_v (ng r12) (ng X) A_r12_14 A_l c_r12_14 c_l (mg r12) (mg X) _ (hK.rd _ _ _ (by repeat (first | exact List.mem_cons_self | apply List.mem_cons_of_mem))) (hK.rd _ _ _ (by repeat (first | exact List.mem_cons_self | apply List.mem_cons_of_mem))) (by omega) (by omega) r12 X r18 (iv_canon _) (iv_canon _) E_r18.out).mono ?_); rintro e w_7 ⟨rfl, hb⟩; replace hK := hK.below hb; clear hb; clear hc; have hc := And.intro ((hK.at_ (g := g10_16) (cs := [.bool (ng r12), .slice A_r12_14 (mg r12).length c_r12_14]) (t := 24) (by repeat (first | exact List.mem_cons_self | apply List.mem_cons_of_mem)) 0 rfl : World.cell? _ _ = some (.bool (ng r12)))) (And.intro ((hK.at_ (g := g10_16) (cs := [.bool (ng r12), .slice A_r12_14 (mg r12).length c_r12_14]) (t := 24) (by repeat (first | exact List.mem_cons_self | apply List.mem_cons_of_mem)) 1 rfl : World.cell? _ _ = some (.slice A_r12_14 (mg r12).length c_r12_14))) (And.intro ((hK.at_ (g := w6.heap.size) (cs := [.bool (ng X), .slice A_l (mg X).length c_l]) (t := 24) (by repeat (first | exact List.mem_cons_self | apply List.mem_cons_of_mem)) 0 rfl : World.cell? _ _ = some (.bool (ng X)))) ((hK.at_ (g := w6.heap.size) (cs := [.bool (ng X), .slice A_l (mg X).length c_l]) (t := 24) (by repeat (first | exact List.mem_cons_self | apply List.mem_cons_of_mem)) 1 rfl : World.cell? _ _ = some (.slice A_l (mg X).length c_l)))))))
      go_meet
      exact ⟨rfl, ⟨hK⟩⟩
    clear hK
    obtain ⟨rfl, hK0⟩ := hcut
    have hK := hK0.out
    clear hK0
    cases hb19 : (decide (0 ≤ r18))
    case false =>
      have hphb19 := of_decide_eq_false hb19
      have HC := Aside0.mk (show r12 < X by have h := E_r18.out; have h2 := hphb19; unfold cmpZ at h; split at h <;> (try split at h) <;> omega)
      go_upto_region 14 with (fail)
      have hc := And.intro ((hK.at_ (g := g10_16) (cs := [.bool (ng r12), .slice A_r12_14 (mg r12).length c_r12_14]) (t := 24) (by repeat (first | exact List.mem_cons_self | apply List.mem_cons_of_mem)) 0 rfl : World.cell? _ _ = some (.bool (ng r12)))) (And.intro ((hK.at_ (g := g10_16) (cs := [.bool (ng r12), .slice A_r12_14 (mg r12).length c_r12_14]) (t := 24) (by repeat (first | exact List.mem_cons_self | apply List.mem_cons_of_mem)) 1 rfl : World.cell? _ _ = some (.slice A_r12_14 (mg r12).length c_r12_14))) (And.intro ((hK.at_ (g := w6.heap.size) (cs := [.bool (ng X), .slice A_l (mg X).length c_l]) (t := 24) (by repeat (first | exact List.mem_cons_self | apply List.mem_cons_of_mem)) 0 rfl : World.cell? _ _ = some (.bool (ng X)))) (And.intro ((hK.at_ (g := w6.heap.size) (cs := [.bool (ng X), .slice A_l (mg X).length c_l]) (t := 24) (by repeat (first | exact List.mem_cons_self | apply List.mem_cons_of_mem)) 1 rfl : World.cell? _ _ = some (.slice A_l (mg X).length c_l))) (And.intro (hK.free (g := w6.heap.size) (cs := [.bool (ng X), .slice A_l (mg X).length c_l]) (t := 24) (by repeat (first | exact List.mem_cons_self | apply List.mem_cons_of_mem)) 0) (And.intro (hK.free (g := w6.heap.size) (cs := [.bool (ng X), .slice A_l (mg X).length c_l]) (t := 24) (by repeat (first | exact List.mem_cons_self | apply List.mem_cons_of_mem)) 1) ((hK.apart 4 1 rfl rfl rfl : ¬ w6.heap.size = g10_16 ∧ ¬ g10_16 = w6.heap.size)))))))
      go_wp2
      replace hK := ((hK.put 4 0 (.bool (ng r12)) (by rfl) (by intro x h; cases h) (by rfl)).put 4 1 (.slice A_r12_14 (mg r12).length c_r12_14) (by rfl) (by intro x h; cases h) (by rfl))
      have hnew := sq_round HI.out.1 Q_x.out HI.out.2.1 E_r3.out (show (X + r3).fdiv 2 = r12 by rw [E_r9.out, E_two.out]; exact E_r12.out) HC.out
      go_roundg (r12.toNat)
      case measure => have h1 := hnew.1; have h2 := HC.out; have h3 := HI.out.2.2.2; omega
      case rel => exact ⟨r12, A_r12_14, c_r12_14, ⟨(hK.tail.tail.tail.tail.row (Rd.nil _)).sub (by intro x hx; simp only [List.mem_cons, List.not_mem_nil, or_false] at hx ⊢; rcases hx with rfl | rfl | rfl | rfl | rfl | rfl | rfl | rfl | rfl <;> simp)⟩, ⟨hnew.1, hnew.2, mg_mono (by have := hnew.1; omega) (by have := HC.out; omega) l_X, rfl⟩⟩
    case true =>
      have hphb19 := of_decide_eq_true hb19
      have HC := Aside0.mk (show X ≤ r12 by have h := E_r18.out; have h2 := hphb19; unfold cmpZ at h; split at h <;> (try split at h) <;> omega)
      go_upto_region 13 with (fail)
      go_cut [3] (fun v3 wc => v3 = .int .i64 0 ∧ Aside0 (KP w wc [(g11_17, [.bool (ng r13), .slice A_r13_15 (mg r13).length c_r13_15], 24), (g10_16, [.bool (ng r12), .slice A_r12_14 (mg r12).length c_r12_14], 24), (g8_8, [.bool (ng r4), .slice A_r4_6 (mg r4).length c_r4_6], 24), (g7_7, [.bool (ng r3), .slice A_r3_5 (mg r3).length c_r3_5], 24), (w6.heap.size, [.bool (ng X), .slice A_l (mg X).length c_l], 24), (g2_2, [.bool (ng X), .slice A_l (mg X).length c_l], 24), (g1_1, [.bool n0, .slice A0 xs0.length c0], 24)] [(A_r13_15, c_r13_15, (mg r13)), (A_r12_14, c_r12_14, (mg r12)), (A_two_11, c_two_11, (mg two)), (A_r9_10, c_r9_10, (mg r9)), (A_r4_6, c_r4_6, (mg r4)), (A_r3_5, c_r3_5, (mg r3)), (A_l, c_l, (mg X)), (A_X0, c_X0, (mg X0)), (A0, c0, xs0)]))
      case first =>
        have hc := And.intro ((hK.at_ (g := w6.heap.size) (cs := [.bool (ng X), .slice A_l (mg X).length c_l]) (t := 24) (by repeat (first | exact List.mem_cons_self | apply List.mem_cons_of_mem)) 0 rfl : World.cell? _ _ = some (.bool (ng X)))) (And.intro ((hK.at_ (g := w6.heap.size) (cs := [.bool (ng X), .slice A_l (mg X).length c_l]) (t := 24) (by repeat (first | exact List.mem_cons_self | apply List.mem_cons_of_mem)) 1 rfl : World.cell? _ _ = some (.slice A_l (mg X).length c_l))) (And.intro ((hK.at_ (g := g2_2) (cs := [.bool false, .slice none 0 0]) (t := 24) (by repeat (first | exact List.mem_cons_self | apply List.mem_cons_of_mem)) 0 rfl : World.cell? _ _ = some (.bool false))) (And.intro ((hK.at_ (g := g2_2) (cs := [.bool false, .slice none 0 0]) (t := 24) (by repeat (first | exact List.mem_cons_self | apply List.mem_cons_of_mem)) 1 rfl : World.cell? _ _ = some (.slice none 0 0))) (And.intro (hK.free (g := g2_2) (cs := [.bool false, .slice none 0 0]) (t := 24) (by repeat (first | exact List.mem_cons_self | apply List.mem_cons_of_mem)) 0) (And.intro (hK.free (g := g2_2) (cs := [.bool false, .slice none 0 0]) (t := 24) (by repeat (first | exact List.mem_cons_self | apply List.mem_cons_of_mem)) 1) ((hK.apart 5 4 rfl rfl rfl : ¬ g2_2 = w6.heap.size ∧ ¬ w6.heap.size = g2_2)))))))
        go_wp2
        go_meet
        replace hK := ((hK.put 5 0 (.bool (ng X)) (by rfl) (by intro x h; cases h) (by rfl)).put 5 1 (.slice A_l (mg X).length c_l) (by rfl) (by intro x h; cases h) (by rfl))
        exact ⟨rfl, ⟨hK⟩⟩
      clear hK
      obtain ⟨rfl, hK0⟩ := hcut
      have hK := hK0.out
      clear hK0
      have ez : X = z := sq_unique (sq_end HI.out.1 Q_x.out HI.out.2.1 E_r3.out (show (X + r3).fdiv 2 = r12 by rw [E_r9.out, E_two.out]; exact E_r12.out) HC.out) HZ.out
      subst ez
      have rr0_0 := (hK.at_ (g := g2_2) (cs := [.bool (ng X), .slice A_l (mg X).length c_l]) (t := 24) (by repeat (first | exact List.mem_cons_self | apply List.mem_cons_of_mem)) 0 rfl : World.cell? _ _ = some (.bool (ng X)))
      have rr0_1 := (hK.at_ (g := g2_2) (cs := [.bool (ng X), .slice A_l (mg X).length c_l]) (t := 24) (by repeat (first | exact List.mem_cons_self | apply List.mem_cons_of_mem)) 1 rfl : World.cell? _ _ = some (.slice A_l (mg X).length c_l))
      go_wp2
      exact bodyPost_ret (v := .tuple #[.agg #[.bool (ng X), .slice A_l (mg X).length c_l], .int .i64 0]) (by simp [results, Tryd.results45, go_sem, rr0_0, rr0_1]) rfl ⟨_, _, rfl, hK.rd _ _ _ (by repeat (first | exact List.mem_cons_self | apply List.mem_cons_of_mem)), hK.be⟩
end Go.Proofs.YtegnnghoiffmhaaDoor.Big
