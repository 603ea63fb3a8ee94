/- The law IntegerEuclid. -/
import Derived.Test.YtegnnghoiffmhaaDoorIKeep
import Derived.Deep.DeepCutAuto
import Derived.Deep.RegionHeld3
namespace Go.Proofs.YtegnnghoiffmhaaDoor.Big
open Go.RowKit Go.Proofs.YtegnnghoiffmhaaDoorW.PrintWords Go.Proofs.YtegnnghoiffmhaaDoorW.PrintLast
set_option linter.unusedVariables false
set_option linter.unusedSimpArgs false
attribute [local go_sem ↓] Go.wp_at_zero Go.wp_at_succ
set_option maxHeartbeats 4000000 in
set_option maxRecDepth 100000 in
theorem euclid_any (n0 n1 : Bool) (A0 A1 : Option Addr) (c0 c1 : Nat) (xs0 xs1 : List Int) (w : World) (h0 : Rd w A0 c0 xs0) (h1 : Rd w A1 c1 xs1) (hl0 : xs0.length ≤ 35184372088832) (hl1 : xs1.length ≤ 35184372088832) (hT : Tab_p10 w) :
    Calls Tryd.prog 6 #[.agg #[.bool n0, .slice A0 xs0.length c0], .agg #[.bool n1, .slice A1 xs1.length c1]] w fun e w' => e = .returned (.bool true) ∧ Below w.heap.size w w' := by
  obtain ⟨bl, hbl⟩ : ∃ b, decide ([xs0.length, xs1.length].sum ≤ 60) = b := ⟨_, rfl⟩
  have HL := Aside0.mk hbl
  have hls : ∀ i, i < [xs0.length, xs1.length].length → lz [xs0.length, xs1.length] i ≤ 35184372088832 := by
    intro i hi
    match i, hi with
    | 0, _ => exact hl0
    | 1, _ => exact hl1
  have HLS := Aside0.mk hls
  clear hls

  cases bl with
  | false =>
    go_enter Tryd.func6, Tryd.ntmps6
    go_wp2_with (first
      | (go_at_call 12; generalize hwb : World.alloc _ _ = wb; have hK := keep2 w _ _ _ _  _ hwb; have hc := light_cells2 _ n0 n1 A0 A1 xs0.length xs1.length c0 c1 _ hwb (w.heap.size + 1 + 1) (by simp); clear hwb; (with_reducible refine (Light_any _ 2 [xs0.length, xs1.length] _ rfl (by omega) hc HLS.out false HL.out).mono ?_); rintro e w_0 ⟨rfl, rfl⟩; clear hc)
      | (go_at_call 13; (with_reducible refine (awake_any _ (hT.below hK.be)).mono ?_); rintro e w_1 ⟨rfl, hb⟩; replace hK := hK.below hb; clear hb))
    go_ret
    exact ⟨rfl, hK.be⟩
  | true =>
    have hsum : xs0.length + xs1.length ≤ 60 := by have := of_decide_eq_true hbl; simpa using this
    clear hbl
    obtain ⟨a, e_a⟩ : ∃ z, iv n0 xs0 = z := ⟨_, rfl⟩
    have E_a := Aside0.mk e_a
    have l_a : (mg a).length ≤ 60 := by rw [← e_a]; exact mg_iv_le n0 h0.dig (by omega)
    clear e_a
    obtain ⟨b, e_b⟩ : ∃ z, iv n1 xs1 = z := ⟨_, rfl⟩
    have E_b := Aside0.mk e_b
    have l_b : (mg b).length ≤ 60 := by rw [← e_b]; exact mg_iv_le n1 h1.dig (by omega)
    clear e_b
    obtain ⟨sb, e_sb⟩ : ∃ z, cmpZ b 0 = z := ⟨_, rfl⟩
    have E_sb := Aside0.mk e_sb
    go_enter Tryd.func6, Tryd.ntmps6
    by_cases hb0 : b = 0
    · have hs0 : (sb == 0) = true := by rw [← e_sb, hb0]; rfl
      clear e_sb
      go_wp2_with (first
        | (go_at_call 12; generalize hwb : World.alloc _ _ = wb; have hK := keep2 w _ _ _ _  _ hwb; have hc := light_cells2 _ n0 n1 A0 A1 xs0.length xs1.length c0 c1 _ hwb (w.heap.size + 1 + 1) (by simp); clear hwb; (with_reducible refine (Light_any _ 2 [xs0.length, xs1.length] _ rfl (by omega) hc HLS.out true HL.out).mono ?_); rintro e w_0 ⟨rfl, rfl⟩; clear hc; replace hK := (hK.row (h0.below hK.be)).row (h1.below hK.be); have xb0 := hK.at0 (g := w.heap.size + 1) (by repeat (first | exact List.mem_cons_self | apply List.mem_cons_of_mem)); have xb1 := hK.at1 (g := w.heap.size + 1) (by repeat (first | exact List.mem_cons_self | apply List.mem_cons_of_mem)))
        | (go_at_call 19; (with_reducible refine (sign_v n1 A1 c1 xs1 _ (hK.rd _ _ _ (by repeat (first | exact List.mem_cons_self | apply List.mem_cons_of_mem))) (by omega)  b sb E_b.out E_sb.out).mono ?_); rintro e w_2 ⟨rfl, hb⟩; replace hK := hK.below hb; clear hb)
        | (go_at_call 13; (with_reducible refine (awake_any _ (hT.below hK.be)).mono ?_); rintro e w_3 ⟨rfl, hb⟩; replace hK := hK.below hb; clear hb))
      go_ret
      exact ⟨rfl, hK.be⟩
    · have hs0 : (sb == 0) = false := by rw [← e_sb]; simp [cmpZ]; split <;> (try split) <;> omega
      have N_b := Aside0.mk hb0
      obtain ⟨q, e_q⟩ : ∃ z, a.fdiv b = z := ⟨_, rfl⟩
      obtain ⟨r, e_r⟩ : ∃ z, a.fmod b = z := ⟨_, rfl⟩
      have E_q := Aside0.mk e_q
      have E_r := Aside0.mk e_r
      have hrb : (0 ≤ r ∧ r < b ∨ b < r ∧ r ≤ 0) ∧ b * q + r = a := by rw [← e_q, ← e_r]; exact fdm a b hb0
      have l_q : (mg q).length ≤ 61 := by rw [← e_q]; exact mg_fdiv hb0 l_a
      have l_r : (mg r).length ≤ 62 := by refine mg_len ?_ ?_ <;> (have h1 := mg_bound l_b; have h2 := pw_le (show 60 ≤ 62 by omega); omega)
      have RB := Aside0.mk hrb
      obtain ⟨t, e_t⟩ : ∃ z, q * b = z := ⟨_, rfl⟩
      have E_t := Aside0.mk e_t
      have l_t : (mg t).length ≤ 130 := by rw [← e_t]; exact mg_mul l_q l_b (by omega)
      clear e_t
      obtain ⟨back, e_back⟩ : ∃ z, t + r = z := ⟨_, rfl⟩
      have E_back := Aside0.mk e_back
      have l_back : (mg back).length ≤ 140 := by rw [← e_back]; exact mg_add l_t l_r (by omega) (by omega)
      clear e_back
      obtain ⟨ar, e_ar⟩ : ∃ z, ((r.natAbs : Nat) : Int) = z := ⟨_, rfl⟩
      have E_ar := Aside0.mk e_ar
      have l_ar : (mg ar).length ≤ 62 := by rw [← e_ar, mg_abs]; exact l_r
      obtain ⟨ab, e_ab⟩ : ∃ z, ((b.natAbs : Nat) : Int) = z := ⟨_, rfl⟩
      have E_ab := Aside0.mk e_ab
      have l_ab : (mg ab).length ≤ 62 := by rw [← e_ab, mg_abs]; omega
      have hcb : back = a := by rw [← E_back.out, ← E_t.out, Int.mul_comm]; exact hrb.2
      have C_0 := Aside0.mk (show cmpZ back a = 0 by rw [hcb]; simp [cmpZ])
      have C_1 := Aside0.mk (show cmpZ ar ab = -1 by unfold cmpZ; rw [if_pos (by omega)])
      clear hcb e_ar e_ab hs0
      by_cases hr0 : r = 0
      · have Z_r := Aside0.mk (show cmpZ r 0 = 0 by rw [hr0]; rfl)
        clear hr0
        have hs0 : (sb == 0) = false := by rw [← E_sb.out]; have := N_b.out; simp [cmpZ]; split <;> (try split) <;> omega
        clear hrb hb0 e_q e_r e_sb
        go_wp2_with (first
          | (go_at_call 12; generalize hwb : World.alloc _ _ = wb; have hK := keep2 w _ _ _ _  _ hwb; have hc := light_cells2 _ n0 n1 A0 A1 xs0.length xs1.length c0 c1 _ hwb (w.heap.size + 1 + 1) (by simp); clear hwb; (with_reducible refine (Light_any _ 2 [xs0.length, xs1.length] _ rfl (by omega) hc HLS.out true HL.out).mono ?_); rintro e w_0 ⟨rfl, rfl⟩; clear hc; replace hK := (hK.row (h0.below hK.be)).row (h1.below hK.be); have xa0 := hK.at0 (g := w.heap.size) (by repeat (first | exact List.mem_cons_self | apply List.mem_cons_of_mem)); have xa1 := hK.at1 (g := w.heap.size) (by repeat (first | exact List.mem_cons_self | apply List.mem_cons_of_mem)); have xb0 := hK.at0 (g := w.heap.size + 1) (by repeat (first | exact List.mem_cons_self | apply List.mem_cons_of_mem)); have xb1 := hK.at1 (g := w.heap.size + 1) (by repeat (first | exact List.mem_cons_self | apply List.mem_cons_of_mem)))
          | (go_at_call 19; (with_reducible refine (sign_v n1 A1 c1 xs1 _ (hK.rd _ _ _ (by repeat (first | exact List.mem_cons_self | apply List.mem_cons_of_mem))) (by omega)  b sb E_b.out E_sb.out).mono ?_); rintro e w_5 ⟨rfl, hb⟩; replace hK := hK.below hb; clear hb; have xa0 := hK.at0 (g := w.heap.size) (by repeat (first | exact List.mem_cons_self | apply List.mem_cons_of_mem)); have xa1 := hK.at1 (g := w.heap.size) (by repeat (first | exact List.mem_cons_self | apply List.mem_cons_of_mem)); have xb0 := hK.at0 (g := w.heap.size + 1) (by repeat (first | exact List.mem_cons_self | apply List.mem_cons_of_mem)); have xb1 := hK.at1 (g := w.heap.size + 1) (by repeat (first | exact List.mem_cons_self | apply List.mem_cons_of_mem)))
          | (go_at_call 14; (with_reducible refine (divmod_v n0 n1 A0 A1 c0 c1 xs0 xs1 _ (hK.rd _ _ _ (by repeat (first | exact List.mem_cons_self | apply List.mem_cons_of_mem))) (hK.rd _ _ _ (by repeat (first | exact List.mem_cons_self | apply List.mem_cons_of_mem))) (by omega) (by omega)  a b q r E_a.out E_b.out N_b.out E_q.out E_r.out).mono ?_); rintro e w_d ⟨A_q, c_q, A_r, c_r, rfl, hQ, hR, hb⟩; replace hK := ((hK.below hb).row hQ).row hR; clear hb hQ hR))
        replace hK := (hK.new (.bool (ng q)) (.slice A_q (mg q).length c_q)).new (.bool (ng r)) (.slice A_r (mg r).length c_r)
        rw [show (w_d.alloc (.cells #[.bool (ng q), .slice A_q (mg q).length c_q] 24)).heap.size = w_d.heap.size + 1 by simp] at hK
        generalize World.alloc _ _ = w_e at hK ⊢
        go_upto_region 4 with (fail)
        go_cut [8] (fun v wc => ∃ (g : Nat) (A_back : Option Addr) (c_back : Nat), v = .pointer (some ⟨g, 0, none⟩) ∧ Aside0 (Keep w wc ((g, .bool (ng back), .slice A_back (mg back).length c_back) :: [(w_d.heap.size + 1, .bool (ng r), .slice A_r (mg r).length c_r), (w_d.heap.size, .bool (ng q), .slice A_q (mg q).length c_q), (w.heap.size, .bool n0, .slice A0 xs0.length c0), (w.heap.size + 1, .bool n1, .slice A1 xs1.length c1)]) ((A_back, c_back, (mg back)) :: [(A_r, c_r, (mg r)), (A_q, c_q, (mg q)), (A1, c1, xs1), (A0, c0, xs0)])))
        case first =>
          go_region_held3 (fun w' => w'.cell? ⟨w_d.heap.size, 0, none⟩ = some (.bool (ng q)) ∧ w'.cell? ⟨w_d.heap.size, 1, none⟩ = some (.slice A_q (mg q).length c_q) ∧ w'.cell? ⟨w.heap.size + 1, 0, none⟩ = some (.bool n1) ∧ w'.cell? ⟨w.heap.size + 1, 1, none⟩ = some (.slice A1 xs1.length c1) ∧ w'.cell? ⟨w_d.heap.size + 1, 0, none⟩ = some (.bool (ng r)) ∧ w'.cell? ⟨w_d.heap.size + 1, 1, none⟩ = some (.slice A_r (mg r).length c_r))
            (first | with_reducible exact ⟨hK.at0 (by repeat (first | exact List.mem_cons_self | apply List.mem_cons_of_mem)), hK.at1 (by repeat (first | exact List.mem_cons_self | apply List.mem_cons_of_mem)), hK.at0 (by repeat (first | exact List.mem_cons_self | apply List.mem_cons_of_mem)), hK.at1 (by repeat (first | exact List.mem_cons_self | apply List.mem_cons_of_mem)), hK.at0 (by repeat (first | exact List.mem_cons_self | apply List.mem_cons_of_mem)), hK.at1 (by repeat (first | exact List.mem_cons_self | apply List.mem_cons_of_mem))⟩ | with_reducible exact ⟨hK.drew.at0 (by repeat (first | exact List.mem_cons_self | apply List.mem_cons_of_mem)), hK.drew.at1 (by repeat (first | exact List.mem_cons_self | apply List.mem_cons_of_mem)), hK.drew.at0 (by repeat (first | exact List.mem_cons_self | apply List.mem_cons_of_mem)), hK.drew.at1 (by repeat (first | exact List.mem_cons_self | apply List.mem_cons_of_mem)), hK.drew.at0 (by repeat (first | exact List.mem_cons_self | apply List.mem_cons_of_mem)), hK.drew.at1 (by repeat (first | exact List.mem_cons_self | apply List.mem_cons_of_mem))⟩ | with_reducible exact ⟨(hK.alloc _).at0 (by repeat (first | exact List.mem_cons_self | apply List.mem_cons_of_mem)), (hK.alloc _).at1 (by repeat (first | exact List.mem_cons_self | apply List.mem_cons_of_mem)), (hK.alloc _).at0 (by repeat (first | exact List.mem_cons_self | apply List.mem_cons_of_mem)), (hK.alloc _).at1 (by repeat (first | exact List.mem_cons_self | apply List.mem_cons_of_mem)), (hK.alloc _).at0 (by repeat (first | exact List.mem_cons_self | apply List.mem_cons_of_mem)), (hK.alloc _).at1 (by repeat (first | exact List.mem_cons_self | apply List.mem_cons_of_mem))⟩ | with_reducible exact ⟨(hK.alloc _).drew.at0 (by repeat (first | exact List.mem_cons_self | apply List.mem_cons_of_mem)), (hK.alloc _).drew.at1 (by repeat (first | exact List.mem_cons_self | apply List.mem_cons_of_mem)), (hK.alloc _).drew.at0 (by repeat (first | exact List.mem_cons_self | apply List.mem_cons_of_mem)), (hK.alloc _).drew.at1 (by repeat (first | exact List.mem_cons_self | apply List.mem_cons_of_mem)), (hK.alloc _).drew.at0 (by repeat (first | exact List.mem_cons_self | apply List.mem_cons_of_mem)), (hK.alloc _).drew.at1 (by repeat (first | exact List.mem_cons_self | apply List.mem_cons_of_mem))⟩ | with_reducible exact ⟨(hK.set _ _ _ _).at0 (by repeat (first | exact List.mem_cons_self | apply List.mem_cons_of_mem)), (hK.set _ _ _ _).at1 (by repeat (first | exact List.mem_cons_self | apply List.mem_cons_of_mem)), (hK.set _ _ _ _).at0 (by repeat (first | exact List.mem_cons_self | apply List.mem_cons_of_mem)), (hK.set _ _ _ _).at1 (by repeat (first | exact List.mem_cons_self | apply List.mem_cons_of_mem)), (hK.set _ _ _ _).at0 (by repeat (first | exact List.mem_cons_self | apply List.mem_cons_of_mem)), (hK.set _ _ _ _).at1 (by repeat (first | exact List.mem_cons_self | apply List.mem_cons_of_mem))⟩)
            (first
              | (go_simp; go_at_call 18; (with_reducible refine (mul_v (ng q) n1 A_q A1 c_q c1 (mg q) xs1 _ ((hK.drew).rd _ _ _ (by repeat (first | exact List.mem_cons_self | apply List.mem_cons_of_mem))) ((hK.drew).rd _ _ _ (by repeat (first | exact List.mem_cons_self | apply List.mem_cons_of_mem))) (by omega) (by omega)  q b t (iv_canon _) E_b.out E_t.out).mono ?_); rintro e w_6 ⟨A_t, c_t, rfl, hR, hb⟩; replace hK := ((hK.drew).below hb).row hR; clear hb hR; (try clear hroom); have hroom := hK.room)
              | (go_simp; go_at_call 18; (with_reducible refine (mul_v (ng q) n1 A_q A1 c_q c1 (mg q) xs1 _ (((hK.new (.bool false) (.slice none 0 0)).drew).rd _ _ _ (by repeat (first | exact List.mem_cons_self | apply List.mem_cons_of_mem))) (((hK.new (.bool false) (.slice none 0 0)).drew).rd _ _ _ (by repeat (first | exact List.mem_cons_self | apply List.mem_cons_of_mem))) (by omega) (by omega)  q b t (iv_canon _) E_b.out E_t.out).mono ?_); rintro e w_6 ⟨A_t, c_t, rfl, hR, hb⟩; replace hK := (((hK.new (.bool false) (.slice none 0 0)).drew).below hb).row hR; clear hb hR; (try clear hroom); have hroom := hK.room)
              | (go_simp; go_at_call 17; (with_reducible refine (add_v (ng t) (ng r) A_t A_r c_t c_r (mg t) (mg r) _ ((hK).rd _ _ _ (by repeat (first | exact List.mem_cons_self | apply List.mem_cons_of_mem))) ((hK).rd _ _ _ (by repeat (first | exact List.mem_cons_self | apply List.mem_cons_of_mem))) (by omega) (by omega)  t r back (iv_canon _) (iv_canon _) E_back.out).mono ?_); rintro e w_7 ⟨A_back, c_back, rfl, hR, hb⟩; replace hK := ((hK).below hb).row hR; clear hb hR; (try clear hroom); have hroom := hK.room)
              | (go_simp; go_at_call 17; (with_reducible refine (add_v (ng t) (ng r) A_t A_r c_t c_r (mg t) (mg r) _ (((hK.new (.bool false) (.slice none 0 0))).rd _ _ _ (by repeat (first | exact List.mem_cons_self | apply List.mem_cons_of_mem))) (((hK.new (.bool false) (.slice none 0 0))).rd _ _ _ (by repeat (first | exact List.mem_cons_self | apply List.mem_cons_of_mem))) (by omega) (by omega)  t r back (iv_canon _) (iv_canon _) E_back.out).mono ?_); rintro e w_7 ⟨A_back, c_back, rfl, hR, hb⟩; replace hK := (((hK.new (.bool false) (.slice none 0 0))).below hb).row hR; clear hb hR; (try clear hroom); have hroom := hK.room))
          all_goals (try clear hroom)
          all_goals go_wp2_with (fail)
          all_goals go_meet
          all_goals first | exact ⟨_, A_back, c_back, rfl, ⟨(hK.new (.bool (ng back)) (.slice A_back (mg back).length c_back)).sub (by intro x hx; simp only [List.mem_cons, List.not_mem_nil, or_false] at hx ⊢; rcases hx with rfl | rfl | rfl | rfl | rfl <;> simp)⟩⟩ | exact ⟨_, A_back, c_back, rfl, ⟨(hK.set (ng back) A_back (mg back).length c_back).sub (by intro x hx; simp only [List.mem_cons, List.not_mem_nil, or_false] at hx ⊢; rcases hx with rfl | rfl | rfl | rfl | rfl <;> simp)⟩⟩
        clear hK
        obtain ⟨g_back, A_back, c_back, rfl, hK0⟩ := hcut
        have hK := hK0.out
        clear hK0
        go_wp2
        replace hK := hK.drew
        refine start_ (n := 32) (S := (fun W => W.cell? ⟨g_back, 0, none⟩ = some (.bool (ng back)) ∧ W.cell? ⟨g_back, 1, none⟩ = some (.slice A_back (mg back).length c_back) ∧ W.cell? ⟨w.heap.size, 0, none⟩ = some (.bool n0) ∧ W.cell? ⟨w.heap.size, 1, none⟩ = some (.slice A0 xs0.length c0) ∧ W.cell? ⟨w_d.heap.size + 1, 0, none⟩ = some (.bool (ng r)) ∧ W.cell? ⟨w_d.heap.size + 1, 1, none⟩ = some (.slice A_r (mg r).length c_r) ∧ W.cell? ⟨w.heap.size + 1, 0, none⟩ = some (.bool n1) ∧ W.cell? ⟨w.heap.size + 1, 1, none⟩ = some (.slice A1 xs1.length c1))) (ds := []) #[false, false, false, false, false, false, false, false, false, false, false, false, false, false, false, false, false, false, false, false, false, false, false, false, false, false, false, false, false, false, false, false] (by kernel_rfl) rfl rfl (⟨hK.at0 (by repeat (first | exact List.mem_cons_self | apply List.mem_cons_of_mem)), hK.at1 (by repeat (first | exact List.mem_cons_self | apply List.mem_cons_of_mem)), hK.at0 (by repeat (first | exact List.mem_cons_self | apply List.mem_cons_of_mem)), hK.at1 (by repeat (first | exact List.mem_cons_self | apply List.mem_cons_of_mem)), hK.at0 (by repeat (first | exact List.mem_cons_self | apply List.mem_cons_of_mem)), hK.at1 (by repeat (first | exact List.mem_cons_self | apply List.mem_cons_of_mem)), hK.at0 (by repeat (first | exact List.mem_cons_self | apply List.mem_cons_of_mem)), hK.at1 (by repeat (first | exact List.mem_cons_self | apply List.mem_cons_of_mem))⟩) (fun hHeld => ?_)
        refine pure_ (i := 0) (N := some 32) (v := ?_) (a' := ?_) #[true, false, false, false, false, false, false, false, false, false, false, false, false, false, false, false, false, false, false, false, false, false, false, false, false, false, false, false, false, false, false, false] rfl rfl (by kernel_rfl) (fun _ _ _ h => h) (Or.inl ⟨by rfl, ?_⟩) ?_ ?_
        rotate_left
        · intro w'
          go_simp
          with_reducible rfl
        rotate_left
        · simp only [Act.put, List.setIfInBounds_toArray, List.set_cons_zero, List.set_cons_succ, i64_w, i32_w]
          rfl
        refine pure_ (i := 1) (N := some 33) (v := ?_) (a' := ?_) #[true, true, false, false, false, false, false, false, false, false, false, false, false, false, false, false, false, false, false, false, false, false, false, false, false, false, false, false, false, false, false, false] rfl rfl (by kernel_rfl) (fun _ _ _ h => h) (Or.inl ⟨by rfl, ?_⟩) ?_ ?_
        rotate_left
        · intro w'
          go_simp
          with_reducible rfl
        rotate_left
        · simp only [Act.put, List.setIfInBounds_toArray, List.set_cons_zero, List.set_cons_succ, i64_w, i32_w]
          rfl
        refine pure_ (i := 2) (N := some 34) (v := ?_) (a' := ?_) #[true, true, true, false, false, false, false, false, false, false, false, false, false, false, false, false, false, false, false, false, false, false, false, false, false, false, false, false, false, false, false, false] rfl rfl (by kernel_rfl) (fun _ _ _ h => h) (Or.inl ⟨by rfl, ?_⟩) ?_ ?_
        rotate_left
        · intro w'
          go_simp
          with_reducible rfl
        rotate_left
        · simp only [Act.put, List.setIfInBounds_toArray, List.set_cons_zero, List.set_cons_succ, i64_w, i32_w]
          rfl
        refine take_ (i := 3) (N := some 35) (v := ?_) (a' := ?_) #[true, true, true, true, false, false, false, false, false, false, false, false, false, false, false, false, false, false, false, false, false, false, false, false, false, false, false, false, false, false, false, false] rfl rfl (by kernel_rfl) (fun _ _ _ h => h) (Or.inl ⟨by rfl, ?_⟩) hHeld ?_ ?_
        rotate_left
        · rintro w' ⟨s0, s1, s2, s3, s4, s5, s6, s7⟩
          go_simp
          with_reducible rfl
        rotate_left
        · simp only [Act.put, List.setIfInBounds_toArray, List.set_cons_zero, List.set_cons_succ, i64_w, i32_w]
          rfl
        refine take_ (i := 4) (N := some 36) (v := ?_) (a' := ?_) #[true, true, true, true, true, false, false, false, false, false, false, false, false, false, false, false, false, false, false, false, false, false, false, false, false, false, false, false, false, false, false, false] rfl rfl (by kernel_rfl) (fun _ _ _ h => h) (Or.inl ⟨by rfl, ?_⟩) hHeld ?_ ?_
        rotate_left
        · rintro w' ⟨s0, s1, s2, s3, s4, s5, s6, s7⟩
          go_simp
          with_reducible rfl
        rotate_left
        · simp only [Act.put, List.setIfInBounds_toArray, List.set_cons_zero, List.set_cons_succ, i64_w, i32_w]
          rfl
        refine one_ (i := 5) (N := some 37) #[true, true, true, true, true, true, false, false, false, false, false, false, false, false, false, false, false, false, false, false, false, false, false, false, false, false, false, false, false, false, false, false] rfl rfl (by kernel_rfl) (by decide) (fun K hKK => ?_)
        refine goes_ Tryd.func25 (by kernel_rfl) rfl #[.agg #[.bool (ng back), .slice A_back (mg back).length c_back], .agg #[.bool n0, .slice A0 xs0.length c0]] (by rfl) rfl rfl (by (try simp only [List.map_toArray, List.map_cons, List.map_nil]); first | done | rfl) ?_
        refine (compare_v (ng back) n0 A_back A0 c_back c0 (mg back) xs0 _ (hK.rd _ _ _ (by repeat (first | exact List.mem_cons_self | apply List.mem_cons_of_mem))) (hK.rd _ _ _ (by repeat (first | exact List.mem_cons_self | apply List.mem_cons_of_mem))) (by omega) (by omega)  back a 0 (iv_canon _) E_a.out C_0.out).mono ?_
        rintro e w_8 ⟨rfl, hb⟩
        refine ⟨_, rfl, ?_⟩
        replace hK := hK.below hb
        clear hb
        refine hKK.out _ _ (⟨hK.at0 (by repeat (first | exact List.mem_cons_self | apply List.mem_cons_of_mem)), hK.at1 (by repeat (first | exact List.mem_cons_self | apply List.mem_cons_of_mem)), hK.at0 (by repeat (first | exact List.mem_cons_self | apply List.mem_cons_of_mem)), hK.at1 (by repeat (first | exact List.mem_cons_self | apply List.mem_cons_of_mem)), hK.at0 (by repeat (first | exact List.mem_cons_self | apply List.mem_cons_of_mem)), hK.at1 (by repeat (first | exact List.mem_cons_self | apply List.mem_cons_of_mem)), hK.at0 (by repeat (first | exact List.mem_cons_self | apply List.mem_cons_of_mem)), hK.at1 (by repeat (first | exact List.mem_cons_self | apply List.mem_cons_of_mem))⟩) (fun hHeld => ?_)
        refine norm_ (a' := ?_) ?_ ?_
        rotate_left
        · show Act.put _ (some 37) _ = _
          simp only [Act.put, List.setIfInBounds_toArray, List.set_cons_zero, List.set_cons_succ, i64_w, i32_w]
          rfl
        refine pure_ (i := 6) (N := some 38) (v := ?_) (a' := ?_) #[true, true, true, true, true, true, true, false, false, false, false, false, false, false, false, false, false, false, false, false, false, false, false, false, false, false, false, false, false, false, false, false] rfl rfl (by kernel_rfl) (fun _ _ _ h => h) (Or.inl ⟨by rfl, ?_⟩) ?_ ?_
        rotate_left
        · intro w'
          go_simp
          with_reducible rfl
        rotate_left
        · simp only [Act.put, List.setIfInBounds_toArray, List.set_cons_zero, List.set_cons_succ, i64_w, i32_w]
          rfl
        refine pure_ (i := 7) (N := some 39) (v := ?_) (a' := ?_) #[true, true, true, true, true, true, true, true, false, false, false, false, false, false, false, false, false, false, false, false, false, false, false, false, false, false, false, false, false, false, false, false] rfl rfl (by kernel_rfl) (fun _ _ _ h => h) (Or.inl ⟨by rfl, ?_⟩) ?_ ?_
        rotate_left
        · intro w'
          go_simp
          with_reducible rfl
        rotate_left
        · simp only [Act.put, List.setIfInBounds_toArray, List.set_cons_zero, List.set_cons_succ, i64_w, i32_w]
          rfl
        refine pure_ (i := 8) (N := some 40) (v := ?_) (a' := ?_) #[true, true, true, true, true, true, true, true, true, false, false, false, false, false, false, false, false, false, false, false, false, false, false, false, false, false, false, false, false, false, false, false] rfl rfl (by kernel_rfl) (fun _ _ _ h => h) (Or.inl ⟨by rfl, ?_⟩) ?_ ?_
        rotate_left
        · intro w'
          go_simp
          with_reducible rfl
        rotate_left
        · simp only [Act.put, List.setIfInBounds_toArray, List.set_cons_zero, List.set_cons_succ, i64_w, i32_w]
          rfl
        refine take_ (i := 9) (N := some 41) (v := ?_) (a' := ?_) #[true, true, true, true, true, true, true, true, true, true, false, false, false, false, false, false, false, false, false, false, false, false, false, false, false, false, false, false, false, false, false, false] rfl rfl (by kernel_rfl) (fun _ _ _ h => h) (Or.inl ⟨by rfl, ?_⟩) hHeld ?_ ?_
        rotate_left
        · rintro w' ⟨s0, s1, s2, s3, s4, s5, s6, s7⟩
          go_simp
          with_reducible rfl
        rotate_left
        · simp only [Act.put, List.setIfInBounds_toArray, List.set_cons_zero, List.set_cons_succ, i64_w, i32_w]
          rfl
        refine one_ (i := 10) (N := some 42) #[true, true, true, true, true, true, true, true, true, true, true, false, false, false, false, false, false, false, false, false, false, false, false, false, false, false, false, false, false, false, false, false] rfl rfl (by kernel_rfl) (by decide) (fun K hKK => ?_)
        refine goes_ Tryd.func19 (by kernel_rfl) rfl #[.agg #[.bool (ng r), .slice A_r (mg r).length c_r]] (by rfl) rfl rfl (by (try simp only [List.map_toArray, List.map_cons, List.map_nil]); first | done | rfl) ?_
        refine (sign_v (ng r) A_r c_r (mg r) _ (hK.rd _ _ _ (by repeat (first | exact List.mem_cons_self | apply List.mem_cons_of_mem))) (by omega)  r 0 (iv_canon _) Z_r.out).mono ?_
        rintro e w_9 ⟨rfl, hb⟩
        refine ⟨_, rfl, ?_⟩
        replace hK := hK.below hb
        clear hb
        refine hKK.out _ _ (⟨hK.at0 (by repeat (first | exact List.mem_cons_self | apply List.mem_cons_of_mem)), hK.at1 (by repeat (first | exact List.mem_cons_self | apply List.mem_cons_of_mem)), hK.at0 (by repeat (first | exact List.mem_cons_self | apply List.mem_cons_of_mem)), hK.at1 (by repeat (first | exact List.mem_cons_self | apply List.mem_cons_of_mem)), hK.at0 (by repeat (first | exact List.mem_cons_self | apply List.mem_cons_of_mem)), hK.at1 (by repeat (first | exact List.mem_cons_self | apply List.mem_cons_of_mem)), hK.at0 (by repeat (first | exact List.mem_cons_self | apply List.mem_cons_of_mem)), hK.at1 (by repeat (first | exact List.mem_cons_self | apply List.mem_cons_of_mem))⟩) (fun hHeld => ?_)
        refine norm_ (a' := ?_) ?_ ?_
        rotate_left
        · show Act.put _ (some 42) _ = _
          simp only [Act.put, List.setIfInBounds_toArray, List.set_cons_zero, List.set_cons_succ, i64_w, i32_w]
          rfl
        refine pure_ (i := 11) (N := some 43) (v := ?_) (a' := ?_) #[true, true, true, true, true, true, true, true, true, true, true, true, false, false, false, false, false, false, false, false, false, false, false, false, false, false, false, false, false, false, false, false] rfl rfl (by kernel_rfl) (fun _ _ _ h => h) (Or.inl ⟨by rfl, ?_⟩) ?_ ?_
        rotate_left
        · intro w'
          go_simp
          with_reducible rfl
        rotate_left
        · simp only [Act.put, List.setIfInBounds_toArray, List.set_cons_zero, List.set_cons_succ, i64_w, i32_w]
          rfl
        refine pure_ (i := 12) (N := some 44) (v := ?_) (a' := ?_) #[true, true, true, true, true, true, true, true, true, true, true, true, true, false, false, false, false, false, false, false, false, false, false, false, false, false, false, false, false, false, false, false] rfl rfl (by kernel_rfl) (fun _ _ _ h => h) (Or.inl ⟨by rfl, ?_⟩) ?_ ?_
        rotate_left
        · intro w'
          go_simp
          with_reducible rfl
        rotate_left
        · simp only [Act.put, List.setIfInBounds_toArray, List.set_cons_zero, List.set_cons_succ, i64_w, i32_w]
          rfl
        refine pure_ (i := 13) (N := some 45) (v := undef) (a' := ?_) #[true, true, true, true, true, true, true, true, true, true, true, true, true, true, false, false, false, false, false, false, false, false, false, false, false, false, false, false, false, false, false, false] rfl rfl (by kernel_rfl) (fun _ _ _ h => h) (Or.inr ⟨by rfl, rfl⟩) ?_ ?_
        rotate_left
        · simp only [Act.put, List.setIfInBounds_toArray, List.set_cons_zero, List.set_cons_succ, i64_w, i32_w]
          rfl
        refine pure_ (i := 14) (N := some 46) (v := undef) (a' := ?_) #[true, true, true, true, true, true, true, true, true, true, true, true, true, true, true, false, false, false, false, false, false, false, false, false, false, false, false, false, false, false, false, false] rfl rfl (by kernel_rfl) (fun _ _ _ h => h) (Or.inr ⟨by rfl, rfl⟩) ?_ ?_
        rotate_left
        · simp only [Act.put, List.setIfInBounds_toArray, List.set_cons_zero, List.set_cons_succ, i64_w, i32_w]
          rfl
        refine pure_ (i := 15) (N := some 47) (v := undef) (a' := ?_) #[true, true, true, true, true, true, true, true, true, true, true, true, true, true, true, true, false, false, false, false, false, false, false, false, false, false, false, false, false, false, false, false] rfl rfl (by kernel_rfl) (fun _ _ _ h => h) (Or.inr ⟨by rfl, rfl⟩) ?_ ?_
        rotate_left
        · simp only [Act.put, List.setIfInBounds_toArray, List.set_cons_zero, List.set_cons_succ, i64_w, i32_w]
          rfl
        refine pure_ (i := 16) (N := some 48) (v := undef) (a' := ?_) #[true, true, true, true, true, true, true, true, true, true, true, true, true, true, true, true, true, false, false, false, false, false, false, false, false, false, false, false, false, false, false, false] rfl rfl (by kernel_rfl) (fun _ _ _ h => h) (Or.inr ⟨by rfl, rfl⟩) ?_ ?_
        rotate_left
        · simp only [Act.put, List.setIfInBounds_toArray, List.set_cons_zero, List.set_cons_succ, i64_w, i32_w]
          rfl
        refine pure_ (i := 17) (N := some 49) (v := undef) (a' := ?_) #[true, true, true, true, true, true, true, true, true, true, true, true, true, true, true, true, true, true, false, false, false, false, false, false, false, false, false, false, false, false, false, false] rfl rfl (by kernel_rfl) (fun _ _ _ h => h) (Or.inr ⟨by rfl, rfl⟩) ?_ ?_
        rotate_left
        · simp only [Act.put, List.setIfInBounds_toArray, List.set_cons_zero, List.set_cons_succ, i64_w, i32_w]
          rfl
        refine pure_ (i := 18) (N := some 50) (v := ?_) (a' := ?_) #[true, true, true, true, true, true, true, true, true, true, true, true, true, true, true, true, true, true, true, false, false, false, false, false, false, false, false, false, false, false, false, false] rfl rfl (by kernel_rfl) (fun _ _ _ h => h) (Or.inl ⟨by rfl, ?_⟩) ?_ ?_
        rotate_left
        · intro w'
          go_simp
          with_reducible rfl
        rotate_left
        · simp only [Act.put, List.setIfInBounds_toArray, List.set_cons_zero, List.set_cons_succ, i64_w, i32_w]
          rfl
        refine pure_ (i := 19) (N := some 51) (v := ?_) (a' := ?_) #[true, true, true, true, true, true, true, true, true, true, true, true, true, true, true, true, true, true, true, true, false, false, false, false, false, false, false, false, false, false, false, false] rfl rfl (by kernel_rfl) (fun _ _ _ h => h) (Or.inl ⟨by rfl, ?_⟩) ?_ ?_
        rotate_left
        · intro w'
          go_simp
          with_reducible rfl
        rotate_left
        · simp only [Act.put, List.setIfInBounds_toArray, List.set_cons_zero, List.set_cons_succ, i64_w, i32_w]
          rfl
        refine pure_ (i := 20) (N := some 52) (v := ?_) (a' := ?_) #[true, true, true, true, true, true, true, true, true, true, true, true, true, true, true, true, true, true, true, true, true, false, false, false, false, false, false, false, false, false, false, false] rfl rfl (by kernel_rfl) (fun _ _ _ h => h) (Or.inl ⟨by rfl, ?_⟩) ?_ ?_
        rotate_left
        · intro w'
          go_simp
          with_reducible rfl
        rotate_left
        · simp only [Act.put, List.setIfInBounds_toArray, List.set_cons_zero, List.set_cons_succ, i64_w, i32_w]
          rfl
        refine take_ (i := 21) (N := some 53) (v := ?_) (a' := ?_) #[true, true, true, true, true, true, true, true, true, true, true, true, true, true, true, true, true, true, true, true, true, true, false, false, false, false, false, false, false, false, false, false] rfl rfl (by kernel_rfl) (fun _ _ _ h => h) (Or.inl ⟨by rfl, ?_⟩) hHeld ?_ ?_
        rotate_left
        · rintro w' ⟨s0, s1, s2, s3, s4, s5, s6, s7⟩
          go_simp
          with_reducible rfl
        rotate_left
        · simp only [Act.put, List.setIfInBounds_toArray, List.set_cons_zero, List.set_cons_succ, i64_w, i32_w]
          rfl
        refine take_ (i := 23) (N := some 55) (v := ?_) (a' := ?_) #[true, true, true, true, true, true, true, true, true, true, true, true, true, true, true, true, true, true, true, true, true, true, false, true, false, false, false, false, false, false, false, false] rfl rfl (by kernel_rfl) (fun _ _ _ h => h) (Or.inl ⟨by rfl, ?_⟩) hHeld ?_ ?_
        rotate_left
        · rintro w' ⟨s0, s1, s2, s3, s4, s5, s6, s7⟩
          go_simp
          with_reducible rfl
        rotate_left
        · simp only [Act.put, List.setIfInBounds_toArray, List.set_cons_zero, List.set_cons_succ, i64_w, i32_w]
          rfl
        refine one_ (i := 22) (N := some 54) #[true, true, true, true, true, true, true, true, true, true, true, true, true, true, true, true, true, true, true, true, true, true, true, true, false, false, false, false, false, false, false, false] rfl rfl (by kernel_rfl) (by decide) (fun K hKK => ?_)
        refine goes_ Tryd.func26 (by kernel_rfl) rfl #[.agg #[.bool (ng r), .slice A_r (mg r).length c_r]] (by rfl) rfl rfl (by (try simp only [List.map_toArray, List.map_cons, List.map_nil]); first | done | rfl) ?_
        refine (abs_v (ng r) A_r c_r (mg r) _ (hK.rd _ _ _ (by repeat (first | exact List.mem_cons_self | apply List.mem_cons_of_mem))) (by omega)  r ar (iv_canon _) E_ar.out).mono ?_
        rintro e w_10 ⟨A_ar, c_ar, rfl, hR, hb⟩
        refine ⟨_, rfl, ?_⟩
        replace hK := (hK.below hb).row hR
        clear hb hR
        refine hKK.out _ _ (⟨hK.at0 (by repeat (first | exact List.mem_cons_self | apply List.mem_cons_of_mem)), hK.at1 (by repeat (first | exact List.mem_cons_self | apply List.mem_cons_of_mem)), hK.at0 (by repeat (first | exact List.mem_cons_self | apply List.mem_cons_of_mem)), hK.at1 (by repeat (first | exact List.mem_cons_self | apply List.mem_cons_of_mem)), hK.at0 (by repeat (first | exact List.mem_cons_self | apply List.mem_cons_of_mem)), hK.at1 (by repeat (first | exact List.mem_cons_self | apply List.mem_cons_of_mem)), hK.at0 (by repeat (first | exact List.mem_cons_self | apply List.mem_cons_of_mem)), hK.at1 (by repeat (first | exact List.mem_cons_self | apply List.mem_cons_of_mem))⟩) (fun hHeld => ?_)
        refine norm_ (a' := ?_) ?_ ?_
        rotate_left
        · show Act.put _ (some 54) _ = _
          simp only [Act.put, List.setIfInBounds_toArray, List.set_cons_zero, List.set_cons_succ, i64_w, i32_w]
          rfl
        refine one_ (i := 24) (N := some 56) #[true, true, true, true, true, true, true, true, true, true, true, true, true, true, true, true, true, true, true, true, true, true, true, true, true, false, false, false, false, false, false, false] rfl rfl (by kernel_rfl) (by decide) (fun K hKK => ?_)
        refine goes_ Tryd.func26 (by kernel_rfl) rfl #[.agg #[.bool n1, .slice A1 xs1.length c1]] (by rfl) rfl rfl (by (try simp only [List.map_toArray, List.map_cons, List.map_nil]); first | done | rfl) ?_
        refine (abs_v n1 A1 c1 xs1 _ (hK.rd _ _ _ (by repeat (first | exact List.mem_cons_self | apply List.mem_cons_of_mem))) (by omega)  b ab E_b.out E_ab.out).mono ?_
        rintro e w_11 ⟨A_ab, c_ab, rfl, hR, hb⟩
        refine ⟨_, rfl, ?_⟩
        replace hK := (hK.below hb).row hR
        clear hb hR
        refine hKK.out _ _ (⟨hK.at0 (by repeat (first | exact List.mem_cons_self | apply List.mem_cons_of_mem)), hK.at1 (by repeat (first | exact List.mem_cons_self | apply List.mem_cons_of_mem)), hK.at0 (by repeat (first | exact List.mem_cons_self | apply List.mem_cons_of_mem)), hK.at1 (by repeat (first | exact List.mem_cons_self | apply List.mem_cons_of_mem)), hK.at0 (by repeat (first | exact List.mem_cons_self | apply List.mem_cons_of_mem)), hK.at1 (by repeat (first | exact List.mem_cons_self | apply List.mem_cons_of_mem)), hK.at0 (by repeat (first | exact List.mem_cons_self | apply List.mem_cons_of_mem)), hK.at1 (by repeat (first | exact List.mem_cons_self | apply List.mem_cons_of_mem))⟩) (fun hHeld => ?_)
        refine norm_ (a' := ?_) ?_ ?_
        rotate_left
        · show Act.put _ (some 56) _ = _
          simp only [Act.put, List.setIfInBounds_toArray, List.set_cons_zero, List.set_cons_succ, i64_w, i32_w]
          rfl
        refine one_ (i := 25) (N := some 57) #[true, true, true, true, true, true, true, true, true, true, true, true, true, true, true, true, true, true, true, true, true, true, true, true, true, true, false, false, false, false, false, false] rfl rfl (by kernel_rfl) (by decide) (fun K hKK => ?_)
        refine goes_ Tryd.func25 (by kernel_rfl) rfl #[.agg #[.bool (ng ar), .slice A_ar (mg ar).length c_ar], .agg #[.bool (ng ab), .slice A_ab (mg ab).length c_ab]] (by rfl) rfl rfl (by (try simp only [List.map_toArray, List.map_cons, List.map_nil]); first | done | rfl) ?_
        refine (compare_v (ng ar) (ng ab) A_ar A_ab c_ar c_ab (mg ar) (mg ab) _ (hK.rd _ _ _ (by repeat (first | exact List.mem_cons_self | apply List.mem_cons_of_mem))) (hK.rd _ _ _ (by repeat (first | exact List.mem_cons_self | apply List.mem_cons_of_mem))) (by omega) (by omega)  ar ab (-1) (iv_canon _) (iv_canon _) C_1.out).mono ?_
        rintro e w_12 ⟨rfl, hb⟩
        refine ⟨_, rfl, ?_⟩
        replace hK := hK.below hb
        clear hb
        refine hKK.out _ _ (⟨hK.at0 (by repeat (first | exact List.mem_cons_self | apply List.mem_cons_of_mem)), hK.at1 (by repeat (first | exact List.mem_cons_self | apply List.mem_cons_of_mem)), hK.at0 (by repeat (first | exact List.mem_cons_self | apply List.mem_cons_of_mem)), hK.at1 (by repeat (first | exact List.mem_cons_self | apply List.mem_cons_of_mem)), hK.at0 (by repeat (first | exact List.mem_cons_self | apply List.mem_cons_of_mem)), hK.at1 (by repeat (first | exact List.mem_cons_self | apply List.mem_cons_of_mem)), hK.at0 (by repeat (first | exact List.mem_cons_self | apply List.mem_cons_of_mem)), hK.at1 (by repeat (first | exact List.mem_cons_self | apply List.mem_cons_of_mem))⟩) (fun hHeld => ?_)
        refine norm_ (a' := ?_) ?_ ?_
        rotate_left
        · show Act.put _ (some 57) _ = _
          simp only [Act.put, List.setIfInBounds_toArray, List.set_cons_zero, List.set_cons_succ, i64_w, i32_w]
          rfl
        refine pure_ (i := 26) (N := some 58) (v := ?_) (a' := ?_) #[true, true, true, true, true, true, true, true, true, true, true, true, true, true, true, true, true, true, true, true, true, true, true, true, true, true, true, false, false, false, false, false] rfl rfl (by kernel_rfl) (fun _ _ _ h => h) (Or.inl ⟨by rfl, ?_⟩) ?_ ?_
        rotate_left
        · intro w'
          go_simp
          with_reducible rfl
        rotate_left
        · simp only [Act.put, List.setIfInBounds_toArray, List.set_cons_zero, List.set_cons_succ, i64_w, i32_w]
          rfl
        refine pure_ (i := 27) (N := some 59) (v := ?_) (a' := ?_) #[true, true, true, true, true, true, true, true, true, true, true, true, true, true, true, true, true, true, true, true, true, true, true, true, true, true, true, true, false, false, false, false] rfl rfl (by kernel_rfl) (fun _ _ _ h => h) (Or.inl ⟨by rfl, ?_⟩) ?_ ?_
        rotate_left
        · intro w'
          go_simp
          with_reducible rfl
        rotate_left
        · simp only [Act.put, List.setIfInBounds_toArray, List.set_cons_zero, List.set_cons_succ, i64_w, i32_w]
          rfl
        refine pure_ (i := 28) (N := some 60) (v := ?_) (a' := ?_) #[true, true, true, true, true, true, true, true, true, true, true, true, true, true, true, true, true, true, true, true, true, true, true, true, true, true, true, true, true, false, false, false] rfl rfl (by kernel_rfl) (fun _ _ _ h => h) (Or.inl ⟨by rfl, ?_⟩) ?_ ?_
        rotate_left
        · intro w'
          go_simp
          with_reducible rfl
        rotate_left
        · simp only [Act.put, List.setIfInBounds_toArray, List.set_cons_zero, List.set_cons_succ, i64_w, i32_w]
          rfl
        refine one_ (i := 29) (N := some 61) #[true, true, true, true, true, true, true, true, true, true, true, true, true, true, true, true, true, true, true, true, true, true, true, true, true, true, true, true, true, true, false, false] rfl rfl (by kernel_rfl) (by decide) (fun K hKK => ?_)
        refine goes_ Tryd.func13 (by kernel_rfl) rfl #[] (by rfl) rfl rfl (by (try simp only [List.map_toArray, List.map_cons, List.map_nil]); first | done | rfl) ?_
        refine (awake_any _ (hT.below hK.be)).mono ?_
        rintro e w_13 ⟨rfl, hb⟩
        refine ⟨_, rfl, ?_⟩
        replace hK := hK.below hb
        clear hb
        refine hKK.out _ _ (⟨hK.at0 (by repeat (first | exact List.mem_cons_self | apply List.mem_cons_of_mem)), hK.at1 (by repeat (first | exact List.mem_cons_self | apply List.mem_cons_of_mem)), hK.at0 (by repeat (first | exact List.mem_cons_self | apply List.mem_cons_of_mem)), hK.at1 (by repeat (first | exact List.mem_cons_self | apply List.mem_cons_of_mem)), hK.at0 (by repeat (first | exact List.mem_cons_self | apply List.mem_cons_of_mem)), hK.at1 (by repeat (first | exact List.mem_cons_self | apply List.mem_cons_of_mem)), hK.at0 (by repeat (first | exact List.mem_cons_self | apply List.mem_cons_of_mem)), hK.at1 (by repeat (first | exact List.mem_cons_self | apply List.mem_cons_of_mem))⟩) (fun hHeld => ?_)
        refine norm_ (a' := ?_) ?_ ?_
        rotate_left
        · show Act.put _ (some 61) _ = _
          simp only [Act.put, List.setIfInBounds_toArray, List.set_cons_zero, List.set_cons_succ, i64_w, i32_w]
          rfl
        refine pure_ (i := 30) (N := some 62) (v := ?_) (a' := ?_) #[true, true, true, true, true, true, true, true, true, true, true, true, true, true, true, true, true, true, true, true, true, true, true, true, true, true, true, true, true, true, true, false] rfl rfl (by kernel_rfl) (fun _ _ _ h => h) (Or.inl ⟨by rfl, ?_⟩) ?_ ?_
        rotate_left
        · intro w'
          go_simp
          with_reducible rfl
        rotate_left
        · simp only [Act.put, List.setIfInBounds_toArray, List.set_cons_zero, List.set_cons_succ, i64_w, i32_w]
          rfl
        refine pure_ (i := 31) (N := some 4) (v := ?_) (a' := ?_) #[true, true, true, true, true, true, true, true, true, true, true, true, true, true, true, true, true, true, true, true, true, true, true, true, true, true, true, true, true, true, true, true] rfl rfl (by kernel_rfl) (fun _ _ _ h => h) (Or.inl ⟨by rfl, ?_⟩) ?_ ?_
        rotate_left
        · intro w'
          go_simp
          with_reducible rfl
        rotate_left
        · simp only [Act.put, List.setIfInBounds_toArray, List.set_cons_zero, List.set_cons_succ, i64_w, i32_w]
          rfl
        refine done_ (by kernel_rfl) ?_
        go_wp2
        go_ret
        exact ⟨rfl, hK.be⟩
      · have Z_r := Aside0.mk (show cmpZ r 0 = sb by rw [← E_sb.out]; unfold cmpZ; (repeat' split) <;> omega)
        clear hr0
        have hs0 : (sb == 0) = false := by rw [← E_sb.out]; have := N_b.out; simp [cmpZ]; split <;> (try split) <;> omega
        clear hrb hb0 e_q e_r e_sb
        go_wp2_with (first
          | (go_at_call 12; generalize hwb : World.alloc _ _ = wb; have hK := keep2 w _ _ _ _  _ hwb; have hc := light_cells2 _ n0 n1 A0 A1 xs0.length xs1.length c0 c1 _ hwb (w.heap.size + 1 + 1) (by simp); clear hwb; (with_reducible refine (Light_any _ 2 [xs0.length, xs1.length] _ rfl (by omega) hc HLS.out true HL.out).mono ?_); rintro e w_0 ⟨rfl, rfl⟩; clear hc; replace hK := (hK.row (h0.below hK.be)).row (h1.below hK.be); have xa0 := hK.at0 (g := w.heap.size) (by repeat (first | exact List.mem_cons_self | apply List.mem_cons_of_mem)); have xa1 := hK.at1 (g := w.heap.size) (by repeat (first | exact List.mem_cons_self | apply List.mem_cons_of_mem)); have xb0 := hK.at0 (g := w.heap.size + 1) (by repeat (first | exact List.mem_cons_self | apply List.mem_cons_of_mem)); have xb1 := hK.at1 (g := w.heap.size + 1) (by repeat (first | exact List.mem_cons_self | apply List.mem_cons_of_mem)))
          | (go_at_call 19; (with_reducible refine (sign_v n1 A1 c1 xs1 _ (hK.rd _ _ _ (by repeat (first | exact List.mem_cons_self | apply List.mem_cons_of_mem))) (by omega)  b sb E_b.out E_sb.out).mono ?_); rintro e w_5 ⟨rfl, hb⟩; replace hK := hK.below hb; clear hb; have xa0 := hK.at0 (g := w.heap.size) (by repeat (first | exact List.mem_cons_self | apply List.mem_cons_of_mem)); have xa1 := hK.at1 (g := w.heap.size) (by repeat (first | exact List.mem_cons_self | apply List.mem_cons_of_mem)); have xb0 := hK.at0 (g := w.heap.size + 1) (by repeat (first | exact List.mem_cons_self | apply List.mem_cons_of_mem)); have xb1 := hK.at1 (g := w.heap.size + 1) (by repeat (first | exact List.mem_cons_self | apply List.mem_cons_of_mem)))
          | (go_at_call 14; (with_reducible refine (divmod_v n0 n1 A0 A1 c0 c1 xs0 xs1 _ (hK.rd _ _ _ (by repeat (first | exact List.mem_cons_self | apply List.mem_cons_of_mem))) (hK.rd _ _ _ (by repeat (first | exact List.mem_cons_self | apply List.mem_cons_of_mem))) (by omega) (by omega)  a b q r E_a.out E_b.out N_b.out E_q.out E_r.out).mono ?_); rintro e w_d ⟨A_q, c_q, A_r, c_r, rfl, hQ, hR, hb⟩; replace hK := ((hK.below hb).row hQ).row hR; clear hb hQ hR))
        replace hK := (hK.new (.bool (ng q)) (.slice A_q (mg q).length c_q)).new (.bool (ng r)) (.slice A_r (mg r).length c_r)
        rw [show (w_d.alloc (.cells #[.bool (ng q), .slice A_q (mg q).length c_q] 24)).heap.size = w_d.heap.size + 1 by simp] at hK
        generalize World.alloc _ _ = w_e at hK ⊢
        go_upto_region 4 with (fail)
        go_cut [8] (fun v wc => ∃ (g : Nat) (A_back : Option Addr) (c_back : Nat), v = .pointer (some ⟨g, 0, none⟩) ∧ Aside0 (Keep w wc ((g, .bool (ng back), .slice A_back (mg back).length c_back) :: [(w_d.heap.size + 1, .bool (ng r), .slice A_r (mg r).length c_r), (w_d.heap.size, .bool (ng q), .slice A_q (mg q).length c_q), (w.heap.size, .bool n0, .slice A0 xs0.length c0), (w.heap.size + 1, .bool n1, .slice A1 xs1.length c1)]) ((A_back, c_back, (mg back)) :: [(A_r, c_r, (mg r)), (A_q, c_q, (mg q)), (A1, c1, xs1), (A0, c0, xs0)])))
        case first =>
          go_region_held3 (fun w' => w'.cell? ⟨w_d.heap.size, 0, none⟩ = some (.bool (ng q)) ∧ w'.cell? ⟨w_d.heap.size, 1, none⟩ = some (.slice A_q (mg q).length c_q) ∧ w'.cell? ⟨w.heap.size + 1, 0, none⟩ = some (.bool n1) ∧ w'.cell? ⟨w.heap.size + 1, 1, none⟩ = some (.slice A1 xs1.length c1) ∧ w'.cell? ⟨w_d.heap.size + 1, 0, none⟩ = some (.bool (ng r)) ∧ w'.cell? ⟨w_d.heap.size + 1, 1, none⟩ = some (.slice A_r (mg r).length c_r))
            (first | with_reducible exact ⟨hK.at0 (by repeat (first | exact List.mem_cons_self | apply List.mem_cons_of_mem)), hK.at1 (by repeat (first | exact List.mem_cons_self | apply List.mem_cons_of_mem)), hK.at0 (by repeat (first | exact List.mem_cons_self | apply List.mem_cons_of_mem)), hK.at1 (by repeat (first | exact List.mem_cons_self | apply List.mem_cons_of_mem)), hK.at0 (by repeat (first | exact List.mem_cons_self | apply List.mem_cons_of_mem)), hK.at1 (by repeat (first | exact List.mem_cons_self | apply List.mem_cons_of_mem))⟩ | with_reducible exact ⟨hK.drew.at0 (by repeat (first | exact List.mem_cons_self | apply List.mem_cons_of_mem)), hK.drew.at1 (by repeat (first | exact List.mem_cons_self | apply List.mem_cons_of_mem)), hK.drew.at0 (by repeat (first | exact List.mem_cons_self | apply List.mem_cons_of_mem)), hK.drew.at1 (by repeat (first | exact List.mem_cons_self | apply List.mem_cons_of_mem)), hK.drew.at0 (by repeat (first | exact List.mem_cons_self | apply List.mem_cons_of_mem)), hK.drew.at1 (by repeat (first | exact List.mem_cons_self | apply List.mem_cons_of_mem))⟩ | with_reducible exact ⟨(hK.alloc _).at0 (by repeat (first | exact List.mem_cons_self | apply List.mem_cons_of_mem)), (hK.alloc _).at1 (by repeat (first | exact List.mem_cons_self | apply List.mem_cons_of_mem)), (hK.alloc _).at0 (by repeat (first | exact List.mem_cons_self | apply List.mem_cons_of_mem)), (hK.alloc _).at1 (by repeat (first | exact List.mem_cons_self | apply List.mem_cons_of_mem)), (hK.alloc _).at0 (by repeat (first | exact List.mem_cons_self | apply List.mem_cons_of_mem)), (hK.alloc _).at1 (by repeat (first | exact List.mem_cons_self | apply List.mem_cons_of_mem))⟩ | with_reducible exact ⟨(hK.alloc _).drew.at0 (by repeat (first | exact List.mem_cons_self | apply List.mem_cons_of_mem)), (hK.alloc _).drew.at1 (by repeat (first | exact List.mem_cons_self | apply List.mem_cons_of_mem)), (hK.alloc _).drew.at0 (by repeat (first | exact List.mem_cons_self | apply List.mem_cons_of_mem)), (hK.alloc _).drew.at1 (by repeat (first | exact List.mem_cons_self | apply List.mem_cons_of_mem)), (hK.alloc _).drew.at0 (by repeat (first | exact List.mem_cons_self | apply List.mem_cons_of_mem)), (hK.alloc _).drew.at1 (by repeat (first | exact List.mem_cons_self | apply List.mem_cons_of_mem))⟩ | with_reducible exact ⟨(hK.set _ _ _ _).at0 (by repeat (first | exact List.mem_cons_self | apply List.mem_cons_of_mem)), (hK.set _ _ _ _).at1 (by repeat (first | exact List.mem_cons_self | apply List.mem_cons_of_mem)), (hK.set _ _ _ _).at0 (by repeat (first | exact List.mem_cons_self | apply List.mem_cons_of_mem)), (hK.set _ _ _ _).at1 (by repeat (first | exact List.mem_cons_self | apply List.mem_cons_of_mem)), (hK.set _ _ _ _).at0 (by repeat (first | exact List.mem_cons_self | apply List.mem_cons_of_mem)), (hK.set _ _ _ _).at1 (by repeat (first | exact List.mem_cons_self | apply List.mem_cons_of_mem))⟩)
            (first
              | (go_simp; go_at_call 18; (with_reducible refine (mul_v (ng q) n1 A_q A1 c_q c1 (mg q) xs1 _ ((hK.drew).rd _ _ _ (by repeat (first | exact List.mem_cons_self | apply List.mem_cons_of_mem))) ((hK.drew).rd _ _ _ (by repeat (first | exact List.mem_cons_self | apply List.mem_cons_of_mem))) (by omega) (by omega)  q b t (iv_canon _) E_b.out E_t.out).mono ?_); rintro e w_6 ⟨A_t, c_t, rfl, hR, hb⟩; replace hK := ((hK.drew).below hb).row hR; clear hb hR; (try clear hroom); have hroom := hK.room)
              | (go_simp; go_at_call 18; (with_reducible refine (mul_v (ng q) n1 A_q A1 c_q c1 (mg q) xs1 _ (((hK.new (.bool false) (.slice none 0 0)).drew).rd _ _ _ (by repeat (first | exact List.mem_cons_self | apply List.mem_cons_of_mem))) (((hK.new (.bool false) (.slice none 0 0)).drew).rd _ _ _ (by repeat (first | exact List.mem_cons_self | apply List.mem_cons_of_mem))) (by omega) (by omega)  q b t (iv_canon _) E_b.out E_t.out).mono ?_); rintro e w_6 ⟨A_t, c_t, rfl, hR, hb⟩; replace hK := (((hK.new (.bool false) (.slice none 0 0)).drew).below hb).row hR; clear hb hR; (try clear hroom); have hroom := hK.room)
              | (go_simp; go_at_call 17; (with_reducible refine (add_v (ng t) (ng r) A_t A_r c_t c_r (mg t) (mg r) _ ((hK).rd _ _ _ (by repeat (first | exact List.mem_cons_self | apply List.mem_cons_of_mem))) ((hK).rd _ _ _ (by repeat (first | exact List.mem_cons_self | apply List.mem_cons_of_mem))) (by omega) (by omega)  t r back (iv_canon _) (iv_canon _) E_back.out).mono ?_); rintro e w_7 ⟨A_back, c_back, rfl, hR, hb⟩; replace hK := ((hK).below hb).row hR; clear hb hR; (try clear hroom); have hroom := hK.room)
              | (go_simp; go_at_call 17; (with_reducible refine (add_v (ng t) (ng r) A_t A_r c_t c_r (mg t) (mg r) _ (((hK.new (.bool false) (.slice none 0 0))).rd _ _ _ (by repeat (first | exact List.mem_cons_self | apply List.mem_cons_of_mem))) (((hK.new (.bool false) (.slice none 0 0))).rd _ _ _ (by repeat (first | exact List.mem_cons_self | apply List.mem_cons_of_mem))) (by omega) (by omega)  t r back (iv_canon _) (iv_canon _) E_back.out).mono ?_); rintro e w_7 ⟨A_back, c_back, rfl, hR, hb⟩; replace hK := (((hK.new (.bool false) (.slice none 0 0))).below hb).row hR; clear hb hR; (try clear hroom); have hroom := hK.room))
          all_goals (try clear hroom)
          all_goals go_wp2_with (fail)
          all_goals go_meet
          all_goals first | exact ⟨_, A_back, c_back, rfl, ⟨(hK.new (.bool (ng back)) (.slice A_back (mg back).length c_back)).sub (by intro x hx; simp only [List.mem_cons, List.not_mem_nil, or_false] at hx ⊢; rcases hx with rfl | rfl | rfl | rfl | rfl <;> simp)⟩⟩ | exact ⟨_, A_back, c_back, rfl, ⟨(hK.set (ng back) A_back (mg back).length c_back).sub (by intro x hx; simp only [List.mem_cons, List.not_mem_nil, or_false] at hx ⊢; rcases hx with rfl | rfl | rfl | rfl | rfl <;> simp)⟩⟩
        clear hK
        obtain ⟨g_back, A_back, c_back, rfl, hK0⟩ := hcut
        have hK := hK0.out
        clear hK0
        go_wp2
        replace hK := hK.drew
        refine start_ (n := 32) (S := (fun W => W.cell? ⟨g_back, 0, none⟩ = some (.bool (ng back)) ∧ W.cell? ⟨g_back, 1, none⟩ = some (.slice A_back (mg back).length c_back) ∧ W.cell? ⟨w.heap.size, 0, none⟩ = some (.bool n0) ∧ W.cell? ⟨w.heap.size, 1, none⟩ = some (.slice A0 xs0.length c0) ∧ W.cell? ⟨w_d.heap.size + 1, 0, none⟩ = some (.bool (ng r)) ∧ W.cell? ⟨w_d.heap.size + 1, 1, none⟩ = some (.slice A_r (mg r).length c_r) ∧ W.cell? ⟨w.heap.size + 1, 0, none⟩ = some (.bool n1) ∧ W.cell? ⟨w.heap.size + 1, 1, none⟩ = some (.slice A1 xs1.length c1))) (ds := []) #[false, false, false, false, false, false, false, false, false, false, false, false, false, false, false, false, false, false, false, false, false, false, false, false, false, false, false, false, false, false, false, false] (by kernel_rfl) rfl rfl (⟨hK.at0 (by repeat (first | exact List.mem_cons_self | apply List.mem_cons_of_mem)), hK.at1 (by repeat (first | exact List.mem_cons_self | apply List.mem_cons_of_mem)), hK.at0 (by repeat (first | exact List.mem_cons_self | apply List.mem_cons_of_mem)), hK.at1 (by repeat (first | exact List.mem_cons_self | apply List.mem_cons_of_mem)), hK.at0 (by repeat (first | exact List.mem_cons_self | apply List.mem_cons_of_mem)), hK.at1 (by repeat (first | exact List.mem_cons_self | apply List.mem_cons_of_mem)), hK.at0 (by repeat (first | exact List.mem_cons_self | apply List.mem_cons_of_mem)), hK.at1 (by repeat (first | exact List.mem_cons_self | apply List.mem_cons_of_mem))⟩) (fun hHeld => ?_)
        refine pure_ (i := 0) (N := some 32) (v := ?_) (a' := ?_) #[true, false, false, false, false, false, false, false, false, false, false, false, false, false, false, false, false, false, false, false, false, false, false, false, false, false, false, false, false, false, false, false] rfl rfl (by kernel_rfl) (fun _ _ _ h => h) (Or.inl ⟨by rfl, ?_⟩) ?_ ?_
        rotate_left
        · intro w'
          go_simp
          with_reducible rfl
        rotate_left
        · simp only [Act.put, List.setIfInBounds_toArray, List.set_cons_zero, List.set_cons_succ, i64_w, i32_w]
          rfl
        refine pure_ (i := 1) (N := some 33) (v := ?_) (a' := ?_) #[true, true, false, false, false, false, false, false, false, false, false, false, false, false, false, false, false, false, false, false, false, false, false, false, false, false, false, false, false, false, false, false] rfl rfl (by kernel_rfl) (fun _ _ _ h => h) (Or.inl ⟨by rfl, ?_⟩) ?_ ?_
        rotate_left
        · intro w'
          go_simp
          with_reducible rfl
        rotate_left
        · simp only [Act.put, List.setIfInBounds_toArray, List.set_cons_zero, List.set_cons_succ, i64_w, i32_w]
          rfl
        refine pure_ (i := 2) (N := some 34) (v := ?_) (a' := ?_) #[true, true, true, false, false, false, false, false, false, false, false, false, false, false, false, false, false, false, false, false, false, false, false, false, false, false, false, false, false, false, false, false] rfl rfl (by kernel_rfl) (fun _ _ _ h => h) (Or.inl ⟨by rfl, ?_⟩) ?_ ?_
        rotate_left
        · intro w'
          go_simp
          with_reducible rfl
        rotate_left
        · simp only [Act.put, List.setIfInBounds_toArray, List.set_cons_zero, List.set_cons_succ, i64_w, i32_w]
          rfl
        refine take_ (i := 3) (N := some 35) (v := ?_) (a' := ?_) #[true, true, true, true, false, false, false, false, false, false, false, false, false, false, false, false, false, false, false, false, false, false, false, false, false, false, false, false, false, false, false, false] rfl rfl (by kernel_rfl) (fun _ _ _ h => h) (Or.inl ⟨by rfl, ?_⟩) hHeld ?_ ?_
        rotate_left
        · rintro w' ⟨s0, s1, s2, s3, s4, s5, s6, s7⟩
          go_simp
          with_reducible rfl
        rotate_left
        · simp only [Act.put, List.setIfInBounds_toArray, List.set_cons_zero, List.set_cons_succ, i64_w, i32_w]
          rfl
        refine take_ (i := 4) (N := some 36) (v := ?_) (a' := ?_) #[true, true, true, true, true, false, false, false, false, false, false, false, false, false, false, false, false, false, false, false, false, false, false, false, false, false, false, false, false, false, false, false] rfl rfl (by kernel_rfl) (fun _ _ _ h => h) (Or.inl ⟨by rfl, ?_⟩) hHeld ?_ ?_
        rotate_left
        · rintro w' ⟨s0, s1, s2, s3, s4, s5, s6, s7⟩
          go_simp
          with_reducible rfl
        rotate_left
        · simp only [Act.put, List.setIfInBounds_toArray, List.set_cons_zero, List.set_cons_succ, i64_w, i32_w]
          rfl
        refine one_ (i := 5) (N := some 37) #[true, true, true, true, true, true, false, false, false, false, false, false, false, false, false, false, false, false, false, false, false, false, false, false, false, false, false, false, false, false, false, false] rfl rfl (by kernel_rfl) (by decide) (fun K hKK => ?_)
        refine goes_ Tryd.func25 (by kernel_rfl) rfl #[.agg #[.bool (ng back), .slice A_back (mg back).length c_back], .agg #[.bool n0, .slice A0 xs0.length c0]] (by rfl) rfl rfl (by (try simp only [List.map_toArray, List.map_cons, List.map_nil]); first | done | rfl) ?_
        refine (compare_v (ng back) n0 A_back A0 c_back c0 (mg back) xs0 _ (hK.rd _ _ _ (by repeat (first | exact List.mem_cons_self | apply List.mem_cons_of_mem))) (hK.rd _ _ _ (by repeat (first | exact List.mem_cons_self | apply List.mem_cons_of_mem))) (by omega) (by omega)  back a 0 (iv_canon _) E_a.out C_0.out).mono ?_
        rintro e w_8 ⟨rfl, hb⟩
        refine ⟨_, rfl, ?_⟩
        replace hK := hK.below hb
        clear hb
        refine hKK.out _ _ (⟨hK.at0 (by repeat (first | exact List.mem_cons_self | apply List.mem_cons_of_mem)), hK.at1 (by repeat (first | exact List.mem_cons_self | apply List.mem_cons_of_mem)), hK.at0 (by repeat (first | exact List.mem_cons_self | apply List.mem_cons_of_mem)), hK.at1 (by repeat (first | exact List.mem_cons_self | apply List.mem_cons_of_mem)), hK.at0 (by repeat (first | exact List.mem_cons_self | apply List.mem_cons_of_mem)), hK.at1 (by repeat (first | exact List.mem_cons_self | apply List.mem_cons_of_mem)), hK.at0 (by repeat (first | exact List.mem_cons_self | apply List.mem_cons_of_mem)), hK.at1 (by repeat (first | exact List.mem_cons_self | apply List.mem_cons_of_mem))⟩) (fun hHeld => ?_)
        refine norm_ (a' := ?_) ?_ ?_
        rotate_left
        · show Act.put _ (some 37) _ = _
          simp only [Act.put, List.setIfInBounds_toArray, List.set_cons_zero, List.set_cons_succ, i64_w, i32_w]
          rfl
        refine pure_ (i := 6) (N := some 38) (v := ?_) (a' := ?_) #[true, true, true, true, true, true, true, false, false, false, false, false, false, false, false, false, false, false, false, false, false, false, false, false, false, false, false, false, false, false, false, false] rfl rfl (by kernel_rfl) (fun _ _ _ h => h) (Or.inl ⟨by rfl, ?_⟩) ?_ ?_
        rotate_left
        · intro w'
          go_simp
          with_reducible rfl
        rotate_left
        · simp only [Act.put, List.setIfInBounds_toArray, List.set_cons_zero, List.set_cons_succ, i64_w, i32_w]
          rfl
        refine pure_ (i := 7) (N := some 39) (v := ?_) (a' := ?_) #[true, true, true, true, true, true, true, true, false, false, false, false, false, false, false, false, false, false, false, false, false, false, false, false, false, false, false, false, false, false, false, false] rfl rfl (by kernel_rfl) (fun _ _ _ h => h) (Or.inl ⟨by rfl, ?_⟩) ?_ ?_
        rotate_left
        · intro w'
          go_simp
          with_reducible rfl
        rotate_left
        · simp only [Act.put, List.setIfInBounds_toArray, List.set_cons_zero, List.set_cons_succ, i64_w, i32_w]
          rfl
        refine pure_ (i := 8) (N := some 40) (v := ?_) (a' := ?_) #[true, true, true, true, true, true, true, true, true, false, false, false, false, false, false, false, false, false, false, false, false, false, false, false, false, false, false, false, false, false, false, false] rfl rfl (by kernel_rfl) (fun _ _ _ h => h) (Or.inl ⟨by rfl, ?_⟩) ?_ ?_
        rotate_left
        · intro w'
          go_simp
          with_reducible rfl
        rotate_left
        · simp only [Act.put, List.setIfInBounds_toArray, List.set_cons_zero, List.set_cons_succ, i64_w, i32_w]
          rfl
        refine take_ (i := 9) (N := some 41) (v := ?_) (a' := ?_) #[true, true, true, true, true, true, true, true, true, true, false, false, false, false, false, false, false, false, false, false, false, false, false, false, false, false, false, false, false, false, false, false] rfl rfl (by kernel_rfl) (fun _ _ _ h => h) (Or.inl ⟨by rfl, ?_⟩) hHeld ?_ ?_
        rotate_left
        · rintro w' ⟨s0, s1, s2, s3, s4, s5, s6, s7⟩
          go_simp
          with_reducible rfl
        rotate_left
        · simp only [Act.put, List.setIfInBounds_toArray, List.set_cons_zero, List.set_cons_succ, i64_w, i32_w]
          rfl
        refine one_ (i := 10) (N := some 42) #[true, true, true, true, true, true, true, true, true, true, true, false, false, false, false, false, false, false, false, false, false, false, false, false, false, false, false, false, false, false, false, false] rfl rfl (by kernel_rfl) (by decide) (fun K hKK => ?_)
        refine goes_ Tryd.func19 (by kernel_rfl) rfl #[.agg #[.bool (ng r), .slice A_r (mg r).length c_r]] (by rfl) rfl rfl (by (try simp only [List.map_toArray, List.map_cons, List.map_nil]); first | done | rfl) ?_
        refine (sign_v (ng r) A_r c_r (mg r) _ (hK.rd _ _ _ (by repeat (first | exact List.mem_cons_self | apply List.mem_cons_of_mem))) (by omega)  r sb (iv_canon _) Z_r.out).mono ?_
        rintro e w_9 ⟨rfl, hb⟩
        refine ⟨_, rfl, ?_⟩
        replace hK := hK.below hb
        clear hb
        refine hKK.out _ _ (⟨hK.at0 (by repeat (first | exact List.mem_cons_self | apply List.mem_cons_of_mem)), hK.at1 (by repeat (first | exact List.mem_cons_self | apply List.mem_cons_of_mem)), hK.at0 (by repeat (first | exact List.mem_cons_self | apply List.mem_cons_of_mem)), hK.at1 (by repeat (first | exact List.mem_cons_self | apply List.mem_cons_of_mem)), hK.at0 (by repeat (first | exact List.mem_cons_self | apply List.mem_cons_of_mem)), hK.at1 (by repeat (first | exact List.mem_cons_self | apply List.mem_cons_of_mem)), hK.at0 (by repeat (first | exact List.mem_cons_self | apply List.mem_cons_of_mem)), hK.at1 (by repeat (first | exact List.mem_cons_self | apply List.mem_cons_of_mem))⟩) (fun hHeld => ?_)
        refine norm_ (a' := ?_) ?_ ?_
        rotate_left
        · show Act.put _ (some 42) _ = _
          simp only [Act.put, List.setIfInBounds_toArray, List.set_cons_zero, List.set_cons_succ, i64_w, i32_w]
          rfl
        refine pure_ (i := 11) (N := some 43) (v := ?_) (a' := ?_) #[true, true, true, true, true, true, true, true, true, true, true, true, false, false, false, false, false, false, false, false, false, false, false, false, false, false, false, false, false, false, false, false] rfl rfl (by kernel_rfl) (fun _ _ _ h => h) (Or.inl ⟨by rfl, ?_⟩) ?_ ?_
        rotate_left
        · intro w'
          go_simp
          with_reducible rfl
        rotate_left
        · simp only [Act.put, List.setIfInBounds_toArray, List.set_cons_zero, List.set_cons_succ, i64_w, i32_w]
          rfl
        refine pure_ (i := 12) (N := some 44) (v := ?_) (a' := ?_) #[true, true, true, true, true, true, true, true, true, true, true, true, true, false, false, false, false, false, false, false, false, false, false, false, false, false, false, false, false, false, false, false] rfl rfl (by kernel_rfl) (fun _ _ _ h => h) (Or.inl ⟨by rfl, ?_⟩) ?_ ?_
        rotate_left
        · intro w'
          go_simp
          with_reducible rfl
        rotate_left
        · simp only [Act.put, List.setIfInBounds_toArray, List.set_cons_zero, List.set_cons_succ, i64_w, i32_w]
          rfl
        refine take_ (i := 13) (N := some 45) (v := ?_) (a' := ?_) #[true, true, true, true, true, true, true, true, true, true, true, true, true, true, false, false, false, false, false, false, false, false, false, false, false, false, false, false, false, false, false, false] rfl rfl (by kernel_rfl) (fun _ _ _ h => h) (Or.inl ⟨by rfl, ?_⟩) hHeld ?_ ?_
        rotate_left
        · rintro w' ⟨s0, s1, s2, s3, s4, s5, s6, s7⟩
          go_simp
          with_reducible rfl
        rotate_left
        · simp only [Act.put, List.setIfInBounds_toArray, List.set_cons_zero, List.set_cons_succ, i64_w, i32_w]
          rfl
        refine take_ (i := 15) (N := some 47) (v := ?_) (a' := ?_) #[true, true, true, true, true, true, true, true, true, true, true, true, true, true, false, true, false, false, false, false, false, false, false, false, false, false, false, false, false, false, false, false] rfl rfl (by kernel_rfl) (fun _ _ _ h => h) (Or.inl ⟨by rfl, ?_⟩) hHeld ?_ ?_
        rotate_left
        · rintro w' ⟨s0, s1, s2, s3, s4, s5, s6, s7⟩
          go_simp
          with_reducible rfl
        rotate_left
        · simp only [Act.put, List.setIfInBounds_toArray, List.set_cons_zero, List.set_cons_succ, i64_w, i32_w]
          rfl
        refine one_ (i := 14) (N := some 46) #[true, true, true, true, true, true, true, true, true, true, true, true, true, true, true, true, false, false, false, false, false, false, false, false, false, false, false, false, false, false, false, false] rfl rfl (by kernel_rfl) (by decide) (fun K hKK => ?_)
        refine goes_ Tryd.func19 (by kernel_rfl) rfl #[.agg #[.bool (ng r), .slice A_r (mg r).length c_r]] (by rfl) rfl rfl (by (try simp only [List.map_toArray, List.map_cons, List.map_nil]); first | done | rfl) ?_
        refine (sign_v (ng r) A_r c_r (mg r) _ (hK.rd _ _ _ (by repeat (first | exact List.mem_cons_self | apply List.mem_cons_of_mem))) (by omega)  r sb (iv_canon _) Z_r.out).mono ?_
        rintro e w_10 ⟨rfl, hb⟩
        refine ⟨_, rfl, ?_⟩
        replace hK := hK.below hb
        clear hb
        refine hKK.out _ _ (⟨hK.at0 (by repeat (first | exact List.mem_cons_self | apply List.mem_cons_of_mem)), hK.at1 (by repeat (first | exact List.mem_cons_self | apply List.mem_cons_of_mem)), hK.at0 (by repeat (first | exact List.mem_cons_self | apply List.mem_cons_of_mem)), hK.at1 (by repeat (first | exact List.mem_cons_self | apply List.mem_cons_of_mem)), hK.at0 (by repeat (first | exact List.mem_cons_self | apply List.mem_cons_of_mem)), hK.at1 (by repeat (first | exact List.mem_cons_self | apply List.mem_cons_of_mem)), hK.at0 (by repeat (first | exact List.mem_cons_self | apply List.mem_cons_of_mem)), hK.at1 (by repeat (first | exact List.mem_cons_self | apply List.mem_cons_of_mem))⟩) (fun hHeld => ?_)
        refine norm_ (a' := ?_) ?_ ?_
        rotate_left
        · show Act.put _ (some 46) _ = _
          simp only [Act.put, List.setIfInBounds_toArray, List.set_cons_zero, List.set_cons_succ, i64_w, i32_w]
          rfl
        refine one_ (i := 16) (N := some 48) #[true, true, true, true, true, true, true, true, true, true, true, true, true, true, true, true, true, false, false, false, false, false, false, false, false, false, false, false, false, false, false, false] rfl rfl (by kernel_rfl) (by decide) (fun K hKK => ?_)
        refine goes_ Tryd.func19 (by kernel_rfl) rfl #[.agg #[.bool n1, .slice A1 xs1.length c1]] (by rfl) rfl rfl (by (try simp only [List.map_toArray, List.map_cons, List.map_nil]); first | done | rfl) ?_
        refine (sign_v n1 A1 c1 xs1 _ (hK.rd _ _ _ (by repeat (first | exact List.mem_cons_self | apply List.mem_cons_of_mem))) (by omega)  b sb E_b.out E_sb.out).mono ?_
        rintro e w_11 ⟨rfl, hb⟩
        refine ⟨_, rfl, ?_⟩
        replace hK := hK.below hb
        clear hb
        refine hKK.out _ _ (⟨hK.at0 (by repeat (first | exact List.mem_cons_self | apply List.mem_cons_of_mem)), hK.at1 (by repeat (first | exact List.mem_cons_self | apply List.mem_cons_of_mem)), hK.at0 (by repeat (first | exact List.mem_cons_self | apply List.mem_cons_of_mem)), hK.at1 (by repeat (first | exact List.mem_cons_self | apply List.mem_cons_of_mem)), hK.at0 (by repeat (first | exact List.mem_cons_self | apply List.mem_cons_of_mem)), hK.at1 (by repeat (first | exact List.mem_cons_self | apply List.mem_cons_of_mem)), hK.at0 (by repeat (first | exact List.mem_cons_self | apply List.mem_cons_of_mem)), hK.at1 (by repeat (first | exact List.mem_cons_self | apply List.mem_cons_of_mem))⟩) (fun hHeld => ?_)
        refine norm_ (a' := ?_) ?_ ?_
        rotate_left
        · show Act.put _ (some 48) _ = _
          simp only [Act.put, List.setIfInBounds_toArray, List.set_cons_zero, List.set_cons_succ, i64_w, i32_w]
          rfl
        refine pure_ (i := 17) (N := some 49) (v := ?_) (a' := ?_) #[true, true, true, true, true, true, true, true, true, true, true, true, true, true, true, true, true, true, false, false, false, false, false, false, false, false, false, false, false, false, false, false] rfl rfl (by kernel_rfl) (fun _ _ _ h => h) (Or.inl ⟨by rfl, ?_⟩) ?_ ?_
        rotate_left
        · intro w'
          go_simp
          with_reducible rfl
        rotate_left
        · simp only [Act.put, List.setIfInBounds_toArray, List.set_cons_zero, List.set_cons_succ, i64_w, i32_w]
          rfl
        refine pure_ (i := 18) (N := some 50) (v := ?_) (a' := ?_) #[true, true, true, true, true, true, true, true, true, true, true, true, true, true, true, true, true, true, true, false, false, false, false, false, false, false, false, false, false, false, false, false] rfl rfl (by kernel_rfl) (fun _ _ _ h => h) (Or.inl ⟨by rfl, ?_⟩) ?_ ?_
        rotate_left
        · intro w'
          go_simp
          with_reducible rfl
        rotate_left
        · simp only [Act.put, List.setIfInBounds_toArray, List.set_cons_zero, List.set_cons_succ, i64_w, i32_w]
          rfl
        refine pure_ (i := 19) (N := some 51) (v := ?_) (a' := ?_) #[true, true, true, true, true, true, true, true, true, true, true, true, true, true, true, true, true, true, true, true, false, false, false, false, false, false, false, false, false, false, false, false] rfl rfl (by kernel_rfl) (fun _ _ _ h => h) (Or.inl ⟨by rfl, ?_⟩) ?_ ?_
        rotate_left
        · intro w'
          go_simp
          with_reducible rfl
        rotate_left
        · simp only [Act.put, List.setIfInBounds_toArray, List.set_cons_zero, List.set_cons_succ, i64_w, i32_w]
          rfl
        refine pure_ (i := 20) (N := some 52) (v := ?_) (a' := ?_) #[true, true, true, true, true, true, true, true, true, true, true, true, true, true, true, true, true, true, true, true, true, false, false, false, false, false, false, false, false, false, false, false] rfl rfl (by kernel_rfl) (fun _ _ _ h => h) (Or.inl ⟨by rfl, ?_⟩) ?_ ?_
        rotate_left
        · intro w'
          go_simp
          with_reducible rfl
        rotate_left
        · simp only [Act.put, List.setIfInBounds_toArray, List.set_cons_zero, List.set_cons_succ, i64_w, i32_w]
          rfl
        refine take_ (i := 21) (N := some 53) (v := ?_) (a' := ?_) #[true, true, true, true, true, true, true, true, true, true, true, true, true, true, true, true, true, true, true, true, true, true, false, false, false, false, false, false, false, false, false, false] rfl rfl (by kernel_rfl) (fun _ _ _ h => h) (Or.inl ⟨by rfl, ?_⟩) hHeld ?_ ?_
        rotate_left
        · rintro w' ⟨s0, s1, s2, s3, s4, s5, s6, s7⟩
          go_simp
          with_reducible rfl
        rotate_left
        · simp only [Act.put, List.setIfInBounds_toArray, List.set_cons_zero, List.set_cons_succ, i64_w, i32_w]
          rfl
        refine take_ (i := 23) (N := some 55) (v := ?_) (a' := ?_) #[true, true, true, true, true, true, true, true, true, true, true, true, true, true, true, true, true, true, true, true, true, true, false, true, false, false, false, false, false, false, false, false] rfl rfl (by kernel_rfl) (fun _ _ _ h => h) (Or.inl ⟨by rfl, ?_⟩) hHeld ?_ ?_
        rotate_left
        · rintro w' ⟨s0, s1, s2, s3, s4, s5, s6, s7⟩
          go_simp
          with_reducible rfl
        rotate_left
        · simp only [Act.put, List.setIfInBounds_toArray, List.set_cons_zero, List.set_cons_succ, i64_w, i32_w]
          rfl
        refine one_ (i := 22) (N := some 54) #[true, true, true, true, true, true, true, true, true, true, true, true, true, true, true, true, true, true, true, true, true, true, true, true, false, false, false, false, false, false, false, false] rfl rfl (by kernel_rfl) (by decide) (fun K hKK => ?_)
        refine goes_ Tryd.func26 (by kernel_rfl) rfl #[.agg #[.bool (ng r), .slice A_r (mg r).length c_r]] (by rfl) rfl rfl (by (try simp only [List.map_toArray, List.map_cons, List.map_nil]); first | done | rfl) ?_
        refine (abs_v (ng r) A_r c_r (mg r) _ (hK.rd _ _ _ (by repeat (first | exact List.mem_cons_self | apply List.mem_cons_of_mem))) (by omega)  r ar (iv_canon _) E_ar.out).mono ?_
        rintro e w_12 ⟨A_ar, c_ar, rfl, hR, hb⟩
        refine ⟨_, rfl, ?_⟩
        replace hK := (hK.below hb).row hR
        clear hb hR
        refine hKK.out _ _ (⟨hK.at0 (by repeat (first | exact List.mem_cons_self | apply List.mem_cons_of_mem)), hK.at1 (by repeat (first | exact List.mem_cons_self | apply List.mem_cons_of_mem)), hK.at0 (by repeat (first | exact List.mem_cons_self | apply List.mem_cons_of_mem)), hK.at1 (by repeat (first | exact List.mem_cons_self | apply List.mem_cons_of_mem)), hK.at0 (by repeat (first | exact List.mem_cons_self | apply List.mem_cons_of_mem)), hK.at1 (by repeat (first | exact List.mem_cons_self | apply List.mem_cons_of_mem)), hK.at0 (by repeat (first | exact List.mem_cons_self | apply List.mem_cons_of_mem)), hK.at1 (by repeat (first | exact List.mem_cons_self | apply List.mem_cons_of_mem))⟩) (fun hHeld => ?_)
        refine norm_ (a' := ?_) ?_ ?_
        rotate_left
        · show Act.put _ (some 54) _ = _
          simp only [Act.put, List.setIfInBounds_toArray, List.set_cons_zero, List.set_cons_succ, i64_w, i32_w]
          rfl
        refine one_ (i := 24) (N := some 56) #[true, true, true, true, true, true, true, true, true, true, true, true, true, true, true, true, true, true, true, true, true, true, true, true, true, false, false, false, false, false, false, false] rfl rfl (by kernel_rfl) (by decide) (fun K hKK => ?_)
        refine goes_ Tryd.func26 (by kernel_rfl) rfl #[.agg #[.bool n1, .slice A1 xs1.length c1]] (by rfl) rfl rfl (by (try simp only [List.map_toArray, List.map_cons, List.map_nil]); first | done | rfl) ?_
        refine (abs_v n1 A1 c1 xs1 _ (hK.rd _ _ _ (by repeat (first | exact List.mem_cons_self | apply List.mem_cons_of_mem))) (by omega)  b ab E_b.out E_ab.out).mono ?_
        rintro e w_13 ⟨A_ab, c_ab, rfl, hR, hb⟩
        refine ⟨_, rfl, ?_⟩
        replace hK := (hK.below hb).row hR
        clear hb hR
        refine hKK.out _ _ (⟨hK.at0 (by repeat (first | exact List.mem_cons_self | apply List.mem_cons_of_mem)), hK.at1 (by repeat (first | exact List.mem_cons_self | apply List.mem_cons_of_mem)), hK.at0 (by repeat (first | exact List.mem_cons_self | apply List.mem_cons_of_mem)), hK.at1 (by repeat (first | exact List.mem_cons_self | apply List.mem_cons_of_mem)), hK.at0 (by repeat (first | exact List.mem_cons_self | apply List.mem_cons_of_mem)), hK.at1 (by repeat (first | exact List.mem_cons_self | apply List.mem_cons_of_mem)), hK.at0 (by repeat (first | exact List.mem_cons_self | apply List.mem_cons_of_mem)), hK.at1 (by repeat (first | exact List.mem_cons_self | apply List.mem_cons_of_mem))⟩) (fun hHeld => ?_)
        refine norm_ (a' := ?_) ?_ ?_
        rotate_left
        · show Act.put _ (some 56) _ = _
          simp only [Act.put, List.setIfInBounds_toArray, List.set_cons_zero, List.set_cons_succ, i64_w, i32_w]
          rfl
        refine one_ (i := 25) (N := some 57) #[true, true, true, true, true, true, true, true, true, true, true, true, true, true, true, true, true, true, true, true, true, true, true, true, true, true, false, false, false, false, false, false] rfl rfl (by kernel_rfl) (by decide) (fun K hKK => ?_)
        refine goes_ Tryd.func25 (by kernel_rfl) rfl #[.agg #[.bool (ng ar), .slice A_ar (mg ar).length c_ar], .agg #[.bool (ng ab), .slice A_ab (mg ab).length c_ab]] (by rfl) rfl rfl (by (try simp only [List.map_toArray, List.map_cons, List.map_nil]); first | done | rfl) ?_
        refine (compare_v (ng ar) (ng ab) A_ar A_ab c_ar c_ab (mg ar) (mg ab) _ (hK.rd _ _ _ (by repeat (first | exact List.mem_cons_self | apply List.mem_cons_of_mem))) (hK.rd _ _ _ (by repeat (first | exact List.mem_cons_self | apply List.mem_cons_of_mem))) (by omega) (by omega)  ar ab (-1) (iv_canon _) (iv_canon _) C_1.out).mono ?_
        rintro e w_14 ⟨rfl, hb⟩
        refine ⟨_, rfl, ?_⟩
        replace hK := hK.below hb
        clear hb
        refine hKK.out _ _ (⟨hK.at0 (by repeat (first | exact List.mem_cons_self | apply List.mem_cons_of_mem)), hK.at1 (by repeat (first | exact List.mem_cons_self | apply List.mem_cons_of_mem)), hK.at0 (by repeat (first | exact List.mem_cons_self | apply List.mem_cons_of_mem)), hK.at1 (by repeat (first | exact List.mem_cons_self | apply List.mem_cons_of_mem)), hK.at0 (by repeat (first | exact List.mem_cons_self | apply List.mem_cons_of_mem)), hK.at1 (by repeat (first | exact List.mem_cons_self | apply List.mem_cons_of_mem)), hK.at0 (by repeat (first | exact List.mem_cons_self | apply List.mem_cons_of_mem)), hK.at1 (by repeat (first | exact List.mem_cons_self | apply List.mem_cons_of_mem))⟩) (fun hHeld => ?_)
        refine norm_ (a' := ?_) ?_ ?_
        rotate_left
        · show Act.put _ (some 57) _ = _
          simp only [Act.put, List.setIfInBounds_toArray, List.set_cons_zero, List.set_cons_succ, i64_w, i32_w]
          rfl
        refine pure_ (i := 26) (N := some 58) (v := ?_) (a' := ?_) #[true, true, true, true, true, true, true, true, true, true, true, true, true, true, true, true, true, true, true, true, true, true, true, true, true, true, true, false, false, false, false, false] rfl rfl (by kernel_rfl) (fun _ _ _ h => h) (Or.inl ⟨by rfl, ?_⟩) ?_ ?_
        rotate_left
        · intro w'
          go_simp
          with_reducible rfl
        rotate_left
        · simp only [Act.put, List.setIfInBounds_toArray, List.set_cons_zero, List.set_cons_succ, i64_w, i32_w]
          rfl
        refine pure_ (i := 27) (N := some 59) (v := ?_) (a' := ?_) #[true, true, true, true, true, true, true, true, true, true, true, true, true, true, true, true, true, true, true, true, true, true, true, true, true, true, true, true, false, false, false, false] rfl rfl (by kernel_rfl) (fun _ _ _ h => h) (Or.inl ⟨by rfl, ?_⟩) ?_ ?_
        rotate_left
        · intro w'
          go_simp
          with_reducible rfl
        rotate_left
        · simp only [Act.put, List.setIfInBounds_toArray, List.set_cons_zero, List.set_cons_succ, i64_w, i32_w]
          rfl
        refine pure_ (i := 28) (N := some 60) (v := ?_) (a' := ?_) #[true, true, true, true, true, true, true, true, true, true, true, true, true, true, true, true, true, true, true, true, true, true, true, true, true, true, true, true, true, false, false, false] rfl rfl (by kernel_rfl) (fun _ _ _ h => h) (Or.inl ⟨by rfl, ?_⟩) ?_ ?_
        rotate_left
        · intro w'
          go_simp
          with_reducible rfl
        rotate_left
        · simp only [Act.put, List.setIfInBounds_toArray, List.set_cons_zero, List.set_cons_succ, i64_w, i32_w]
          rfl
        refine one_ (i := 29) (N := some 61) #[true, true, true, true, true, true, true, true, true, true, true, true, true, true, true, true, true, true, true, true, true, true, true, true, true, true, true, true, true, true, false, false] rfl rfl (by kernel_rfl) (by decide) (fun K hKK => ?_)
        refine goes_ Tryd.func13 (by kernel_rfl) rfl #[] (by rfl) rfl rfl (by (try simp only [List.map_toArray, List.map_cons, List.map_nil]); first | done | rfl) ?_
        refine (awake_any _ (hT.below hK.be)).mono ?_
        rintro e w_15 ⟨rfl, hb⟩
        refine ⟨_, rfl, ?_⟩
        replace hK := hK.below hb
        clear hb
        refine hKK.out _ _ (⟨hK.at0 (by repeat (first | exact List.mem_cons_self | apply List.mem_cons_of_mem)), hK.at1 (by repeat (first | exact List.mem_cons_self | apply List.mem_cons_of_mem)), hK.at0 (by repeat (first | exact List.mem_cons_self | apply List.mem_cons_of_mem)), hK.at1 (by repeat (first | exact List.mem_cons_self | apply List.mem_cons_of_mem)), hK.at0 (by repeat (first | exact List.mem_cons_self | apply List.mem_cons_of_mem)), hK.at1 (by repeat (first | exact List.mem_cons_self | apply List.mem_cons_of_mem)), hK.at0 (by repeat (first | exact List.mem_cons_self | apply List.mem_cons_of_mem)), hK.at1 (by repeat (first | exact List.mem_cons_self | apply List.mem_cons_of_mem))⟩) (fun hHeld => ?_)
        refine norm_ (a' := ?_) ?_ ?_
        rotate_left
        · show Act.put _ (some 61) _ = _
          simp only [Act.put, List.setIfInBounds_toArray, List.set_cons_zero, List.set_cons_succ, i64_w, i32_w]
          rfl
        refine pure_ (i := 30) (N := some 62) (v := ?_) (a' := ?_) #[true, true, true, true, true, true, true, true, true, true, true, true, true, true, true, true, true, true, true, true, true, true, true, true, true, true, true, true, true, true, true, false] rfl rfl (by kernel_rfl) (fun _ _ _ h => h) (Or.inl ⟨by rfl, ?_⟩) ?_ ?_
        rotate_left
        · intro w'
          go_simp
          with_reducible rfl
        rotate_left
        · simp only [Act.put, List.setIfInBounds_toArray, List.set_cons_zero, List.set_cons_succ, i64_w, i32_w]
          rfl
        refine pure_ (i := 31) (N := some 4) (v := ?_) (a' := ?_) #[true, true, true, true, true, true, true, true, true, true, true, true, true, true, true, true, true, true, true, true, true, true, true, true, true, true, true, true, true, true, true, true] rfl rfl (by kernel_rfl) (fun _ _ _ h => h) (Or.inl ⟨by rfl, ?_⟩) ?_ ?_
        rotate_left
        · intro w'
          go_simp
          with_reducible rfl
        rotate_left
        · simp only [Act.put, List.setIfInBounds_toArray, List.set_cons_zero, List.set_cons_succ, i64_w, i32_w]
          rfl
        refine done_ (by kernel_rfl) ?_
        go_wp2
        go_ret
        exact ⟨rfl, hK.be⟩
end Go.Proofs.YtegnnghoiffmhaaDoor.Big
