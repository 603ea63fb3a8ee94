/- The law IntegerArithmetic. -/
import Derived.Test.YtegnnghoiffmhaaDoorIKeep
import Derived.Test.YtegnnghoiffmhaaDoorJAdds
import Derived.Deep.DeepCutAuto
import Derived.Deep.RegionHeld3
namespace Go.Proofs.YtegnnghoiffmhaaDoor.Big
open Go.RowKit Go.Proofs.YtegnnghoiffmhaaDoorW.PrintWords Go.Proofs.YtegnnghoiffmhaaDoorW.PrintLast
set_option linter.unusedVariables false
set_option linter.unusedSimpArgs false
attribute [local go_sem ↓] Go.wp_at_zero Go.wp_at_succ
set_option maxHeartbeats 4000000 in
set_option maxRecDepth 100000 in
theorem arith_any (n0 n1 : Bool) (A0 A1 : Option Addr) (c0 c1 : Nat) (xs0 xs1 : List Int) (w : World) (h0 : Rd w A0 c0 xs0) (h1 : Rd w A1 c1 xs1) (hl0 : xs0.length ≤ 35184372088832) (hl1 : xs1.length ≤ 35184372088832) (hT : Tab_p10 w) :
    Calls Tryd.prog 7 #[.agg #[.bool n0, .slice A0 xs0.length c0], .agg #[.bool n1, .slice A1 xs1.length c1]] w fun e w' => e = .returned (.bool true) ∧ Below w.heap.size w w' := by
  obtain ⟨bl, hbl⟩ : ∃ b, decide ([xs0.length, xs1.length].sum ≤ 60) = b := ⟨_, rfl⟩
  have HL := Aside0.mk hbl
  have hls : ∀ i, i < [xs0.length, xs1.length].length → lz [xs0.length, xs1.length] i ≤ 35184372088832 := by
    intro i hi
    match i, hi with
    | 0, _ => exact hl0
    | 1, _ => exact hl1
  have HLS := Aside0.mk hls
  clear hls
  go_enter Tryd.func7, Tryd.ntmps7

  cases bl with
  | false =>
    go_wp2_with (first
      | (go_at_call 12; generalize hwb : World.alloc _ _ = wb; have hK := keep2 w _ _ _ _  _ hwb; have hc := light_cells2 _ n0 n1 A0 A1 xs0.length xs1.length c0 c1 _ hwb (w.heap.size + 1 + 1) (by simp); clear hwb; (with_reducible refine (Light_any _ 2 [xs0.length, xs1.length] _ rfl (by omega) hc HLS.out false HL.out).mono ?_); rintro e w_0 ⟨rfl, rfl⟩; clear hc)
      | (go_at_call 13; (with_reducible refine (awake_any _ (hT.below hK.be)).mono ?_); rintro e w_1 ⟨rfl, hb⟩; replace hK := hK.below hb; clear hb))
    go_ret
    exact ⟨rfl, hK.be⟩
  | true =>
    have hsum : xs0.length + xs1.length ≤ 60 := by have := of_decide_eq_true hbl; simpa using this
    clear hbl
    obtain ⟨a, e_a⟩ : ∃ z, iv n0 xs0 = z := ⟨_, rfl⟩
    have E_a := Aside0.mk e_a
    have l_a : (mg a).length ≤ 60 := by rw [← e_a]; exact mg_iv_le n0 h0.dig (by omega)
    clear e_a
    obtain ⟨b, e_b⟩ : ∃ z, iv n1 xs1 = z := ⟨_, rfl⟩
    have E_b := Aside0.mk e_b
    have l_b : (mg b).length ≤ 60 := by rw [← e_b]; exact mg_iv_le n1 h1.dig (by omega)
    clear e_b
    obtain ⟨cp, e_cp⟩ : ∃ z, cmpZ a b = z := ⟨_, rfl⟩
    have E_cp := Aside0.mk e_cp
    clear e_cp
    obtain ⟨sa, e_sa⟩ : ∃ z, cmpZ a 0 = z := ⟨_, rfl⟩
    have E_sa := Aside0.mk e_sa
    clear e_sa
    obtain ⟨ne1, e_ne1⟩ : ∃ z, -a = z := ⟨_, rfl⟩
    have E_ne1 := Aside0.mk e_ne1
    have l_ne1 : (mg ne1).length ≤ 200 := by rw [← e_ne1]; exact (by rw [mg_neg]; omega)
    clear e_ne1
    obtain ⟨ab1, e_ab1⟩ : ∃ z, ((a.natAbs : Nat) : Int) = z := ⟨_, rfl⟩
    have E_ab1 := Aside0.mk e_ab1
    have l_ab1 : (mg ab1).length ≤ 200 := by rw [← e_ab1]; exact (by rw [mg_abs]; omega)
    clear e_ab1
    obtain ⟨ad1, e_ad1⟩ : ∃ z, a + b = z := ⟨_, rfl⟩
    have E_ad1 := Aside0.mk e_ad1
    have l_ad1 : (mg ad1).length ≤ 200 := by rw [← e_ad1]; exact mg_add l_a l_b (by omega) (by omega)
    clear e_ad1
    obtain ⟨su1, e_su1⟩ : ∃ z, a - b = z := ⟨_, rfl⟩
    have E_su1 := Aside0.mk e_su1
    have l_su1 : (mg su1).length ≤ 200 := by rw [← e_su1]; exact mg_sub l_a l_b (by omega) (by omega)
    clear e_su1
    obtain ⟨mu1, e_mu1⟩ : ∃ z, a * b = z := ⟨_, rfl⟩
    have E_mu1 := Aside0.mk e_mu1
    have l_mu1 : (mg mu1).length ≤ 200 := by rw [← e_mu1]; exact mg_mul l_a l_b (by omega)
    clear e_mu1
    obtain ⟨ne2, e_ne2⟩ : ∃ z, -a = z := ⟨_, rfl⟩
    have E_ne2 := Aside0.mk e_ne2
    have l_ne2 : (mg ne2).length ≤ 200 := by rw [← e_ne2]; exact (by rw [mg_neg]; omega)
    clear e_ne2
    obtain ⟨ab2, e_ab2⟩ : ∃ z, ((a.natAbs : Nat) : Int) = z := ⟨_, rfl⟩
    have E_ab2 := Aside0.mk e_ab2
    have l_ab2 : (mg ab2).length ≤ 200 := by rw [← e_ab2]; exact (by rw [mg_abs]; omega)
    clear e_ab2
    obtain ⟨ad2, e_ad2⟩ : ∃ z, a + b = z := ⟨_, rfl⟩
    have E_ad2 := Aside0.mk e_ad2
    have l_ad2 : (mg ad2).length ≤ 200 := by rw [← e_ad2]; exact mg_add l_a l_b (by omega) (by omega)
    clear e_ad2
    obtain ⟨su2, e_su2⟩ : ∃ z, a - b = z := ⟨_, rfl⟩
    have E_su2 := Aside0.mk e_su2
    have l_su2 : (mg su2).length ≤ 200 := by rw [← e_su2]; exact mg_sub l_a l_b (by omega) (by omega)
    clear e_su2
    obtain ⟨mu2, e_mu2⟩ : ∃ z, a * b = z := ⟨_, rfl⟩
    have E_mu2 := Aside0.mk e_mu2
    have l_mu2 : (mg mu2).length ≤ 200 := by rw [← e_mu2]; exact mg_mul l_a l_b (by omega)
    clear e_mu2
    have q_ne := Aside0.mk (show ne1 = ne2 by rw [← E_ne1.out, ← E_ne2.out])
    have q_ab := Aside0.mk (show ab1 = ab2 by rw [← E_ab1.out, ← E_ab2.out])
    have q_ad := Aside0.mk (show ad1 = ad2 by rw [← E_ad1.out, ← E_ad2.out])
    have q_su := Aside0.mk (show su1 = su2 by rw [← E_su1.out, ← E_su2.out])
    have q_mu := Aside0.mk (show mu1 = mu2 by rw [← E_mu1.out, ← E_mu2.out])
    go_wp2_with (first
      | (go_at_call 12; generalize hwb : World.alloc _ _ = wb; have hK := keep2 w _ _ _ _  _ hwb; have hc := light_cells2 _ n0 n1 A0 A1 xs0.length xs1.length c0 c1 _ hwb (w.heap.size + 1 + 1) (by simp); clear hwb; (with_reducible refine (Light_any _ 2 [xs0.length, xs1.length] _ rfl (by omega) hc HLS.out true HL.out).mono ?_); rintro e w_0 ⟨rfl, rfl⟩; clear hc))
    replace hK := (hK.row (h0.below hK.be)).row (h1.below hK.be)
    replace hK := hK.drew
    refine start_ (n := 59) (S := (fun W => W.cell? ⟨w.heap.size, 0, none⟩ = some (.bool n0) ∧ W.cell? ⟨w.heap.size, 1, none⟩ = some (.slice A0 xs0.length c0) ∧ W.cell? ⟨w.heap.size + 1, 0, none⟩ = some (.bool n1) ∧ W.cell? ⟨w.heap.size + 1, 1, none⟩ = some (.slice A1 xs1.length c1))) (ds := []) #[false, false, false, false, false, false, false, false, false, false, false, false, false, false, false, false, false, false, false, false, false, false, false, false, false, false, false, false, false, false, false, false, false, false, false, false, false, false, false, false, false, false, false, false, false, false, false, false, false, false, false, false, false, false, false, false, false, false, false] (by kernel_rfl) rfl rfl (⟨hK.at0 (by repeat (first | exact List.mem_cons_self | apply List.mem_cons_of_mem)), hK.at1 (by repeat (first | exact List.mem_cons_self | apply List.mem_cons_of_mem)), hK.at0 (by repeat (first | exact List.mem_cons_self | apply List.mem_cons_of_mem)), hK.at1 (by repeat (first | exact List.mem_cons_self | apply List.mem_cons_of_mem))⟩) (fun hHeld => ?_)
    refine take_ (i := 0) (N := some 11) (v := ?_) (a' := ?_) #[true, false, false, false, false, false, false, false, false, false, false, false, false, false, false, false, false, false, false, false, false, false, false, false, false, false, false, false, false, false, false, false, false, false, false, false, false, false, false, false, false, false, false, false, false, false, false, false, false, false, false, false, false, false, false, false, false, false, false] rfl rfl (by kernel_rfl) (fun _ _ _ h => h) (Or.inl ⟨by rfl, ?_⟩) hHeld ?_ ?_
    rotate_left
    · rintro w' ⟨s0, s1, s2, s3⟩
      go_simp
      with_reducible rfl
    rotate_left
    · simp only [Act.put, List.setIfInBounds_toArray, List.set_cons_zero, List.set_cons_succ, i64_w, i32_w]
      rfl
    refine take_ (i := 1) (N := some 12) (v := ?_) (a' := ?_) #[true, true, false, false, false, false, false, false, false, false, false, false, false, false, false, false, false, false, false, false, false, false, false, false, false, false, false, false, false, false, false, false, false, false, false, false, false, false, false, false, false, false, false, false, false, false, false, false, false, false, false, false, false, false, false, false, false, false, false] rfl rfl (by kernel_rfl) (fun _ _ _ h => h) (Or.inl ⟨by rfl, ?_⟩) hHeld ?_ ?_
    rotate_left
    · rintro w' ⟨s0, s1, s2, s3⟩
      go_simp
      with_reducible rfl
    rotate_left
    · simp only [Act.put, List.setIfInBounds_toArray, List.set_cons_zero, List.set_cons_succ, i64_w, i32_w]
      rfl
    refine take_ (i := 3) (N := some 14) (v := ?_) (a' := ?_) #[true, true, false, true, false, false, false, false, false, false, false, false, false, false, false, false, false, false, false, false, false, false, false, false, false, false, false, false, false, false, false, false, false, false, false, false, false, false, false, false, false, false, false, false, false, false, false, false, false, false, false, false, false, false, false, false, false, false, false] rfl rfl (by kernel_rfl) (fun _ _ _ h => h) (Or.inl ⟨by rfl, ?_⟩) hHeld ?_ ?_
    rotate_left
    · rintro w' ⟨s0, s1, s2, s3⟩
      go_simp
      with_reducible rfl
    rotate_left
    · simp only [Act.put, List.setIfInBounds_toArray, List.set_cons_zero, List.set_cons_succ, i64_w, i32_w]
      rfl
    refine take_ (i := 4) (N := some 15) (v := ?_) (a' := ?_) #[true, true, false, true, true, false, false, false, false, false, false, false, false, false, false, false, false, false, false, false, false, false, false, false, false, false, false, false, false, false, false, false, false, false, false, false, false, false, false, false, false, false, false, false, false, false, false, false, false, false, false, false, false, false, false, false, false, false, false] rfl rfl (by kernel_rfl) (fun _ _ _ h => h) (Or.inl ⟨by rfl, ?_⟩) hHeld ?_ ?_
    rotate_left
    · rintro w' ⟨s0, s1, s2, s3⟩
      go_simp
      with_reducible rfl
    rotate_left
    · simp only [Act.put, List.setIfInBounds_toArray, List.set_cons_zero, List.set_cons_succ, i64_w, i32_w]
      rfl
    refine one_ (i := 2) (N := some 13) #[true, true, true, true, true, false, false, false, false, false, false, false, false, false, false, false, false, false, false, false, false, false, false, false, false, false, false, false, false, false, false, false, false, false, false, false, false, false, false, false, false, false, false, false, false, false, false, false, false, false, false, false, false, false, false, false, false, false, false] rfl rfl (by kernel_rfl) (by decide) (fun K hKK => ?_)
    refine goes_ Tryd.func25 (by kernel_rfl) rfl #[.agg #[.bool n0, .slice A0 xs0.length c0], .agg #[.bool n1, .slice A1 xs1.length c1]] (by rfl) rfl rfl (by (try simp only [List.map_toArray, List.map_cons, List.map_nil]); first | done | rfl) ?_
    refine (compare_v n0 n1 A0 A1 c0 c1 xs0 xs1 _ (hK.rd _ _ _ (by repeat (first | exact List.mem_cons_self | apply List.mem_cons_of_mem))) (hK.rd _ _ _ (by repeat (first | exact List.mem_cons_self | apply List.mem_cons_of_mem))) (by omega) (by omega)  a b cp E_a.out E_b.out E_cp.out).mono ?_
    rintro e w_2 ⟨rfl, hb⟩
    refine ⟨_, rfl, ?_⟩
    replace hK := hK.below hb
    clear hb
    refine hKK.out _ _ (⟨hK.at0 (by repeat (first | exact List.mem_cons_self | apply List.mem_cons_of_mem)), hK.at1 (by repeat (first | exact List.mem_cons_self | apply List.mem_cons_of_mem)), hK.at0 (by repeat (first | exact List.mem_cons_self | apply List.mem_cons_of_mem)), hK.at1 (by repeat (first | exact List.mem_cons_self | apply List.mem_cons_of_mem))⟩) (fun hHeld => ?_)
    refine norm_ (a' := ?_) ?_ ?_
    rotate_left
    · show Act.put _ (some 13) _ = _
      simp only [Act.put, List.setIfInBounds_toArray, List.set_cons_zero, List.set_cons_succ, i64_w, i32_w]
      rfl
    refine one_ (i := 5) (N := some 16) #[true, true, true, true, true, true, false, false, false, false, false, false, false, false, false, false, false, false, false, false, false, false, false, false, false, false, false, false, false, false, false, false, false, false, false, false, false, false, false, false, false, false, false, false, false, false, false, false, false, false, false, false, false, false, false, false, false, false, false] rfl rfl (by kernel_rfl) (by decide) (fun K hKK => ?_)
    refine goes_ Tryd.func27 (by kernel_rfl) rfl #[.agg #[.bool n0, .slice A0 xs0.length c0], .agg #[.bool n1, .slice A1 xs1.length c1]] (by rfl) rfl rfl (by (try simp only [List.map_toArray, List.map_cons, List.map_nil]); first | done | rfl) ?_
    refine (Compare_ref n0 n1 A0 A1 c0 c1 xs0 xs1 _ (hK.rd _ _ _ (by repeat (first | exact List.mem_cons_self | apply List.mem_cons_of_mem))) (hK.rd _ _ _ (by repeat (first | exact List.mem_cons_self | apply List.mem_cons_of_mem))) (by omega) (by omega)  a b cp E_a.out E_b.out E_cp.out).mono ?_
    rintro e w_3 ⟨rfl, hb⟩
    refine ⟨_, rfl, ?_⟩
    replace hK := hK.below hb
    clear hb
    refine hKK.out _ _ (⟨hK.at0 (by repeat (first | exact List.mem_cons_self | apply List.mem_cons_of_mem)), hK.at1 (by repeat (first | exact List.mem_cons_self | apply List.mem_cons_of_mem)), hK.at0 (by repeat (first | exact List.mem_cons_self | apply List.mem_cons_of_mem)), hK.at1 (by repeat (first | exact List.mem_cons_self | apply List.mem_cons_of_mem))⟩) (fun hHeld => ?_)
    refine norm_ (a' := ?_) ?_ ?_
    rotate_left
    · show Act.put _ (some 16) _ = _
      simp only [Act.put, List.setIfInBounds_toArray, List.set_cons_zero, List.set_cons_succ, i64_w, i32_w]
      rfl
    refine pure_ (i := 6) (N := some 17) (v := ?_) (a' := ?_) #[true, true, true, true, true, true, true, false, false, false, false, false, false, false, false, false, false, false, false, false, false, false, false, false, false, false, false, false, false, false, false, false, false, false, false, false, false, false, false, false, false, false, false, false, false, false, false, false, false, false, false, false, false, false, false, false, false, false, false] rfl rfl (by kernel_rfl) (fun _ _ _ h => h) (Or.inl ⟨by rfl, ?_⟩) ?_ ?_
    rotate_left
    · intro w'
      go_simp
      with_reducible rfl
    rotate_left
    · simp only [Act.put, List.setIfInBounds_toArray, List.set_cons_zero, List.set_cons_succ, i64_w, i32_w]
      rfl
    refine pure_ (i := 7) (N := some 18) (v := ?_) (a' := ?_) #[true, true, true, true, true, true, true, true, false, false, false, false, false, false, false, false, false, false, false, false, false, false, false, false, false, false, false, false, false, false, false, false, false, false, false, false, false, false, false, false, false, false, false, false, false, false, false, false, false, false, false, false, false, false, false, false, false, false, false] rfl rfl (by kernel_rfl) (fun _ _ _ h => h) (Or.inl ⟨by rfl, ?_⟩) ?_ ?_
    rotate_left
    · intro w'
      go_simp
      with_reducible rfl
    rotate_left
    · simp only [Act.put, List.setIfInBounds_toArray, List.set_cons_zero, List.set_cons_succ, i64_w, i32_w]
      rfl
    refine take_ (i := 8) (N := some 19) (v := ?_) (a' := ?_) #[true, true, true, true, true, true, true, true, true, false, false, false, false, false, false, false, false, false, false, false, false, false, false, false, false, false, false, false, false, false, false, false, false, false, false, false, false, false, false, false, false, false, false, false, false, false, false, false, false, false, false, false, false, false, false, false, false, false, false] rfl rfl (by kernel_rfl) (fun _ _ _ h => h) (Or.inl ⟨by rfl, ?_⟩) hHeld ?_ ?_
    rotate_left
    · rintro w' ⟨s0, s1, s2, s3⟩
      go_simp
      with_reducible rfl
    rotate_left
    · simp only [Act.put, List.setIfInBounds_toArray, List.set_cons_zero, List.set_cons_succ, i64_w, i32_w]
      rfl
    refine take_ (i := 10) (N := some 21) (v := ?_) (a' := ?_) #[true, true, true, true, true, true, true, true, true, false, true, false, false, false, false, false, false, false, false, false, false, false, false, false, false, false, false, false, false, false, false, false, false, false, false, false, false, false, false, false, false, false, false, false, false, false, false, false, false, false, false, false, false, false, false, false, false, false, false] rfl rfl (by kernel_rfl) (fun _ _ _ h => h) (Or.inl ⟨by rfl, ?_⟩) hHeld ?_ ?_
    rotate_left
    · rintro w' ⟨s0, s1, s2, s3⟩
      go_simp
      with_reducible rfl
    rotate_left
    · simp only [Act.put, List.setIfInBounds_toArray, List.set_cons_zero, List.set_cons_succ, i64_w, i32_w]
      rfl
    refine one_ (i := 9) (N := some 20) #[true, true, true, true, true, true, true, true, true, true, true, false, false, false, false, false, false, false, false, false, false, false, false, false, false, false, false, false, false, false, false, false, false, false, false, false, false, false, false, false, false, false, false, false, false, false, false, false, false, false, false, false, false, false, false, false, false, false, false] rfl rfl (by kernel_rfl) (by decide) (fun K hKK => ?_)
    refine goes_ Tryd.func19 (by kernel_rfl) rfl #[.agg #[.bool n0, .slice A0 xs0.length c0]] (by rfl) rfl rfl (by (try simp only [List.map_toArray, List.map_cons, List.map_nil]); first | done | rfl) ?_
    refine (sign_v n0 A0 c0 xs0 _ (hK.rd _ _ _ (by repeat (first | exact List.mem_cons_self | apply List.mem_cons_of_mem))) (by omega)  a sa E_a.out E_sa.out).mono ?_
    rintro e w_4 ⟨rfl, hb⟩
    refine ⟨_, rfl, ?_⟩
    replace hK := hK.below hb
    clear hb
    refine hKK.out _ _ (⟨hK.at0 (by repeat (first | exact List.mem_cons_self | apply List.mem_cons_of_mem)), hK.at1 (by repeat (first | exact List.mem_cons_self | apply List.mem_cons_of_mem)), hK.at0 (by repeat (first | exact List.mem_cons_self | apply List.mem_cons_of_mem)), hK.at1 (by repeat (first | exact List.mem_cons_self | apply List.mem_cons_of_mem))⟩) (fun hHeld => ?_)
    refine norm_ (a' := ?_) ?_ ?_
    rotate_left
    · show Act.put _ (some 20) _ = _
      simp only [Act.put, List.setIfInBounds_toArray, List.set_cons_zero, List.set_cons_succ, i64_w, i32_w]
      rfl
    refine one_ (i := 11) (N := some 22) #[true, true, true, true, true, true, true, true, true, true, true, true, false, false, false, false, false, false, false, false, false, false, false, false, false, false, false, false, false, false, false, false, false, false, false, false, false, false, false, false, false, false, false, false, false, false, false, false, false, false, false, false, false, false, false, false, false, false, false] rfl rfl (by kernel_rfl) (by decide) (fun K hKK => ?_)
    refine goes_ Tryd.func28 (by kernel_rfl) rfl #[.agg #[.bool n0, .slice A0 xs0.length c0]] (by rfl) rfl rfl (by (try simp only [List.map_toArray, List.map_cons, List.map_nil]); first | done | rfl) ?_
    refine (Sign_ref n0 A0 c0 xs0 _ (hK.rd _ _ _ (by repeat (first | exact List.mem_cons_self | apply List.mem_cons_of_mem))) (by omega)  a sa E_a.out E_sa.out).mono ?_
    rintro e w_5 ⟨rfl, hb⟩
    refine ⟨_, rfl, ?_⟩
    replace hK := hK.below hb
    clear hb
    refine hKK.out _ _ (⟨hK.at0 (by repeat (first | exact List.mem_cons_self | apply List.mem_cons_of_mem)), hK.at1 (by repeat (first | exact List.mem_cons_self | apply List.mem_cons_of_mem)), hK.at0 (by repeat (first | exact List.mem_cons_self | apply List.mem_cons_of_mem)), hK.at1 (by repeat (first | exact List.mem_cons_self | apply List.mem_cons_of_mem))⟩) (fun hHeld => ?_)
    refine norm_ (a' := ?_) ?_ ?_
    rotate_left
    · show Act.put _ (some 22) _ = _
      simp only [Act.put, List.setIfInBounds_toArray, List.set_cons_zero, List.set_cons_succ, i64_w, i32_w]
      rfl
    refine pure_ (i := 12) (N := some 23) (v := ?_) (a' := ?_) #[true, true, true, true, true, true, true, true, true, true, true, true, true, false, false, false, false, false, false, false, false, false, false, false, false, false, false, false, false, false, false, false, false, false, false, false, false, false, false, false, false, false, false, false, false, false, false, false, false, false, false, false, false, false, false, false, false, false, false] rfl rfl (by kernel_rfl) (fun _ _ _ h => h) (Or.inl ⟨by rfl, ?_⟩) ?_ ?_
    rotate_left
    · intro w'
      go_simp
      with_reducible rfl
    rotate_left
    · simp only [Act.put, List.setIfInBounds_toArray, List.set_cons_zero, List.set_cons_succ, i64_w, i32_w]
      rfl
    refine pure_ (i := 13) (N := some 24) (v := ?_) (a' := ?_) #[true, true, true, true, true, true, true, true, true, true, true, true, true, true, false, false, false, false, false, false, false, false, false, false, false, false, false, false, false, false, false, false, false, false, false, false, false, false, false, false, false, false, false, false, false, false, false, false, false, false, false, false, false, false, false, false, false, false, false] rfl rfl (by kernel_rfl) (fun _ _ _ h => h) (Or.inl ⟨by rfl, ?_⟩) ?_ ?_
    rotate_left
    · intro w'
      go_simp
      with_reducible rfl
    rotate_left
    · simp only [Act.put, List.setIfInBounds_toArray, List.set_cons_zero, List.set_cons_succ, i64_w, i32_w]
      rfl
    refine pure_ (i := 14) (N := some 25) (v := ?_) (a' := ?_) #[true, true, true, true, true, true, true, true, true, true, true, true, true, true, true, false, false, false, false, false, false, false, false, false, false, false, false, false, false, false, false, false, false, false, false, false, false, false, false, false, false, false, false, false, false, false, false, false, false, false, false, false, false, false, false, false, false, false, false] rfl rfl (by kernel_rfl) (fun _ _ _ h => h) (Or.inl ⟨by rfl, ?_⟩) ?_ ?_
    rotate_left
    · intro w'
      go_simp
      with_reducible rfl
    rotate_left
    · simp only [Act.put, List.setIfInBounds_toArray, List.set_cons_zero, List.set_cons_succ, i64_w, i32_w]
      rfl
    refine take_ (i := 15) (N := some 26) (v := ?_) (a' := ?_) #[true, true, true, true, true, true, true, true, true, true, true, true, true, true, true, true, false, false, false, false, false, false, false, false, false, false, false, false, false, false, false, false, false, false, false, false, false, false, false, false, false, false, false, false, false, false, false, false, false, false, false, false, false, false, false, false, false, false, false] rfl rfl (by kernel_rfl) (fun _ _ _ h => h) (Or.inl ⟨by rfl, ?_⟩) hHeld ?_ ?_
    rotate_left
    · rintro w' ⟨s0, s1, s2, s3⟩
      go_simp
      with_reducible rfl
    rotate_left
    · simp only [Act.put, List.setIfInBounds_toArray, List.set_cons_zero, List.set_cons_succ, i64_w, i32_w]
      rfl
    refine take_ (i := 17) (N := some 28) (v := ?_) (a' := ?_) #[true, true, true, true, true, true, true, true, true, true, true, true, true, true, true, true, false, true, false, false, false, false, false, false, false, false, false, false, false, false, false, false, false, false, false, false, false, false, false, false, false, false, false, false, false, false, false, false, false, false, false, false, false, false, false, false, false, false, false] rfl rfl (by kernel_rfl) (fun _ _ _ h => h) (Or.inl ⟨by rfl, ?_⟩) hHeld ?_ ?_
    rotate_left
    · rintro w' ⟨s0, s1, s2, s3⟩
      go_simp
      with_reducible rfl
    rotate_left
    · simp only [Act.put, List.setIfInBounds_toArray, List.set_cons_zero, List.set_cons_succ, i64_w, i32_w]
      rfl
    refine one_ (i := 16) (N := some 27) #[true, true, true, true, true, true, true, true, true, true, true, true, true, true, true, true, true, true, false, false, false, false, false, false, false, false, false, false, false, false, false, false, false, false, false, false, false, false, false, false, false, false, false, false, false, false, false, false, false, false, false, false, false, false, false, false, false, false, false] rfl rfl (by kernel_rfl) (by decide) (fun K hKK => ?_)
    refine goes_ Tryd.func29 (by kernel_rfl) rfl #[.agg #[.bool n0, .slice A0 xs0.length c0]] (by rfl) rfl rfl (by (try simp only [List.map_toArray, List.map_cons, List.map_nil]); first | done | rfl) ?_
    refine (negate_v n0 A0 c0 xs0 _ (hK.rd _ _ _ (by repeat (first | exact List.mem_cons_self | apply List.mem_cons_of_mem))) (by omega)  a ne1 E_a.out E_ne1.out).mono ?_
    rintro e w_6 ⟨A_ne1, c_ne1, rfl, hR, hb⟩
    refine ⟨_, rfl, ?_⟩
    replace hK := (hK.below hb).row hR
    clear hb hR
    refine hKK.out _ _ (⟨hK.at0 (by repeat (first | exact List.mem_cons_self | apply List.mem_cons_of_mem)), hK.at1 (by repeat (first | exact List.mem_cons_self | apply List.mem_cons_of_mem)), hK.at0 (by repeat (first | exact List.mem_cons_self | apply List.mem_cons_of_mem)), hK.at1 (by repeat (first | exact List.mem_cons_self | apply List.mem_cons_of_mem))⟩) (fun hHeld => ?_)
    refine norm_ (a' := ?_) ?_ ?_
    rotate_left
    · show Act.put _ (some 27) _ = _
      simp only [Act.put, List.setIfInBounds_toArray, List.set_cons_zero, List.set_cons_succ, i64_w, i32_w]
      rfl
    refine one_ (i := 18) (N := some 29) #[true, true, true, true, true, true, true, true, true, true, true, true, true, true, true, true, true, true, true, false, false, false, false, false, false, false, false, false, false, false, false, false, false, false, false, false, false, false, false, false, false, false, false, false, false, false, false, false, false, false, false, false, false, false, false, false, false, false, false] rfl rfl (by kernel_rfl) (by decide) (fun K hKK => ?_)
    refine goes_ Tryd.func30 (by kernel_rfl) rfl #[.agg #[.bool n0, .slice A0 xs0.length c0]] (by rfl) rfl rfl (by (try simp only [List.map_toArray, List.map_cons, List.map_nil]); first | done | rfl) ?_
    refine (Negate_ref n0 A0 c0 xs0 _ (hK.rd _ _ _ (by repeat (first | exact List.mem_cons_self | apply List.mem_cons_of_mem))) (by omega)  a ne2 E_a.out E_ne2.out).mono ?_
    rintro e w_7 ⟨A_ne2, c_ne2, rfl, hR, hb⟩
    refine ⟨_, rfl, ?_⟩
    replace hK := (hK.below hb).row hR
    clear hb hR
    refine hKK.out _ _ (⟨hK.at0 (by repeat (first | exact List.mem_cons_self | apply List.mem_cons_of_mem)), hK.at1 (by repeat (first | exact List.mem_cons_self | apply List.mem_cons_of_mem)), hK.at0 (by repeat (first | exact List.mem_cons_self | apply List.mem_cons_of_mem)), hK.at1 (by repeat (first | exact List.mem_cons_self | apply List.mem_cons_of_mem))⟩) (fun hHeld => ?_)
    refine norm_ (a' := ?_) ?_ ?_
    rotate_left
    · show Act.put _ (some 29) _ = _
      simp only [Act.put, List.setIfInBounds_toArray, List.set_cons_zero, List.set_cons_succ, i64_w, i32_w]
      rfl
    refine one_ (i := 19) (N := some 30) #[true, true, true, true, true, true, true, true, true, true, true, true, true, true, true, true, true, true, true, true, false, false, false, false, false, false, false, false, false, false, false, false, false, false, false, false, false, false, false, false, false, false, false, false, false, false, false, false, false, false, false, false, false, false, false, false, false, false, false] rfl rfl (by kernel_rfl) (by decide) (fun K hKK => ?_)
    refine goes_ Tryd.func16 (by kernel_rfl) rfl #[.agg #[.bool (ng ne1), .slice A_ne1 (mg ne1).length c_ne1], .agg #[.bool (ng ne2), .slice A_ne2 (mg ne2).length c_ne2]] (by rfl) rfl rfl (by (try simp only [List.map_toArray, List.map_cons, List.map_nil]); first | done | rfl) ?_
    refine (same_v A_ne1 A_ne2 c_ne1 c_ne2 _ ne1 ne2 (hK.rd _ _ _ (by repeat (first | exact List.mem_cons_self | apply List.mem_cons_of_mem))) (hK.rd _ _ _ (by repeat (first | exact List.mem_cons_self | apply List.mem_cons_of_mem))) (by omega) (by omega) q_ne.out).mono ?_
    rintro e w_8 ⟨rfl, hb⟩
    refine ⟨_, rfl, ?_⟩
    replace hK := hK.below hb
    clear hb
    refine hKK.out _ _ (⟨hK.at0 (by repeat (first | exact List.mem_cons_self | apply List.mem_cons_of_mem)), hK.at1 (by repeat (first | exact List.mem_cons_self | apply List.mem_cons_of_mem)), hK.at0 (by repeat (first | exact List.mem_cons_self | apply List.mem_cons_of_mem)), hK.at1 (by repeat (first | exact List.mem_cons_self | apply List.mem_cons_of_mem))⟩) (fun hHeld => ?_)
    refine norm_ (a' := ?_) ?_ ?_
    rotate_left
    · show Act.put _ (some 30) _ = _
      simp only [Act.put, List.setIfInBounds_toArray, List.set_cons_zero, List.set_cons_succ, i64_w, i32_w]
      rfl
    refine pure_ (i := 20) (N := some 31) (v := ?_) (a' := ?_) #[true, true, true, true, true, true, true, true, true, true, true, true, true, true, true, true, true, true, true, true, true, false, false, false, false, false, false, false, false, false, false, false, false, false, false, false, false, false, false, false, false, false, false, false, false, false, false, false, false, false, false, false, false, false, false, false, false, false, false] rfl rfl (by kernel_rfl) (fun _ _ _ h => h) (Or.inl ⟨by rfl, ?_⟩) ?_ ?_
    rotate_left
    · intro w'
      go_simp
      with_reducible rfl
    rotate_left
    · simp only [Act.put, List.setIfInBounds_toArray, List.set_cons_zero, List.set_cons_succ, i64_w, i32_w]
      rfl
    refine pure_ (i := 21) (N := some 32) (v := ?_) (a' := ?_) #[true, true, true, true, true, true, true, true, true, true, true, true, true, true, true, true, true, true, true, true, true, true, false, false, false, false, false, false, false, false, false, false, false, false, false, false, false, false, false, false, false, false, false, false, false, false, false, false, false, false, false, false, false, false, false, false, false, false, false] rfl rfl (by kernel_rfl) (fun _ _ _ h => h) (Or.inl ⟨by rfl, ?_⟩) ?_ ?_
    rotate_left
    · intro w'
      go_simp
      with_reducible rfl
    rotate_left
    · simp only [Act.put, List.setIfInBounds_toArray, List.set_cons_zero, List.set_cons_succ, i64_w, i32_w]
      rfl
    refine take_ (i := 22) (N := some 33) (v := ?_) (a' := ?_) #[true, true, true, true, true, true, true, true, true, true, true, true, true, true, true, true, true, true, true, true, true, true, true, false, false, false, false, false, false, false, false, false, false, false, false, false, false, false, false, false, false, false, false, false, false, false, false, false, false, false, false, false, false, false, false, false, false, false, false] rfl rfl (by kernel_rfl) (fun _ _ _ h => h) (Or.inl ⟨by rfl, ?_⟩) hHeld ?_ ?_
    rotate_left
    · rintro w' ⟨s0, s1, s2, s3⟩
      go_simp
      with_reducible rfl
    rotate_left
    · simp only [Act.put, List.setIfInBounds_toArray, List.set_cons_zero, List.set_cons_succ, i64_w, i32_w]
      rfl
    refine take_ (i := 24) (N := some 35) (v := ?_) (a' := ?_) #[true, true, true, true, true, true, true, true, true, true, true, true, true, true, true, true, true, true, true, true, true, true, true, false, true, false, false, false, false, false, false, false, false, false, false, false, false, false, false, false, false, false, false, false, false, false, false, false, false, false, false, false, false, false, false, false, false, false, false] rfl rfl (by kernel_rfl) (fun _ _ _ h => h) (Or.inl ⟨by rfl, ?_⟩) hHeld ?_ ?_
    rotate_left
    · rintro w' ⟨s0, s1, s2, s3⟩
      go_simp
      with_reducible rfl
    rotate_left
    · simp only [Act.put, List.setIfInBounds_toArray, List.set_cons_zero, List.set_cons_succ, i64_w, i32_w]
      rfl
    refine one_ (i := 23) (N := some 34) #[true, true, true, true, true, true, true, true, true, true, true, true, true, true, true, true, true, true, true, true, true, true, true, true, true, false, false, false, false, false, false, false, false, false, false, false, false, false, false, false, false, false, false, false, false, false, false, false, false, false, false, false, false, false, false, false, false, false, false] rfl rfl (by kernel_rfl) (by decide) (fun K hKK => ?_)
    refine goes_ Tryd.func26 (by kernel_rfl) rfl #[.agg #[.bool n0, .slice A0 xs0.length c0]] (by rfl) rfl rfl (by (try simp only [List.map_toArray, List.map_cons, List.map_nil]); first | done | rfl) ?_
    refine (abs_v n0 A0 c0 xs0 _ (hK.rd _ _ _ (by repeat (first | exact List.mem_cons_self | apply List.mem_cons_of_mem))) (by omega)  a ab1 E_a.out E_ab1.out).mono ?_
    rintro e w_9 ⟨A_ab1, c_ab1, rfl, hR, hb⟩
    refine ⟨_, rfl, ?_⟩
    replace hK := (hK.below hb).row hR
    clear hb hR
    refine hKK.out _ _ (⟨hK.at0 (by repeat (first | exact List.mem_cons_self | apply List.mem_cons_of_mem)), hK.at1 (by repeat (first | exact List.mem_cons_self | apply List.mem_cons_of_mem)), hK.at0 (by repeat (first | exact List.mem_cons_self | apply List.mem_cons_of_mem)), hK.at1 (by repeat (first | exact List.mem_cons_self | apply List.mem_cons_of_mem))⟩) (fun hHeld => ?_)
    refine norm_ (a' := ?_) ?_ ?_
    rotate_left
    · show Act.put _ (some 34) _ = _
      simp only [Act.put, List.setIfInBounds_toArray, List.set_cons_zero, List.set_cons_succ, i64_w, i32_w]
      rfl
    refine one_ (i := 25) (N := some 36) #[true, true, true, true, true, true, true, true, true, true, true, true, true, true, true, true, true, true, true, true, true, true, true, true, true, true, false, false, false, false, false, false, false, false, false, false, false, false, false, false, false, false, false, false, false, false, false, false, false, false, false, false, false, false, false, false, false, false, false] rfl rfl (by kernel_rfl) (by decide) (fun K hKK => ?_)
    refine goes_ Tryd.func31 (by kernel_rfl) rfl #[.agg #[.bool n0, .slice A0 xs0.length c0]] (by rfl) rfl rfl (by (try simp only [List.map_toArray, List.map_cons, List.map_nil]); first | done | rfl) ?_
    refine (Abs_ref n0 A0 c0 xs0 _ (hK.rd _ _ _ (by repeat (first | exact List.mem_cons_self | apply List.mem_cons_of_mem))) (by omega)  a ab2 E_a.out E_ab2.out).mono ?_
    rintro e w_10 ⟨A_ab2, c_ab2, rfl, hR, hb⟩
    refine ⟨_, rfl, ?_⟩
    replace hK := (hK.below hb).row hR
    clear hb hR
    refine hKK.out _ _ (⟨hK.at0 (by repeat (first | exact List.mem_cons_self | apply List.mem_cons_of_mem)), hK.at1 (by repeat (first | exact List.mem_cons_self | apply List.mem_cons_of_mem)), hK.at0 (by repeat (first | exact List.mem_cons_self | apply List.mem_cons_of_mem)), hK.at1 (by repeat (first | exact List.mem_cons_self | apply List.mem_cons_of_mem))⟩) (fun hHeld => ?_)
    refine norm_ (a' := ?_) ?_ ?_
    rotate_left
    · show Act.put _ (some 36) _ = _
      simp only [Act.put, List.setIfInBounds_toArray, List.set_cons_zero, List.set_cons_succ, i64_w, i32_w]
      rfl
    refine one_ (i := 26) (N := some 37) #[true, true, true, true, true, true, true, true, true, true, true, true, true, true, true, true, true, true, true, true, true, true, true, true, true, true, true, false, false, false, false, false, false, false, false, false, false, false, false, false, false, false, false, false, false, false, false, false, false, false, false, false, false, false, false, false, false, false, false] rfl rfl (by kernel_rfl) (by decide) (fun K hKK => ?_)
    refine goes_ Tryd.func16 (by kernel_rfl) rfl #[.agg #[.bool (ng ab1), .slice A_ab1 (mg ab1).length c_ab1], .agg #[.bool (ng ab2), .slice A_ab2 (mg ab2).length c_ab2]] (by rfl) rfl rfl (by (try simp only [List.map_toArray, List.map_cons, List.map_nil]); first | done | rfl) ?_
    refine (same_v A_ab1 A_ab2 c_ab1 c_ab2 _ ab1 ab2 (hK.rd _ _ _ (by repeat (first | exact List.mem_cons_self | apply List.mem_cons_of_mem))) (hK.rd _ _ _ (by repeat (first | exact List.mem_cons_self | apply List.mem_cons_of_mem))) (by omega) (by omega) q_ab.out).mono ?_
    rintro e w_11 ⟨rfl, hb⟩
    refine ⟨_, rfl, ?_⟩
    replace hK := hK.below hb
    clear hb
    refine hKK.out _ _ (⟨hK.at0 (by repeat (first | exact List.mem_cons_self | apply List.mem_cons_of_mem)), hK.at1 (by repeat (first | exact List.mem_cons_self | apply List.mem_cons_of_mem)), hK.at0 (by repeat (first | exact List.mem_cons_self | apply List.mem_cons_of_mem)), hK.at1 (by repeat (first | exact List.mem_cons_self | apply List.mem_cons_of_mem))⟩) (fun hHeld => ?_)
    refine norm_ (a' := ?_) ?_ ?_
    rotate_left
    · show Act.put _ (some 37) _ = _
      simp only [Act.put, List.setIfInBounds_toArray, List.set_cons_zero, List.set_cons_succ, i64_w, i32_w]
      rfl
    refine pure_ (i := 27) (N := some 38) (v := ?_) (a' := ?_) #[true, true, true, true, true, true, true, true, true, true, true, true, true, true, true, true, true, true, true, true, true, true, true, true, true, true, true, true, false, false, false, false, false, false, false, false, false, false, false, false, false, false, false, false, false, false, false, false, false, false, false, false, false, false, false, false, false, false, false] rfl rfl (by kernel_rfl) (fun _ _ _ h => h) (Or.inl ⟨by rfl, ?_⟩) ?_ ?_
    rotate_left
    · intro w'
      go_simp
      with_reducible rfl
    rotate_left
    · simp only [Act.put, List.setIfInBounds_toArray, List.set_cons_zero, List.set_cons_succ, i64_w, i32_w]
      rfl
    refine pure_ (i := 28) (N := some 39) (v := ?_) (a' := ?_) #[true, true, true, true, true, true, true, true, true, true, true, true, true, true, true, true, true, true, true, true, true, true, true, true, true, true, true, true, true, false, false, false, false, false, false, false, false, false, false, false, false, false, false, false, false, false, false, false, false, false, false, false, false, false, false, false, false, false, false] rfl rfl (by kernel_rfl) (fun _ _ _ h => h) (Or.inl ⟨by rfl, ?_⟩) ?_ ?_
    rotate_left
    · intro w'
      go_simp
      with_reducible rfl
    rotate_left
    · simp only [Act.put, List.setIfInBounds_toArray, List.set_cons_zero, List.set_cons_succ, i64_w, i32_w]
      rfl
    refine take_ (i := 29) (N := some 40) (v := ?_) (a' := ?_) #[true, true, true, true, true, true, true, true, true, true, true, true, true, true, true, true, true, true, true, true, true, true, true, true, true, true, true, true, true, true, false, false, false, false, false, false, false, false, false, false, false, false, false, false, false, false, false, false, false, false, false, false, false, false, false, false, false, false, false] rfl rfl (by kernel_rfl) (fun _ _ _ h => h) (Or.inl ⟨by rfl, ?_⟩) hHeld ?_ ?_
    rotate_left
    · rintro w' ⟨s0, s1, s2, s3⟩
      go_simp
      with_reducible rfl
    rotate_left
    · simp only [Act.put, List.setIfInBounds_toArray, List.set_cons_zero, List.set_cons_succ, i64_w, i32_w]
      rfl
    refine take_ (i := 30) (N := some 41) (v := ?_) (a' := ?_) #[true, true, true, true, true, true, true, true, true, true, true, true, true, true, true, true, true, true, true, true, true, true, true, true, true, true, true, true, true, true, true, false, false, false, false, false, false, false, false, false, false, false, false, false, false, false, false, false, false, false, false, false, false, false, false, false, false, false, false] rfl rfl (by kernel_rfl) (fun _ _ _ h => h) (Or.inl ⟨by rfl, ?_⟩) hHeld ?_ ?_
    rotate_left
    · rintro w' ⟨s0, s1, s2, s3⟩
      go_simp
      with_reducible rfl
    rotate_left
    · simp only [Act.put, List.setIfInBounds_toArray, List.set_cons_zero, List.set_cons_succ, i64_w, i32_w]
      rfl
    refine take_ (i := 32) (N := some 43) (v := ?_) (a' := ?_) #[true, true, true, true, true, true, true, true, true, true, true, true, true, true, true, true, true, true, true, true, true, true, true, true, true, true, true, true, true, true, true, false, true, false, false, false, false, false, false, false, false, false, false, false, false, false, false, false, false, false, false, false, false, false, false, false, false, false, false] rfl rfl (by kernel_rfl) (fun _ _ _ h => h) (Or.inl ⟨by rfl, ?_⟩) hHeld ?_ ?_
    rotate_left
    · rintro w' ⟨s0, s1, s2, s3⟩
      go_simp
      with_reducible rfl
    rotate_left
    · simp only [Act.put, List.setIfInBounds_toArray, List.set_cons_zero, List.set_cons_succ, i64_w, i32_w]
      rfl
    refine take_ (i := 33) (N := some 44) (v := ?_) (a' := ?_) #[true, true, true, true, true, true, true, true, true, true, true, true, true, true, true, true, true, true, true, true, true, true, true, true, true, true, true, true, true, true, true, false, true, true, false, false, false, false, false, false, false, false, false, false, false, false, false, false, false, false, false, false, false, false, false, false, false, false, false] rfl rfl (by kernel_rfl) (fun _ _ _ h => h) (Or.inl ⟨by rfl, ?_⟩) hHeld ?_ ?_
    rotate_left
    · rintro w' ⟨s0, s1, s2, s3⟩
      go_simp
      with_reducible rfl
    rotate_left
    · simp only [Act.put, List.setIfInBounds_toArray, List.set_cons_zero, List.set_cons_succ, i64_w, i32_w]
      rfl
    refine one_ (i := 31) (N := some 42) #[true, true, true, true, true, true, true, true, true, true, true, true, true, true, true, true, true, true, true, true, true, true, true, true, true, true, true, true, true, true, true, true, true, true, false, false, false, false, false, false, false, false, false, false, false, false, false, false, false, false, false, false, false, false, false, false, false, false, false] rfl rfl (by kernel_rfl) (by decide) (fun K hKK => ?_)
    refine goes_ Tryd.func17 (by kernel_rfl) rfl #[.agg #[.bool n0, .slice A0 xs0.length c0], .agg #[.bool n1, .slice A1 xs1.length c1]] (by rfl) rfl rfl (by (try simp only [List.map_toArray, List.map_cons, List.map_nil]); first | done | rfl) ?_
    refine (add_v n0 n1 A0 A1 c0 c1 xs0 xs1 _ (hK.rd _ _ _ (by repeat (first | exact List.mem_cons_self | apply List.mem_cons_of_mem))) (hK.rd _ _ _ (by repeat (first | exact List.mem_cons_self | apply List.mem_cons_of_mem))) (by omega) (by omega)  a b ad1 E_a.out E_b.out E_ad1.out).mono ?_
    rintro e w_12 ⟨A_ad1, c_ad1, rfl, hR, hb⟩
    refine ⟨_, rfl, ?_⟩
    replace hK := (hK.below hb).row hR
    clear hb hR
    refine hKK.out _ _ (⟨hK.at0 (by repeat (first | exact List.mem_cons_self | apply List.mem_cons_of_mem)), hK.at1 (by repeat (first | exact List.mem_cons_self | apply List.mem_cons_of_mem)), hK.at0 (by repeat (first | exact List.mem_cons_self | apply List.mem_cons_of_mem)), hK.at1 (by repeat (first | exact List.mem_cons_self | apply List.mem_cons_of_mem))⟩) (fun hHeld => ?_)
    refine norm_ (a' := ?_) ?_ ?_
    rotate_left
    · show Act.put _ (some 42) _ = _
      simp only [Act.put, List.setIfInBounds_toArray, List.set_cons_zero, List.set_cons_succ, i64_w, i32_w]
      rfl
    refine one_ (i := 34) (N := some 45) #[true, true, true, true, true, true, true, true, true, true, true, true, true, true, true, true, true, true, true, true, true, true, true, true, true, true, true, true, true, true, true, true, true, true, true, false, false, false, false, false, false, false, false, false, false, false, false, false, false, false, false, false, false, false, false, false, false, false, false] rfl rfl (by kernel_rfl) (by decide) (fun K hKK => ?_)
    refine goes_ Tryd.func32 (by kernel_rfl) rfl #[.agg #[.bool n0, .slice A0 xs0.length c0], .agg #[.bool n1, .slice A1 xs1.length c1]] (by rfl) rfl rfl (by (try simp only [List.map_toArray, List.map_cons, List.map_nil]); first | done | rfl) ?_
    refine (Add_ref n0 n1 A0 A1 c0 c1 xs0 xs1 _ (hK.rd _ _ _ (by repeat (first | exact List.mem_cons_self | apply List.mem_cons_of_mem))) (hK.rd _ _ _ (by repeat (first | exact List.mem_cons_self | apply List.mem_cons_of_mem))) (by omega) (by omega)  a b ad2 E_a.out E_b.out E_ad2.out).mono ?_
    rintro e w_13 ⟨A_ad2, c_ad2, rfl, hR, hb⟩
    refine ⟨_, rfl, ?_⟩
    replace hK := (hK.below hb).row hR
    clear hb hR
    refine hKK.out _ _ (⟨hK.at0 (by repeat (first | exact List.mem_cons_self | apply List.mem_cons_of_mem)), hK.at1 (by repeat (first | exact List.mem_cons_self | apply List.mem_cons_of_mem)), hK.at0 (by repeat (first | exact List.mem_cons_self | apply List.mem_cons_of_mem)), hK.at1 (by repeat (first | exact List.mem_cons_self | apply List.mem_cons_of_mem))⟩) (fun hHeld => ?_)
    refine norm_ (a' := ?_) ?_ ?_
    rotate_left
    · show Act.put _ (some 45) _ = _
      simp only [Act.put, List.setIfInBounds_toArray, List.set_cons_zero, List.set_cons_succ, i64_w, i32_w]
      rfl
    refine one_ (i := 35) (N := some 46) #[true, true, true, true, true, true, true, true, true, true, true, true, true, true, true, true, true, true, true, true, true, true, true, true, true, true, true, true, true, true, true, true, true, true, true, true, false, false, false, false, false, false, false, false, false, false, false, false, false, false, false, false, false, false, false, false, false, false, false] rfl rfl (by kernel_rfl) (by decide) (fun K hKK => ?_)
    refine goes_ Tryd.func16 (by kernel_rfl) rfl #[.agg #[.bool (ng ad1), .slice A_ad1 (mg ad1).length c_ad1], .agg #[.bool (ng ad2), .slice A_ad2 (mg ad2).length c_ad2]] (by rfl) rfl rfl (by (try simp only [List.map_toArray, List.map_cons, List.map_nil]); first | done | rfl) ?_
    refine (same_v A_ad1 A_ad2 c_ad1 c_ad2 _ ad1 ad2 (hK.rd _ _ _ (by repeat (first | exact List.mem_cons_self | apply List.mem_cons_of_mem))) (hK.rd _ _ _ (by repeat (first | exact List.mem_cons_self | apply List.mem_cons_of_mem))) (by omega) (by omega) q_ad.out).mono ?_
    rintro e w_14 ⟨rfl, hb⟩
    refine ⟨_, rfl, ?_⟩
    replace hK := hK.below hb
    clear hb
    refine hKK.out _ _ (⟨hK.at0 (by repeat (first | exact List.mem_cons_self | apply List.mem_cons_of_mem)), hK.at1 (by repeat (first | exact List.mem_cons_self | apply List.mem_cons_of_mem)), hK.at0 (by repeat (first | exact List.mem_cons_self | apply List.mem_cons_of_mem)), hK.at1 (by repeat (first | exact List.mem_cons_self | apply List.mem_cons_of_mem))⟩) (fun hHeld => ?_)
    refine norm_ (a' := ?_) ?_ ?_
    rotate_left
    · show Act.put _ (some 46) _ = _
      simp only [Act.put, List.setIfInBounds_toArray, List.set_cons_zero, List.set_cons_succ, i64_w, i32_w]
      rfl
    refine pure_ (i := 36) (N := some 47) (v := ?_) (a' := ?_) #[true, true, true, true, true, true, true, true, true, true, true, true, true, true, true, true, true, true, true, true, true, true, true, true, true, true, true, true, true, true, true, true, true, true, true, true, true, false, false, false, false, false, false, false, false, false, false, false, false, false, false, false, false, false, false, false, false, false, false] rfl rfl (by kernel_rfl) (fun _ _ _ h => h) (Or.inl ⟨by rfl, ?_⟩) ?_ ?_
    rotate_left
    · intro w'
      go_simp
      with_reducible rfl
    rotate_left
    · simp only [Act.put, List.setIfInBounds_toArray, List.set_cons_zero, List.set_cons_succ, i64_w, i32_w]
      rfl
    refine pure_ (i := 37) (N := some 48) (v := ?_) (a' := ?_) #[true, true, true, true, true, true, true, true, true, true, true, true, true, true, true, true, true, true, true, true, true, true, true, true, true, true, true, true, true, true, true, true, true, true, true, true, true, true, false, false, false, false, false, false, false, false, false, false, false, false, false, false, false, false, false, false, false, false, false] rfl rfl (by kernel_rfl) (fun _ _ _ h => h) (Or.inl ⟨by rfl, ?_⟩) ?_ ?_
    rotate_left
    · intro w'
      go_simp
      with_reducible rfl
    rotate_left
    · simp only [Act.put, List.setIfInBounds_toArray, List.set_cons_zero, List.set_cons_succ, i64_w, i32_w]
      rfl
    refine take_ (i := 38) (N := some 49) (v := ?_) (a' := ?_) #[true, true, true, true, true, true, true, true, true, true, true, true, true, true, true, true, true, true, true, true, true, true, true, true, true, true, true, true, true, true, true, true, true, true, true, true, true, true, true, false, false, false, false, false, false, false, false, false, false, false, false, false, false, false, false, false, false, false, false] rfl rfl (by kernel_rfl) (fun _ _ _ h => h) (Or.inl ⟨by rfl, ?_⟩) hHeld ?_ ?_
    rotate_left
    · rintro w' ⟨s0, s1, s2, s3⟩
      go_simp
      with_reducible rfl
    rotate_left
    · simp only [Act.put, List.setIfInBounds_toArray, List.set_cons_zero, List.set_cons_succ, i64_w, i32_w]
      rfl
    refine take_ (i := 39) (N := some 50) (v := ?_) (a' := ?_) #[true, true, true, true, true, true, true, true, true, true, true, true, true, true, true, true, true, true, true, true, true, true, true, true, true, true, true, true, true, true, true, true, true, true, true, true, true, true, true, true, false, false, false, false, false, false, false, false, false, false, false, false, false, false, false, false, false, false, false] rfl rfl (by kernel_rfl) (fun _ _ _ h => h) (Or.inl ⟨by rfl, ?_⟩) hHeld ?_ ?_
    rotate_left
    · rintro w' ⟨s0, s1, s2, s3⟩
      go_simp
      with_reducible rfl
    rotate_left
    · simp only [Act.put, List.setIfInBounds_toArray, List.set_cons_zero, List.set_cons_succ, i64_w, i32_w]
      rfl
    refine take_ (i := 41) (N := some 52) (v := ?_) (a' := ?_) #[true, true, true, true, true, true, true, true, true, true, true, true, true, true, true, true, true, true, true, true, true, true, true, true, true, true, true, true, true, true, true, true, true, true, true, true, true, true, true, true, false, true, false, false, false, false, false, false, false, false, false, false, false, false, false, false, false, false, false] rfl rfl (by kernel_rfl) (fun _ _ _ h => h) (Or.inl ⟨by rfl, ?_⟩) hHeld ?_ ?_
    rotate_left
    · rintro w' ⟨s0, s1, s2, s3⟩
      go_simp
      with_reducible rfl
    rotate_left
    · simp only [Act.put, List.setIfInBounds_toArray, List.set_cons_zero, List.set_cons_succ, i64_w, i32_w]
      rfl
    refine take_ (i := 42) (N := some 53) (v := ?_) (a' := ?_) #[true, true, true, true, true, true, true, true, true, true, true, true, true, true, true, true, true, true, true, true, true, true, true, true, true, true, true, true, true, true, true, true, true, true, true, true, true, true, true, true, false, true, true, false, false, false, false, false, false, false, false, false, false, false, false, false, false, false, false] rfl rfl (by kernel_rfl) (fun _ _ _ h => h) (Or.inl ⟨by rfl, ?_⟩) hHeld ?_ ?_
    rotate_left
    · rintro w' ⟨s0, s1, s2, s3⟩
      go_simp
      with_reducible rfl
    rotate_left
    · simp only [Act.put, List.setIfInBounds_toArray, List.set_cons_zero, List.set_cons_succ, i64_w, i32_w]
      rfl
    refine one_ (i := 40) (N := some 51) #[true, true, true, true, true, true, true, true, true, true, true, true, true, true, true, true, true, true, true, true, true, true, true, true, true, true, true, true, true, true, true, true, true, true, true, true, true, true, true, true, true, true, true, false, false, false, false, false, false, false, false, false, false, false, false, false, false, false, false] rfl rfl (by kernel_rfl) (by decide) (fun K hKK => ?_)
    refine goes_ Tryd.func20 (by kernel_rfl) rfl #[.agg #[.bool n0, .slice A0 xs0.length c0], .agg #[.bool n1, .slice A1 xs1.length c1]] (by rfl) rfl rfl (by (try simp only [List.map_toArray, List.map_cons, List.map_nil]); first | done | rfl) ?_
    refine (sub_v n0 n1 A0 A1 c0 c1 xs0 xs1 _ (hK.rd _ _ _ (by repeat (first | exact List.mem_cons_self | apply List.mem_cons_of_mem))) (hK.rd _ _ _ (by repeat (first | exact List.mem_cons_self | apply List.mem_cons_of_mem))) (by omega) (by omega)  a b su1 E_a.out E_b.out E_su1.out).mono ?_
    rintro e w_15 ⟨A_su1, c_su1, rfl, hR, hb⟩
    refine ⟨_, rfl, ?_⟩
    replace hK := (hK.below hb).row hR
    clear hb hR
    refine hKK.out _ _ (⟨hK.at0 (by repeat (first | exact List.mem_cons_self | apply List.mem_cons_of_mem)), hK.at1 (by repeat (first | exact List.mem_cons_self | apply List.mem_cons_of_mem)), hK.at0 (by repeat (first | exact List.mem_cons_self | apply List.mem_cons_of_mem)), hK.at1 (by repeat (first | exact List.mem_cons_self | apply List.mem_cons_of_mem))⟩) (fun hHeld => ?_)
    refine norm_ (a' := ?_) ?_ ?_
    rotate_left
    · show Act.put _ (some 51) _ = _
      simp only [Act.put, List.setIfInBounds_toArray, List.set_cons_zero, List.set_cons_succ, i64_w, i32_w]
      rfl
    refine one_ (i := 43) (N := some 54) #[true, true, true, true, true, true, true, true, true, true, true, true, true, true, true, true, true, true, true, true, true, true, true, true, true, true, true, true, true, true, true, true, true, true, true, true, true, true, true, true, true, true, true, true, false, false, false, false, false, false, false, false, false, false, false, false, false, false, false] rfl rfl (by kernel_rfl) (by decide) (fun K hKK => ?_)
    refine goes_ Tryd.func33 (by kernel_rfl) rfl #[.agg #[.bool n0, .slice A0 xs0.length c0], .agg #[.bool n1, .slice A1 xs1.length c1]] (by rfl) rfl rfl (by (try simp only [List.map_toArray, List.map_cons, List.map_nil]); first | done | rfl) ?_
    refine (Sub_ref n0 n1 A0 A1 c0 c1 xs0 xs1 _ (hK.rd _ _ _ (by repeat (first | exact List.mem_cons_self | apply List.mem_cons_of_mem))) (hK.rd _ _ _ (by repeat (first | exact List.mem_cons_self | apply List.mem_cons_of_mem))) (by omega) (by omega)  a b su2 E_a.out E_b.out E_su2.out).mono ?_
    rintro e w_16 ⟨A_su2, c_su2, rfl, hR, hb⟩
    refine ⟨_, rfl, ?_⟩
    replace hK := (hK.below hb).row hR
    clear hb hR
    refine hKK.out _ _ (⟨hK.at0 (by repeat (first | exact List.mem_cons_self | apply List.mem_cons_of_mem)), hK.at1 (by repeat (first | exact List.mem_cons_self | apply List.mem_cons_of_mem)), hK.at0 (by repeat (first | exact List.mem_cons_self | apply List.mem_cons_of_mem)), hK.at1 (by repeat (first | exact List.mem_cons_self | apply List.mem_cons_of_mem))⟩) (fun hHeld => ?_)
    refine norm_ (a' := ?_) ?_ ?_
    rotate_left
    · show Act.put _ (some 54) _ = _
      simp only [Act.put, List.setIfInBounds_toArray, List.set_cons_zero, List.set_cons_succ, i64_w, i32_w]
      rfl
    refine one_ (i := 44) (N := some 55) #[true, true, true, true, true, true, true, true, true, true, true, true, true, true, true, true, true, true, true, true, true, true, true, true, true, true, true, true, true, true, true, true, true, true, true, true, true, true, true, true, true, true, true, true, true, false, false, false, false, false, false, false, false, false, false, false, false, false, false] rfl rfl (by kernel_rfl) (by decide) (fun K hKK => ?_)
    refine goes_ Tryd.func16 (by kernel_rfl) rfl #[.agg #[.bool (ng su1), .slice A_su1 (mg su1).length c_su1], .agg #[.bool (ng su2), .slice A_su2 (mg su2).length c_su2]] (by rfl) rfl rfl (by (try simp only [List.map_toArray, List.map_cons, List.map_nil]); first | done | rfl) ?_
    refine (same_v A_su1 A_su2 c_su1 c_su2 _ su1 su2 (hK.rd _ _ _ (by repeat (first | exact List.mem_cons_self | apply List.mem_cons_of_mem))) (hK.rd _ _ _ (by repeat (first | exact List.mem_cons_self | apply List.mem_cons_of_mem))) (by omega) (by omega) q_su.out).mono ?_
    rintro e w_17 ⟨rfl, hb⟩
    refine ⟨_, rfl, ?_⟩
    replace hK := hK.below hb
    clear hb
    refine hKK.out _ _ (⟨hK.at0 (by repeat (first | exact List.mem_cons_self | apply List.mem_cons_of_mem)), hK.at1 (by repeat (first | exact List.mem_cons_self | apply List.mem_cons_of_mem)), hK.at0 (by repeat (first | exact List.mem_cons_self | apply List.mem_cons_of_mem)), hK.at1 (by repeat (first | exact List.mem_cons_self | apply List.mem_cons_of_mem))⟩) (fun hHeld => ?_)
    refine norm_ (a' := ?_) ?_ ?_
    rotate_left
    · show Act.put _ (some 55) _ = _
      simp only [Act.put, List.setIfInBounds_toArray, List.set_cons_zero, List.set_cons_succ, i64_w, i32_w]
      rfl
    refine pure_ (i := 45) (N := some 56) (v := ?_) (a' := ?_) #[true, true, true, true, true, true, true, true, true, true, true, true, true, true, true, true, true, true, true, true, true, true, true, true, true, true, true, true, true, true, true, true, true, true, true, true, true, true, true, true, true, true, true, true, true, true, false, false, false, false, false, false, false, false, false, false, false, false, false] rfl rfl (by kernel_rfl) (fun _ _ _ h => h) (Or.inl ⟨by rfl, ?_⟩) ?_ ?_
    rotate_left
    · intro w'
      go_simp
      with_reducible rfl
    rotate_left
    · simp only [Act.put, List.setIfInBounds_toArray, List.set_cons_zero, List.set_cons_succ, i64_w, i32_w]
      rfl
    refine pure_ (i := 46) (N := some 57) (v := ?_) (a' := ?_) #[true, true, true, true, true, true, true, true, true, true, true, true, true, true, true, true, true, true, true, true, true, true, true, true, true, true, true, true, true, true, true, true, true, true, true, true, true, true, true, true, true, true, true, true, true, true, true, false, false, false, false, false, false, false, false, false, false, false, false] rfl rfl (by kernel_rfl) (fun _ _ _ h => h) (Or.inl ⟨by rfl, ?_⟩) ?_ ?_
    rotate_left
    · intro w'
      go_simp
      with_reducible rfl
    rotate_left
    · simp only [Act.put, List.setIfInBounds_toArray, List.set_cons_zero, List.set_cons_succ, i64_w, i32_w]
      rfl
    refine take_ (i := 47) (N := some 58) (v := ?_) (a' := ?_) #[true, true, true, true, true, true, true, true, true, true, true, true, true, true, true, true, true, true, true, true, true, true, true, true, true, true, true, true, true, true, true, true, true, true, true, true, true, true, true, true, true, true, true, true, true, true, true, true, false, false, false, false, false, false, false, false, false, false, false] rfl rfl (by kernel_rfl) (fun _ _ _ h => h) (Or.inl ⟨by rfl, ?_⟩) hHeld ?_ ?_
    rotate_left
    · rintro w' ⟨s0, s1, s2, s3⟩
      go_simp
      with_reducible rfl
    rotate_left
    · simp only [Act.put, List.setIfInBounds_toArray, List.set_cons_zero, List.set_cons_succ, i64_w, i32_w]
      rfl
    refine take_ (i := 48) (N := some 59) (v := ?_) (a' := ?_) #[true, true, true, true, true, true, true, true, true, true, true, true, true, true, true, true, true, true, true, true, true, true, true, true, true, true, true, true, true, true, true, true, true, true, true, true, true, true, true, true, true, true, true, true, true, true, true, true, true, false, false, false, false, false, false, false, false, false, false] rfl rfl (by kernel_rfl) (fun _ _ _ h => h) (Or.inl ⟨by rfl, ?_⟩) hHeld ?_ ?_
    rotate_left
    · rintro w' ⟨s0, s1, s2, s3⟩
      go_simp
      with_reducible rfl
    rotate_left
    · simp only [Act.put, List.setIfInBounds_toArray, List.set_cons_zero, List.set_cons_succ, i64_w, i32_w]
      rfl
    refine take_ (i := 50) (N := some 61) (v := ?_) (a' := ?_) #[true, true, true, true, true, true, true, true, true, true, true, true, true, true, true, true, true, true, true, true, true, true, true, true, true, true, true, true, true, true, true, true, true, true, true, true, true, true, true, true, true, true, true, true, true, true, true, true, true, false, true, false, false, false, false, false, false, false, false] rfl rfl (by kernel_rfl) (fun _ _ _ h => h) (Or.inl ⟨by rfl, ?_⟩) hHeld ?_ ?_
    rotate_left
    · rintro w' ⟨s0, s1, s2, s3⟩
      go_simp
      with_reducible rfl
    rotate_left
    · simp only [Act.put, List.setIfInBounds_toArray, List.set_cons_zero, List.set_cons_succ, i64_w, i32_w]
      rfl
    refine take_ (i := 51) (N := some 62) (v := ?_) (a' := ?_) #[true, true, true, true, true, true, true, true, true, true, true, true, true, true, true, true, true, true, true, true, true, true, true, true, true, true, true, true, true, true, true, true, true, true, true, true, true, true, true, true, true, true, true, true, true, true, true, true, true, false, true, true, false, false, false, false, false, false, false] rfl rfl (by kernel_rfl) (fun _ _ _ h => h) (Or.inl ⟨by rfl, ?_⟩) hHeld ?_ ?_
    rotate_left
    · rintro w' ⟨s0, s1, s2, s3⟩
      go_simp
      with_reducible rfl
    rotate_left
    · simp only [Act.put, List.setIfInBounds_toArray, List.set_cons_zero, List.set_cons_succ, i64_w, i32_w]
      rfl
    refine one_ (i := 49) (N := some 60) #[true, true, true, true, true, true, true, true, true, true, true, true, true, true, true, true, true, true, true, true, true, true, true, true, true, true, true, true, true, true, true, true, true, true, true, true, true, true, true, true, true, true, true, true, true, true, true, true, true, true, true, true, false, false, false, false, false, false, false] rfl rfl (by kernel_rfl) (by decide) (fun K hKK => ?_)
    refine goes_ Tryd.func18 (by kernel_rfl) rfl #[.agg #[.bool n0, .slice A0 xs0.length c0], .agg #[.bool n1, .slice A1 xs1.length c1]] (by rfl) rfl rfl (by (try simp only [List.map_toArray, List.map_cons, List.map_nil]); first | done | rfl) ?_
    refine (mul_v n0 n1 A0 A1 c0 c1 xs0 xs1 _ (hK.rd _ _ _ (by repeat (first | exact List.mem_cons_self | apply List.mem_cons_of_mem))) (hK.rd _ _ _ (by repeat (first | exact List.mem_cons_self | apply List.mem_cons_of_mem))) (by omega) (by omega)  a b mu1 E_a.out E_b.out E_mu1.out).mono ?_
    rintro e w_18 ⟨A_mu1, c_mu1, rfl, hR, hb⟩
    refine ⟨_, rfl, ?_⟩
    replace hK := (hK.below hb).row hR
    clear hb hR
    refine hKK.out _ _ (⟨hK.at0 (by repeat (first | exact List.mem_cons_self | apply List.mem_cons_of_mem)), hK.at1 (by repeat (first | exact List.mem_cons_self | apply List.mem_cons_of_mem)), hK.at0 (by repeat (first | exact List.mem_cons_self | apply List.mem_cons_of_mem)), hK.at1 (by repeat (first | exact List.mem_cons_self | apply List.mem_cons_of_mem))⟩) (fun hHeld => ?_)
    refine norm_ (a' := ?_) ?_ ?_
    rotate_left
    · show Act.put _ (some 60) _ = _
      simp only [Act.put, List.setIfInBounds_toArray, List.set_cons_zero, List.set_cons_succ, i64_w, i32_w]
      rfl
    refine one_ (i := 52) (N := some 63) #[true, true, true, true, true, true, true, true, true, true, true, true, true, true, true, true, true, true, true, true, true, true, true, true, true, true, true, true, true, true, true, true, true, true, true, true, true, true, true, true, true, true, true, true, true, true, true, true, true, true, true, true, true, false, false, false, false, false, false] rfl rfl (by kernel_rfl) (by decide) (fun K hKK => ?_)
    refine goes_ Tryd.func34 (by kernel_rfl) rfl #[.agg #[.bool n0, .slice A0 xs0.length c0], .agg #[.bool n1, .slice A1 xs1.length c1]] (by rfl) rfl rfl (by (try simp only [List.map_toArray, List.map_cons, List.map_nil]); first | done | rfl) ?_
    refine (Mul_ref n0 n1 A0 A1 c0 c1 xs0 xs1 _ (hK.rd _ _ _ (by repeat (first | exact List.mem_cons_self | apply List.mem_cons_of_mem))) (hK.rd _ _ _ (by repeat (first | exact List.mem_cons_self | apply List.mem_cons_of_mem))) (by omega) (by omega)  a b mu2 E_a.out E_b.out E_mu2.out).mono ?_
    rintro e w_19 ⟨A_mu2, c_mu2, rfl, hR, hb⟩
    refine ⟨_, rfl, ?_⟩
    replace hK := (hK.below hb).row hR
    clear hb hR
    refine hKK.out _ _ (⟨hK.at0 (by repeat (first | exact List.mem_cons_self | apply List.mem_cons_of_mem)), hK.at1 (by repeat (first | exact List.mem_cons_self | apply List.mem_cons_of_mem)), hK.at0 (by repeat (first | exact List.mem_cons_self | apply List.mem_cons_of_mem)), hK.at1 (by repeat (first | exact List.mem_cons_self | apply List.mem_cons_of_mem))⟩) (fun hHeld => ?_)
    refine norm_ (a' := ?_) ?_ ?_
    rotate_left
    · show Act.put _ (some 63) _ = _
      simp only [Act.put, List.setIfInBounds_toArray, List.set_cons_zero, List.set_cons_succ, i64_w, i32_w]
      rfl
    refine one_ (i := 53) (N := some 64) #[true, true, true, true, true, true, true, true, true, true, true, true, true, true, true, true, true, true, true, true, true, true, true, true, true, true, true, true, true, true, true, true, true, true, true, true, true, true, true, true, true, true, true, true, true, true, true, true, true, true, true, true, true, true, false, false, false, false, false] rfl rfl (by kernel_rfl) (by decide) (fun K hKK => ?_)
    refine goes_ Tryd.func16 (by kernel_rfl) rfl #[.agg #[.bool (ng mu1), .slice A_mu1 (mg mu1).length c_mu1], .agg #[.bool (ng mu2), .slice A_mu2 (mg mu2).length c_mu2]] (by rfl) rfl rfl (by (try simp only [List.map_toArray, List.map_cons, List.map_nil]); first | done | rfl) ?_
    refine (same_v A_mu1 A_mu2 c_mu1 c_mu2 _ mu1 mu2 (hK.rd _ _ _ (by repeat (first | exact List.mem_cons_self | apply List.mem_cons_of_mem))) (hK.rd _ _ _ (by repeat (first | exact List.mem_cons_self | apply List.mem_cons_of_mem))) (by omega) (by omega) q_mu.out).mono ?_
    rintro e w_20 ⟨rfl, hb⟩
    refine ⟨_, rfl, ?_⟩
    replace hK := hK.below hb
    clear hb
    refine hKK.out _ _ (⟨hK.at0 (by repeat (first | exact List.mem_cons_self | apply List.mem_cons_of_mem)), hK.at1 (by repeat (first | exact List.mem_cons_self | apply List.mem_cons_of_mem)), hK.at0 (by repeat (first | exact List.mem_cons_self | apply List.mem_cons_of_mem)), hK.at1 (by repeat (first | exact List.mem_cons_self | apply List.mem_cons_of_mem))⟩) (fun hHeld => ?_)
    refine norm_ (a' := ?_) ?_ ?_
    rotate_left
    · show Act.put _ (some 64) _ = _
      simp only [Act.put, List.setIfInBounds_toArray, List.set_cons_zero, List.set_cons_succ, i64_w, i32_w]
      rfl
    refine pure_ (i := 54) (N := some 65) (v := ?_) (a' := ?_) #[true, true, true, true, true, true, true, true, true, true, true, true, true, true, true, true, true, true, true, true, true, true, true, true, true, true, true, true, true, true, true, true, true, true, true, true, true, true, true, true, true, true, true, true, true, true, true, true, true, true, true, true, true, true, true, false, false, false, false] rfl rfl (by kernel_rfl) (fun _ _ _ h => h) (Or.inl ⟨by rfl, ?_⟩) ?_ ?_
    rotate_left
    · intro w'
      go_simp
      with_reducible rfl
    rotate_left
    · simp only [Act.put, List.setIfInBounds_toArray, List.set_cons_zero, List.set_cons_succ, i64_w, i32_w]
      rfl
    refine pure_ (i := 55) (N := some 66) (v := ?_) (a' := ?_) #[true, true, true, true, true, true, true, true, true, true, true, true, true, true, true, true, true, true, true, true, true, true, true, true, true, true, true, true, true, true, true, true, true, true, true, true, true, true, true, true, true, true, true, true, true, true, true, true, true, true, true, true, true, true, true, true, false, false, false] rfl rfl (by kernel_rfl) (fun _ _ _ h => h) (Or.inl ⟨by rfl, ?_⟩) ?_ ?_
    rotate_left
    · intro w'
      go_simp
      with_reducible rfl
    rotate_left
    · simp only [Act.put, List.setIfInBounds_toArray, List.set_cons_zero, List.set_cons_succ, i64_w, i32_w]
      rfl
    refine one_ (i := 56) (N := some 67) #[true, true, true, true, true, true, true, true, true, true, true, true, true, true, true, true, true, true, true, true, true, true, true, true, true, true, true, true, true, true, true, true, true, true, true, true, true, true, true, true, true, true, true, true, true, true, true, true, true, true, true, true, true, true, true, true, true, false, false] rfl rfl (by kernel_rfl) (by decide) (fun K hKK => ?_)
    refine goes_ Tryd.func13 (by kernel_rfl) rfl #[] (by rfl) rfl rfl (by (try simp only [List.map_toArray, List.map_cons, List.map_nil]); first | done | rfl) ?_
    refine (awake_any _ (hT.below hK.be)).mono ?_
    rintro e w_21 ⟨rfl, hb⟩
    refine ⟨_, rfl, ?_⟩
    replace hK := hK.below hb
    clear hb
    refine hKK.out _ _ (⟨hK.at0 (by repeat (first | exact List.mem_cons_self | apply List.mem_cons_of_mem)), hK.at1 (by repeat (first | exact List.mem_cons_self | apply List.mem_cons_of_mem)), hK.at0 (by repeat (first | exact List.mem_cons_self | apply List.mem_cons_of_mem)), hK.at1 (by repeat (first | exact List.mem_cons_self | apply List.mem_cons_of_mem))⟩) (fun hHeld => ?_)
    refine norm_ (a' := ?_) ?_ ?_
    rotate_left
    · show Act.put _ (some 67) _ = _
      simp only [Act.put, List.setIfInBounds_toArray, List.set_cons_zero, List.set_cons_succ, i64_w, i32_w]
      rfl
    refine pure_ (i := 57) (N := some 68) (v := ?_) (a' := ?_) #[true, true, true, true, true, true, true, true, true, true, true, true, true, true, true, true, true, true, true, true, true, true, true, true, true, true, true, true, true, true, true, true, true, true, true, true, true, true, true, true, true, true, true, true, true, true, true, true, true, true, true, true, true, true, true, true, true, true, false] rfl rfl (by kernel_rfl) (fun _ _ _ h => h) (Or.inl ⟨by rfl, ?_⟩) ?_ ?_
    rotate_left
    · intro w'
      go_simp
      with_reducible rfl
    rotate_left
    · simp only [Act.put, List.setIfInBounds_toArray, List.set_cons_zero, List.set_cons_succ, i64_w, i32_w]
      rfl
    refine pure_ (i := 58) (N := some 4) (v := ?_) (a' := ?_) #[true, true, true, true, true, true, true, true, true, true, true, true, true, true, true, true, true, true, true, true, true, true, true, true, true, true, true, true, true, true, true, true, true, true, true, true, true, true, true, true, true, true, true, true, true, true, true, true, true, true, true, true, true, true, true, true, true, true, true] rfl rfl (by kernel_rfl) (fun _ _ _ h => h) (Or.inl ⟨by rfl, ?_⟩) ?_ ?_
    rotate_left
    · intro w'
      go_simp
      with_reducible rfl
    rotate_left
    · simp only [Act.put, List.setIfInBounds_toArray, List.set_cons_zero, List.set_cons_succ, i64_w, i32_w]
      rfl
    refine done_ (by kernel_rfl) ?_
    go_wp2
    go_ret
    exact ⟨rfl, hK.be⟩
end Go.Proofs.YtegnnghoiffmhaaDoor.Big
