/- The law IntegerPowers. -/
import Derived.Test.YtegnnghoiffmhaaDoorKSqrt
import Derived.Test.YtegnnghoiffmhaaDoorGLight
import Derived.Test.YtegnnghoiffmhaaDoorMB
import Derived.Test.YtegnnghoiffmhaaDoorIKinds
import Derived.Deep.DeepCutAuto
import Derived.Deep.RegionHeld3
namespace Go.Proofs.YtegnnghoiffmhaaDoor.Big
open Go.RowKit Go.Proofs.YtegnnghoiffmhaaDoorW.PrintWords Go.Proofs.YtegnnghoiffmhaaDoorW.PrintLast
set_option linter.unusedVariables false
set_option linter.unusedSimpArgs false
attribute [local go_sem ↓] Go.wp_at_zero Go.wp_at_succ

def PW (x n z err : Int) : Prop := ((n < 0 ∨ 64 < n) ∧ z = 0 ∧ err = 5) ∨ (0 ≤ n ∧ n ≤ 64 ∧ x ^ n.toNat = z ∧ err = 0)
def SQE (x z err : Int) : Prop := (x < 0 ∧ z = 0 ∧ err = 5) ∨ (0 ≤ x ∧ SQ x z ∧ err = 0)
theorem pw_ex (x n : Int) : ∃ z err, PW x n z err := by
  rcases (show (n < 0 ∨ 64 < n) ∨ (0 ≤ n ∧ n ≤ 64) by omega) with h | h
  · exact ⟨0, 5, Or.inl ⟨h, rfl, rfl⟩⟩
  · exact ⟨_, 0, Or.inr ⟨h.1, h.2, rfl, rfl⟩⟩
theorem sq_ex : ∀ n : Nat, ∃ r, SQ (n : Int) r
  | 0 => ⟨0, by unfold SQ; omega⟩
  | n + 1 => by
    obtain ⟨r, h1, h2, h3⟩ := sq_ex n
    by_cases h : (r + 1) * (r + 1) ≤ ((n + 1 : Nat) : Int)
    · refine ⟨r + 1, by omega, h, ?_⟩
      have : (r + 1 + 1) * (r + 1 + 1) = (r + 1) * (r + 1) + 2 * r + 3 := by grind
      omega
    · exact ⟨r, h1, by omega, by omega⟩
theorem sqe_ex (x : Int) : ∃ z err, SQE x z err := by
  rcases (show x < 0 ∨ 0 ≤ x by omega) with h | h
  · exact ⟨0, 5, Or.inl ⟨h, rfl, rfl⟩⟩
  · obtain ⟨n, rfl⟩ := Int.eq_ofNat_of_zero_le h
    obtain ⟨r, hr⟩ := sq_ex n
    exact ⟨r, 0, Or.inr ⟨h, hr, rfl⟩⟩
theorem pw_len {x n z err : Int} {N : Nat} (h : PW x n z err) (hx : (mg x).length ≤ N) : (mg z).length ≤ 64 * N + 1 := by
  rcases h with ⟨_, rfl, _⟩ | ⟨h0, h1, rfl, _⟩
  · rw [mg_zero]; simp
  · have key : ∀ k : Nat, (mg (x ^ k)).length ≤ k * N + 1 := by
      intro k
      induction k with
      | zero => have : (mg 1).length ≤ 1 := mg_len (by decide) (by decide); simpa using this
      | succ k ih => rw [Int.pow_succ]; exact mg_pow hx ih
    exact pow_bound (by omega) (key _)
theorem sqe_len {x z err : Int} {N : Nat} (h : SQE x z err) (hx : (mg x).length ≤ N) : (mg z).length ≤ N := by
  rcases h with ⟨_, rfl, _⟩ | ⟨h0, hs, _⟩
  · rw [mg_zero]; simp
  · exact mg_mono hs.1 (root_le hs.1 hs.2.1) hx
theorem pow_v_any (n0 : Bool) (A0 : Option Addr) (c0 : Nat) (xs0 : List Int) (w : World) (h0 : Rd w A0 c0 xs0) (hl0 : xs0.length ≤ 1000000000) (x n z err : Int) (e0 : iv n0 xs0 = x) (hP : PW x n z err) :
    Calls Tryd.prog 43 #[.agg #[.bool n0, .slice A0 xs0.length c0], .int .i64 n] w fun e w' => ResE e w w' z err := by
  rcases hP with ⟨h | h, rfl, rfl⟩ | ⟨h1, h2, h3, rfl⟩
  · exact pow_v_low n0 A0 c0 xs0 w h0 1000000000 (Nat.le_refl _) hl0 x n e0 h
  · exact pow_v_high n0 A0 c0 xs0 w h0 1000000000 (Nat.le_refl _) hl0 x n e0 h
  · obtain ⟨k, rfl⟩ := Int.eq_ofNat_of_zero_le h1
    exact pow_v_in n0 A0 c0 xs0 w h0 1000000000 (Nat.le_refl _) hl0 x k z e0 (by omega) (by simpa using h3)
theorem Pow_ref_any (n0 : Bool) (A0 : Option Addr) (c0 : Nat) (xs0 : List Int) (w : World) (h0 : Rd w A0 c0 xs0) (hl0 : xs0.length ≤ 1000000000) (x n z err : Int) (e0 : iv n0 xs0 = x) (hP : PW x n z err) :
    Calls Tryd.prog 44 #[.agg #[.bool n0, .slice A0 xs0.length c0], .int .i64 n] w fun e w' => ResE e w w' z err := by
  rcases hP with ⟨h | h, rfl, rfl⟩ | ⟨h1, h2, h3, rfl⟩
  · exact Pow_ref_low n0 A0 c0 xs0 w h0 1000000000 (Nat.le_refl _) hl0 x n e0 h
  · exact Pow_ref_high n0 A0 c0 xs0 w h0 1000000000 (Nat.le_refl _) hl0 x n e0 h
  · obtain ⟨k, rfl⟩ := Int.eq_ofNat_of_zero_le h1
    exact Pow_ref_in n0 A0 c0 xs0 w h0 1000000000 (Nat.le_refl _) hl0 x k z e0 (by omega) (by simpa using h3)
theorem sqrt_any (n0 : Bool) (A0 : Option Addr) (c0 : Nat) (xs0 : List Int) (w : World) (h0 : Rd w A0 c0 xs0) (hl0 : xs0.length ≤ 100000000) (x z err : Int) (e0 : iv n0 xs0 = x) (hP : SQE x z err) :
    Calls Tryd.prog 45 #[.agg #[.bool n0, .slice A0 xs0.length c0]] w fun e w' => ResE e w w' z err := by
  rcases hP with ⟨h, rfl, rfl⟩ | ⟨h1, h2, rfl⟩
  · exact sqrt_neg n0 A0 c0 xs0 w h0 100000000 (Nat.le_refl _) hl0 x e0 h
  · rcases (show x = 0 ∨ 0 < x by omega) with h | h
    · have ez : z = 0 := by subst h; exact sq_unique h2 (by unfold SQ; omega)
      subst ez
      exact sqrt_zero n0 A0 c0 xs0 w h0 100000000 (Nat.le_refl _) hl0 x e0 h
    · exact sqrt_pos n0 A0 c0 xs0 w h0 100000000 (Nat.le_refl _) hl0 x z e0 h h2
theorem Sqrt_ref_any (n0 : Bool) (A0 : Option Addr) (c0 : Nat) (xs0 : List Int) (w : World) (h0 : Rd w A0 c0 xs0) (hl0 : xs0.length ≤ 100000000) (x z err : Int) (e0 : iv n0 xs0 = x) (hP : SQE x z err) :
    Calls Tryd.prog 46 #[.agg #[.bool n0, .slice A0 xs0.length c0]] w fun e w' => ResE e w w' z err := by
  rcases hP with ⟨h, rfl, rfl⟩ | ⟨h1, h2, rfl⟩
  · exact Sqrt_ref_neg n0 A0 c0 xs0 w h0 100000000 (Nat.le_refl _) hl0 x e0 h
  · exact Sqrt_ref n0 A0 c0 xs0 w h0 100000000 (Nat.le_refl _) hl0 x z e0 h1 h2
set_option maxHeartbeats 4000000 in
set_option maxRecDepth 100000 in
theorem powers_no (n0 : Bool) (A0 : Option Addr) (c0 : Nat) (xs0 : List Int) (n : Int) (w : World) (h0 : Rd w A0 c0 xs0) (hl0 : xs0.length ≤ 35184372088832) (ho_n : -9223372036854775808 ≤ n ∧ n ≤ 9223372036854775807) (hT : Tab_p10 w) (hsum : ¬ [xs0.length].sum ≤ 60) :
    Calls Tryd.prog 11 #[.agg #[.bool n0, .slice A0 xs0.length c0], .int .i64 n] w fun e w' => e = .returned (.bool true) ∧ Below w.heap.size w w' := by
  have HT := Aside0.mk hT
  have HL := Aside0.mk (show decide ([xs0.length].sum ≤ 60) = false from decide_eq_false hsum)
  clear hT
  simp only [List.sum_cons, List.sum_nil, Nat.add_zero] at hsum
  have hK := ((KP.start w).row h0)
  go_enter Tryd.func11, Tryd.ntmps11
  go_upto_region 0 with (fail)
  go_cut [2, 4] (fun v2 v4 wc => ∃ (g2_1 : Nat), v2 = .pointer (some ⟨g2_1, 0, none⟩) ∧ v4 = .bool false ∧ Aside0 (KP w wc [(g2_1, [.bool n0, .slice A0 xs0.length c0], 24)] [(A0, c0, xs0)]))
  case first =>
    go_wp2
    go_meet
    all_goals refine ⟨_, rfl, rfl, ⟨?_⟩⟩
    all_goals first
      | (exact (hK.new [.bool n0, .slice A0 xs0.length c0] 24 (NoDig.bool _ (NoDig.slice _ _ _ NoDig.nil)) (by first | rfl | simp)))
  clear hK
  obtain ⟨g2_1, rfl, rfl, hK0⟩ := hcut
  have hK := hK0.out
  clear hK0
  go_upto_region 1 with (fail)
  go_cut [22] (fun v22 wc => v22 = .bool true ∧ Aside0 (KP w wc [(g2_1, [.bool n0, .slice A0 xs0.length c0], 24)] [(A0, c0, xs0)]))
  case first =>
    have hc := And.intro ((hK.at_ (g := g2_1) (cs := [.bool n0, .slice A0 xs0.length c0]) (t := 24) (by repeat (first | exact List.mem_cons_self | apply List.mem_cons_of_mem)) 0 rfl : World.cell? _ _ = some (.bool n0))) ((hK.at_ (g := g2_1) (cs := [.bool n0, .slice A0 xs0.length c0]) (t := 24) (by repeat (first | exact List.mem_cons_self | apply List.mem_cons_of_mem)) 1 rfl : World.cell? _ _ = some (.slice A0 xs0.length c0)))
    go_wp2_with (first | (go_at_call 12; (with_reducible refine (Light_1 n0 A0 xs0.length c0 _ _ hl0 false HL.out).mono ?_); rintro e w_1 ⟨rfl, hb⟩; replace hK := (hK.alloc _).below hb; clear hb; clear hc; have hc := And.intro ((hK.at_ (g := g2_1) (cs := [.bool n0, .slice A0 xs0.length c0]) (t := 24) (by repeat (first | exact List.mem_cons_self | apply List.mem_cons_of_mem)) 0 rfl : World.cell? _ _ = some (.bool n0))) ((hK.at_ (g := g2_1) (cs := [.bool n0, .slice A0 xs0.length c0]) (t := 24) (by repeat (first | exact List.mem_cons_self | apply List.mem_cons_of_mem)) 1 rfl : World.cell? _ _ = some (.slice A0 xs0.length c0)))))
    go_meet
    exact ⟨rfl, ⟨hK⟩⟩
  clear hK
  obtain ⟨rfl, hK0⟩ := hcut
  have hK := hK0.out
  clear hK0
  go_upto_region 2 with (fail)
  go_cut [4] (fun v4 wc => v4 = .bool true ∧ Aside0 (KP w wc [(g2_1, [.bool n0, .slice A0 xs0.length c0], 24)] [(A0, c0, xs0)]))
  case first =>
    go_wp2_with (first | (go_at_call 13; (with_reducible refine (awake_any _ (HT.out.below hK.be)).mono ?_); rintro e w_2 ⟨rfl, hb⟩; replace hK := hK.below hb; clear hb))
    go_meet
    exact ⟨rfl, ⟨hK⟩⟩
  clear hK
  obtain ⟨rfl, hK0⟩ := hcut
  have hK := hK0.out
  clear hK0
  go_wp2
  go_ret
  exact ⟨rfl, hK.be⟩
set_option maxHeartbeats 4000000 in
set_option maxRecDepth 100000 in
theorem powers_long (n0 : Bool) (A0 : Option Addr) (c0 : Nat) (xs0 : List Int) (n : Int) (w : World) (h0 : Rd w A0 c0 xs0) (hl0 : xs0.length ≤ 35184372088832) (ho_n : -9223372036854775808 ≤ n ∧ n ≤ 9223372036854775807) (hT : Tab_p10 w) (hsum : [xs0.length].sum ≤ 60) (h8 : 8 < xs0.length) :
    Calls Tryd.prog 11 #[.agg #[.bool n0, .slice A0 xs0.length c0], .int .i64 n] w fun e w' => e = .returned (.bool true) ∧ Below w.heap.size w w' := by
  have HT := Aside0.mk hT
  have HL := Aside0.mk (show decide ([xs0.length].sum ≤ 60) = true from decide_eq_true hsum)
  clear hT
  simp only [List.sum_cons, List.sum_nil, Nat.add_zero] at hsum
  obtain ⟨a, e0⟩ : ∃ z, iv n0 xs0 = z := ⟨_, rfl⟩
  have E_a := Aside0.mk e0
  have l_a : (mg a).length ≤ 60 := by rw [← e0]; exact mg_iv_le n0 h0.dig (by omega)
  clear e0
  have hK := ((KP.start w).row h0)
  have h8i : (8 : Int) < (xs0.length : Int) := by omega
  have hd8 : decide ((8 : Int) < (xs0.length : Int)) = true := decide_eq_true h8i
  go_enter Tryd.func11, Tryd.ntmps11
  go_upto_region 0 with (fail)
  go_cut [2, 4] (fun v2 v4 wc => ∃ (g2_1 : Nat), v2 = .pointer (some ⟨g2_1, 0, none⟩) ∧ v4 = .bool false ∧ Aside0 (KP w wc [(g2_1, [.bool n0, .slice A0 xs0.length c0], 24)] [(A0, c0, xs0)]))
  case first =>
    go_wp2
    go_meet
    all_goals refine ⟨_, rfl, rfl, ⟨?_⟩⟩
    all_goals first
      | (exact (hK.new [.bool n0, .slice A0 xs0.length c0] 24 (NoDig.bool _ (NoDig.slice _ _ _ NoDig.nil)) (by first | rfl | simp)))
  clear hK
  obtain ⟨g2_1, rfl, rfl, hK0⟩ := hcut
  have hK := hK0.out
  clear hK0
  go_upto_region 1 with (fail)
  go_cut [22] (fun v22 wc => v22 = .bool true ∧ Aside0 (KP w wc [(g2_1, [.bool n0, .slice A0 xs0.length c0], 24)] [(A0, c0, xs0)]))
  case first =>
    have hc := And.intro ((hK.at_ (g := g2_1) (cs := [.bool n0, .slice A0 xs0.length c0]) (t := 24) (by repeat (first | exact List.mem_cons_self | apply List.mem_cons_of_mem)) 0 rfl : World.cell? _ _ = some (.bool n0))) ((hK.at_ (g := g2_1) (cs := [.bool n0, .slice A0 xs0.length c0]) (t := 24) (by repeat (first | exact List.mem_cons_self | apply List.mem_cons_of_mem)) 1 rfl : World.cell? _ _ = some (.slice A0 xs0.length c0)))
    go_wp2_with (first | (go_at_call 12; (with_reducible refine (Light_1 n0 A0 xs0.length c0 _ _ hl0 true HL.out).mono ?_); rintro e w_1 ⟨rfl, hb⟩; replace hK := (hK.alloc _).below hb; clear hb; clear hc; have hc := And.intro ((hK.at_ (g := g2_1) (cs := [.bool n0, .slice A0 xs0.length c0]) (t := 24) (by repeat (first | exact List.mem_cons_self | apply List.mem_cons_of_mem)) 0 rfl : World.cell? _ _ = some (.bool n0))) ((hK.at_ (g := g2_1) (cs := [.bool n0, .slice A0 xs0.length c0]) (t := 24) (by repeat (first | exact List.mem_cons_self | apply List.mem_cons_of_mem)) 1 rfl : World.cell? _ _ = some (.slice A0 xs0.length c0)))))
    go_meet
    exact ⟨rfl, ⟨hK⟩⟩
  clear hK
  obtain ⟨rfl, hK0⟩ := hcut
  have hK := hK0.out
  clear hK0
  go_upto_region 2 with (fail)
  go_cut [4] (fun v4 wc => v4 = .bool true ∧ Aside0 (KP w wc [(g2_1, [.bool n0, .slice A0 xs0.length c0], 24)] [(A0, c0, xs0)]))
  case first =>
    go_wp2_with (first | (go_at_call 13; (with_reducible refine (awake_any _ (HT.out.below hK.be)).mono ?_); rintro e w_2 ⟨rfl, hb⟩; replace hK := hK.below hb; clear hb))
    go_meet
    exact ⟨rfl, ⟨hK⟩⟩
  clear hK
  obtain ⟨rfl, hK0⟩ := hcut
  have hK := hK0.out
  clear hK0
  go_wp2
  go_ret
  exact ⟨rfl, hK.be⟩
set_option maxHeartbeats 4000000 in
set_option maxRecDepth 100000 in
theorem powers_yes (n0 : Bool) (A0 : Option Addr) (c0 : Nat) (xs0 : List Int) (n : Int) (w : World) (h0 : Rd w A0 c0 xs0) (hl0 : xs0.length ≤ 35184372088832) (ho_n : -9223372036854775808 ≤ n ∧ n ≤ 9223372036854775807) (hT : Tab_p10 w) (hsum : [xs0.length].sum ≤ 60) (h8 : ¬ 8 < xs0.length) :
    Calls Tryd.prog 11 #[.agg #[.bool n0, .slice A0 xs0.length c0], .int .i64 n] w fun e w' => e = .returned (.bool true) ∧ Below w.heap.size w w' := by
  have HT := Aside0.mk hT
  have HL := Aside0.mk (show decide ([xs0.length].sum ≤ 60) = true from decide_eq_true hsum)
  clear hT
  simp only [List.sum_cons, List.sum_nil, Nat.add_zero] at hsum
  obtain ⟨a, e0⟩ : ∃ z, iv n0 xs0 = z := ⟨_, rfl⟩
  have E_a := Aside0.mk e0
  have l_a : (mg a).length ≤ 60 := by rw [← e0]; exact mg_iv_le n0 h0.dig (by omega)
  clear e0
  have hK := ((KP.start w).row h0)
  have h8i : ¬ (8 : Int) < (xs0.length : Int) := by omega
  have hd8 : decide ((8 : Int) < (xs0.length : Int)) = false := decide_eq_false h8i
  obtain ⟨p, e, hp⟩ := pw_ex a n
  have HPW := Aside0.mk hp
  have l_p : (mg p).length ≤ 4000 := by have := pw_len hp l_a; omega
  obtain ⟨r, g, hr⟩ := sqe_ex a
  have HSQ := Aside0.mk hr
  have l_r : (mg r).length ≤ 60 := sqe_len hr l_a
  obtain ⟨bx, hbx⟩ : ∃ b, (bl (a.natAbs : Int) : Int) = b := ⟨_, rfl⟩
  have HBX := Aside0.mk hbx
  clear hp hr hbx
  go_enter Tryd.func11, Tryd.ntmps11
  go_upto_region 0 with (fail)
  go_cut [2, 4] (fun v2 v4 wc => ∃ (g2_1 : Nat), v2 = .pointer (some ⟨g2_1, 0, none⟩) ∧ v4 = .bool false ∧ Aside0 (KP w wc [(g2_1, [.bool n0, .slice A0 xs0.length c0], 24)] [(A0, c0, xs0)]))
  case first =>
    go_wp2
    go_meet
    all_goals refine ⟨_, rfl, rfl, ⟨?_⟩⟩
    all_goals first
      | (exact (hK.new [.bool n0, .slice A0 xs0.length c0] 24 (NoDig.bool _ (NoDig.slice _ _ _ NoDig.nil)) (by first | rfl | simp)))
  clear hK
  obtain ⟨g2_1, rfl, rfl, hK0⟩ := hcut
  have hK := hK0.out
  clear hK0
  go_upto_region 1 with (fail)
  go_cut [22] (fun v22 wc => v22 = .bool false ∧ Aside0 (KP w wc [(g2_1, [.bool n0, .slice A0 xs0.length c0], 24)] [(A0, c0, xs0)]))
  case first =>
    have hc := And.intro ((hK.at_ (g := g2_1) (cs := [.bool n0, .slice A0 xs0.length c0]) (t := 24) (by repeat (first | exact List.mem_cons_self | apply List.mem_cons_of_mem)) 0 rfl : World.cell? _ _ = some (.bool n0))) ((hK.at_ (g := g2_1) (cs := [.bool n0, .slice A0 xs0.length c0]) (t := 24) (by repeat (first | exact List.mem_cons_self | apply List.mem_cons_of_mem)) 1 rfl : World.cell? _ _ = some (.slice A0 xs0.length c0)))
    go_wp2_with (first | (go_at_call 12; (with_reducible refine (Light_1 n0 A0 xs0.length c0 _ _ hl0 true HL.out).mono ?_); rintro e w_1 ⟨rfl, hb⟩; replace hK := (hK.alloc _).below hb; clear hb; clear hc; have hc := And.intro ((hK.at_ (g := g2_1) (cs := [.bool n0, .slice A0 xs0.length c0]) (t := 24) (by repeat (first | exact List.mem_cons_self | apply List.mem_cons_of_mem)) 0 rfl : World.cell? _ _ = some (.bool n0))) ((hK.at_ (g := g2_1) (cs := [.bool n0, .slice A0 xs0.length c0]) (t := 24) (by repeat (first | exact List.mem_cons_self | apply List.mem_cons_of_mem)) 1 rfl : World.cell? _ _ = some (.slice A0 xs0.length c0)))))
    go_meet
    exact ⟨rfl, ⟨hK⟩⟩
  clear hK
  obtain ⟨rfl, hK0⟩ := hcut
  have hK := hK0.out
  clear hK0
  go_upto_region 3 with (fail)
  go_cut [5, 6] (fun v5 v6 wc => ∃ (g5_3 : Nat) (A_p_2 : Option Addr) (c_p_2 : Nat), v5 = .pointer (some ⟨g5_3, 0, none⟩) ∧ v6 = .int .i64 e ∧ Aside0 (KP w wc [(g5_3, [.bool (ng p), .slice A_p_2 (mg p).length c_p_2], 24), (g2_1, [.bool n0, .slice A0 xs0.length c0], 24)] [(A_p_2, c_p_2, (mg p)), (A0, c0, xs0)]))
  case first =>
    have hc := And.intro ((hK.at_ (g := g2_1) (cs := [.bool n0, .slice A0 xs0.length c0]) (t := 24) (by repeat (first | exact List.mem_cons_self | apply List.mem_cons_of_mem)) 0 rfl : World.cell? _ _ = some (.bool n0))) ((hK.at_ (g := g2_1) (cs := [.bool n0, .slice A0 xs0.length c0]) (t := 24) (by repeat (first | exact List.mem_cons_self | apply List.mem_cons_of_mem)) 1 rfl : World.cell? _ _ = some (.slice A0 xs0.length c0)))
    go_wp2_with (first | (go_at_call 43; (with_reducible refine (pow_v_any n0 A0 c0 xs0 _ (hK.rd _ _ _ (by repeat (first | exact List.mem_cons_self | apply List.mem_cons_of_mem))) (by omega) a n p e E_a.out HPW.out).mono ?_); rintro e w_2 ⟨A_p_2, c_p_2, rfl, hR, hb⟩; replace hK := (hK.below hb).row hR; clear hb hR; clear hc; have hc := And.intro ((hK.at_ (g := g2_1) (cs := [.bool n0, .slice A0 xs0.length c0]) (t := 24) (by repeat (first | exact List.mem_cons_self | apply List.mem_cons_of_mem)) 0 rfl : World.cell? _ _ = some (.bool n0))) ((hK.at_ (g := g2_1) (cs := [.bool n0, .slice A0 xs0.length c0]) (t := 24) (by repeat (first | exact List.mem_cons_self | apply List.mem_cons_of_mem)) 1 rfl : World.cell? _ _ = some (.slice A0 xs0.length c0)))))
    go_meet
    all_goals refine ⟨_, A_p_2, c_p_2, rfl, rfl, ⟨?_⟩⟩
    all_goals first
      | (exact (hK.new [.bool (ng p), .slice A_p_2 (mg p).length c_p_2] 24 (NoDig.bool _ (NoDig.slice _ _ _ NoDig.nil)) (by first | rfl | simp)))
  clear hK
  obtain ⟨g5_3, A_p_2, c_p_2, rfl, rfl, hK0⟩ := hcut
  have hK := hK0.out
  clear hK0
  go_upto_region 4 with (fail)
  go_cut [7, 8] (fun v7 v8 wc => ∃ (g7_5 : Nat) (A_p_4 : Option Addr) (c_p_4 : Nat), v7 = .pointer (some ⟨g7_5, 0, none⟩) ∧ v8 = .int .i64 e ∧ Aside0 (KP w wc [(g7_5, [.bool (ng p), .slice A_p_4 (mg p).length c_p_4], 24), (g5_3, [.bool (ng p), .slice A_p_2 (mg p).length c_p_2], 24), (g2_1, [.bool n0, .slice A0 xs0.length c0], 24)] [(A_p_4, c_p_4, (mg p)), (A_p_2, c_p_2, (mg p)), (A0, c0, xs0)]))
  case first =>
    have hc := And.intro ((hK.at_ (g := g2_1) (cs := [.bool n0, .slice A0 xs0.length c0]) (t := 24) (by repeat (first | exact List.mem_cons_self | apply List.mem_cons_of_mem)) 0 rfl : World.cell? _ _ = some (.bool n0))) ((hK.at_ (g := g2_1) (cs := [.bool n0, .slice A0 xs0.length c0]) (t := 24) (by repeat (first | exact List.mem_cons_self | apply List.mem_cons_of_mem)) 1 rfl : World.cell? _ _ = some (.slice A0 xs0.length c0)))
    go_wp2_with (first | (go_at_call 44; (with_reducible refine (Pow_ref_any n0 A0 c0 xs0 _ (hK.rd _ _ _ (by repeat (first | exact List.mem_cons_self | apply List.mem_cons_of_mem))) (by omega) a n p e E_a.out HPW.out).mono ?_); rintro e w_3 ⟨A_p_4, c_p_4, rfl, hR, hb⟩; replace hK := (hK.below hb).row hR; clear hb hR; clear hc; have hc := And.intro ((hK.at_ (g := g2_1) (cs := [.bool n0, .slice A0 xs0.length c0]) (t := 24) (by repeat (first | exact List.mem_cons_self | apply List.mem_cons_of_mem)) 0 rfl : World.cell? _ _ = some (.bool n0))) ((hK.at_ (g := g2_1) (cs := [.bool n0, .slice A0 xs0.length c0]) (t := 24) (by repeat (first | exact List.mem_cons_self | apply List.mem_cons_of_mem)) 1 rfl : World.cell? _ _ = some (.slice A0 xs0.length c0)))))
    go_meet
    all_goals refine ⟨_, A_p_4, c_p_4, rfl, rfl, ⟨?_⟩⟩
    all_goals first
      | (exact (hK.new [.bool (ng p), .slice A_p_4 (mg p).length c_p_4] 24 (NoDig.bool _ (NoDig.slice _ _ _ NoDig.nil)) (by first | rfl | simp)))
  clear hK
  obtain ⟨g7_5, A_p_4, c_p_4, rfl, rfl, hK0⟩ := hcut
  have hK := hK0.out
  clear hK0
  go_upto_region 5 with (fail)
  go_cut [9, 10] (fun v9 v10 wc => ∃ (g9_7 : Nat) (A_r_6 : Option Addr) (c_r_6 : Nat), v9 = .pointer (some ⟨g9_7, 0, none⟩) ∧ v10 = .int .i64 g ∧ Aside0 (KP w wc [(g9_7, [.bool (ng r), .slice A_r_6 (mg r).length c_r_6], 24), (g7_5, [.bool (ng p), .slice A_p_4 (mg p).length c_p_4], 24), (g5_3, [.bool (ng p), .slice A_p_2 (mg p).length c_p_2], 24), (g2_1, [.bool n0, .slice A0 xs0.length c0], 24)] [(A_r_6, c_r_6, (mg r)), (A_p_4, c_p_4, (mg p)), (A_p_2, c_p_2, (mg p)), (A0, c0, xs0)]))
  case first =>
    have hc := And.intro ((hK.at_ (g := g2_1) (cs := [.bool n0, .slice A0 xs0.length c0]) (t := 24) (by repeat (first | exact List.mem_cons_self | apply List.mem_cons_of_mem)) 0 rfl : World.cell? _ _ = some (.bool n0))) ((hK.at_ (g := g2_1) (cs := [.bool n0, .slice A0 xs0.length c0]) (t := 24) (by repeat (first | exact List.mem_cons_self | apply List.mem_cons_of_mem)) 1 rfl : World.cell? _ _ = some (.slice A0 xs0.length c0)))
    go_wp2_with (first | (go_at_call 45; (with_reducible refine (sqrt_any n0 A0 c0 xs0 _ (hK.rd _ _ _ (by repeat (first | exact List.mem_cons_self | apply List.mem_cons_of_mem))) (by omega) a r g E_a.out HSQ.out).mono ?_); rintro e w_4 ⟨A_r_6, c_r_6, rfl, hR, hb⟩; replace hK := (hK.below hb).row hR; clear hb hR; clear hc; have hc := And.intro ((hK.at_ (g := g2_1) (cs := [.bool n0, .slice A0 xs0.length c0]) (t := 24) (by repeat (first | exact List.mem_cons_self | apply List.mem_cons_of_mem)) 0 rfl : World.cell? _ _ = some (.bool n0))) ((hK.at_ (g := g2_1) (cs := [.bool n0, .slice A0 xs0.length c0]) (t := 24) (by repeat (first | exact List.mem_cons_self | apply List.mem_cons_of_mem)) 1 rfl : World.cell? _ _ = some (.slice A0 xs0.length c0)))))
    go_meet
    all_goals refine ⟨_, A_r_6, c_r_6, rfl, rfl, ⟨?_⟩⟩
    all_goals first
      | (exact (hK.new [.bool (ng r), .slice A_r_6 (mg r).length c_r_6] 24 (NoDig.bool _ (NoDig.slice _ _ _ NoDig.nil)) (by first | rfl | simp)))
  clear hK
  obtain ⟨g9_7, A_r_6, c_r_6, rfl, rfl, hK0⟩ := hcut
  have hK := hK0.out
  clear hK0
  go_upto_region 6 with (fail)
  go_cut [11, 12] (fun v11 v12 wc => ∃ (g11_9 : Nat) (A_r_8 : Option Addr) (c_r_8 : Nat), v11 = .pointer (some ⟨g11_9, 0, none⟩) ∧ v12 = .int .i64 g ∧ Aside0 (KP w wc [(g11_9, [.bool (ng r), .slice A_r_8 (mg r).length c_r_8], 24), (g9_7, [.bool (ng r), .slice A_r_6 (mg r).length c_r_6], 24), (g7_5, [.bool (ng p), .slice A_p_4 (mg p).length c_p_4], 24), (g5_3, [.bool (ng p), .slice A_p_2 (mg p).length c_p_2], 24), (g2_1, [.bool n0, .slice A0 xs0.length c0], 24)] [(A_r_8, c_r_8, (mg r)), (A_r_6, c_r_6, (mg r)), (A_p_4, c_p_4, (mg p)), (A_p_2, c_p_2, (mg p)), (A0, c0, xs0)]))
  case first =>
    have hc := And.intro ((hK.at_ (g := g2_1) (cs := [.bool n0, .slice A0 xs0.length c0]) (t := 24) (by repeat (first | exact List.mem_cons_self | apply List.mem_cons_of_mem)) 0 rfl : World.cell? _ _ = some (.bool n0))) ((hK.at_ (g := g2_1) (cs := [.bool n0, .slice A0 xs0.length c0]) (t := 24) (by repeat (first | exact List.mem_cons_self | apply List.mem_cons_of_mem)) 1 rfl : World.cell? _ _ = some (.slice A0 xs0.length c0)))
    go_wp2_with (first | (go_at_call 46; (with_reducible refine (Sqrt_ref_any n0 A0 c0 xs0 _ (hK.rd _ _ _ (by repeat (first | exact List.mem_cons_self | apply List.mem_cons_of_mem))) (by omega) a r g E_a.out HSQ.out).mono ?_); rintro e w_5 ⟨A_r_8, c_r_8, rfl, hR, hb⟩; replace hK := (hK.below hb).row hR; clear hb hR; clear hc; have hc := And.intro ((hK.at_ (g := g2_1) (cs := [.bool n0, .slice A0 xs0.length c0]) (t := 24) (by repeat (first | exact List.mem_cons_self | apply List.mem_cons_of_mem)) 0 rfl : World.cell? _ _ = some (.bool n0))) ((hK.at_ (g := g2_1) (cs := [.bool n0, .slice A0 xs0.length c0]) (t := 24) (by repeat (first | exact List.mem_cons_self | apply List.mem_cons_of_mem)) 1 rfl : World.cell? _ _ = some (.slice A0 xs0.length c0)))))
    go_meet
    all_goals refine ⟨_, A_r_8, c_r_8, rfl, rfl, ⟨?_⟩⟩
    all_goals first
      | (exact (hK.new [.bool (ng r), .slice A_r_8 (mg r).length c_r_8] 24 (NoDig.bool _ (NoDig.slice _ _ _ NoDig.nil)) (by first | rfl | simp)))
  clear hK
  obtain ⟨g11_9, A_r_8, c_r_8, rfl, rfl, hK0⟩ := hcut
  have hK := hK0.out
  clear hK0
  go_upto_region 7 with (fail)
  go_cut [4] (fun v4 wc => v4 = .bool true ∧ Aside0 (KP w wc [(g11_9, [.bool (ng r), .slice A_r_8 (mg r).length c_r_8], 24), (g9_7, [.bool (ng r), .slice A_r_6 (mg r).length c_r_6], 24), (g7_5, [.bool (ng p), .slice A_p_4 (mg p).length c_p_4], 24), (g5_3, [.bool (ng p), .slice A_p_2 (mg p).length c_p_2], 24), (g2_1, [.bool n0, .slice A0 xs0.length c0], 24)] [(A_r_8, c_r_8, (mg r)), (A_r_6, c_r_6, (mg r)), (A_p_4, c_p_4, (mg p)), (A_p_2, c_p_2, (mg p)), (A0, c0, xs0)]))
  case first =>
    replace hK := hK.drew
    refine start_ (n := 29) (S := (fun W => W.cell? ⟨g5_3, 0, none⟩ = some (.bool (ng p)) ∧ W.cell? ⟨g5_3, 1, none⟩ = some (.slice A_p_2 (mg p).length c_p_2) ∧ W.cell? ⟨g7_5, 0, none⟩ = some (.bool (ng p)) ∧ W.cell? ⟨g7_5, 1, none⟩ = some (.slice A_p_4 (mg p).length c_p_4) ∧ W.cell? ⟨g9_7, 0, none⟩ = some (.bool (ng r)) ∧ W.cell? ⟨g9_7, 1, none⟩ = some (.slice A_r_6 (mg r).length c_r_6) ∧ W.cell? ⟨g11_9, 0, none⟩ = some (.bool (ng r)) ∧ W.cell? ⟨g11_9, 1, none⟩ = some (.slice A_r_8 (mg r).length c_r_8) ∧ W.cell? ⟨g2_1, 0, none⟩ = some (.bool n0) ∧ W.cell? ⟨g2_1, 1, none⟩ = some (.slice A0 xs0.length c0))) (ds := []) #[false, false, false, false, false, false, false, false, false, false, false, false, false, false, false, false, false, false, false, false, false, false, false, false, false, false, false, false, false] (by kernel_rfl) rfl rfl (And.intro ((hK.at_ (g := g5_3) (cs := [.bool (ng p), .slice A_p_2 (mg p).length c_p_2]) (t := 24) (by repeat (first | exact List.mem_cons_self | apply List.mem_cons_of_mem)) 0 rfl : World.cell? _ _ = some (.bool (ng p)))) (And.intro ((hK.at_ (g := g5_3) (cs := [.bool (ng p), .slice A_p_2 (mg p).length c_p_2]) (t := 24) (by repeat (first | exact List.mem_cons_self | apply List.mem_cons_of_mem)) 1 rfl : World.cell? _ _ = some (.slice A_p_2 (mg p).length c_p_2))) (And.intro ((hK.at_ (g := g7_5) (cs := [.bool (ng p), .slice A_p_4 (mg p).length c_p_4]) (t := 24) (by repeat (first | exact List.mem_cons_self | apply List.mem_cons_of_mem)) 0 rfl : World.cell? _ _ = some (.bool (ng p)))) (And.intro ((hK.at_ (g := g7_5) (cs := [.bool (ng p), .slice A_p_4 (mg p).length c_p_4]) (t := 24) (by repeat (first | exact List.mem_cons_self | apply List.mem_cons_of_mem)) 1 rfl : World.cell? _ _ = some (.slice A_p_4 (mg p).length c_p_4))) (And.intro ((hK.at_ (g := g9_7) (cs := [.bool (ng r), .slice A_r_6 (mg r).length c_r_6]) (t := 24) (by repeat (first | exact List.mem_cons_self | apply List.mem_cons_of_mem)) 0 rfl : World.cell? _ _ = some (.bool (ng r)))) (And.intro ((hK.at_ (g := g9_7) (cs := [.bool (ng r), .slice A_r_6 (mg r).length c_r_6]) (t := 24) (by repeat (first | exact List.mem_cons_self | apply List.mem_cons_of_mem)) 1 rfl : World.cell? _ _ = some (.slice A_r_6 (mg r).length c_r_6))) (And.intro ((hK.at_ (g := g11_9) (cs := [.bool (ng r), .slice A_r_8 (mg r).length c_r_8]) (t := 24) (by repeat (first | exact List.mem_cons_self | apply List.mem_cons_of_mem)) 0 rfl : World.cell? _ _ = some (.bool (ng r)))) (And.intro ((hK.at_ (g := g11_9) (cs := [.bool (ng r), .slice A_r_8 (mg r).length c_r_8]) (t := 24) (by repeat (first | exact List.mem_cons_self | apply List.mem_cons_of_mem)) 1 rfl : World.cell? _ _ = some (.slice A_r_8 (mg r).length c_r_8))) (And.intro ((hK.at_ (g := g2_1) (cs := [.bool n0, .slice A0 xs0.length c0]) (t := 24) (by repeat (first | exact List.mem_cons_self | apply List.mem_cons_of_mem)) 0 rfl : World.cell? _ _ = some (.bool n0))) ((hK.at_ (g := g2_1) (cs := [.bool n0, .slice A0 xs0.length c0]) (t := 24) (by repeat (first | exact List.mem_cons_self | apply List.mem_cons_of_mem)) 1 rfl : World.cell? _ _ = some (.slice A0 xs0.length c0)))))))))))) (fun hHeld => ?_)
    generalize World.drew _ = wd at hK hHeld ⊢
    refine pure_ (i := 0) (N := some 46) (v := ?_) (a' := ?_) #[true, false, false, false, false, false, false, false, false, false, false, false, false, false, false, false, false, false, false, false, false, false, false, false, false, false, false, false, false] rfl rfl (by kernel_rfl) (fun _ _ _ h => h) (Or.inl ⟨by rfl, ?_⟩) ?_ ?_
    rotate_left
    · intro w'
      go_simp
      with_reducible rfl
    rotate_left
    · simp only [Act.put, List.setIfInBounds_toArray, List.set_cons_zero, List.set_cons_succ, i64_w, i32_w]
      rfl
    refine pure_ (i := 1) (N := some 47) (v := ?_) (a' := ?_) #[true, true, false, false, false, false, false, false, false, false, false, false, false, false, false, false, false, false, false, false, false, false, false, false, false, false, false, false, false] rfl rfl (by kernel_rfl) (fun _ _ _ h => h) (Or.inl ⟨by rfl, ?_⟩) ?_ ?_
    rotate_left
    · intro w'
      go_simp
      with_reducible rfl
    rotate_left
    · simp only [Act.put, List.setIfInBounds_toArray, List.set_cons_zero, List.set_cons_succ, i64_w, i32_w]
      rfl
    refine pure_ (i := 2) (N := some 48) (v := ?_) (a' := ?_) #[true, true, true, false, false, false, false, false, false, false, false, false, false, false, false, false, false, false, false, false, false, false, false, false, false, false, false, false, false] rfl rfl (by kernel_rfl) (fun _ _ _ h => h) (Or.inl ⟨by rfl, ?_⟩) ?_ ?_
    rotate_left
    · intro w'
      go_simp
      with_reducible rfl
    rotate_left
    · simp only [Act.put, List.setIfInBounds_toArray, List.set_cons_zero, List.set_cons_succ, i64_w, i32_w]
      rfl
    refine pure_ (i := 3) (N := some 49) (v := ?_) (a' := ?_) #[true, true, true, true, false, false, false, false, false, false, false, false, false, false, false, false, false, false, false, false, false, false, false, false, false, false, false, false, false] rfl rfl (by kernel_rfl) (fun _ _ _ h => h) (Or.inl ⟨by rfl, ?_⟩) ?_ ?_
    rotate_left
    · intro w'
      go_simp
      with_reducible rfl
    rotate_left
    · simp only [Act.put, List.setIfInBounds_toArray, List.set_cons_zero, List.set_cons_succ, i64_w, i32_w]
      rfl
    refine take_ (i := 4) (N := some 50) (v := ?_) (a' := ?_) #[true, true, true, true, true, false, false, false, false, false, false, false, false, false, false, false, false, false, false, false, false, false, false, false, false, false, false, false, false] rfl rfl (by kernel_rfl) (fun _ _ _ h => h) (Or.inl ⟨by rfl, ?_⟩) hHeld ?_ ?_
    rotate_left
    · rintro w' ⟨s0, s1, s2, s3, s4, s5, s6, s7, s8, s9⟩
      go_simp
      with_reducible rfl
    rotate_left
    · simp only [Act.put, List.setIfInBounds_toArray, List.set_cons_zero, List.set_cons_succ, i64_w, i32_w]
      rfl
    refine take_ (i := 5) (N := some 51) (v := ?_) (a' := ?_) #[true, true, true, true, true, true, false, false, false, false, false, false, false, false, false, false, false, false, false, false, false, false, false, false, false, false, false, false, false] rfl rfl (by kernel_rfl) (fun _ _ _ h => h) (Or.inl ⟨by rfl, ?_⟩) hHeld ?_ ?_
    rotate_left
    · rintro w' ⟨s0, s1, s2, s3, s4, s5, s6, s7, s8, s9⟩
      go_simp
      with_reducible rfl
    rotate_left
    · simp only [Act.put, List.setIfInBounds_toArray, List.set_cons_zero, List.set_cons_succ, i64_w, i32_w]
      rfl
    refine one_ (i := 6) (N := some 52) #[true, true, true, true, true, true, true, false, false, false, false, false, false, false, false, false, false, false, false, false, false, false, false, false, false, false, false, false, false] rfl rfl (by kernel_rfl) (by decide) (fun KK hKK => ?_)
    refine goes_ Tryd.func16 (by kernel_rfl) rfl #[.agg #[.bool (ng p), .slice A_p_2 (mg p).length c_p_2], .agg #[.bool (ng p), .slice A_p_4 (mg p).length c_p_4]] (by rfl) rfl rfl (by (try simp only [List.map_toArray, List.map_cons, List.map_nil]); first | done | rfl) ?_
    refine (same_v A_p_2 A_p_4 c_p_2 c_p_4 _ p p (hK.rd _ _ _ (by repeat (first | exact List.mem_cons_self | apply List.mem_cons_of_mem))) (hK.rd _ _ _ (by repeat (first | exact List.mem_cons_self | apply List.mem_cons_of_mem))) (by omega) (by omega) rfl).mono ?_
    rintro e w_6 ⟨rfl, hb⟩
    refine ⟨_, rfl, ?_⟩
    replace hK := hK.below hb
    clear hb
    refine hKK.out _ _ (And.intro ((hK.at_ (g := g5_3) (cs := [.bool (ng p), .slice A_p_2 (mg p).length c_p_2]) (t := 24) (by repeat (first | exact List.mem_cons_self | apply List.mem_cons_of_mem)) 0 rfl : World.cell? _ _ = some (.bool (ng p)))) (And.intro ((hK.at_ (g := g5_3) (cs := [.bool (ng p), .slice A_p_2 (mg p).length c_p_2]) (t := 24) (by repeat (first | exact List.mem_cons_self | apply List.mem_cons_of_mem)) 1 rfl : World.cell? _ _ = some (.slice A_p_2 (mg p).length c_p_2))) (And.intro ((hK.at_ (g := g7_5) (cs := [.bool (ng p), .slice A_p_4 (mg p).length c_p_4]) (t := 24) (by repeat (first | exact List.mem_cons_self | apply List.mem_cons_of_mem)) 0 rfl : World.cell? _ _ = some (.bool (ng p)))) (And.intro ((hK.at_ (g := g7_5) (cs := [.bool (ng p), .slice A_p_4 (mg p).length c_p_4]) (t := 24) (by repeat (first | exact List.mem_cons_self | apply List.mem_cons_of_mem)) 1 rfl : World.cell? _ _ = some (.slice A_p_4 (mg p).length c_p_4))) (And.intro ((hK.at_ (g := g9_7) (cs := [.bool (ng r), .slice A_r_6 (mg r).length c_r_6]) (t := 24) (by repeat (first | exact List.mem_cons_self | apply List.mem_cons_of_mem)) 0 rfl : World.cell? _ _ = some (.bool (ng r)))) (And.intro ((hK.at_ (g := g9_7) (cs := [.bool (ng r), .slice A_r_6 (mg r).length c_r_6]) (t := 24) (by repeat (first | exact List.mem_cons_self | apply List.mem_cons_of_mem)) 1 rfl : World.cell? _ _ = some (.slice A_r_6 (mg r).length c_r_6))) (And.intro ((hK.at_ (g := g11_9) (cs := [.bool (ng r), .slice A_r_8 (mg r).length c_r_8]) (t := 24) (by repeat (first | exact List.mem_cons_self | apply List.mem_cons_of_mem)) 0 rfl : World.cell? _ _ = some (.bool (ng r)))) (And.intro ((hK.at_ (g := g11_9) (cs := [.bool (ng r), .slice A_r_8 (mg r).length c_r_8]) (t := 24) (by repeat (first | exact List.mem_cons_self | apply List.mem_cons_of_mem)) 1 rfl : World.cell? _ _ = some (.slice A_r_8 (mg r).length c_r_8))) (And.intro ((hK.at_ (g := g2_1) (cs := [.bool n0, .slice A0 xs0.length c0]) (t := 24) (by repeat (first | exact List.mem_cons_self | apply List.mem_cons_of_mem)) 0 rfl : World.cell? _ _ = some (.bool n0))) ((hK.at_ (g := g2_1) (cs := [.bool n0, .slice A0 xs0.length c0]) (t := 24) (by repeat (first | exact List.mem_cons_self | apply List.mem_cons_of_mem)) 1 rfl : World.cell? _ _ = some (.slice A0 xs0.length c0)))))))))))) (fun hHeld => ?_)
    refine norm_ (a' := ?_) ?_ ?_
    rotate_left
    · show Act.put _ (some 52) _ = _
      simp only [Act.put, List.setIfInBounds_toArray, List.set_cons_zero, List.set_cons_succ, i64_w, i32_w]
      rfl
    refine pure_ (i := 7) (N := some 53) (v := ?_) (a' := ?_) #[true, true, true, true, true, true, true, true, false, false, false, false, false, false, false, false, false, false, false, false, false, false, false, false, false, false, false, false, false] rfl rfl (by kernel_rfl) (fun _ _ _ h => h) (Or.inl ⟨by rfl, ?_⟩) ?_ ?_
    rotate_left
    · intro w'
      go_simp
      with_reducible rfl
    rotate_left
    · simp only [Act.put, List.setIfInBounds_toArray, List.set_cons_zero, List.set_cons_succ, i64_w, i32_w]
      rfl
    refine pure_ (i := 8) (N := some 54) (v := ?_) (a' := ?_) #[true, true, true, true, true, true, true, true, true, false, false, false, false, false, false, false, false, false, false, false, false, false, false, false, false, false, false, false, false] rfl rfl (by kernel_rfl) (fun _ _ _ h => h) (Or.inl ⟨by rfl, ?_⟩) ?_ ?_
    rotate_left
    · intro w'
      go_simp
      with_reducible rfl
    rotate_left
    · simp only [Act.put, List.setIfInBounds_toArray, List.set_cons_zero, List.set_cons_succ, i64_w, i32_w]
      rfl
    refine pure_ (i := 9) (N := some 55) (v := ?_) (a' := ?_) #[true, true, true, true, true, true, true, true, true, true, false, false, false, false, false, false, false, false, false, false, false, false, false, false, false, false, false, false, false] rfl rfl (by kernel_rfl) (fun _ _ _ h => h) (Or.inl ⟨by rfl, ?_⟩) ?_ ?_
    rotate_left
    · intro w'
      go_simp
      with_reducible rfl
    rotate_left
    · simp only [Act.put, List.setIfInBounds_toArray, List.set_cons_zero, List.set_cons_succ, i64_w, i32_w]
      rfl
    refine pure_ (i := 10) (N := some 56) (v := ?_) (a' := ?_) #[true, true, true, true, true, true, true, true, true, true, true, false, false, false, false, false, false, false, false, false, false, false, false, false, false, false, false, false, false] rfl rfl (by kernel_rfl) (fun _ _ _ h => h) (Or.inl ⟨by rfl, ?_⟩) ?_ ?_
    rotate_left
    · intro w'
      go_simp
      with_reducible rfl
    rotate_left
    · simp only [Act.put, List.setIfInBounds_toArray, List.set_cons_zero, List.set_cons_succ, i64_w, i32_w]
      rfl
    refine pure_ (i := 11) (N := some 57) (v := ?_) (a' := ?_) #[true, true, true, true, true, true, true, true, true, true, true, true, false, false, false, false, false, false, false, false, false, false, false, false, false, false, false, false, false] rfl rfl (by kernel_rfl) (fun _ _ _ h => h) (Or.inl ⟨by rfl, ?_⟩) ?_ ?_
    rotate_left
    · intro w'
      go_simp
      with_reducible rfl
    rotate_left
    · simp only [Act.put, List.setIfInBounds_toArray, List.set_cons_zero, List.set_cons_succ, i64_w, i32_w]
      rfl
    refine pure_ (i := 12) (N := some 58) (v := ?_) (a' := ?_) #[true, true, true, true, true, true, true, true, true, true, true, true, true, false, false, false, false, false, false, false, false, false, false, false, false, false, false, false, false] rfl rfl (by kernel_rfl) (fun _ _ _ h => h) (Or.inl ⟨by rfl, ?_⟩) ?_ ?_
    rotate_left
    · intro w'
      go_simp
      with_reducible rfl
    rotate_left
    · simp only [Act.put, List.setIfInBounds_toArray, List.set_cons_zero, List.set_cons_succ, i64_w, i32_w]
      rfl
    refine pure_ (i := 13) (N := some 59) (v := ?_) (a' := ?_) #[true, true, true, true, true, true, true, true, true, true, true, true, true, true, false, false, false, false, false, false, false, false, false, false, false, false, false, false, false] rfl rfl (by kernel_rfl) (fun _ _ _ h => h) (Or.inl ⟨by rfl, ?_⟩) ?_ ?_
    rotate_left
    · intro w'
      go_simp
      with_reducible rfl
    rotate_left
    · simp only [Act.put, List.setIfInBounds_toArray, List.set_cons_zero, List.set_cons_succ, i64_w, i32_w]
      rfl
    refine take_ (i := 14) (N := some 60) (v := ?_) (a' := ?_) #[true, true, true, true, true, true, true, true, true, true, true, true, true, true, true, false, false, false, false, false, false, false, false, false, false, false, false, false, false] rfl rfl (by kernel_rfl) (fun _ _ _ h => h) (Or.inl ⟨by rfl, ?_⟩) hHeld ?_ ?_
    rotate_left
    · rintro w' ⟨s0, s1, s2, s3, s4, s5, s6, s7, s8, s9⟩
      go_simp
      with_reducible rfl
    rotate_left
    · simp only [Act.put, List.setIfInBounds_toArray, List.set_cons_zero, List.set_cons_succ, i64_w, i32_w]
      rfl
    refine take_ (i := 15) (N := some 61) (v := ?_) (a' := ?_) #[true, true, true, true, true, true, true, true, true, true, true, true, true, true, true, true, false, false, false, false, false, false, false, false, false, false, false, false, false] rfl rfl (by kernel_rfl) (fun _ _ _ h => h) (Or.inl ⟨by rfl, ?_⟩) hHeld ?_ ?_
    rotate_left
    · rintro w' ⟨s0, s1, s2, s3, s4, s5, s6, s7, s8, s9⟩
      go_simp
      with_reducible rfl
    rotate_left
    · simp only [Act.put, List.setIfInBounds_toArray, List.set_cons_zero, List.set_cons_succ, i64_w, i32_w]
      rfl
    refine one_ (i := 16) (N := some 62) #[true, true, true, true, true, true, true, true, true, true, true, true, true, true, true, true, true, false, false, false, false, false, false, false, false, false, false, false, false] rfl rfl (by kernel_rfl) (by decide) (fun KK hKK => ?_)
    refine goes_ Tryd.func16 (by kernel_rfl) rfl #[.agg #[.bool (ng r), .slice A_r_6 (mg r).length c_r_6], .agg #[.bool (ng r), .slice A_r_8 (mg r).length c_r_8]] (by rfl) rfl rfl (by (try simp only [List.map_toArray, List.map_cons, List.map_nil]); first | done | rfl) ?_
    refine (same_v A_r_6 A_r_8 c_r_6 c_r_8 _ r r (hK.rd _ _ _ (by repeat (first | exact List.mem_cons_self | apply List.mem_cons_of_mem))) (hK.rd _ _ _ (by repeat (first | exact List.mem_cons_self | apply List.mem_cons_of_mem))) (by omega) (by omega) rfl).mono ?_
    rintro e w_7 ⟨rfl, hb⟩
    refine ⟨_, rfl, ?_⟩
    replace hK := hK.below hb
    clear hb
    refine hKK.out _ _ (And.intro ((hK.at_ (g := g5_3) (cs := [.bool (ng p), .slice A_p_2 (mg p).length c_p_2]) (t := 24) (by repeat (first | exact List.mem_cons_self | apply List.mem_cons_of_mem)) 0 rfl : World.cell? _ _ = some (.bool (ng p)))) (And.intro ((hK.at_ (g := g5_3) (cs := [.bool (ng p), .slice A_p_2 (mg p).length c_p_2]) (t := 24) (by repeat (first | exact List.mem_cons_self | apply List.mem_cons_of_mem)) 1 rfl : World.cell? _ _ = some (.slice A_p_2 (mg p).length c_p_2))) (And.intro ((hK.at_ (g := g7_5) (cs := [.bool (ng p), .slice A_p_4 (mg p).length c_p_4]) (t := 24) (by repeat (first | exact List.mem_cons_self | apply List.mem_cons_of_mem)) 0 rfl : World.cell? _ _ = some (.bool (ng p)))) (And.intro ((hK.at_ (g := g7_5) (cs := [.bool (ng p), .slice A_p_4 (mg p).length c_p_4]) (t := 24) (by repeat (first | exact List.mem_cons_self | apply List.mem_cons_of_mem)) 1 rfl : World.cell? _ _ = some (.slice A_p_4 (mg p).length c_p_4))) (And.intro ((hK.at_ (g := g9_7) (cs := [.bool (ng r), .slice A_r_6 (mg r).length c_r_6]) (t := 24) (by repeat (first | exact List.mem_cons_self | apply List.mem_cons_of_mem)) 0 rfl : World.cell? _ _ = some (.bool (ng r)))) (And.intro ((hK.at_ (g := g9_7) (cs := [.bool (ng r), .slice A_r_6 (mg r).length c_r_6]) (t := 24) (by repeat (first | exact List.mem_cons_self | apply List.mem_cons_of_mem)) 1 rfl : World.cell? _ _ = some (.slice A_r_6 (mg r).length c_r_6))) (And.intro ((hK.at_ (g := g11_9) (cs := [.bool (ng r), .slice A_r_8 (mg r).length c_r_8]) (t := 24) (by repeat (first | exact List.mem_cons_self | apply List.mem_cons_of_mem)) 0 rfl : World.cell? _ _ = some (.bool (ng r)))) (And.intro ((hK.at_ (g := g11_9) (cs := [.bool (ng r), .slice A_r_8 (mg r).length c_r_8]) (t := 24) (by repeat (first | exact List.mem_cons_self | apply List.mem_cons_of_mem)) 1 rfl : World.cell? _ _ = some (.slice A_r_8 (mg r).length c_r_8))) (And.intro ((hK.at_ (g := g2_1) (cs := [.bool n0, .slice A0 xs0.length c0]) (t := 24) (by repeat (first | exact List.mem_cons_self | apply List.mem_cons_of_mem)) 0 rfl : World.cell? _ _ = some (.bool n0))) ((hK.at_ (g := g2_1) (cs := [.bool n0, .slice A0 xs0.length c0]) (t := 24) (by repeat (first | exact List.mem_cons_self | apply List.mem_cons_of_mem)) 1 rfl : World.cell? _ _ = some (.slice A0 xs0.length c0)))))))))))) (fun hHeld => ?_)
    refine norm_ (a' := ?_) ?_ ?_
    rotate_left
    · show Act.put _ (some 62) _ = _
      simp only [Act.put, List.setIfInBounds_toArray, List.set_cons_zero, List.set_cons_succ, i64_w, i32_w]
      rfl
    refine pure_ (i := 17) (N := some 63) (v := ?_) (a' := ?_) #[true, true, true, true, true, true, true, true, true, true, true, true, true, true, true, true, true, true, false, false, false, false, false, false, false, false, false, false, false] rfl rfl (by kernel_rfl) (fun _ _ _ h => h) (Or.inl ⟨by rfl, ?_⟩) ?_ ?_
    rotate_left
    · intro w'
      go_simp
      with_reducible rfl
    rotate_left
    · simp only [Act.put, List.setIfInBounds_toArray, List.set_cons_zero, List.set_cons_succ, i64_w, i32_w]
      rfl
    refine pure_ (i := 18) (N := some 64) (v := ?_) (a' := ?_) #[true, true, true, true, true, true, true, true, true, true, true, true, true, true, true, true, true, true, true, false, false, false, false, false, false, false, false, false, false] rfl rfl (by kernel_rfl) (fun _ _ _ h => h) (Or.inl ⟨by rfl, ?_⟩) ?_ ?_
    rotate_left
    · intro w'
      go_simp
      with_reducible rfl
    rotate_left
    · simp only [Act.put, List.setIfInBounds_toArray, List.set_cons_zero, List.set_cons_succ, i64_w, i32_w]
      rfl
    refine take_ (i := 19) (N := some 65) (v := ?_) (a' := ?_) #[true, true, true, true, true, true, true, true, true, true, true, true, true, true, true, true, true, true, true, true, false, false, false, false, false, false, false, false, false] rfl rfl (by kernel_rfl) (fun _ _ _ h => h) (Or.inl ⟨by rfl, ?_⟩) hHeld ?_ ?_
    rotate_left
    · rintro w' ⟨s0, s1, s2, s3, s4, s5, s6, s7, s8, s9⟩
      go_simp
      with_reducible rfl
    rotate_left
    · simp only [Act.put, List.setIfInBounds_toArray, List.set_cons_zero, List.set_cons_succ, i64_w, i32_w]
      rfl
    refine take_ (i := 21) (N := some 67) (v := ?_) (a' := ?_) #[true, true, true, true, true, true, true, true, true, true, true, true, true, true, true, true, true, true, true, true, false, true, false, false, false, false, false, false, false] rfl rfl (by kernel_rfl) (fun _ _ _ h => h) (Or.inl ⟨by rfl, ?_⟩) hHeld ?_ ?_
    rotate_left
    · rintro w' ⟨s0, s1, s2, s3, s4, s5, s6, s7, s8, s9⟩
      go_simp
      with_reducible rfl
    rotate_left
    · simp only [Act.put, List.setIfInBounds_toArray, List.set_cons_zero, List.set_cons_succ, i64_w, i32_w]
      rfl
    refine one_ (i := 20) (N := some 66) #[true, true, true, true, true, true, true, true, true, true, true, true, true, true, true, true, true, true, true, true, true, true, false, false, false, false, false, false, false] rfl rfl (by kernel_rfl) (by decide) (fun KK hKK => ?_)
    refine goes_ Tryd.func47 (by kernel_rfl) rfl #[.agg #[.bool n0, .slice A0 xs0.length c0]] (by rfl) rfl rfl (by (try simp only [List.map_toArray, List.map_cons, List.map_nil]); first | done | rfl) ?_
    refine (bitlen_v n0 A0 c0 xs0 _ (hK.rd _ _ _ (by repeat (first | exact List.mem_cons_self | apply List.mem_cons_of_mem))) (by omega) a bx E_a.out HBX.out).mono ?_
    rintro e w_8 ⟨rfl, hb⟩
    refine ⟨_, rfl, ?_⟩
    replace hK := hK.below hb
    clear hb
    refine hKK.out _ _ (And.intro ((hK.at_ (g := g5_3) (cs := [.bool (ng p), .slice A_p_2 (mg p).length c_p_2]) (t := 24) (by repeat (first | exact List.mem_cons_self | apply List.mem_cons_of_mem)) 0 rfl : World.cell? _ _ = some (.bool (ng p)))) (And.intro ((hK.at_ (g := g5_3) (cs := [.bool (ng p), .slice A_p_2 (mg p).length c_p_2]) (t := 24) (by repeat (first | exact List.mem_cons_self | apply List.mem_cons_of_mem)) 1 rfl : World.cell? _ _ = some (.slice A_p_2 (mg p).length c_p_2))) (And.intro ((hK.at_ (g := g7_5) (cs := [.bool (ng p), .slice A_p_4 (mg p).length c_p_4]) (t := 24) (by repeat (first | exact List.mem_cons_self | apply List.mem_cons_of_mem)) 0 rfl : World.cell? _ _ = some (.bool (ng p)))) (And.intro ((hK.at_ (g := g7_5) (cs := [.bool (ng p), .slice A_p_4 (mg p).length c_p_4]) (t := 24) (by repeat (first | exact List.mem_cons_self | apply List.mem_cons_of_mem)) 1 rfl : World.cell? _ _ = some (.slice A_p_4 (mg p).length c_p_4))) (And.intro ((hK.at_ (g := g9_7) (cs := [.bool (ng r), .slice A_r_6 (mg r).length c_r_6]) (t := 24) (by repeat (first | exact List.mem_cons_self | apply List.mem_cons_of_mem)) 0 rfl : World.cell? _ _ = some (.bool (ng r)))) (And.intro ((hK.at_ (g := g9_7) (cs := [.bool (ng r), .slice A_r_6 (mg r).length c_r_6]) (t := 24) (by repeat (first | exact List.mem_cons_self | apply List.mem_cons_of_mem)) 1 rfl : World.cell? _ _ = some (.slice A_r_6 (mg r).length c_r_6))) (And.intro ((hK.at_ (g := g11_9) (cs := [.bool (ng r), .slice A_r_8 (mg r).length c_r_8]) (t := 24) (by repeat (first | exact List.mem_cons_self | apply List.mem_cons_of_mem)) 0 rfl : World.cell? _ _ = some (.bool (ng r)))) (And.intro ((hK.at_ (g := g11_9) (cs := [.bool (ng r), .slice A_r_8 (mg r).length c_r_8]) (t := 24) (by repeat (first | exact List.mem_cons_self | apply List.mem_cons_of_mem)) 1 rfl : World.cell? _ _ = some (.slice A_r_8 (mg r).length c_r_8))) (And.intro ((hK.at_ (g := g2_1) (cs := [.bool n0, .slice A0 xs0.length c0]) (t := 24) (by repeat (first | exact List.mem_cons_self | apply List.mem_cons_of_mem)) 0 rfl : World.cell? _ _ = some (.bool n0))) ((hK.at_ (g := g2_1) (cs := [.bool n0, .slice A0 xs0.length c0]) (t := 24) (by repeat (first | exact List.mem_cons_self | apply List.mem_cons_of_mem)) 1 rfl : World.cell? _ _ = some (.slice A0 xs0.length c0)))))))))))) (fun hHeld => ?_)
    refine norm_ (a' := ?_) ?_ ?_
    rotate_left
    · show Act.put _ (some 66) _ = _
      simp only [Act.put, List.setIfInBounds_toArray, List.set_cons_zero, List.set_cons_succ, i64_w, i32_w]
      rfl
    refine one_ (i := 22) (N := some 68) #[true, true, true, true, true, true, true, true, true, true, true, true, true, true, true, true, true, true, true, true, true, true, true, false, false, false, false, false, false] rfl rfl (by kernel_rfl) (by decide) (fun KK hKK => ?_)
    refine goes_ Tryd.func48 (by kernel_rfl) rfl #[.agg #[.bool n0, .slice A0 xs0.length c0]] (by rfl) rfl rfl (by (try simp only [List.map_toArray, List.map_cons, List.map_nil]); first | done | rfl) ?_
    refine (BitLen_ref n0 A0 c0 xs0 _ (hK.rd _ _ _ (by repeat (first | exact List.mem_cons_self | apply List.mem_cons_of_mem))) 60 (by omega) (by omega) a bx E_a.out HBX.out).mono ?_
    rintro e w_9 ⟨rfl, hb⟩
    refine ⟨_, rfl, ?_⟩
    replace hK := hK.below hb
    clear hb
    refine hKK.out _ _ (And.intro ((hK.at_ (g := g5_3) (cs := [.bool (ng p), .slice A_p_2 (mg p).length c_p_2]) (t := 24) (by repeat (first | exact List.mem_cons_self | apply List.mem_cons_of_mem)) 0 rfl : World.cell? _ _ = some (.bool (ng p)))) (And.intro ((hK.at_ (g := g5_3) (cs := [.bool (ng p), .slice A_p_2 (mg p).length c_p_2]) (t := 24) (by repeat (first | exact List.mem_cons_self | apply List.mem_cons_of_mem)) 1 rfl : World.cell? _ _ = some (.slice A_p_2 (mg p).length c_p_2))) (And.intro ((hK.at_ (g := g7_5) (cs := [.bool (ng p), .slice A_p_4 (mg p).length c_p_4]) (t := 24) (by repeat (first | exact List.mem_cons_self | apply List.mem_cons_of_mem)) 0 rfl : World.cell? _ _ = some (.bool (ng p)))) (And.intro ((hK.at_ (g := g7_5) (cs := [.bool (ng p), .slice A_p_4 (mg p).length c_p_4]) (t := 24) (by repeat (first | exact List.mem_cons_self | apply List.mem_cons_of_mem)) 1 rfl : World.cell? _ _ = some (.slice A_p_4 (mg p).length c_p_4))) (And.intro ((hK.at_ (g := g9_7) (cs := [.bool (ng r), .slice A_r_6 (mg r).length c_r_6]) (t := 24) (by repeat (first | exact List.mem_cons_self | apply List.mem_cons_of_mem)) 0 rfl : World.cell? _ _ = some (.bool (ng r)))) (And.intro ((hK.at_ (g := g9_7) (cs := [.bool (ng r), .slice A_r_6 (mg r).length c_r_6]) (t := 24) (by repeat (first | exact List.mem_cons_self | apply List.mem_cons_of_mem)) 1 rfl : World.cell? _ _ = some (.slice A_r_6 (mg r).length c_r_6))) (And.intro ((hK.at_ (g := g11_9) (cs := [.bool (ng r), .slice A_r_8 (mg r).length c_r_8]) (t := 24) (by repeat (first | exact List.mem_cons_self | apply List.mem_cons_of_mem)) 0 rfl : World.cell? _ _ = some (.bool (ng r)))) (And.intro ((hK.at_ (g := g11_9) (cs := [.bool (ng r), .slice A_r_8 (mg r).length c_r_8]) (t := 24) (by repeat (first | exact List.mem_cons_self | apply List.mem_cons_of_mem)) 1 rfl : World.cell? _ _ = some (.slice A_r_8 (mg r).length c_r_8))) (And.intro ((hK.at_ (g := g2_1) (cs := [.bool n0, .slice A0 xs0.length c0]) (t := 24) (by repeat (first | exact List.mem_cons_self | apply List.mem_cons_of_mem)) 0 rfl : World.cell? _ _ = some (.bool n0))) ((hK.at_ (g := g2_1) (cs := [.bool n0, .slice A0 xs0.length c0]) (t := 24) (by repeat (first | exact List.mem_cons_self | apply List.mem_cons_of_mem)) 1 rfl : World.cell? _ _ = some (.slice A0 xs0.length c0)))))))))))) (fun hHeld => ?_)
    refine norm_ (a' := ?_) ?_ ?_
    rotate_left
    · show Act.put _ (some 68) _ = _
      simp only [Act.put, List.setIfInBounds_toArray, List.set_cons_zero, List.set_cons_succ, i64_w, i32_w]
      rfl
    refine pure_ (i := 23) (N := some 69) (v := ?_) (a' := ?_) #[true, true, true, true, true, true, true, true, true, true, true, true, true, true, true, true, true, true, true, true, true, true, true, true, false, false, false, false, false] rfl rfl (by kernel_rfl) (fun _ _ _ h => h) (Or.inl ⟨by rfl, ?_⟩) ?_ ?_
    rotate_left
    · intro w'
      go_simp
      with_reducible rfl
    rotate_left
    · simp only [Act.put, List.setIfInBounds_toArray, List.set_cons_zero, List.set_cons_succ, i64_w, i32_w]
      rfl
    refine pure_ (i := 24) (N := some 70) (v := ?_) (a' := ?_) #[true, true, true, true, true, true, true, true, true, true, true, true, true, true, true, true, true, true, true, true, true, true, true, true, true, false, false, false, false] rfl rfl (by kernel_rfl) (fun _ _ _ h => h) (Or.inl ⟨by rfl, ?_⟩) ?_ ?_
    rotate_left
    · intro w'
      go_simp
      with_reducible rfl
    rotate_left
    · simp only [Act.put, List.setIfInBounds_toArray, List.set_cons_zero, List.set_cons_succ, i64_w, i32_w]
      rfl
    refine pure_ (i := 25) (N := some 71) (v := ?_) (a' := ?_) #[true, true, true, true, true, true, true, true, true, true, true, true, true, true, true, true, true, true, true, true, true, true, true, true, true, true, false, false, false] rfl rfl (by kernel_rfl) (fun _ _ _ h => h) (Or.inl ⟨by rfl, ?_⟩) ?_ ?_
    rotate_left
    · intro w'
      go_simp
      with_reducible rfl
    rotate_left
    · simp only [Act.put, List.setIfInBounds_toArray, List.set_cons_zero, List.set_cons_succ, i64_w, i32_w]
      rfl
    refine one_ (i := 26) (N := some 72) #[true, true, true, true, true, true, true, true, true, true, true, true, true, true, true, true, true, true, true, true, true, true, true, true, true, true, true, false, false] rfl rfl (by kernel_rfl) (by decide) (fun KK hKK => ?_)
    refine goes_ Tryd.func13 (by kernel_rfl) rfl #[] (by rfl) rfl rfl (by (try simp only [List.map_toArray, List.map_cons, List.map_nil]); first | done | rfl) ?_
    refine (awake_any _ (HT.out.below hK.be)).mono ?_
    rintro e w_10 ⟨rfl, hb⟩
    refine ⟨_, rfl, ?_⟩
    replace hK := hK.below hb
    clear hb
    refine hKK.out _ _ (And.intro ((hK.at_ (g := g5_3) (cs := [.bool (ng p), .slice A_p_2 (mg p).length c_p_2]) (t := 24) (by repeat (first | exact List.mem_cons_self | apply List.mem_cons_of_mem)) 0 rfl : World.cell? _ _ = some (.bool (ng p)))) (And.intro ((hK.at_ (g := g5_3) (cs := [.bool (ng p), .slice A_p_2 (mg p).length c_p_2]) (t := 24) (by repeat (first | exact List.mem_cons_self | apply List.mem_cons_of_mem)) 1 rfl : World.cell? _ _ = some (.slice A_p_2 (mg p).length c_p_2))) (And.intro ((hK.at_ (g := g7_5) (cs := [.bool (ng p), .slice A_p_4 (mg p).length c_p_4]) (t := 24) (by repeat (first | exact List.mem_cons_self | apply List.mem_cons_of_mem)) 0 rfl : World.cell? _ _ = some (.bool (ng p)))) (And.intro ((hK.at_ (g := g7_5) (cs := [.bool (ng p), .slice A_p_4 (mg p).length c_p_4]) (t := 24) (by repeat (first | exact List.mem_cons_self | apply List.mem_cons_of_mem)) 1 rfl : World.cell? _ _ = some (.slice A_p_4 (mg p).length c_p_4))) (And.intro ((hK.at_ (g := g9_7) (cs := [.bool (ng r), .slice A_r_6 (mg r).length c_r_6]) (t := 24) (by repeat (first | exact List.mem_cons_self | apply List.mem_cons_of_mem)) 0 rfl : World.cell? _ _ = some (.bool (ng r)))) (And.intro ((hK.at_ (g := g9_7) (cs := [.bool (ng r), .slice A_r_6 (mg r).length c_r_6]) (t := 24) (by repeat (first | exact List.mem_cons_self | apply List.mem_cons_of_mem)) 1 rfl : World.cell? _ _ = some (.slice A_r_6 (mg r).length c_r_6))) (And.intro ((hK.at_ (g := g11_9) (cs := [.bool (ng r), .slice A_r_8 (mg r).length c_r_8]) (t := 24) (by repeat (first | exact List.mem_cons_self | apply List.mem_cons_of_mem)) 0 rfl : World.cell? _ _ = some (.bool (ng r)))) (And.intro ((hK.at_ (g := g11_9) (cs := [.bool (ng r), .slice A_r_8 (mg r).length c_r_8]) (t := 24) (by repeat (first | exact List.mem_cons_self | apply List.mem_cons_of_mem)) 1 rfl : World.cell? _ _ = some (.slice A_r_8 (mg r).length c_r_8))) (And.intro ((hK.at_ (g := g2_1) (cs := [.bool n0, .slice A0 xs0.length c0]) (t := 24) (by repeat (first | exact List.mem_cons_self | apply List.mem_cons_of_mem)) 0 rfl : World.cell? _ _ = some (.bool n0))) ((hK.at_ (g := g2_1) (cs := [.bool n0, .slice A0 xs0.length c0]) (t := 24) (by repeat (first | exact List.mem_cons_self | apply List.mem_cons_of_mem)) 1 rfl : World.cell? _ _ = some (.slice A0 xs0.length c0)))))))))))) (fun hHeld => ?_)
    refine norm_ (a' := ?_) ?_ ?_
    rotate_left
    · show Act.put _ (some 72) _ = _
      simp only [Act.put, List.setIfInBounds_toArray, List.set_cons_zero, List.set_cons_succ, i64_w, i32_w]
      rfl
    refine pure_ (i := 27) (N := some 73) (v := ?_) (a' := ?_) #[true, true, true, true, true, true, true, true, true, true, true, true, true, true, true, true, true, true, true, true, true, true, true, true, true, true, true, true, false] rfl rfl (by kernel_rfl) (fun _ _ _ h => h) (Or.inl ⟨by rfl, ?_⟩) ?_ ?_
    rotate_left
    · intro w'
      go_simp
      with_reducible rfl
    rotate_left
    · simp only [Act.put, List.setIfInBounds_toArray, List.set_cons_zero, List.set_cons_succ, i64_w, i32_w]
      rfl
    refine pure_ (i := 28) (N := some 4) (v := ?_) (a' := ?_) #[true, true, true, true, true, true, true, true, true, true, true, true, true, true, true, true, true, true, true, true, true, true, true, true, true, true, true, true, true] rfl rfl (by kernel_rfl) (fun _ _ _ h => h) (Or.inl ⟨by rfl, ?_⟩) ?_ ?_
    rotate_left
    · intro w'
      go_simp
      with_reducible rfl
    rotate_left
    · simp only [Act.put, List.setIfInBounds_toArray, List.set_cons_zero, List.set_cons_succ, i64_w, i32_w]
      rfl
    refine done_ (by kernel_rfl) ?_
    go_wp2
    go_meet
    exact ⟨rfl, ⟨hK⟩⟩
  clear hK
  obtain ⟨rfl, hK0⟩ := hcut
  have hK := hK0.out
  clear hK0
  go_wp2
  go_ret
  exact ⟨rfl, hK.be⟩
theorem powers_any (n0 : Bool) (A0 : Option Addr) (c0 : Nat) (xs0 : List Int) (n : Int) (w : World) (h0 : Rd w A0 c0 xs0) (hl0 : xs0.length ≤ 35184372088832) (wo : (Lit.int .i64 n).wf = true) (hT : Tab_p10 w) :
    Calls Tryd.prog 11 #[.agg #[.bool n0, .slice A0 xs0.length c0], .int .i64 n] w fun e w' => e = .returned (.bool true) ∧ Below w.heap.size w w' := by
  have ho : -9223372036854775808 ≤ n ∧ n ≤ 9223372036854775807 := by have h := (Lit.wf_int_iff .i64 n).1 wo; simpa [IntKind.min, IntKind.max, IntKind.bits, IntKind.signed] using h
  by_cases h : [xs0.length].sum ≤ 60
  · by_cases h8 : 8 < xs0.length
    · exact powers_long n0 A0 c0 xs0 n w h0 hl0 ho hT h h8
    · exact powers_yes n0 A0 c0 xs0 n w h0 hl0 ho hT h h8
  · exact powers_no n0 A0 c0 xs0 n w h0 hl0 ho hT h
end Go.Proofs.YtegnnghoiffmhaaDoor.Big
