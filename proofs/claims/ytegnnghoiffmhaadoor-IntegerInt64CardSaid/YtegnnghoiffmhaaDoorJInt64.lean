/- The reference's ToInt64. -/
import Derived.Test.YtegnnghoiffmhaaDoorJAdds
import Derived.Test.YtegnnghoiffmhaaDoorIInt64
namespace Go.Proofs.YtegnnghoiffmhaaDoor.Big
open Go.RowKit Go.Proofs.YtegnnghoiffmhaaDoorW.PrintWords Go.Proofs.YtegnnghoiffmhaaDoorW.PrintLast
set_option linter.unusedVariables false
set_option linter.unusedSimpArgs false
attribute [local go_sem ↓] Go.wp_at_zero Go.wp_at_succ
theorem Arg1.set {w w' : World} {a0 b0 : Value} (h : Arg1 w w' a0 b0) (u v : Value) : Arg1 w ((w'.setCell ⟨w.heap.size, 0, none⟩ u).setCell ⟨w.heap.size, 1, none⟩ v) u v :=
  ⟨(h.be.setCell (by simp) _).setCell (by simp) _, h.x.set u v⟩
theorem two_val (xs : List Int) (h : xs.length ≤ 2) : val xs = dg xs 0 + dg xs 1 * 4294967296 := by
  match xs, h with
  | [], _ => simp [val, dg]
  | [a], _ => simp [val, dg]
  | [a, b], _ => simp [val, dg]; omega
set_option maxHeartbeats 1000000 in
set_option maxRecDepth 100000 in
theorem ToInt64_ref (n : Bool) (A : Option Addr) (c : Nat) (xs : List Int) (w : World) (h : Rd w A c xs) (hl : xs.length ≤ 274877906944) (z : Int) (hz : iv n xs = z) :
    Calls Tryd.prog 23 #[.agg #[.bool n, .slice A xs.length c]] w fun e w' => e = .returned (.tuple #[.int .i64 (tiv z), .int .i64 (tie z)]) ∧ Below w.heap.size w w' := by
  have HZ := Aside0.mk hz
  have lz_ : (mg z).length ≤ 274877906944 := by rw [← hz]; exact Nat.le_trans (mg_iv_len n h.dig) hl
  have hlow := mg_lt z
  clear hz
  by_cases h2 : 2 < (mg z).length
  · have E := Aside0.mk (show tiv z = 0 ∧ tie z = 5 by
      have h3 := val_ge (mg z) (mg_dig z) (by have := canon_row (n := ng z) (mg_dig z); rw [iv_canon] at this; exact this.1) (by omega)
      rw [mg_val] at h3
      have h4 := pw_le (show 2 ≤ (mg z).length - 1 by omega)
      simp only [pw] at h4
      unfold tiv tie
      rw [if_neg (by omega), if_neg (by omega)]
      exact ⟨rfl, rfl⟩)
    have h2i : (2 : Int) < ((mg z).length : Int) := by omega
    clear hlow
    go_enter Tryd.func23, Tryd.ntmps23
    go_wp2_with (first | (go_at_call 39; generalize hwb : World.alloc _ _ = wb; have hT := Arg1.start w _ _ hwb; clear hwb; (with_reducible refine (Canon_v n A c xs _ (h.below hT.be) (by omega) z HZ.out).mono ?_); rintro e w1 ⟨A1, c1, rfl, hR, hb⟩; replace hT := hT.below hb; clear hb; have r0 := hT.x.at0; have r1 := hT.x.at1; have f0 := hT.x.free 0; have f1 := hT.x.free 1))
    go_ret2
    replace hT := hT.set (.bool (ng z)) (.slice A1 (mg z).length c1)
    exact ⟨by rw [E.out.1, E.out.2]; rfl, hT.be⟩
  · have h2i : ¬ (2 : Int) < ((mg z).length : Int) := by omega
    have dz := mg_dig z
    obtain ⟨d0, d1⟩ := dg_dig dz 0
    obtain ⟨f0_, f1_⟩ := dg_dig dz 1
    have hv := two_val (mg z) (by omega)
    rw [mg_val] at hv
    have ho := or64_lo (dg (mg z) 1) (dg (mg z) 0) ⟨f0_, f1_⟩ ⟨d0, d1⟩
    obtain ⟨V, hV⟩ : ∃ V, dg (mg z) 0 + dg (mg z) 1 * 4294967296 = V := ⟨_, rfl⟩
    rw [hV] at ho hv
    have hb0 : 0 ≤ V := by omega
    have hb2 : V < 18446744073709551616 := by omega
    have VZ := Aside0.mk (show V = z.natAbs by omega)
    clear hlow dz hv hV h2
    go_enter Tryd.func23, Tryd.ntmps23
    go_wp2_with (first | (go_at_call 39; generalize hwb : World.alloc _ _ = wb; have hT := Arg1.start w _ _ hwb; clear hwb; (with_reducible refine (Canon_v n A c xs _ (h.below hT.be) (by omega) z HZ.out).mono ?_); rintro e w1 ⟨A1, c1, rfl, hR, hb⟩; replace hT := hT.below hb; clear hb; have r0 := hT.x.at0; have r1 := hT.x.at1; have f0 := hT.x.free 0; have f1 := hT.x.free 1))
    have hR2 := (hR.boxed2 (n := ng z) (A1 := A1) (l1 := (mg z).length) (c1 := c1) hT.x).below (below_drew (Below.refl _ _))
    replace hT := (hT.set (.bool (ng z)) (.slice A1 (mg z).length c1)).drew
    clear r0 r1 f0 f1
    generalize World.setCell _ _ _ = wz at hT hR2 ⊢
    have k0 : Calls Tryd.prog 57 #[.slice A1 (mg z).length c1, .int .i64 0] wz.drew fun e w' => e = .returned (.int .u64 (dg (mg z) 0)) ∧ w' = wz.drew := digit_ref A1 c1 (mg z) 0 _ hR2 (by omega) (by omega)
    have k1 : Calls Tryd.prog 57 #[.slice A1 (mg z).length c1, .int .i64 1] wz.drew fun e w' => e = .returned (.int .u64 (dg (mg z) 1)) ∧ w' = wz.drew := digit_ref A1 c1 (mg z) 1 _ hR2 (by omega) (by omega)
    have K0 := Aside0.mk k0
    have K1 := Aside0.mk k1
    clear k0 k1
    go_region_held3 (fun w' => w'.cell? ⟨w.heap.size, 0, none⟩ = some (.bool (ng z)) ∧ w'.cell? ⟨w.heap.size, 1, none⟩ = some (.slice A1 (mg z).length c1))
      (exact hT.cells)
      (first | (go_simp; go_at_call 57; (with_reducible refine K0.out.mono ?_); rintro e w2 ⟨rfl, rfl⟩) | (go_simp; go_at_call 57; (with_reducible refine K1.out.mono ?_); rintro e w3 ⟨rfl, rfl⟩))
    have hwr : IntKind.u64.wrap (dg (mg z) 1 * 4294967296) = dg (mg z) 1 * 4294967296 := by rw [IntKind.wrap_u64]; omega
    rw [hwr, ho]
    obtain ⟨x0, x1⟩ := hT.cells
    have BE := Aside0.mk hT.be
    clear hwr ho d0 d1 f0_ f1_ K0 K1
    have NG := Aside0.mk (show (ng z = true ↔ z < 0) by unfold ng; simp)
    cases hn : ng z
    · rw [hn] at x0
      have HN := Aside0.mk (show 0 ≤ z by have := NG.out; rw [hn] at this; simp at this; exact this)
      by_cases hs : V < 9223372036854775808
      · have E := Aside0.mk (show tiv z = V ∧ tie z = 0 by have := HN.out; have := VZ.out; unfold tiv tie; rw [if_pos (by omega), if_pos (by omega)]; exact ⟨by omega, rfl⟩)
        go_wp2
        go_ret2
        exact ⟨by rw [E.out.1, E.out.2]; rfl, BE.out⟩
      · have E := Aside0.mk (show tiv z = 0 ∧ tie z = 5 by have := HN.out; have := VZ.out; unfold tiv tie; rw [if_neg (by omega), if_neg (by omega)]; exact ⟨rfl, rfl⟩)
        go_wp2
        go_ret2
        exact ⟨by rw [E.out.1, E.out.2]; rfl, BE.out⟩
    · rw [hn] at x0
      have HN := Aside0.mk (NG.out.1 hn)
      by_cases hs : V ≤ 9223372036854775808
      · have E := Aside0.mk (show tiv z = -V ∧ tie z = 0 by have := HN.out; have := VZ.out; unfold tiv tie; rw [if_pos (by omega), if_pos (by omega)]; exact ⟨by omega, rfl⟩)
        go_wp2
        go_ret2
        have hw := neg_wrap V hb0 hs
        refine ⟨?_, BE.out⟩
        show Ending.returned (.tuple #[.int .i64 (wrap64 (IntKind.u64.wrap (-V))), .int .i64 0]) = _
        rw [hw, E.out.1, E.out.2]
      · have E := Aside0.mk (show tiv z = 0 ∧ tie z = 5 by have := HN.out; have := VZ.out; unfold tiv tie; rw [if_neg (by omega), if_neg (by omega)]; exact ⟨rfl, rfl⟩)
        go_wp2
        go_ret2
        exact ⟨by rw [E.out.1, E.out.2]; rfl, BE.out⟩
end Go.Proofs.YtegnnghoiffmhaaDoor.Big
