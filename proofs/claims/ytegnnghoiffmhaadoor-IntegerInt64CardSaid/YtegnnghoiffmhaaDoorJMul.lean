/- The reference: mulDigits. -/
import Derived.Test.YtegnnghoiffmhaaDoorJAdd
import Derived.Test.YtegnnghoiffmhaaDoorITimes
namespace Go.Proofs.YtegnnghoiffmhaaDoor.Big
open Go.RowKit Go.Proofs.YtegnnghoiffmhaaDoorW.PrintWords Go.Proofs.YtegnnghoiffmhaaDoorW.PrintLast
set_option linter.unusedVariables false
set_option linter.unusedSimpArgs false
attribute [local go_sem ↓] Go.wp_at_zero Go.wp_at_succ
theorem Own.below {w0 w w1 : World} {v : Value} {xs : List Int} (h : Own w0 w v xs) (hb : Below w.heap.size w w1) : Own w0 w1 v xs := ⟨h.ow.below hb, keep_below hb h.be⟩
set_option maxHeartbeats 4000000 in
set_option maxRecDepth 100000 in
theorem mulDigits_any (A0 A1 : Option Addr) (c0 c1 : Nat) (xs ys : List Int) (w : World) (h0 : Rd w A0 c0 xs) (h1 : Rd w A1 c1 ys) (hl0 : xs.length ≤ 274877906944) (hl1 : ys.length ≤ 274877906944) :
    Calls Tryd.prog 64 #[.slice A0 xs.length c0, .slice A1 ys.length c1] w fun e w' => RowRes e w w' (val xs * val ys) (xs.length + ys.length) := by
  have H := Aside0.mk (And.intro h0 h1)
  clear h0 h1
  obtain ⟨n, hn⟩ : ∃ n, xs.length + ys.length = n := ⟨_, rfl⟩
  have ea : (xs.length : Int) + (ys.length : Int) = (n : Int) := by omega
  have EA := Aside0.mk (And.intro hn ea)
  rw [hn]
  have hnl : n ≤ 549755813888 := by omega
  clear hn
  go_enter Tryd.func64, Tryd.ntmps64
  go_wp2_with (first | ((with_reducible refine gate_dst (N := 14) rfl ?_); refine make_u32 rfl rfl _ _ rfl n rfl rfl (by omega) ?_; intro v5 w1 ho hb; obtain ⟨AV, cV, rfl, hRV⟩ := ho.rd; rw [List.length_replicate] at ho; have HO := Aside0.mk (Own.mk ho hb); clear ho hb hRV))
  go_loopg [6, 7, 8] xs.length (fun kq v6 v7 v8 w' => ∃ (i : Nat) (cs : List Int), v6 = .int .i64 i ∧ Aside0 (i + kq = xs.length ∧ cs.length = xs.length + ys.length ∧ val cs = val (xs.take i) * val ys ∧ (∀ j, i + ys.length ≤ j → dg cs j = 0) ∧ Own w w' (.slice AV n cV) cs))
  case atStart => exact ⟨0, List.replicate n 0, rfl, ⟨by omega, by simp; exact EA.out.1.symm, by simp [val_zeros, val], fun j _ => by simp [dg, List.getD_eq_getElem?_getD, List.getElem?_replicate]; split <;> rfl, HO.out⟩⟩
  case round =>
    clear HO
    obtain ⟨i, cs, rfl, HA⟩ := hrel
    by_cases hi : i < xs.length
    · obtain ⟨ad0, rfl, x0⟩ := H.out.1.at_ i hi
      have hnp : 0 < n := by have := EA.out.1; omega
      have hf := HA.out.2.2.2.2.ow.form (by have := HA.out; omega)
      obtain ⟨g, cap, ef, -⟩ := hf
      simp only [Value.slice.injEq] at ef
      obtain ⟨rfl, -, rfl⟩ := ef
      have hi2 : i < 274877906944 := by omega
      go_wp2
      obtain ⟨wo, rfl⟩ : ∃ wo : World, wo = wr := ⟨_, rfl⟩
      go_loopg [7, 8] ys.length (fun kq v7 v8 w' => ∃ (k : Nat) (c : Int) (ds : List Int), v7 = .int .u64 c ∧ v8 = .int .i64 k ∧ Aside0 (k + kq = ys.length ∧ (0 ≤ c ∧ c ≤ 4294967295) ∧ ds.length = xs.length + ys.length ∧ val ds + c * pw (i + k) = val (xs.take i) * val ys + dg xs i * pw i * val (ys.take k) ∧ (∀ j, i + ys.length ≤ j → dg ds j = 0) ∧ Own w w' (.slice (some ⟨g, 0, none⟩) n cV) ds))
      case atStart => exact ⟨0, 0, cs, rfl, rfl, ⟨by omega, by omega, HA.out.2.1, by rw [HA.out.2.2.1]; simp [val], HA.out.2.2.2.1, HA.out.2.2.2.2⟩⟩
      case round =>
        obtain ⟨k, c, ds, rfl, rfl, HB⟩ := hrel
        have DX := Aside0.mk (dg_dig H.out.1.dig i)
        have hc0 := HB.out.2.1.1
        have hc1 := HB.out.2.1.2
        by_cases hk : k < ys.length
        · obtain ⟨ad1, rfl, x1⟩ := H.out.2.at_ k hk
          replace x1 := (HB.out.2.2.2.2.2.be.cell (World.block_lt_of_cell? w _ x1)).trans x1
          replace x0 := (HB.out.2.2.2.2.2.be.cell (World.block_lt_of_cell? w _ x0)).trans x0
          have hik : i + k < n := by have := EA.out.1; omega
          have hk2 : k < 274877906944 := by omega
          obtain ⟨y0, y1⟩ := HB.out.2.2.2.2.2.ow.cell (i + k) hik
          have DY := Aside0.mk (dg_dig H.out.2.dig k)
          have DO := Aside0.mk (dg_dig HB.out.2.2.2.2.2.ow.dig (i + k))
          have hp0 : 0 ≤ dg xs i * dg ys k := Int.mul_nonneg DX.out.1 DY.out.1
          have hp1 : dg xs i * dg ys k ≤ 18446744065119617025 := Int.mul_le_mul DX.out.2 DY.out.2 DY.out.1 (by omega)
          have hx0 := DX.out.1
          have hx1 := DX.out.2
          have hy0 := DY.out.1
          have hy1 := DY.out.2
          have ho0 := DO.out.1
          have ho1 := DO.out.2
          have hiki : (i : Int) + (k : Int) < (n : Int) := by omega
          have hikn : ((i : Int) + (k : Int)).toNat = i + k := by omega
          have hii : (i : Int) < (xs.length : Int) := by omega
          have hki : (k : Int) < (ys.length : Int) := by omega
          have hi0 : (0 : Int) ≤ (i : Int) := by omega
          have hk0 : (0 : Int) ≤ (k : Int) := by omega
          have hik0 : (0 : Int) ≤ (i : Int) + (k : Int) := by omega
          go_wp2
          go_quiet (fail)
          rw [show c + dg ds (i + k) + dg xs i * dg ys k = c + (dg xs i * dg ys k + dg ds (i + k)) by omega]
          go_wp2
          go_roundg (gk - 1)
          case measure => have := HB.out; omega
          case rel => exact ⟨k + 1, _, _, rfl, by go_num, times_next w (wr.drewN nq) g _ cV gk i k c _ _ _ cs ds xs ys rfl rfl rfl DX.out DY.out hk hi ⟨HB.out.1, HB.out.2.1, HB.out.2.2.1, HB.out.2.2.2.1, HB.out.2.2.2.2.1, HB.out.2.2.2.2.2.below (pw_below_drewN (Below.refl _ _) _)⟩⟩
        · have hn : i + ys.length < n := by have := EA.out.1; omega
          obtain ⟨y0, y1⟩ := HB.out.2.2.2.2.2.ow.cell (i + ys.length) hn
          go_wp2
          go_roundg (xs.length - i - 1)
          case measure => have := HA.out; omega
          case rel => exact ⟨i + 1, _, by go_num, times_row w wr g _ cV _ i k c ds xs ys hi (by omega) HB.out⟩
    · have hA := HA.out
      have hcl : cs.length = n := by have := EA.out.1; omega
      have hv : val cs = val xs * val ys := by rw [hA.2.2.1, List.take_of_length_le (by omega)]
      have HV := Aside0.mk (And.intro hv (And.intro hA.2.2.2.2 hcl))
      have hR := Aside0.mk hA.2.2.2.2.ow.rd'.2
      have ht : ∀ w2 : World, Rd w2 AV cV cs → Calls Tryd.prog 63 #[.slice AV n cV] w2 fun e w' => e = .returned (.slice AV (trimL cs).length cV) ∧ w' = w2 := by
        intro w2 hr
        have h := trim_any AV cV cs w2 hr (by omega)
        rw [hcl] at h
        exact h
      have HT := Aside0.mk ht
      clear hA hv ht hcl
      go_wp2_with (first | (go_at_call 63; (with_reducible refine (HT.out _ hR.out).mono ?_); rintro e w2 ⟨rfl, rfl⟩))
      go_ret
      exact RowRes.of hR.out HV.out.1 (by have := HV.out.2.2; omega) HV.out.2.1.be
end Go.Proofs.YtegnnghoiffmhaaDoor.Big
