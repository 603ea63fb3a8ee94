/- integer.times: the product of two rows of digits. -/
import Derived.Test.YtegnnghoiffmhaaDoorIBase
namespace Go.Proofs.YtegnnghoiffmhaaDoor.Big
open Go.RowKit Go.Proofs.YtegnnghoiffmhaaDoorW.PrintWords
set_option linter.unusedVariables false
set_option linter.unusedSimpArgs false
theorem dg_set_ne (xs : List Int) (k j : Nat) (v : Int) (h : k ≠ j) : dg (xs.set k v) j = dg xs j := by
  simp [dg, List.getD_eq_getElem?_getD, List.getElem?_set_ne h]
theorem times_next (w wr : World) (g n cap gk i k : Nat) (c x y o : Int) (cs ds xs ys : List Int) (ex : dg xs i = x) (ey : dg ys k = y) (eo : dg ds (i + k) = o) (dx : 0 ≤ x ∧ x ≤ 4294967295) (dy : 0 ≤ y ∧ y ≤ 4294967295) (hk : k < ys.length) (hi : i < xs.length)
    (h : k + gk = ys.length ∧ (0 ≤ c ∧ c ≤ 4294967295) ∧ ds.length = xs.length + ys.length ∧ val ds + c * pw (i + k) = val (xs.take i) * val ys + dg xs i * pw i * val (ys.take k) ∧ (∀ j, i + ys.length ≤ j → dg ds j = 0) ∧ Own w wr (.slice (some ⟨g, 0, none⟩) n cap) ds) :
    Aside0 (k + 1 + (gk - 1) = ys.length ∧ (0 ≤ (c + (x * y + o)) / 4294967296 ∧ (c + (x * y + o)) / 4294967296 ≤ 4294967295) ∧ (ds.set (i + k) ((c + (x * y + o)) % 4294967296)).length = xs.length + ys.length ∧ val (ds.set (i + k) ((c + (x * y + o)) % 4294967296)) + (c + (x * y + o)) / 4294967296 * pw (i + (k + 1)) = val (xs.take i) * val ys + dg xs i * pw i * val (ys.take (k + 1)) ∧
      (∀ j, i + ys.length ≤ j → dg (ds.set (i + k) ((c + (x * y + o)) % 4294967296)) j = 0) ∧ Own w (wr.setCell ⟨g, i + k, none⟩ (.int .u32 ((c + (x * y + o)) % 4294967296))) (.slice (some ⟨g, 0, none⟩) n cap) (ds.set (i + k) ((c + (x * y + o)) % 4294967296))) := by
  obtain ⟨h1, h2, h3, h4, h5, h6⟩ := h
  have hp0 : 0 ≤ x * y := Int.mul_nonneg dx.1 dy.1
  have hp1 : x * y ≤ 18446744065119617025 := Int.mul_le_mul dx.2 dy.2 dy.1 (by omega)
  have do_ := dg_dig h6.ow.dig (i + k)
  rw [eo] at do_
  refine ⟨by omega, by omega, by simpa using h3, ?_, fun j hj => by rw [dg_set_ne _ _ _ _ (by omega)]; exact h5 j hj, h6.put (i + k) _ (by omega) (by omega)⟩
  rw [val_set _ _ _ (by omega), val_take ys, ex, ey, eo]
  rw [ex] at h4
  have e := Int.mul_ediv_add_emod (c + (x * y + o)) 4294967296
  have ep : pw (i + (k + 1)) = pw (i + k) * 4294967296 := rfl
  rw [ep, pw_add i k] at *
  grind
theorem times_row (w wr : World) (g n cap gk i k : Nat) (c : Int) (ds xs ys : List Int) (hi : i < xs.length) (hk : ys.length ≤ k)
    (h : k + gk = ys.length ∧ (0 ≤ c ∧ c ≤ 4294967295) ∧ ds.length = xs.length + ys.length ∧ val ds + c * pw (i + k) = val (xs.take i) * val ys + dg xs i * pw i * val (ys.take k) ∧ (∀ j, i + ys.length ≤ j → dg ds j = 0) ∧ Own w wr (.slice (some ⟨g, 0, none⟩) n cap) ds) :
    Aside0 (i + 1 + (xs.length - i - 1) = xs.length ∧ (ds.set (i + ys.length) c).length = xs.length + ys.length ∧ val (ds.set (i + ys.length) c) = val (xs.take (i + 1)) * val ys ∧ (∀ j, i + 1 + ys.length ≤ j → dg (ds.set (i + ys.length) c) j = 0) ∧ Own w (wr.setCell ⟨g, i + ys.length, none⟩ (.int .u32 c)) (.slice (some ⟨g, 0, none⟩) n cap) (ds.set (i + ys.length) c)) := by
  obtain ⟨h1, h2, h3, h4, h5, h6⟩ := h
  refine ⟨by omega, by simpa using h3, ?_, fun j hj => by rw [dg_set_ne _ _ _ _ (by omega)]; exact h5 j (by omega), h6.put _ _ (by omega) (by omega)⟩
  obtain rfl : k = ys.length := by omega
  rw [val_set _ _ _ (by omega), h5 _ (Nat.le_refl _), val_take xs]
  rw [List.take_of_length_le (Nat.le_refl _)] at h4
  grind
set_option maxRecDepth 100000 in
theorem times_any (A0 A1 : Option Addr) (c0 c1 : Nat) (xs ys : List Int) (w : World) (h0 : Rd w A0 c0 xs) (h1 : Rd w A1 c1 ys) (hl0 : xs.length ≤ 274877906944) (hl1 : ys.length ≤ 274877906944) :
    Calls Tryd.prog 56 #[.slice A0 xs.length c0, .slice A1 ys.length c1] w fun e w' => ∃ v cs, e = .returned v ∧ Own w w' v cs ∧ val cs = val xs * val ys ∧ cs.length = xs.length + ys.length := by
  have H := Aside0.mk (And.intro h0 h1)
  clear h0 h1
  have ea : (xs.length : Int) + (ys.length : Int) = ((xs.length + ys.length : Nat) : Int) := by omega
  have EA := Aside0.mk ea
  clear ea
  go_enter Tryd.func56, Tryd.ntmps56
  go_wp2_with (first | ((with_reducible refine gate_dst (N := 16) rfl ?_); refine make_u32 rfl rfl _ _ rfl (xs.length + ys.length) (by rw [← EA.out]; rfl) (by rw [← EA.out]; rfl) (by omega) ?_; intro v5 w1 ho hb; have HO := Aside0.mk (Own.mk ho hb); clear ho hb))
  go_loopg [8, 19] xs.length (fun kq v8 v19 w' => ∃ (i : Nat) (cs : List Int), v19 = .int .i64 i ∧ Aside0 (i + kq = xs.length ∧ cs.length = xs.length + ys.length ∧ val cs = val (xs.take i) * val ys ∧ (∀ j, i + ys.length ≤ j → dg cs j = 0) ∧ Own w w' v5 cs))
  case atStart => exact ⟨0, List.replicate (xs.length + ys.length) 0, rfl, ⟨by omega, by simp, by simp [val_zeros, val], fun j _ => by simp [dg, List.getD_eq_getElem?_getD, List.getElem?_replicate]; split <;> rfl, HO.out⟩⟩
  case round =>
    clear HO
    obtain ⟨i, cs, rfl, HA⟩ := hrel
    by_cases hi : i < xs.length
    · obtain ⟨ad0, rfl, x0⟩ := H.out.1.at_ i hi
      replace x0 := (HA.out.2.2.2.2.be.cell (World.block_lt_of_cell? w _ x0)).trans x0
      obtain ⟨g, cap, rfl, -⟩ := HA.out.2.2.2.2.ow.form (by have := HA.out; omega)
      have hi2 : i < 274877906944 := by omega
      go_wp2
      obtain ⟨wo, rfl⟩ : ∃ wo : World, wo = wr := ⟨_, rfl⟩
      go_loopg [8, 26] ys.length (fun kq v8 v26 w' => ∃ (k : Nat) (c : Int) (ds : List Int), v8 = .int .u64 c ∧ v26 = .int .i64 k ∧ Aside0 (k + kq = ys.length ∧ (0 ≤ c ∧ c ≤ 4294967295) ∧ ds.length = xs.length + ys.length ∧ val ds + c * pw (i + k) = val (xs.take i) * val ys + dg xs i * pw i * val (ys.take k) ∧ (∀ j, i + ys.length ≤ j → dg ds j = 0) ∧ Own w w' (.slice (some ⟨g, 0, none⟩) cs.length cap) ds))
      case atStart => exact ⟨0, 0, cs, rfl, rfl, ⟨by omega, by omega, HA.out.2.1, by rw [HA.out.2.2.1]; simp [val], HA.out.2.2.2.1, HA.out.2.2.2.2⟩⟩
      case round =>
        obtain ⟨k, c, ds, rfl, rfl, HB⟩ := hrel
        have DX := Aside0.mk (dg_dig H.out.1.dig i)
        by_cases hk : k < ys.length
        · obtain ⟨ad1, rfl, x1⟩ := H.out.2.at_ k hk
          replace x1 := (HB.out.2.2.2.2.2.be.cell (World.block_lt_of_cell? w _ x1)).trans x1
          have hik : i + k < cs.length := by have := HA.out; omega
          have hk2 : k < 274877906944 := by omega
          obtain ⟨y0, y1⟩ := HB.out.2.2.2.2.2.ow.cell (i + k) hik
          have DY := Aside0.mk (dg_dig H.out.2.dig k)
          have DO := Aside0.mk (dg_dig HB.out.2.2.2.2.2.ow.dig (i + k))
          have hp0 : 0 ≤ dg xs i * dg ys k := Int.mul_nonneg DX.out.1 DY.out.1
          have hp1 : dg xs i * dg ys k ≤ 18446744065119617025 := Int.mul_le_mul DX.out.2 DY.out.2 DY.out.1 (by omega)
          have hx0 := DX.out.1
          have hx1 := DX.out.2
          have hy0 := DY.out.1
          have hy1 := DY.out.2
          have ho0 := DO.out.1
          have ho1 := DO.out.2
          have hc0 := HB.out.2.1.1
          have hc1 := HB.out.2.1.2
          go_wp2
          go_roundg (gk - 1)
          case measure => have := HB.out; omega
          case rel => exact ⟨k + 1, _, _, rfl, by go_num, times_next w wr g _ cap gk i k c _ _ _ cs ds xs ys rfl rfl rfl DX.out DY.out hk hi HB.out⟩
        · have hn : i + ys.length < cs.length := by have := HA.out; omega
          obtain ⟨y0, y1⟩ := HB.out.2.2.2.2.2.ow.cell (i + ys.length) hn
          have hc0 := HB.out.2.1.1
          have hc1 := HB.out.2.1.2
          go_wp2
          go_roundg (xs.length - i - 1)
          case measure => have := HA.out; omega
          case rel => exact ⟨i + 1, _, by go_num, times_row w wr g _ cap _ i k c ds xs ys hi (by omega) HB.out⟩
    · go_wp2
      go_ret
      have h := HA.out
      refine ⟨_, cs, rfl, h.2.2.2.2, ?_, h.2.1⟩
      rw [h.2.2.1, List.take_of_length_le (by omega)]
end Go.Proofs.YtegnnghoiffmhaaDoor.Big
