/- integer.shifted and unshifted: a row of digits moved by fewer than 32 bits. -/
import Derived.Test.YtegnnghoiffmhaaDoorIShrunk
namespace Go.Proofs.YtegnnghoiffmhaaDoor.Big
open Go.RowKit Go.Proofs.YtegnnghoiffmhaaDoorW.PrintWords
set_option linter.unusedVariables false
set_option linter.unusedSimpArgs false
theorem pow_bounds {s : Nat} (hs : s < 32) : 1 ≤ (2 : Int) ^ s ∧ (2 : Int) ^ s ≤ 2147483648 ∧ ∃ q : Int, (2 : Int) ^ s * q = 4294967296 := by
  refine ⟨?_, ?_, (2 : Int) ^ (32 - s), ?_⟩
  · have : 0 < (2 : Int) ^ s := Int.pow_pos (by omega)
    omega
  · have h : 2 ^ s ≤ 2 ^ 31 := Nat.pow_le_pow_right (by omega) (by omega)
    have h2 : ((2 ^ s : Nat) : Int) ≤ ((2 ^ 31 : Nat) : Int) := Int.ofNat_le.mpr h
    rw [Int.natCast_pow] at h2
    exact h2
  · rw [← Int.pow_add, show s + (32 - s) = 32 by omega]; rfl
theorem sh_or {s : Nat} (hs : s < 32) (o x : Int) (ho : 0 ≤ o ∧ o < 2 ^ s) (hx : 0 ≤ x ∧ x ≤ 4294967295) : bits .or .u32 o ((x * 2 ^ s) % 4294967296) = o + (x * 2 ^ s) % 4294967296 := by
  obtain ⟨O, rfl⟩ := Int.eq_ofNat_of_zero_le ho.1
  obtain ⟨X, rfl⟩ := Int.eq_ofNat_of_zero_le hx.1
  have hO : O < 2 ^ s := by have := ho.2; exact_mod_cast this
  have e1 : ((X : Int) * 2 ^ s) % 4294967296 = ((2 ^ s * (X % 2 ^ (32 - s)) : Nat) : Int) := by
    have h1 : (X * 2 ^ s) % 2 ^ 32 = 2 ^ s * (X % 2 ^ (32 - s)) := by
      rw [Nat.mul_comm X, show 2 ^ 32 = 2 ^ s * 2 ^ (32 - s) by rw [← Nat.pow_add, show s + (32 - s) = 32 by omega], Nat.mul_mod_mul_left]
    rw [← h1]
    simp
  have hM : 2 ^ s * (X % 2 ^ (32 - s)) < 4294967296 := by
    have h2 : X % 2 ^ (32 - s) < 2 ^ (32 - s) := Nat.mod_lt _ (Nat.pow_pos (by omega))
    have h3 : 2 ^ s * (X % 2 ^ (32 - s)) < 2 ^ s * 2 ^ (32 - s) := Nat.mul_lt_mul_of_pos_left h2 (Nat.pow_pos (by omega))
    rwa [← Nat.pow_add, show s + (32 - s) = 32 by omega] at h3
  have hs2 : (2 : Nat) ^ s ≤ 2 ^ 31 := Nat.pow_le_pow_right (by omega) (by omega)
  rw [e1, u32_or_nat _ _ (by omega) hM, Nat.or_comm, ← Nat.two_pow_add_eq_or_of_lt hO]
  omega
theorem sh_facts {s : Nat} (hs : s < 32) {x : Int} (hx : 0 ≤ x ∧ x ≤ 4294967295) : 0 ≤ x * 2 ^ s ∧ x * 2 ^ s < 9223372036854775808 ∧ 0 ≤ x * 2 ^ s / 4294967296 ∧ x * 2 ^ s / 4294967296 < 2 ^ s := by
  obtain ⟨h1, h2, _⟩ := pow_bounds hs
  have h3 : 0 ≤ x * 2 ^ s := Int.mul_nonneg hx.1 (by omega)
  have h4 : x * 2 ^ s ≤ 4294967295 * 2 ^ s := Int.mul_le_mul_of_nonneg_right hx.2 (by omega)
  refine ⟨h3, by omega, Int.ediv_nonneg h3 (by omega), ?_⟩
  exact Int.ediv_lt_of_lt_mul (by omega) (by omega)
theorem dg_set_self (xs : List Int) (k : Nat) (v : Int) (h : k < xs.length) : dg (xs.set k v) k = v := by simp [dg, List.getD_eq_getElem?_getD, h]
theorem dg_set_ne' (xs : List Int) (k j : Nat) (v : Int) (h : k ≠ j) : dg (xs.set k v) j = dg xs j := by simp [dg, List.getD_eq_getElem?_getD, List.getElem?_set_ne h]
theorem sh_next (w wr : World) (g n cap gk k s : Nat) (x : Int) (cs xs : List Int) (hs : s < 32) (ex : dg xs k = x) (dx : 0 ≤ x ∧ x ≤ 4294967295) (hk : k < xs.length)
    (h : k + gk = xs.length ∧ cs.length = xs.length + 1 ∧ val cs = val (xs.take k) * 2 ^ s ∧ (0 ≤ dg cs k ∧ dg cs k < 2 ^ s) ∧ (∀ j, k < j → dg cs j = 0) ∧ Own w wr (.slice (some ⟨g, 0, none⟩) n cap) cs) :
    Aside0 (k + 1 + (gk - 1) = xs.length ∧ ((cs.set k (dg cs k + x * 2 ^ s % 4294967296)).set (k + 1) (x * 2 ^ s / 4294967296)).length = xs.length + 1 ∧ val ((cs.set k (dg cs k + x * 2 ^ s % 4294967296)).set (k + 1) (x * 2 ^ s / 4294967296)) = val (xs.take (k + 1)) * 2 ^ s ∧ (0 ≤ dg ((cs.set k (dg cs k + x * 2 ^ s % 4294967296)).set (k + 1) (x * 2 ^ s / 4294967296)) (k + 1) ∧ dg ((cs.set k (dg cs k + x * 2 ^ s % 4294967296)).set (k + 1) (x * 2 ^ s / 4294967296)) (k + 1) < 2 ^ s) ∧
      (∀ j, k + 1 < j → dg ((cs.set k (dg cs k + x * 2 ^ s % 4294967296)).set (k + 1) (x * 2 ^ s / 4294967296)) j = 0) ∧
      Own w ((wr.setCell ⟨g, k, none⟩ (.int .u32 (dg cs k + x * 2 ^ s % 4294967296))).setCell ⟨g, k + 1, none⟩ (.int .u32 (x * 2 ^ s / 4294967296))) (.slice (some ⟨g, 0, none⟩) n cap) ((cs.set k (dg cs k + x * 2 ^ s % 4294967296)).set (k + 1) (x * 2 ^ s / 4294967296))) := by
  obtain ⟨h1, h2, h3, h4, h5, h6⟩ := h
  obtain ⟨f1, f2, f3, f4⟩ := sh_facts hs dx
  have hb : dg cs k + x * 2 ^ s % 4294967296 ≤ 4294967295 := by
    have h := sh_or hs (dg cs k) x h4 dx
    rw [← h]
    obtain ⟨O, hO⟩ := Int.eq_ofNat_of_zero_le h4.1
    obtain ⟨M, hM⟩ := Int.eq_ofNat_of_zero_le (show 0 ≤ x * 2 ^ s % 4294967296 by omega)
    have p := pow_bounds hs
    rw [hO, hM, u32_or_nat _ _ (by omega) (by omega)]
    have : O ||| M < 2 ^ 32 := Nat.or_lt_two_pow (by omega) (by omega)
    omega
  have hp := pow_bounds hs
  refine ⟨by omega, by simpa using h2, ?_, ?_, ?_, (h6.put k _ (by omega) ⟨by omega, hb⟩).put (k + 1) _ (by simp; omega) (by omega)⟩
  · rw [val_set _ _ _ (by simp; omega), val_set _ _ _ (by omega), dg_set_ne' _ _ _ _ (by omega), h5 (k + 1) (by omega), val_take xs, h3, ex]
    have e := Int.mul_ediv_add_emod (x * 2 ^ s) 4294967296
    simp only [pw]
    grind
  · rw [dg_set_self _ _ _ (by simp; omega)]; exact ⟨f3, f4⟩
  · intro j hj
    rw [dg_set_ne' _ _ _ _ (by omega), dg_set_ne' _ _ _ _ (by omega)]
    exact h5 j (by omega)
set_option maxRecDepth 100000 in
theorem shifted_any (A : Option Addr) (c s : Nat) (xs : List Int) (w : World) (h : Rd w A c xs) (hs : s < 32) (hl : xs.length ≤ 549755813888) :
    Calls Tryd.prog 75 #[.slice A xs.length c, .int .i64 s] w fun e w' => ∃ v cs, e = .returned v ∧ Own w w' v cs ∧ val cs = val xs * 2 ^ s ∧ cs.length = xs.length + 1 := by
  have H := Aside0.mk h
  clear h
  go_enter Tryd.func75, Tryd.ntmps75
  go_wp2_with (first | ((with_reducible refine gate_dst (N := 12) rfl ?_); refine make_u32 rfl rfl _ _ rfl (xs.length + 1) rfl rfl (by omega) ?_; intro v5 w1 ho hb; have HO := Aside0.mk (Own.mk ho hb); clear ho hb))
  go_loopg [8, 15] xs.length (fun kq v8 v15 w' => ∃ (k : Nat) (cs : List Int), v15 = .int .i64 k ∧ Aside0 (k + kq = xs.length ∧ cs.length = xs.length + 1 ∧ val cs = val (xs.take k) * 2 ^ s ∧ (0 ≤ dg cs k ∧ dg cs k < 2 ^ s) ∧ (∀ j, k < j → dg cs j = 0) ∧ Own w w' v5 cs))
  case atStart => exact ⟨0, List.replicate (xs.length + 1) 0, rfl, ⟨by omega, by simp, by rw [val_zeros]; simp [val], ⟨by simp [dg, List.getD_eq_getElem?_getD], by have := pow_bounds hs; simp [dg, List.getD_eq_getElem?_getD]; omega⟩, fun j _ => by simp [dg, List.getD_eq_getElem?_getD, List.getElem?_replicate]; split <;> rfl, HO.out⟩⟩
  case round =>
    clear HO
    obtain ⟨k, cs, rfl, HA⟩ := hrel
    obtain ⟨g, cap, rfl, -⟩ := HA.out.2.2.2.2.2.ow.form (by have := HA.out; omega)
    by_cases hk : k < xs.length
    · obtain ⟨ad0, rfl, x0⟩ := H.out.at_ k hk
      replace x0 := (HA.out.2.2.2.2.2.be.cell (World.block_lt_of_cell? w _ x0)).trans x0
      have hk1 : k < cs.length := by have := HA.out; omega
      have hk2 : k + 1 < cs.length := by have := HA.out; omega
      have hk3 : k < 549755813888 := by omega
      obtain ⟨y0, y1⟩ := HA.out.2.2.2.2.2.ow.cell k hk1
      obtain ⟨z0, z1⟩ := HA.out.2.2.2.2.2.ow.cell (k + 1) hk2
      have D := Aside0.mk (dg_dig H.out.dig k)
      have d0 := D.out.1
      have d1 := D.out.2
      have f := sh_facts hs D.out
      have e1 : IntKind.u64.wrap (dg xs k * 2 ^ s) = dg xs k * 2 ^ s := IntWalk.u64_in _ ⟨f.1, by omega⟩
      have e2 := sh_or hs (dg cs k) (dg xs k) HA.out.2.2.2.1 D.out
      have e3 : dg xs k * 2 ^ s / 4294967296 % 4294967296 = dg xs k * 2 ^ s / 4294967296 := by omega
      clear f
      go_wp2
      go_roundg (gk - 1)
      case measure => have := HA.out; omega
      case rel => exact ⟨k + 1, _, by go_num, sh_next w wr g _ cap gk k s _ cs xs hs rfl D.out hk HA.out⟩
    · go_wp2
      go_ret
      have h := HA.out
      refine ⟨_, cs, rfl, h.2.2.2.2.2, ?_, h.2.1⟩
      rw [h.2.2.1, List.take_of_length_le (by omega)]
theorem un_step {s : Nat} (hs : s < 32) (x y W : Int) (hx : 0 ≤ x ∧ x ≤ 4294967295) (hW : ∃ q, W = y + 4294967296 * q) (hy : 0 ≤ y) : (x + 4294967296 * W) / 2 ^ s = (x + y * 4294967296) / 2 ^ s % 4294967296 + 4294967296 * (W / 2 ^ s) := by
  obtain ⟨h1, h2, q, hq⟩ := pow_bounds hs
  obtain ⟨z, rfl⟩ := hW
  generalize (2 : Int) ^ s = P at *
  have a1 := Int.mul_ediv_add_emod y P
  have a2 := Int.emod_nonneg y (show P ≠ 0 by omega)
  have a3 := Int.emod_lt_of_pos y (show 0 < P by omega)
  generalize y / P = a at *
  generalize y % P = b at *
  have e1 : (y + 4294967296 * z) / P = a + q * z := by
    have : y + 4294967296 * z = b + P * (a + q * z) := by rw [← a1, ← hq]; grind
    rw [this, Int.add_mul_ediv_left _ _ (by omega), Int.ediv_eq_zero_of_lt a2 a3]; omega
  have c0 : 0 ≤ (x + 4294967296 * b) / P := Int.ediv_nonneg (by omega) (by omega)
  have c1 : (x + 4294967296 * b) / P < 4294967296 := Int.ediv_lt_of_lt_mul (by omega) (by omega)
  have e2 : (x + y * 4294967296) / P = (x + 4294967296 * b) / P + 4294967296 * a := by
    have : x + y * 4294967296 = (x + 4294967296 * b) + P * (4294967296 * a) := by rw [← a1]; grind
    rw [this, Int.add_mul_ediv_left _ _ (by omega)]
  have e3 : (x + 4294967296 * (y + 4294967296 * z)) / P = (x + 4294967296 * b) / P + (4294967296 * a + 4294967296 * (q * z)) := by
    have : x + 4294967296 * (y + 4294967296 * z) = (x + 4294967296 * b) + P * (4294967296 * a + 4294967296 * (q * z)) := by rw [← a1]; grind
    rw [this, Int.add_mul_ediv_left _ _ (by omega)]
  rw [e1, e2, e3]
  omega
theorem un_next (w wr : World) (base g n cap gk k s : Nat) (x y : Int) (cs xs : List Int) (hs : s < 32) (hdig : ∀ x ∈ xs, 0 ≤ x ∧ x ≤ 4294967295) (ex : dg xs k = x) (ey : dg xs (k + 1) = y) (hk : k < xs.length)
    (h : k + gk = xs.length ∧ cs.length = xs.length ∧ cs.drop k = xs.drop k ∧ val (cs.take k) + pw k * (val (xs.drop k) / 2 ^ s) = val xs / 2 ^ s ∧ Ow wr base (.slice (some ⟨g, 0, none⟩) n cap) cs ∧ w.grownBy wr (some g)) :
    Aside0 (k + 1 + (gk - 1) = xs.length ∧ (cs.set k ((x + y * 4294967296) / 2 ^ s % 4294967296)).length = xs.length ∧ (cs.set k ((x + y * 4294967296) / 2 ^ s % 4294967296)).drop (k + 1) = xs.drop (k + 1) ∧ val ((cs.set k ((x + y * 4294967296) / 2 ^ s % 4294967296)).take (k + 1)) + pw (k + 1) * (val (xs.drop (k + 1)) / 2 ^ s) = val xs / 2 ^ s ∧
      Ow (wr.setCell ⟨g, k, none⟩ (.int .u32 ((x + y * 4294967296) / 2 ^ s % 4294967296))) base (.slice (some ⟨g, 0, none⟩) n cap) (cs.set k ((x + y * 4294967296) / 2 ^ s % 4294967296)) ∧ w.grownBy (wr.setCell ⟨g, k, none⟩ (.int .u32 ((x + y * 4294967296) / 2 ^ s % 4294967296))) (some g)) := by
  obtain ⟨h1, h2, h3, h4, h5, h6⟩ := h
  refine ⟨by omega, by simpa using h2, ?_, ?_, h5.put k _ (by omega), grown_set h6⟩
  · rw [List.drop_set_of_lt (by omega)]
    have := congrArg (List.drop 1) h3
    rwa [List.drop_drop, List.drop_drop] at this
  · rw [set_take cs k _ (by omega), val_append, List.length_take, show min k cs.length = k by omega, ← h4, val_drop xs k hk, ex]
    have hW : ∃ q, val (xs.drop (k + 1)) = y + 4294967296 * q := by
      by_cases hk1 : k + 1 < xs.length
      · exact ⟨_, by rw [val_drop xs (k + 1) hk1, ey]⟩
      · exact ⟨0, by rw [← ey, dg_ge xs (k + 1) (by omega), List.drop_of_length_le (by omega)]; simp [val]⟩
    have dx := dg_dig hdig k
    have dy := dg_dig hdig (k + 1)
    rw [un_step hs x y _ (by rw [← ex]; exact dx) hW (by rw [← ey]; exact dy.1)]
    simp only [val, pw]
    grind
set_option maxRecDepth 100000 in
theorem unshifted_any (A : Option Addr) (c base s : Nat) (xs : List Int) (w : World) (h : Ow w base (.slice A xs.length c) xs) (hs : s < 32) (hl : xs.length ≤ 1099511627776) :
    Calls Tryd.prog 78 #[.slice A xs.length c, .int .i64 s] w fun e w' => ∃ ys, e = .returned (.tuple #[]) ∧ Ow w' base (.slice A xs.length c) ys ∧ val ys = val xs / 2 ^ s ∧ ys.length = xs.length ∧ w.grownBy w' (Value.slice A xs.length c).ownBlock := by
  have H := Aside0.mk h
  clear h
  go_enter Tryd.func78, Tryd.ntmps78
  go_wp2
  go_loopg [5, 8] xs.length (fun kq v5 v8 w' => ∃ (k : Nat) (cs : List Int), v8 = .int .i64 k ∧ Aside0 (k + kq = xs.length ∧ cs.length = xs.length ∧ cs.drop k = xs.drop k ∧ val (cs.take k) + pw k * (val (xs.drop k) / 2 ^ s) = val xs / 2 ^ s ∧ Ow w' base (.slice A xs.length c) cs ∧ w.grownBy w' (Value.slice A xs.length c).ownBlock))
  case atStart => exact ⟨0, xs, rfl, ⟨by omega, rfl, rfl, by simp [val, pw], H.out, World.grownBy.refl _ _⟩⟩
  case round =>
    obtain ⟨k, cs, rfl, HA⟩ := hrel
    by_cases hk : k < xs.length
    · obtain ⟨g, cap, e, -⟩ := HA.out.2.2.2.2.1.form (by have := HA.out; omega)
      simp only [Value.slice.injEq] at e
      obtain ⟨rfl, -, rfl⟩ := e
      have hk2 : k < 1099511627776 := by omega
      obtain ⟨y0, y1⟩ := HA.out.2.2.2.2.1.cell k hk
      have D := Aside0.mk (dg_dig H.out.dig k)
      have ed : ∀ j, k ≤ j → dg cs j = dg xs j := fun j hj => by
        have := congrArg (fun l => dg l (j - k)) HA.out.2.2.1
        simpa [dg, List.getD_eq_getElem?_getD, List.getElem?_drop, show k + (j - k) = j by omega] using this
      rw [ed k (Nat.le_refl _)] at y0
      have d0 := D.out.1
      have d1 := D.out.2
      by_cases hk1 : k + 1 < xs.length
      · obtain ⟨z0, z1⟩ := HA.out.2.2.2.2.1.cell (k + 1) hk1
        rw [ed (k + 1) (by omega)] at z0
        clear ed
        have D1 := Aside0.mk (dg_dig H.out.dig (k + 1))
        have f0 := D1.out.1
        have f1 := D1.out.2
        have ho := or64_lo (dg xs (k + 1)) (dg xs k) D1.out D.out
        go_wp2
        go_roundg (gk - 1)
        case measure => have := HA.out; omega
        case rel => exact ⟨k + 1, _, by go_num, un_next w wr base g _ c gk k s _ _ cs xs hs H.out.dig rfl rfl hk HA.out⟩
      · clear ed
        have Z := Aside0.mk (dg_ge xs (k + 1) (by omega))
        go_wp2
        go_roundg (gk - 1)
        case measure => have := HA.out; omega
        case rel => exact ⟨k + 1, _, by go_num, by have h := un_next w wr base g _ c gk k s _ 0 cs xs hs H.out.dig rfl Z.out hk HA.out; rw [Int.zero_mul, Int.add_zero] at h; exact h⟩
    · go_wp2
      have h := HA.out
      go_end0
      refine ⟨cs, rfl, h.2.2.2.2.1, ?_, h.2.1, h.2.2.2.2.2⟩
      have e := h.2.2.2.1
      rw [List.take_of_length_le (by omega), List.drop_of_length_le (by omega)] at e
      rw [← e]; simp [val]
end Go.Proofs.YtegnnghoiffmhaaDoor.Big
