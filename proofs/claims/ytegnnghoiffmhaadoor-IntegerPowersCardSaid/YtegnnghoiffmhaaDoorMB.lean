/- integer.shrunk: a row of digits divided in place by one digit. integer.shifted and unshifted: a row of digits moved by fewer than 32 bits. integer.digit: the estimate of a quotient's digit. integer.reduce: a multiple of a row of digits taken off a part of a row, and the quotient's digit. The steps of the long division, in numbers. integer.divide: the quotient and the remainder of rows of digits. integer.DivMod: the floor quotient and its remainder. Decimal text: groups of nine digits, and the digits of a number made of groups. integer.Format: an integer's decimal notation. The laws' own small functions: Light, awake, same; the reference's SameInt. SameInt, same. What a function over integers keeps: its variables and the rows that it reads. The contracts with the values named. -/
import Derived.Test.YtegnnghoiffmhaaDoorMA
import Derived.Laws.BitsAllLaws
import Derived.Test.YtegnnghoiffmhaaDoorShelf
import Derived.Test.YtegnnghoiffmhaaDoorWLast
import Derived.Lib.ItoaNum
import Derived.Deep.RegionHeld3
import Derived.Deep.DrawnRows
import Derived.Test.YtegnnghoiffmhaaDoorWWords
import Derived.Laws.BytesArg
import Derived.Lib.LaidTab
import Derived.Lib.AppendIntMem
namespace Go.Proofs.YtegnnghoiffmhaaDoor.Big
open Go.RowKit Go.Proofs.YtegnnghoiffmhaaDoorW.PrintWords
set_option linter.unusedVariables false
set_option linter.unusedSimpArgs false
theorem or64_hi (r y : Int) (hr : 0 ≤ r ∧ r ≤ 4294967295) (hy : 0 ≤ y ∧ y ≤ 4294967295) : bits .or .u64 (r * 4294967296) y = r * 4294967296 + y := by
  obtain ⟨R, rfl⟩ := Int.eq_ofNat_of_zero_le hr.1
  obtain ⟨Y, rfl⟩ := Int.eq_ofNat_of_zero_le hy.1
  have h := Nat.two_pow_add_eq_or_of_lt (i := 32) (b := Y) (by omega) R
  have e : (R : Int) * 4294967296 = ((2 ^ 32 * R : Nat) : Int) := by omega
  rw [e, u64_or_nat _ _ (by omega) (by omega), ← h]
  omega
theorem or64_lo (r y : Int) (hr : 0 ≤ r ∧ r ≤ 4294967295) (hy : 0 ≤ y ∧ y ≤ 4294967295) : bits .or .u64 y (r * 4294967296) = y + r * 4294967296 := by
  have h := or64_hi r y hr hy
  obtain ⟨R, rfl⟩ := Int.eq_ofNat_of_zero_le hr.1
  obtain ⟨Y, rfl⟩ := Int.eq_ofNat_of_zero_le hy.1
  have e : (R : Int) * 4294967296 = ((2 ^ 32 * R : Nat) : Int) := by omega
  rw [e] at h ⊢
  rw [u64_or_nat _ _ (by omega) (by omega)] at h ⊢
  rw [Nat.or_comm, h]
  omega
theorem val_drop (xs : List Int) (k : Nat) (hk : k < xs.length) : val (xs.drop k) = dg xs k + 4294967296 * val (xs.drop (k + 1)) := by rw [drop_dg xs k hk]; rfl
theorem div_dig {rest d K : Int} (h0 : 0 ≤ rest) (h1 : rest < K) (hd : 0 ≤ d ∧ d ≤ 4294967295) : 0 ≤ (rest * 4294967296 + d) / K ∧ (rest * 4294967296 + d) / K ≤ 4294967295 ∧ 0 ≤ (rest * 4294967296 + d) % K ∧ (rest * 4294967296 + d) % K < K := by
  have hK : 0 < K := by omega
  refine ⟨Int.ediv_nonneg (by omega) (by omega), ?_, Int.emod_nonneg _ (by omega), Int.emod_lt_of_pos _ hK⟩
  have : (rest * 4294967296 + d) / K < 4294967296 := Int.ediv_lt_of_lt_mul hK (by omega)
  omega
theorem shr_next (w wr : World) (base g n cap gk k : Nat) (rest K d : Int) (cs xs : List Int) (hd : dg xs k = d) (hdd : 0 ≤ d ∧ d ≤ 4294967295)
    (h : k + 1 = gk ∧ k + 1 ≤ xs.length ∧ cs.length = xs.length ∧ (0 ≤ rest ∧ rest < K) ∧ cs.take (k + 1) = xs.take (k + 1) ∧ val (cs.drop (k + 1)) * K + rest = val (xs.drop (k + 1)) ∧ Ow wr base (.slice (some ⟨g, 0, none⟩) n cap) cs ∧ w.grownBy wr (some g)) :
    Aside0 (k = gk - 1 ∧ k ≤ xs.length ∧ (cs.set k ((rest * 4294967296 + d) / K)).length = xs.length ∧ (0 ≤ (rest * 4294967296 + d) % K ∧ (rest * 4294967296 + d) % K < K) ∧ (cs.set k ((rest * 4294967296 + d) / K)).take k = xs.take k ∧ val ((cs.set k ((rest * 4294967296 + d) / K)).drop k) * K + (rest * 4294967296 + d) % K = val (xs.drop k) ∧
      Ow (wr.setCell ⟨g, k, none⟩ (.int .u32 ((rest * 4294967296 + d) / K))) base (.slice (some ⟨g, 0, none⟩) n cap) (cs.set k ((rest * 4294967296 + d) / K)) ∧ w.grownBy (wr.setCell ⟨g, k, none⟩ (.int .u32 ((rest * 4294967296 + d) / K))) (some g)) := by
  obtain ⟨h1, h2, h3, h4, h5, h6, h7, h8⟩ := h
  have hq := div_dig h4.1 h4.2 hdd
  have hk : k < cs.length := by omega
  refine ⟨by omega, by omega, by simpa using h3, ⟨hq.2.2.1, hq.2.2.2⟩, ?_, ?_, h7.put k _ ⟨hq.1, hq.2.1⟩, grown_set h8⟩
  · rw [List.take_set, List.set_eq_of_length_le (by simp; omega)]
    have := congrArg (List.take k) h5
    rwa [List.take_take, List.take_take, show min k (k + 1) = k by omega] at this
  · rw [val_drop _ k (by simpa using hk), val_drop xs k (by omega), hd, ← h6, List.drop_set_of_lt (by omega)]
    have e0 : dg (cs.set k ((rest * 4294967296 + d) / K)) k = (rest * 4294967296 + d) / K := by simp [dg, List.getD_eq_getElem?_getD, hk]
    rw [e0]
    have e := Int.mul_ediv_add_emod (rest * 4294967296 + d) K
    grind
set_option maxRecDepth 100000 in
theorem shrunk_any (A : Option Addr) (c base : Nat) (xs : List Int) (K : Int) (w : World) (h : Ow w base (.slice A xs.length c) xs) (hK : 0 < K ∧ K ≤ 4294967295) (hl : xs.length ≤ 1099511627776) :
    Calls Tryd.prog 65 #[.slice A xs.length c, .int .u32 K] w fun e w' => ∃ ys, e = .returned (.int .u32 (val xs % K)) ∧ Ow w' base (.slice A xs.length c) ys ∧ val ys = val xs / K ∧ ys.length = xs.length ∧ w.grownBy w' (Value.slice A xs.length c).ownBlock := by
  have H := Aside0.mk h
  clear h
  obtain ⟨hK0, hK1⟩ := hK
  go_enter Tryd.func65, Tryd.ntmps65
  go_wp2
  go_loopg [5, 6] xs.length (fun kq v5 v6 w' => ∃ (k : Nat) (rest : Int) (cs : List Int), v5 = .int .u64 rest ∧ v6 = .int .i64 ((k : Int) - 1) ∧ Aside0 (k = kq ∧ k ≤ xs.length ∧ cs.length = xs.length ∧ (0 ≤ rest ∧ rest < K) ∧ cs.take k = xs.take k ∧ val (cs.drop k) * K + rest = val (xs.drop k) ∧ Ow w' base (.slice A xs.length c) cs ∧ w.grownBy w' (Value.slice A xs.length c).ownBlock))
  case atStart => exact ⟨xs.length, 0, xs, rfl, rfl, ⟨rfl, Nat.le_refl _, rfl, ⟨by omega, by omega⟩, rfl, by rw [List.drop_of_length_le (Nat.le_refl _)]; simp [val], H.out, World.grownBy.refl _ _⟩⟩
  case round =>
    obtain ⟨k, rest, cs, rfl, rfl, HA⟩ := hrel
    have r0 := HA.out.2.2.2.1.1
    have r1 := HA.out.2.2.2.1.2
    cases k with
    | zero =>
      go_wp2
      go_ret
      have h := HA.out
      have e := h.2.2.2.2.2.1
      simp only [List.drop_zero] at e
      have e1 : val xs % K = rest := by rw [← e, Int.add_comm, Int.add_mul_emod_self_right]; exact Int.emod_eq_of_lt r0 r1
      have e2 : val cs = val xs / K := by rw [← e, Int.add_comm, Int.add_mul_ediv_right _ _ (by omega), Int.ediv_eq_zero_of_lt r0 r1]; omega
      refine ⟨cs, ?_, h.2.2.2.2.2.2.1, e2, h.2.2.1, h.2.2.2.2.2.2.2⟩
      rw [e1]; rfl
    | succ k =>
      obtain ⟨g, cap, e, -⟩ := HA.out.2.2.2.2.2.2.1.form (by have := HA.out; omega)
      simp only [Value.slice.injEq] at e
      obtain ⟨rfl, -, rfl⟩ := e
      have hk : k < xs.length := by have := HA.out; omega
      have hk2 : k < 1099511627776 := by omega
      obtain ⟨y0, y1⟩ := HA.out.2.2.2.2.2.2.1.cell k hk
      have D := Aside0.mk (dg_dig H.out.dig k)
      have ed : dg cs k = dg xs k := by
        have := congrArg (fun l => dg l k) HA.out.2.2.2.2.1
        simpa [dg, List.getD_eq_getElem?_getD, List.getElem?_take] using this
      rw [ed] at y0
      have ho := or64_hi rest (dg xs k) ⟨r0, by omega⟩ D.out
      obtain ⟨q0, q1, q2, q3⟩ := div_dig r0 r1 D.out
      have d0 := D.out.1
      have d1 := D.out.2
      have r2 : rest ≤ 4294967295 := by omega
      clear ed
      go_wp2
      go_roundg (gk - 1)
      case measure => have := HA.out; omega
      case rel => exact ⟨k, _, _, rfl, by go_num, shr_next w wr base g _ c gk k rest K _ cs xs rfl D.out HA.out⟩
end Go.Proofs.YtegnnghoiffmhaaDoor.Big
namespace Go.Proofs.YtegnnghoiffmhaaDoor.Big
open Go.RowKit Go.Proofs.YtegnnghoiffmhaaDoorW.PrintWords
set_option linter.unusedVariables false
set_option linter.unusedSimpArgs false
theorem pow_bounds {s : Nat} (hs : s < 32) : 1 ≤ (2 : Int) ^ s ∧ (2 : Int) ^ s ≤ 2147483648 ∧ ∃ q : Int, (2 : Int) ^ s * q = 4294967296 := by
  refine ⟨?_, ?_, (2 : Int) ^ (32 - s), ?_⟩
  · have : 0 < (2 : Int) ^ s := Int.pow_pos (by omega)
    omega
  · have h : 2 ^ s ≤ 2 ^ 31 := Nat.pow_le_pow_right (by omega) (by omega)
    have h2 : ((2 ^ s : Nat) : Int) ≤ ((2 ^ 31 : Nat) : Int) := Int.ofNat_le.mpr h
    rw [Int.natCast_pow] at h2
    exact h2
  · rw [← Int.pow_add, show s + (32 - s) = 32 by omega]; rfl
theorem sh_or {s : Nat} (hs : s < 32) (o x : Int) (ho : 0 ≤ o ∧ o < 2 ^ s) (hx : 0 ≤ x ∧ x ≤ 4294967295) : bits .or .u32 o ((x * 2 ^ s) % 4294967296) = o + (x * 2 ^ s) % 4294967296 := by
  obtain ⟨O, rfl⟩ := Int.eq_ofNat_of_zero_le ho.1
  obtain ⟨X, rfl⟩ := Int.eq_ofNat_of_zero_le hx.1
  have hO : O < 2 ^ s := by have := ho.2; exact_mod_cast this
  have e1 : ((X : Int) * 2 ^ s) % 4294967296 = ((2 ^ s * (X % 2 ^ (32 - s)) : Nat) : Int) := by
    have h1 : (X * 2 ^ s) % 2 ^ 32 = 2 ^ s * (X % 2 ^ (32 - s)) := by
      rw [Nat.mul_comm X, show 2 ^ 32 = 2 ^ s * 2 ^ (32 - s) by rw [← Nat.pow_add, show s + (32 - s) = 32 by omega], Nat.mul_mod_mul_left]
    rw [← h1]
    simp
  have hM : 2 ^ s * (X % 2 ^ (32 - s)) < 4294967296 := by
    have h2 : X % 2 ^ (32 - s) < 2 ^ (32 - s) := Nat.mod_lt _ (Nat.pow_pos (by omega))
    have h3 : 2 ^ s * (X % 2 ^ (32 - s)) < 2 ^ s * 2 ^ (32 - s) := Nat.mul_lt_mul_of_pos_left h2 (Nat.pow_pos (by omega))
    rwa [← Nat.pow_add, show s + (32 - s) = 32 by omega] at h3
  have hs2 : (2 : Nat) ^ s ≤ 2 ^ 31 := Nat.pow_le_pow_right (by omega) (by omega)
  rw [e1, u32_or_nat _ _ (by omega) hM, Nat.or_comm, ← Nat.two_pow_add_eq_or_of_lt hO]
  omega
theorem sh_facts {s : Nat} (hs : s < 32) {x : Int} (hx : 0 ≤ x ∧ x ≤ 4294967295) : 0 ≤ x * 2 ^ s ∧ x * 2 ^ s < 9223372036854775808 ∧ 0 ≤ x * 2 ^ s / 4294967296 ∧ x * 2 ^ s / 4294967296 < 2 ^ s := by
  obtain ⟨h1, h2, _⟩ := pow_bounds hs
  have h3 : 0 ≤ x * 2 ^ s := Int.mul_nonneg hx.1 (by omega)
  have h4 : x * 2 ^ s ≤ 4294967295 * 2 ^ s := Int.mul_le_mul_of_nonneg_right hx.2 (by omega)
  refine ⟨h3, by omega, Int.ediv_nonneg h3 (by omega), ?_⟩
  exact Int.ediv_lt_of_lt_mul (by omega) (by omega)
theorem dg_set_self (xs : List Int) (k : Nat) (v : Int) (h : k < xs.length) : dg (xs.set k v) k = v := by simp [dg, List.getD_eq_getElem?_getD, h]
theorem dg_set_ne' (xs : List Int) (k j : Nat) (v : Int) (h : k ≠ j) : dg (xs.set k v) j = dg xs j := by simp [dg, List.getD_eq_getElem?_getD, List.getElem?_set_ne h]
theorem sh_next (w wr : World) (g n cap gk k s : Nat) (x : Int) (cs xs : List Int) (hs : s < 32) (ex : dg xs k = x) (dx : 0 ≤ x ∧ x ≤ 4294967295) (hk : k < xs.length)
    (h : k + gk = xs.length ∧ cs.length = xs.length + 1 ∧ val cs = val (xs.take k) * 2 ^ s ∧ (0 ≤ dg cs k ∧ dg cs k < 2 ^ s) ∧ (∀ j, k < j → dg cs j = 0) ∧ Own w wr (.slice (some ⟨g, 0, none⟩) n cap) cs) :
    Aside0 (k + 1 + (gk - 1) = xs.length ∧ ((cs.set k (dg cs k + x * 2 ^ s % 4294967296)).set (k + 1) (x * 2 ^ s / 4294967296)).length = xs.length + 1 ∧ val ((cs.set k (dg cs k + x * 2 ^ s % 4294967296)).set (k + 1) (x * 2 ^ s / 4294967296)) = val (xs.take (k + 1)) * 2 ^ s ∧ (0 ≤ dg ((cs.set k (dg cs k + x * 2 ^ s % 4294967296)).set (k + 1) (x * 2 ^ s / 4294967296)) (k + 1) ∧ dg ((cs.set k (dg cs k + x * 2 ^ s % 4294967296)).set (k + 1) (x * 2 ^ s / 4294967296)) (k + 1) < 2 ^ s) ∧
      (∀ j, k + 1 < j → dg ((cs.set k (dg cs k + x * 2 ^ s % 4294967296)).set (k + 1) (x * 2 ^ s / 4294967296)) j = 0) ∧
      Own w ((wr.setCell ⟨g, k, none⟩ (.int .u32 (dg cs k + x * 2 ^ s % 4294967296))).setCell ⟨g, k + 1, none⟩ (.int .u32 (x * 2 ^ s / 4294967296))) (.slice (some ⟨g, 0, none⟩) n cap) ((cs.set k (dg cs k + x * 2 ^ s % 4294967296)).set (k + 1) (x * 2 ^ s / 4294967296))) := by
  obtain ⟨h1, h2, h3, h4, h5, h6⟩ := h
  obtain ⟨f1, f2, f3, f4⟩ := sh_facts hs dx
  have hb : dg cs k + x * 2 ^ s % 4294967296 ≤ 4294967295 := by
    have h := sh_or hs (dg cs k) x h4 dx
    rw [← h]
    obtain ⟨O, hO⟩ := Int.eq_ofNat_of_zero_le h4.1
    obtain ⟨M, hM⟩ := Int.eq_ofNat_of_zero_le (show 0 ≤ x * 2 ^ s % 4294967296 by omega)
    have p := pow_bounds hs
    rw [hO, hM, u32_or_nat _ _ (by omega) (by omega)]
    have : O ||| M < 2 ^ 32 := Nat.or_lt_two_pow (by omega) (by omega)
    omega
  have hp := pow_bounds hs
  refine ⟨by omega, by simpa using h2, ?_, ?_, ?_, (h6.put k _ (by omega) ⟨by omega, hb⟩).put (k + 1) _ (by simp; omega) (by omega)⟩
  · rw [val_set _ _ _ (by simp; omega), val_set _ _ _ (by omega), dg_set_ne' _ _ _ _ (by omega), h5 (k + 1) (by omega), val_take xs, h3, ex]
    have e := Int.mul_ediv_add_emod (x * 2 ^ s) 4294967296
    simp only [pw]
    grind
  · rw [dg_set_self _ _ _ (by simp; omega)]; exact ⟨f3, f4⟩
  · intro j hj
    rw [dg_set_ne' _ _ _ _ (by omega), dg_set_ne' _ _ _ _ (by omega)]
    exact h5 j (by omega)
set_option maxRecDepth 100000 in
theorem shifted_any (A : Option Addr) (c s : Nat) (xs : List Int) (w : World) (h : Rd w A c xs) (hs : s < 32) (hl : xs.length ≤ 549755813888) :
    Calls Tryd.prog 75 #[.slice A xs.length c, .int .i64 s] w fun e w' => ∃ v cs, e = .returned v ∧ Own w w' v cs ∧ val cs = val xs * 2 ^ s ∧ cs.length = xs.length + 1 := by
  have H := Aside0.mk h
  clear h
  go_enter Tryd.func75, Tryd.ntmps75
  go_wp2_with (first | ((with_reducible refine gate_dst (N := 12) rfl ?_); refine make_u32 rfl rfl _ _ rfl (xs.length + 1) rfl rfl (by omega) ?_; intro v5 w1 ho hb; have HO := Aside0.mk (Own.mk ho hb); clear ho hb))
  go_loopg [8, 15] xs.length (fun kq v8 v15 w' => ∃ (k : Nat) (cs : List Int), v15 = .int .i64 k ∧ Aside0 (k + kq = xs.length ∧ cs.length = xs.length + 1 ∧ val cs = val (xs.take k) * 2 ^ s ∧ (0 ≤ dg cs k ∧ dg cs k < 2 ^ s) ∧ (∀ j, k < j → dg cs j = 0) ∧ Own w w' v5 cs))
  case atStart => exact ⟨0, List.replicate (xs.length + 1) 0, rfl, ⟨by omega, by simp, by rw [val_zeros]; simp [val], ⟨by simp [dg, List.getD_eq_getElem?_getD], by have := pow_bounds hs; simp [dg, List.getD_eq_getElem?_getD]; omega⟩, fun j _ => by simp [dg, List.getD_eq_getElem?_getD, List.getElem?_replicate]; split <;> rfl, HO.out⟩⟩
  case round =>
    clear HO
    obtain ⟨k, cs, rfl, HA⟩ := hrel
    obtain ⟨g, cap, rfl, -⟩ := HA.out.2.2.2.2.2.ow.form (by have := HA.out; omega)
    by_cases hk : k < xs.length
    · obtain ⟨ad0, rfl, x0⟩ := H.out.at_ k hk
      replace x0 := (HA.out.2.2.2.2.2.be.cell (World.block_lt_of_cell? w _ x0)).trans x0
      have hk1 : k < cs.length := by have := HA.out; omega
      have hk2 : k + 1 < cs.length := by have := HA.out; omega
      have hk3 : k < 549755813888 := by omega
      obtain ⟨y0, y1⟩ := HA.out.2.2.2.2.2.ow.cell k hk1
      obtain ⟨z0, z1⟩ := HA.out.2.2.2.2.2.ow.cell (k + 1) hk2
      have D := Aside0.mk (dg_dig H.out.dig k)
      have d0 := D.out.1
      have d1 := D.out.2
      have f := sh_facts hs D.out
      have e1 : IntKind.u64.wrap (dg xs k * 2 ^ s) = dg xs k * 2 ^ s := IntWalk.u64_in _ ⟨f.1, by omega⟩
      have e2 := sh_or hs (dg cs k) (dg xs k) HA.out.2.2.2.1 D.out
      have e3 : dg xs k * 2 ^ s / 4294967296 % 4294967296 = dg xs k * 2 ^ s / 4294967296 := by omega
      clear f
      go_wp2
      go_roundg (gk - 1)
      case measure => have := HA.out; omega
      case rel => exact ⟨k + 1, _, by go_num, sh_next w wr g _ cap gk k s _ cs xs hs rfl D.out hk HA.out⟩
    · go_wp2
      go_ret
      have h := HA.out
      refine ⟨_, cs, rfl, h.2.2.2.2.2, ?_, h.2.1⟩
      rw [h.2.2.1, List.take_of_length_le (by omega)]
theorem un_step {s : Nat} (hs : s < 32) (x y W : Int) (hx : 0 ≤ x ∧ x ≤ 4294967295) (hW : ∃ q, W = y + 4294967296 * q) (hy : 0 ≤ y) : (x + 4294967296 * W) / 2 ^ s = (x + y * 4294967296) / 2 ^ s % 4294967296 + 4294967296 * (W / 2 ^ s) := by
  obtain ⟨h1, h2, q, hq⟩ := pow_bounds hs
  obtain ⟨z, rfl⟩ := hW
  generalize (2 : Int) ^ s = P at *
  have a1 := Int.mul_ediv_add_emod y P
  have a2 := Int.emod_nonneg y (show P ≠ 0 by omega)
  have a3 := Int.emod_lt_of_pos y (show 0 < P by omega)
  generalize y / P = a at *
  generalize y % P = b at *
  have e1 : (y + 4294967296 * z) / P = a + q * z := by
    have : y + 4294967296 * z = b + P * (a + q * z) := by rw [← a1, ← hq]; grind
    rw [this, Int.add_mul_ediv_left _ _ (by omega), Int.ediv_eq_zero_of_lt a2 a3]; omega
  have c0 : 0 ≤ (x + 4294967296 * b) / P := Int.ediv_nonneg (by omega) (by omega)
  have c1 : (x + 4294967296 * b) / P < 4294967296 := Int.ediv_lt_of_lt_mul (by omega) (by omega)
  have e2 : (x + y * 4294967296) / P = (x + 4294967296 * b) / P + 4294967296 * a := by
    have : x + y * 4294967296 = (x + 4294967296 * b) + P * (4294967296 * a) := by rw [← a1]; grind
    rw [this, Int.add_mul_ediv_left _ _ (by omega)]
  have e3 : (x + 4294967296 * (y + 4294967296 * z)) / P = (x + 4294967296 * b) / P + (4294967296 * a + 4294967296 * (q * z)) := by
    have : x + 4294967296 * (y + 4294967296 * z) = (x + 4294967296 * b) + P * (4294967296 * a + 4294967296 * (q * z)) := by rw [← a1]; grind
    rw [this, Int.add_mul_ediv_left _ _ (by omega)]
  rw [e1, e2, e3]
  omega
theorem un_next (w wr : World) (base g n cap gk k s : Nat) (x y : Int) (cs xs : List Int) (hs : s < 32) (hdig : ∀ x ∈ xs, 0 ≤ x ∧ x ≤ 4294967295) (ex : dg xs k = x) (ey : dg xs (k + 1) = y) (hk : k < xs.length)
    (h : k + gk = xs.length ∧ cs.length = xs.length ∧ cs.drop k = xs.drop k ∧ val (cs.take k) + pw k * (val (xs.drop k) / 2 ^ s) = val xs / 2 ^ s ∧ Ow wr base (.slice (some ⟨g, 0, none⟩) n cap) cs ∧ w.grownBy wr (some g)) :
    Aside0 (k + 1 + (gk - 1) = xs.length ∧ (cs.set k ((x + y * 4294967296) / 2 ^ s % 4294967296)).length = xs.length ∧ (cs.set k ((x + y * 4294967296) / 2 ^ s % 4294967296)).drop (k + 1) = xs.drop (k + 1) ∧ val ((cs.set k ((x + y * 4294967296) / 2 ^ s % 4294967296)).take (k + 1)) + pw (k + 1) * (val (xs.drop (k + 1)) / 2 ^ s) = val xs / 2 ^ s ∧
      Ow (wr.setCell ⟨g, k, none⟩ (.int .u32 ((x + y * 4294967296) / 2 ^ s % 4294967296))) base (.slice (some ⟨g, 0, none⟩) n cap) (cs.set k ((x + y * 4294967296) / 2 ^ s % 4294967296)) ∧ w.grownBy (wr.setCell ⟨g, k, none⟩ (.int .u32 ((x + y * 4294967296) / 2 ^ s % 4294967296))) (some g)) := by
  obtain ⟨h1, h2, h3, h4, h5, h6⟩ := h
  refine ⟨by omega, by simpa using h2, ?_, ?_, h5.put k _ (by omega), grown_set h6⟩
  · rw [List.drop_set_of_lt (by omega)]
    have := congrArg (List.drop 1) h3
    rwa [List.drop_drop, List.drop_drop] at this
  · rw [set_take cs k _ (by omega), val_append, List.length_take, show min k cs.length = k by omega, ← h4, val_drop xs k hk, ex]
    have hW : ∃ q, val (xs.drop (k + 1)) = y + 4294967296 * q := by
      by_cases hk1 : k + 1 < xs.length
      · exact ⟨_, by rw [val_drop xs (k + 1) hk1, ey]⟩
      · exact ⟨0, by rw [← ey, dg_ge xs (k + 1) (by omega), List.drop_of_length_le (by omega)]; simp [val]⟩
    have dx := dg_dig hdig k
    have dy := dg_dig hdig (k + 1)
    rw [un_step hs x y _ (by rw [← ex]; exact dx) hW (by rw [← ey]; exact dy.1)]
    simp only [val, pw]
    grind
set_option maxRecDepth 100000 in
theorem unshifted_any (A : Option Addr) (c base s : Nat) (xs : List Int) (w : World) (h : Ow w base (.slice A xs.length c) xs) (hs : s < 32) (hl : xs.length ≤ 1099511627776) :
    Calls Tryd.prog 78 #[.slice A xs.length c, .int .i64 s] w fun e w' => ∃ ys, e = .returned (.tuple #[]) ∧ Ow w' base (.slice A xs.length c) ys ∧ val ys = val xs / 2 ^ s ∧ ys.length = xs.length ∧ w.grownBy w' (Value.slice A xs.length c).ownBlock := by
  have H := Aside0.mk h
  clear h
  go_enter Tryd.func78, Tryd.ntmps78
  go_wp2
  go_loopg [5, 8] xs.length (fun kq v5 v8 w' => ∃ (k : Nat) (cs : List Int), v8 = .int .i64 k ∧ Aside0 (k + kq = xs.length ∧ cs.length = xs.length ∧ cs.drop k = xs.drop k ∧ val (cs.take k) + pw k * (val (xs.drop k) / 2 ^ s) = val xs / 2 ^ s ∧ Ow w' base (.slice A xs.length c) cs ∧ w.grownBy w' (Value.slice A xs.length c).ownBlock))
  case atStart => exact ⟨0, xs, rfl, ⟨by omega, rfl, rfl, by simp [val, pw], H.out, World.grownBy.refl _ _⟩⟩
  case round =>
    obtain ⟨k, cs, rfl, HA⟩ := hrel
    by_cases hk : k < xs.length
    · obtain ⟨g, cap, e, -⟩ := HA.out.2.2.2.2.1.form (by have := HA.out; omega)
      simp only [Value.slice.injEq] at e
      obtain ⟨rfl, -, rfl⟩ := e
      have hk2 : k < 1099511627776 := by omega
      obtain ⟨y0, y1⟩ := HA.out.2.2.2.2.1.cell k hk
      have D := Aside0.mk (dg_dig H.out.dig k)
      have ed : ∀ j, k ≤ j → dg cs j = dg xs j := fun j hj => by
        have := congrArg (fun l => dg l (j - k)) HA.out.2.2.1
        simpa [dg, List.getD_eq_getElem?_getD, List.getElem?_drop, show k + (j - k) = j by omega] using this
      rw [ed k (Nat.le_refl _)] at y0
      have d0 := D.out.1
      have d1 := D.out.2
      by_cases hk1 : k + 1 < xs.length
      · obtain ⟨z0, z1⟩ := HA.out.2.2.2.2.1.cell (k + 1) hk1
        rw [ed (k + 1) (by omega)] at z0
        clear ed
        have D1 := Aside0.mk (dg_dig H.out.dig (k + 1))
        have f0 := D1.out.1
        have f1 := D1.out.2
        have ho := or64_lo (dg xs (k + 1)) (dg xs k) D1.out D.out
        go_wp2
        go_roundg (gk - 1)
        case measure => have := HA.out; omega
        case rel => exact ⟨k + 1, _, by go_num, un_next w wr base g _ c gk k s _ _ cs xs hs H.out.dig rfl rfl hk HA.out⟩
      · clear ed
        have Z := Aside0.mk (dg_ge xs (k + 1) (by omega))
        go_wp2
        go_roundg (gk - 1)
        case measure => have := HA.out; omega
        case rel => exact ⟨k + 1, _, by go_num, by have h := un_next w wr base g _ c gk k s _ 0 cs xs hs H.out.dig rfl Z.out hk HA.out; rw [Int.zero_mul, Int.add_zero] at h; exact h⟩
    · go_wp2
      have h := HA.out
      go_end0
      refine ⟨cs, rfl, h.2.2.2.2.1, ?_, h.2.1, h.2.2.2.2.2⟩
      have e := h.2.2.2.1
      rw [List.take_of_length_le (by omega), List.drop_of_length_le (by omega)] at e
      rw [← e]; simp [val]
end Go.Proofs.YtegnnghoiffmhaaDoor.Big
namespace Go.Proofs.YtegnnghoiffmhaaDoor.Big
open Go.RowKit Go.Proofs.YtegnnghoiffmhaaDoorW.PrintWords
set_option linter.unusedVariables false
set_option linter.unusedSimpArgs false
/-- The estimate: the quotient of the three highest digits by the two highest, at most the greatest digit. -/
def Est (q u3 v2 : Int) : Prop := (0 ≤ q ∧ q ≤ 4294967295) ∧ q * v2 ≤ u3 ∧ (u3 < (q + 1) * v2 ∨ q = 4294967295)
/-- What the loop keeps. -/
def EstI (N t s third q r : Int) : Prop := q * t + r = N ∧ (0 ≤ r ∧ r ≤ 4294967295) ∧ (0 ≤ q ∧ q ≤ 4294967297) ∧ (N * 4294967296 + third < (q + 1) * (t * 4294967296 + s) ∨ 4294967295 ≤ q)
theorem est_begin (N t s third : Int) (ht : 2147483648 ≤ t ∧ t ≤ 4294967295) (hs : 0 ≤ s ∧ s ≤ 4294967295) (h3 : 0 ≤ third ∧ third ≤ 4294967295) (hN : 0 ≤ N ∧ N < t * 4294967296 + 4294967296) : EstI N t s third (N / t) (N % t) := by
  have a1 := Int.mul_ediv_add_emod N t
  have a2 := Int.emod_nonneg N (show t ≠ 0 by omega)
  have a3 := Int.emod_lt_of_pos N (show 0 < t by omega)
  have a4 := Int.ediv_nonneg hN.1 (show 0 ≤ t by omega)
  have a5 : N / t < 4294967298 := Int.ediv_lt_of_lt_mul (by omega) (by omega)
  generalize N / t = q at *
  generalize N % t = r at *
  refine ⟨by grind, by omega, by omega, .inl ?_⟩
  have h1 : (q + 1) * (t * 4294967296 + s) = (t * q + t) * 4294967296 + (q + 1) * s := by grind
  have h2 : 0 ≤ (q + 1) * s := Int.mul_nonneg (by omega) hs.1
  rw [h1]
  omega
theorem est_less (N t s third q r : Int) (ht : 2147483648 ≤ t ∧ t ≤ 4294967295) (hs : 0 ≤ s ∧ s ≤ 4294967295) (h3 : 0 ≤ third ∧ third ≤ 4294967295) (h : EstI N t s third q r) (hr : 4294967296 ≤ q ∨ r * 4294967296 + third < q * s) : 1 ≤ q ∧ (q - 1) * t + (r + t) = N ∧ (N * 4294967296 + third < (q - 1 + 1) * (t * 4294967296 + s) ∨ 4294967295 ≤ q - 1) := by
  obtain ⟨h1, h2, h4, h5⟩ := h
  have hq : 1 ≤ q := by
    rcases hr with hr | hr
    · omega
    · rcases (show q < 1 ∨ 1 ≤ q by omega) with hl | hl
      · have : q = 0 := by omega
        subst this
        omega
      · exact hl
  refine ⟨hq, by grind, ?_⟩
  rcases hr with hr | hr
  · exact .inr (by omega)
  · refine .inl ?_
    have e : (q - 1 + 1) * (t * 4294967296 + s) = (q * t) * 4294967296 + q * s := by grind
    rw [e]
    omega
theorem est_next (N t s third q r : Int) (ht : 2147483648 ≤ t ∧ t ≤ 4294967295) (hs : 0 ≤ s ∧ s ≤ 4294967295) (h3 : 0 ≤ third ∧ third ≤ 4294967295) (h : EstI N t s third q r) (hr : 4294967296 ≤ q ∨ r * 4294967296 + third < q * s) (hl : r + t ≤ 4294967295) : EstI N t s third (q - 1) (r + t) := by
  obtain ⟨h1, h2, h4⟩ := est_less N t s third q r ht hs h3 h hr
  have := h.2.2.1
  have := h.2.1
  exact ⟨h2, by omega, by omega, h4⟩
theorem est_break (N t s third q r : Int) (ht : 2147483648 ≤ t ∧ t ≤ 4294967295) (hs : 0 ≤ s ∧ s ≤ 4294967295) (h3 : 0 ≤ third ∧ third ≤ 4294967295) (hN : 0 ≤ N ∧ N < t * 4294967296 + 4294967296) (h : EstI N t s third q r) (hr : 4294967296 ≤ q ∨ r * 4294967296 + third < q * s) (hl : 4294967296 ≤ r + t) : Est (q - 1) (N * 4294967296 + third) (t * 4294967296 + s) := by
  obtain ⟨h1, h2, h4⟩ := est_less N t s third q r ht hs h3 h hr
  have hb : q - 1 ≤ 4294967295 := by
    rcases (show q - 1 < 4294967296 ∨ 4294967296 ≤ q - 1 by omega) with hb | hb
    · omega
    · have : 4294967296 * t ≤ (q - 1) * t := Int.mul_le_mul_of_nonneg_right hb (by omega)
      omega
  refine ⟨⟨by omega, hb⟩, ?_, ?_⟩
  · have e : (q - 1) * (t * 4294967296 + s) = ((q - 1) * t) * 4294967296 + (q - 1) * s := by grind
    have e2 : (q - 1) * s ≤ 4294967295 * 4294967295 := Int.mul_le_mul hb hs.2 hs.1 (by omega)
    rw [e]
    omega
  · rcases h4 with h4 | h4
    · exact .inl h4
    · exact .inr (by omega)
theorem est_end (N t s third q r : Int) (ht : 2147483648 ≤ t ∧ t ≤ 4294967295) (h : EstI N t s third q r) (hq : q < 4294967296) (hr : q * s ≤ r * 4294967296 + third) : Est q (N * 4294967296 + third) (t * 4294967296 + s) := by
  obtain ⟨h1, h2, h4, h5⟩ := h
  refine ⟨by omega, ?_, ?_⟩
  · have e : q * (t * 4294967296 + s) = (q * t) * 4294967296 + q * s := by grind
    rw [e]
    omega
  · rcases h5 with h5 | h5
    · exact .inl h5
    · exact .inr (by omega)
set_option maxRecDepth 100000 in
theorem digit_any (A : Option Addr) (c : Nat) (vs : List Int) (high next third : Int) (w : World) (h : Rd w A c vs) (hl : 2 ≤ vs.length ∧ vs.length ≤ 1099511627776) (ht : 2147483648 ≤ dg vs (vs.length - 1)) (hh : 0 ≤ high ∧ high ≤ dg vs (vs.length - 1)) (hn : 0 ≤ next ∧ next ≤ 4294967295) (h3 : 0 ≤ third ∧ third ≤ 4294967295) :
    Calls Tryd.prog 77 #[.int .u32 high, .int .u32 next, .int .u32 third, .slice A vs.length c] w fun e w' => ∃ q, e = .returned (.int .u64 q) ∧ Est q ((high * 4294967296 + next) * 4294967296 + third) (dg vs (vs.length - 1) * 4294967296 + dg vs (vs.length - 2)) ∧ Drawn0 w w' := by
  obtain ⟨m, hm⟩ : ∃ m, vs.length = m + 2 := ⟨vs.length - 2, by omega⟩
  have T := Aside0.mk (dg_dig h.dig (m + 1))
  have S := Aside0.mk (dg_dig h.dig m)
  obtain ⟨ad, rfl, x0⟩ := h.at_ (m + 1) (by omega)
  obtain ⟨ad', e, x1⟩ := h.at_ m (by omega)
  cases e
  have hm2 := hl.2
  rw [hm] at ht hh hm2 ⊢
  clear h hm hl
  simp only [show m + 2 - 1 = m + 1 from rfl, show m + 2 - 2 = m from rfl] at ht hh ⊢
  generalize dg vs (m + 1) = t at *
  generalize dg vs m = s at *
  obtain ⟨h30, h31⟩ := h3
  obtain ⟨hn0, hn1⟩ := hn
  obtain ⟨hh0, hh1⟩ := hh
  have t1 := T.out.2
  have s0 := S.out.1
  have s1 := S.out.2
  have hm : m < 1099511627776 := by omega
  have ho := or64_hi high next ⟨hh0, by omega⟩ ⟨hn0, hn1⟩
  have EB := Aside0.mk (est_begin (high * 4294967296 + next) t s third ⟨ht, t1⟩ ⟨s0, s1⟩ ⟨h30, h31⟩ ⟨by omega, by omega⟩)
  go_enter Tryd.func77, Tryd.ntmps77
  go_wp2
  have w1 : IntKind.i64.wrap ((m : Int) + 2 - 1) = (m : Int) + 1 := by rw [IntWalk.i64_in _ ⟨by omega, by omega⟩]; omega
  have w2 : IntKind.i64.wrap ((m : Int) + 2 - 2) = (m : Int) := by rw [IntWalk.i64_in _ ⟨by omega, by omega⟩]; omega
  have w3 : ((m : Int) + 1).toNat = m + 1 := by omega
  have w4 : 0 ≤ (m : Int) + 1 := by omega
  have w5 : (m : Int) + 1 < (m : Int) + 2 := by omega
  have w6 : (m : Int) < (m : Int) + 2 := by omega
  have x0' : w.cell? ⟨ad.block, ad.off + (m + 1), none⟩ = some (.int .u32 t) := x0
  go_quiet (fail)
  clear w1 w2 w3 w4 w5 w6
  go_wp2
  obtain ⟨N, hN⟩ : ∃ N, high * 4294967296 + next = N := ⟨_, rfl⟩
  have N0 : 0 ≤ N := by omega
  have N1 : N < t * 4294967296 + 4294967296 := by omega
  rw [hN] at EB
  rw [hN]
  have HN := Aside0.mk hN
  clear ho hN
  have tz : ¬ (t = 0) := by omega
  have tb : (t == 0) = false := by simpa using tz
  go_quiet (fail)
  go_wp2
  go_loopg [12, 13] (4294967296 - (N % t).toNat) (fun kq v12 v13 w' => ∃ q r : Int, v12 = .int .u64 q ∧ v13 = .int .u64 r ∧ Aside0 (EstI N t s third q r ∧ r + kq = 4294967296) ∧ Aside0 (Drawn0 w w'))
  case atStart => exact ⟨_, _, rfl, rfl, ⟨EB.out, by have := Int.emod_nonneg N tz; have := Int.emod_lt_of_pos N (show 0 < t by omega); omega⟩, ⟨((Drawn0.refl w).step _).step _⟩⟩
  case round =>
    clear EB tz tb
    obtain ⟨q, r, rfl, rfl, HA, HD⟩ := hrel
    have q0 := HA.out.1.2.2.1.1
    have q1 := HA.out.1.2.2.1.2
    have r0 := HA.out.1.2.1.1
    have r1 := HA.out.1.2.1.2
    by_cases hq : 4294967296 ≤ q
    · have HQ := Aside0.mk hq
      have q2 : 1 ≤ q := by omega
      by_cases hl : r + t ≤ 4294967295
      · go_wp2
        go_roundg (gk - t.toNat)
        case measure => have := HA.out; omega
        case rel => exact ⟨q - 1, r + t, rfl, rfl, ⟨est_next N t s third q r ⟨ht, t1⟩ ⟨s0, s1⟩ ⟨h30, h31⟩ HA.out.1 (.inl HQ.out) hl, by have := HA.out; omega⟩, HD⟩
      · go_wp2
        go_ret
        exact ⟨q - 1, rfl, (by rw [HN.out]; exact est_break N t s third q r ⟨ht, t1⟩ ⟨s0, s1⟩ ⟨h30, h31⟩ ⟨N0, N1⟩ HA.out.1 (.inl HQ.out) (by omega)), HD.out⟩
    · have hq' : q < 4294967296 := by omega
      have p0 : 0 ≤ q * s := Int.mul_nonneg q0 s0
      have p1 : q * s ≤ 18446744065119617025 := Int.mul_le_mul (show q ≤ 4294967295 by omega) s1 s0 (by omega)
      have ho := or64_hi r third ⟨r0, r1⟩ ⟨h30, h31⟩
      by_cases hgt : r * 4294967296 + third < q * s
      · have HG := Aside0.mk hgt
        have q2 : 1 ≤ q := (est_less N t s third q r ⟨ht, t1⟩ ⟨s0, s1⟩ ⟨h30, h31⟩ HA.out.1 (.inr HG.out)).1
        by_cases hl : r + t ≤ 4294967295
        · go_wp2
          go_roundg (gk - t.toNat)
          case measure => have := HA.out; omega
          case rel => exact ⟨q - 1, r + t, rfl, rfl, ⟨est_next N t s third q r ⟨ht, t1⟩ ⟨s0, s1⟩ ⟨h30, h31⟩ HA.out.1 (.inr HG.out) hl, by have := HA.out; omega⟩, HD⟩
        · go_wp2
          go_ret
          exact ⟨q - 1, rfl, (by rw [HN.out]; exact est_break N t s third q r ⟨ht, t1⟩ ⟨s0, s1⟩ ⟨h30, h31⟩ ⟨N0, N1⟩ HA.out.1 (.inr HG.out) (by omega)), HD.out⟩
      · go_wp2
        go_ret
        exact ⟨q, rfl, (by rw [HN.out]; exact est_end N t s third q r ⟨ht, t1⟩ HA.out.1 hq' (by omega)), HD.out⟩
end Go.Proofs.YtegnnghoiffmhaaDoor.Big
namespace Go.Proofs.YtegnnghoiffmhaaDoor.Big
open Go.RowKit Go.Proofs.YtegnnghoiffmhaaDoorW.PrintWords
set_option linter.unusedVariables false
set_option linter.unusedSimpArgs false
/-- The n digits from place a on. -/
def sg (a n : Nat) (us : List Int) : Int := val ((us.drop a).take n)
theorem sg_bounds {us : List Int} (h : ∀ x ∈ us, 0 ≤ x ∧ x ≤ 4294967295) (a n : Nat) : 0 ≤ sg a n us ∧ sg a n us < pw n := by
  have h1 := val_bounds ((us.drop a).take n) (fun x hx => h x (List.mem_of_mem_drop (List.mem_of_mem_take hx)))
  have h2 := pw_le (show ((us.drop a).take n).length ≤ n by rw [List.length_take]; omega)
  unfold sg
  omega
theorem val_parts (a n : Nat) (us : List Int) (h : a + n ≤ us.length) : val us = val (us.take a) + pw a * sg a n us + pw (a + n) * val (us.drop (a + n)) := by
  have e : us = us.take a ++ ((us.drop a).take n ++ us.drop (a + n)) := by rw [← List.drop_drop, List.take_append_drop, List.take_append_drop]
  have h1 := congrArg val e
  rw [val_append, val_append, List.length_take, List.length_take, List.length_drop, show min a us.length = a by omega, show min n (us.length - a) = n by omega] at h1
  rw [h1, pw_add]
  unfold sg
  grind
theorem val_diff (a n : Nat) (us cs : List Int) (h : a + n ≤ us.length) (hl : cs.length = us.length) (h1 : cs.take a = us.take a) (h2 : cs.drop (a + n) = us.drop (a + n)) : val cs - val us = pw a * (sg a n cs - sg a n us) := by
  rw [val_parts a n us h, val_parts a n cs (by omega), h1, h2]
  grind
theorem set_out (a n k : Nat) (us cs : List Int) (v : Int) (h1 : cs.take a = us.take a) (h2 : cs.drop (a + n) = us.drop (a + n)) (hk : k < n) : (cs.set (a + k) v).take a = us.take a ∧ (cs.set (a + k) v).drop (a + n) = us.drop (a + n) :=
  ⟨by rw [List.take_set, List.set_eq_of_length_le (by simp; omega), h1], by rw [List.drop_set_of_lt (by omega), h2]⟩
theorem bor_eq (o t b : Int) (ho : 0 ≤ o ∧ o ≤ 4294967295) (ht : 0 ≤ t ∧ t ≤ 4294967295) (hb : 0 ≤ b ∧ b ≤ 1) : (o - t - b) % 4294967296 = o - t - b + 4294967296 * bor o t b := by
  unfold bor; split <;> omega
/-- What the first loop keeps. -/
def Red1 (w wr : World) (base g cap a : Nat) (us vs : List Int) (q : Int) (k : Nat) (c b : Int) (cs : List Int) : Prop :=
  (0 ≤ c ∧ c ≤ 4294967295) ∧ (0 ≤ b ∧ b ≤ 1) ∧ cs.length = us.length ∧ val cs - (b + c) * pw (a + k) = val us - q * pw a * val (vs.take k) ∧ (cs.take a = us.take a ∧ cs.drop (a + (vs.length + 1)) = us.drop (a + (vs.length + 1))) ∧
    Ow wr base (.slice (some ⟨g, 0, none⟩) us.length cap) cs ∧ w.grownBy wr (some g)
theorem red1_next (w wr : World) (base g cap a : Nat) (us vs : List Int) (q : Int) (k : Nat) (c b : Int) (cs : List Int) (x o : Int) (hq : 0 ≤ q ∧ q ≤ 4294967295) (ex : dg vs k = x) (dx : 0 ≤ x ∧ x ≤ 4294967295) (eo : dg cs (a + k) = o) (hk : k < vs.length) (hl : a + vs.length < us.length) (h : Red1 w wr base g cap a us vs q k c b cs) :
    Red1 w (wr.setCell ⟨g, a + k, none⟩ (.int .u32 ((o - (c + q * x) % 4294967296 - b) % 4294967296))) base g cap a us vs q (k + 1) ((c + q * x) / 4294967296) (bor o ((c + q * x) % 4294967296) b) (cs.set (a + k) ((o - (c + q * x) % 4294967296 - b) % 4294967296)) := by
  obtain ⟨h1, h2, h3, h4, h5, h6, h7⟩ := h
  have p0 : 0 ≤ q * x := Int.mul_nonneg hq.1 dx.1
  have p1 : q * x ≤ 18446744065119617025 := Int.mul_le_mul hq.2 dx.2 dx.1 (by omega)
  have do_ := dg_dig h6.dig (a + k)
  rw [eo] at do_
  refine ⟨by omega, bor01 _ _ _, by simpa using h3, ?_, set_out a _ k us cs _ h5.1 h5.2 (by omega), h6.put _ _ (by omega), grown_set h7⟩
  rw [val_set _ _ _ (by omega), eo, bor_eq o _ b do_ (by omega) h2, val_take vs, ex]
  have e := Int.mul_ediv_add_emod (c + q * x) 4294967296
  have ep : pw (a + (k + 1)) = pw (a + k) * 4294967296 := rfl
  have ep2 : pw (a + k) = pw a * pw k := pw_add a k
  rw [ep]
  generalize bor o ((c + q * x) % 4294967296) b = B' at *
  grind
/-- Behind the first loop: the highest digit. -/
theorem red1_last (w wr : World) (base g cap a : Nat) (us vs : List Int) (q : Int) (c b : Int) (cs : List Int) (o : Int) (hq : 0 ≤ q ∧ q ≤ 4294967295) (eo : dg cs (a + vs.length) = o) (hl : a + vs.length < us.length) (h : Red1 w wr base g cap a us vs q vs.length c b cs) :
    ∃ ds, ds = cs.set (a + vs.length) ((o - c - b) % 4294967296) ∧ ds.length = us.length ∧ val ds = val us - q * val vs * pw a + bor o c b * pw (a + (vs.length + 1)) ∧ (ds.take a = us.take a ∧ ds.drop (a + (vs.length + 1)) = us.drop (a + (vs.length + 1))) ∧
      Ow (wr.setCell ⟨g, a + vs.length, none⟩ (.int .u32 ((o - c - b) % 4294967296))) base (.slice (some ⟨g, 0, none⟩) us.length cap) ds ∧ w.grownBy (wr.setCell ⟨g, a + vs.length, none⟩ (.int .u32 ((o - c - b) % 4294967296))) (some g) := by
  obtain ⟨h1, h2, h3, h4, h5, h6, h7⟩ := h
  have do_ := dg_dig h6.dig (a + vs.length)
  rw [eo] at do_
  refine ⟨_, rfl, by simpa using h3, ?_, set_out a _ _ us cs _ h5.1 h5.2 (by omega), h6.put _ _ (by omega), grown_set h7⟩
  rw [List.take_of_length_le (Nat.le_refl _)] at h4
  rw [val_set _ _ _ (by omega), eo, bor_eq o _ b do_ h1 h2]
  have ep : pw (a + (vs.length + 1)) = pw (a + vs.length) * 4294967296 := rfl
  rw [ep]
  grind
/-- Is the estimate one too great? The borrow tells. -/
theorem red_borrow (a n : Nat) (us ds : List Int) (q V b : Int) (hus : ∀ x ∈ us, 0 ≤ x ∧ x ≤ 4294967295) (hds : ∀ x ∈ ds, 0 ≤ x ∧ x ≤ 4294967295) (hl : a + n ≤ us.length) (hlen : ds.length = us.length) (ho : ds.take a = us.take a ∧ ds.drop (a + n) = us.drop (a + n)) (hV : 0 < V) (hb : 0 ≤ b ∧ b ≤ 1)
    (hv : val ds = val us - q * V * pw a + b * pw (a + n)) (h1 : sg a n us / V ≤ q) (h2 : q ≤ sg a n us / V + 1) : sg a n ds = sg a n us - q * V + b * pw n ∧ (b = 0 → q = sg a n us / V) ∧ (b = 1 → q = sg a n us / V + 1) := by
  have d := val_diff a n us ds hl hlen ho.1 ho.2
  have p := pw_pos a
  have s0 := sg_bounds hus a n
  have s1 := sg_bounds hds a n
  rw [pw_add] at hv
  have e : sg a n ds = sg a n us - q * V + b * pw n := by
    have : pw a * (sg a n ds - sg a n us) = pw a * (-(q * V) + b * pw n) := by rw [← d]; grind
    have := Int.eq_of_mul_eq_mul_left (by omega) this
    omega
  have m1 := Int.mul_ediv_add_emod (sg a n us) V
  have m2 := Int.emod_nonneg (sg a n us) (show V ≠ 0 by omega)
  have m3 := Int.emod_lt_of_pos (sg a n us) hV
  refine ⟨e, ?_, ?_⟩
  · intro hb0
    subst hb0
    rcases (show q = sg a n us / V ∨ q = sg a n us / V + 1 by omega) with hq | hq
    · exact hq
    · exfalso
      have : q * V = V * (sg a n us / V) + V := by rw [hq]; grind
      omega
  · intro hb1
    subst hb1
    rcases (show q = sg a n us / V ∨ q = sg a n us / V + 1 by omega) with hq | hq
    · exfalso
      have : q * V = V * (sg a n us / V) := by rw [hq]; grind
      omega
    · exact hq
/-- What the second loop keeps. -/
def Red2 (w wr : World) (base g cap a : Nat) (us vs ds : List Int) (k : Nat) (c : Int) (cs : List Int) : Prop :=
  (0 ≤ c ∧ c ≤ 1) ∧ cs.length = us.length ∧ val cs + c * pw (a + k) = val ds + pw a * val (vs.take k) ∧ (cs.take a = us.take a ∧ cs.drop (a + (vs.length + 1)) = us.drop (a + (vs.length + 1))) ∧
    Ow wr base (.slice (some ⟨g, 0, none⟩) us.length cap) cs ∧ w.grownBy wr (some g)
theorem red2_next (w wr : World) (base g cap a : Nat) (us vs ds : List Int) (k : Nat) (c : Int) (cs : List Int) (x o : Int) (ex : dg vs k = x) (dx : 0 ≤ x ∧ x ≤ 4294967295) (eo : dg cs (a + k) = o) (hk : k < vs.length) (hl : a + vs.length < us.length) (h : Red2 w wr base g cap a us vs ds k c cs) :
    Red2 w (wr.setCell ⟨g, a + k, none⟩ (.int .u32 ((o + x + c) % 4294967296))) base g cap a us vs ds (k + 1) ((o + x + c) / 4294967296) (cs.set (a + k) ((o + x + c) % 4294967296)) := by
  obtain ⟨h1, h3, h4, h5, h6, h7⟩ := h
  have do_ := dg_dig h6.dig (a + k)
  rw [eo] at do_
  refine ⟨by omega, by simpa using h3, ?_, set_out a _ k us cs _ h5.1 h5.2 (by omega), h6.put _ _ (by omega), grown_set h7⟩
  rw [val_set _ _ _ (by omega), eo, val_take vs, ex]
  have e := Int.mul_ediv_add_emod (o + x + c) 4294967296
  have ep : pw (a + (k + 1)) = pw (a + k) * 4294967296 := rfl
  have ep2 : pw (a + k) = pw a * pw k := pw_add a k
  rw [ep]
  grind
theorem red2_last (w wr : World) (base g cap a : Nat) (us vs ds : List Int) (c q : Int) (cs : List Int) (o : Int) (eo : dg cs (a + vs.length) = o) (hl : a + vs.length < us.length) (hus : ∀ x ∈ us, 0 ≤ x ∧ x ≤ 4294967295) (hvs : ∀ x ∈ vs, 0 ≤ x ∧ x ≤ 4294967295)
    (hd : val ds = val us - q * val vs * pw a + pw (a + (vs.length + 1))) (hs : sg a (vs.length + 1) us < q * val vs) (hq : (q - 1) * val vs ≤ sg a (vs.length + 1) us) (h : Red2 w wr base g cap a us vs ds vs.length c cs) :
    ∃ es, es = cs.set (a + vs.length) ((o + c) % 4294967296) ∧ es.length = us.length ∧ val es = val us - (q - 1) * val vs * pw a ∧ (es.take a = us.take a ∧ es.drop (a + (vs.length + 1)) = us.drop (a + (vs.length + 1))) ∧
      Ow (wr.setCell ⟨g, a + vs.length, none⟩ (.int .u32 ((o + c) % 4294967296))) base (.slice (some ⟨g, 0, none⟩) us.length cap) es ∧ w.grownBy (wr.setCell ⟨g, a + vs.length, none⟩ (.int .u32 ((o + c) % 4294967296))) (some g) := by
  obtain ⟨h1, h3, h4, h5, h6, h7⟩ := h
  have do_ := dg_dig h6.dig (a + vs.length)
  rw [eo] at do_
  have hO := h6.put (a + vs.length) ((o + c) % 4294967296) (by omega)
  have ho := set_out a (vs.length + 1) vs.length us cs ((o + c) % 4294967296) h5.1 h5.2 (by omega)
  refine ⟨_, rfl, by simpa using h3, ?_, ho, hO, grown_set h7⟩
  rw [List.take_of_length_le (Nat.le_refl _)] at h4
  have e := Int.mul_ediv_add_emod (o + c) 4294967296
  have ep : pw (a + (vs.length + 1)) = pw (a + vs.length) * 4294967296 := rfl
  have hv : val (cs.set (a + vs.length) ((o + c) % 4294967296)) = val us - (q - 1) * val vs * pw a + (1 - (o + c) / 4294967296) * pw (a + (vs.length + 1)) := by
    rw [val_set _ _ _ (by omega), eo, ep]
    rw [ep] at hd
    grind
  have d := val_diff a (vs.length + 1) us _ (by omega) (by simpa using h3) ho.1 ho.2
  have s1 := sg_bounds hO.dig a (vs.length + 1)
  have s0 := sg_bounds hus a (vs.length + 1)
  have p := pw_pos a
  have vb := val_bounds vs hvs
  have pl : pw vs.length ≤ pw (vs.length + 1) := pw_le (by omega)
  rw [hv, pw_add] at d
  have e2 : sg a (vs.length + 1) (cs.set (a + vs.length) ((o + c) % 4294967296)) = sg a (vs.length + 1) us - (q - 1) * val vs + (1 - (o + c) / 4294967296) * pw (vs.length + 1) := by
    have : pw a * (sg a (vs.length + 1) (cs.set (a + vs.length) ((o + c) % 4294967296)) - sg a (vs.length + 1) us) = pw a * (-((q - 1) * val vs) + (1 - (o + c) / 4294967296) * pw (vs.length + 1)) := by rw [← d]; grind
    have := Int.eq_of_mul_eq_mul_left (by omega) this
    omega
  have hov : (o + c) / 4294967296 = 1 := by
    have e3 : (q - 1) * val vs = q * val vs - val vs := by grind
    rcases (show (o + c) / 4294967296 = 0 ∨ (o + c) / 4294967296 = 1 by omega) with h0 | h0
    · exfalso
      rw [h0] at e2
      omega
    · exact h0
  rw [hv, hov]
  grind
set_option maxRecDepth 100000 in
theorem reduce_any (g cap base a : Nat) (us : List Int) (A : Option Addr) (cv : Nat) (vs : List Int) (q : Int) (w : World) (hu : Ow w base (.slice (some ⟨g, 0, none⟩) us.length cap) us) (hv : Rd w A cv vs) (hoff : ∀ ad, A = some ad → some ad.block ≠ some g) (hl : a + vs.length < us.length) (hul : us.length ≤ 1099511627776) (hq : 0 ≤ q ∧ q ≤ 4294967295) (hV : 0 < val vs) (h1 : sg a (vs.length + 1) us / val vs ≤ q) (h2 : q ≤ sg a (vs.length + 1) us / val vs + 1) :
    Calls Tryd.prog 76 #[.slice (some ⟨g, 0, none⟩) us.length cap, .slice A vs.length cv, .int .i64 a, .int .u64 q] w fun e w' => ∃ ds, e = .returned (.int .u32 (sg a (vs.length + 1) us / val vs)) ∧ ds.length = us.length ∧ val ds = val us - sg a (vs.length + 1) us / val vs * val vs * pw a ∧
      (ds.take a = us.take a ∧ ds.drop (a + (vs.length + 1)) = us.drop (a + (vs.length + 1))) ∧ Ow w' base (.slice (some ⟨g, 0, none⟩) us.length cap) ds ∧ w.grownBy w' (some g) := by
  have H := Aside0.mk (And.intro hu (And.intro hv hoff))
  have Q := Aside0.mk (And.intro h1 h2)
  clear hu hv hoff h1 h2
  obtain ⟨hq0, hq1⟩ := hq
  have ha : a < 1099511627776 := by omega
  have hvl : vs.length < 1099511627776 := by omega
  go_enter Tryd.func76, Tryd.ntmps76
  go_wp2
  go_loopg [9, 10, 18] vs.length (fun kq v9 v10 v18 w' => ∃ (k : Nat) (c b : Int) (cs : List Int), v9 = .int .u64 c ∧ v10 = .int .u32 b ∧ v18 = .int .i64 k ∧ Aside0 (k + kq = vs.length ∧ Red1 w w' base g cap a us vs q k c b cs))
  case atStart => exact ⟨0, 0, 0, us, rfl, rfl, rfl, ⟨by omega, by omega, by omega, rfl, by simp [val], ⟨rfl, rfl⟩, H.out.1, World.grownBy.refl _ _⟩⟩
  case round =>
    obtain ⟨k, c, b, cs, rfl, rfl, rfl, HA⟩ := hrel
    have c0 := HA.out.2.1.1
    have c1 := HA.out.2.1.2
    have BB := Aside0.mk HA.out.2.2.1
    by_cases hk : k < vs.length
    · obtain ⟨ad, rfl, x0⟩ := (H.out.2.1.grown HA.out.2.2.2.2.2.2.2 H.out.2.2).at_ k hk
      have hik : a + k < us.length := by omega
      obtain ⟨y0, y1⟩ := HA.out.2.2.2.2.2.2.1.cell (a + k) hik
      have DX := Aside0.mk (dg_dig H.out.2.1.dig k)
      have DO := Aside0.mk (dg_dig HA.out.2.2.2.2.2.2.1.dig (a + k))
      have x2 := DX.out.1
      have x3 := DX.out.2
      have p0 : 0 ≤ q * dg vs k := Int.mul_nonneg hq0 x2
      have p1 : q * dg vs k ≤ 18446744065119617025 := Int.mul_le_mul hq1 x3 x2 (by omega)
      go_wp2_with fail
      (go_at_call 84; (with_reducible refine (sub32_any (dg cs (a + k)) ((c + q * dg vs k) % 4294967296) b _ DO.out ?_ BB.out).mono ?_); (constructor <;> omega); rintro e w' ⟨rfl, rfl⟩)
      go_wp2
      go_roundg (gk - 1)
      case measure => have := HA.out.1; omega
      case rel => exact ⟨k + 1, _, _, _, rfl, rfl, by go_num, ⟨by have := HA.out.1; omega, red1_next w wr base g cap a us vs q k c b cs _ _ ⟨hq0, hq1⟩ rfl DX.out rfl hk hl HA.out.2⟩⟩
    · have ek : k = vs.length := by have := HA.out.1; omega
      subst ek
      obtain ⟨y0, y1⟩ := HA.out.2.2.2.2.2.2.1.cell (a + vs.length) hl
      have DO := Aside0.mk (dg_dig HA.out.2.2.2.2.2.2.1.dig (a + vs.length))
      have cm : c % 4294967296 = c := by omega
      obtain ⟨ds, eds, l1, l2, l3, l4, l5⟩ := red1_last w wr base g cap a us vs q c b cs _ ⟨hq0, hq1⟩ rfl hl HA.out.2
      have RB := red_borrow a (vs.length + 1) us ds q (val vs) (bor (dg cs (a + vs.length)) c b) H.out.1.dig l4.dig (by omega) l1 l3 hV (bor01 _ _ _) l2 Q.out.1 Q.out.2
      rcases (show bor (dg cs (a + vs.length)) c b = 0 ∨ bor (dg cs (a + vs.length)) c b = 1 by have := bor01 (dg cs (a + vs.length)) c b; omega) with hb' | hb'
      · have E := Aside0.mk (RB.2.1 hb')
        have HB := Aside0.mk hb'
        have L := Aside0.mk (And.intro l1 (And.intro l2 (And.intro l3 (And.intro l4 l5))))
        clear RB eds l1 l2 l3 l4 l5 hb'
        go_wp2_with (first | (go_at_call 84; (with_reducible refine (sub32_any (dg cs (a + vs.length)) c b _ DO.out ?_ BB.out).mono ?_); (constructor <;> omega); rintro e w' ⟨rfl, rfl⟩; rw [HB.out]))
        go_ret
        have h := L.out
        refine ⟨ds, by rw [← E.out]; rfl, h.1, ?_, h.2.2⟩
        have h2 := h.2.1
        rw [HB.out] at h2
        rw [← E.out]
        omega
      · have E := Aside0.mk (RB.2.2 hb')
        have HB := Aside0.mk hb'
        have L := Aside0.mk (And.intro l1 (And.intro l2 (And.intro l3 (And.intro l4 (And.intro l5 RB.1)))))
        clear RB eds l1 l2 l3 l4 l5 hb'
        go_wp2_with (first | (go_at_call 84; (with_reducible refine (sub32_any (dg cs (a + vs.length)) c b _ DO.out ?_ BB.out).mono ?_); (constructor <;> omega); rintro e w' ⟨rfl, rfl⟩; rw [HB.out]))
        clear y0 y1
        obtain ⟨wo, hwo⟩ : ∃ wo : World, wo = wr.setCell ⟨g, a + vs.length, none⟩ (.int .u32 ((dg cs (a + vs.length) - c - b) % 4294967296)) := ⟨_, rfl⟩
        rw [← hwo] at L ⊢
        clear hwo
        go_loopg [13, 76] vs.length (fun kq v13 v76 w' => ∃ (k : Nat) (c : Int) (cs : List Int), v13 = .int .u32 c ∧ v76 = .int .i64 k ∧ Aside0 (k + kq = vs.length ∧ Red2 w w' base g cap a us vs ds k c cs))
        case atStart => exact ⟨0, 0, ds, rfl, rfl, ⟨by omega, by omega, L.out.1, by simp [val], L.out.2.2.1, L.out.2.2.2.1, L.out.2.2.2.2.1⟩⟩
        case round =>
          obtain ⟨k, c2, es, rfl, rfl, HA2⟩ := hrel
          have c20 := HA2.out.2.1.1
          have c21 := HA2.out.2.1.2
          have CC := Aside0.mk HA2.out.2.1
          by_cases hk : k < vs.length
          · obtain ⟨ad, rfl, x0⟩ := (H.out.2.1.grown HA2.out.2.2.2.2.2.2 H.out.2.2).at_ k hk
            have hik : a + k < us.length := by omega
            obtain ⟨y0, y1⟩ := HA2.out.2.2.2.2.2.1.cell (a + k) hik
            have DX := Aside0.mk (dg_dig H.out.2.1.dig k)
            have DO2 := Aside0.mk (dg_dig HA2.out.2.2.2.2.2.1.dig (a + k))
            go_wp2_with (first | (go_at_call 85; (with_reducible refine (add32_any (dg es (a + k)) (dg vs k) c2 _ DO2.out DX.out CC.out).mono ?_); rintro e w' ⟨rfl, rfl⟩))
            go_roundg (gk - 1)
            case measure => have := HA2.out.1; omega
            case rel => exact ⟨k + 1, _, _, rfl, by go_num, ⟨by have := HA2.out.1; omega, red2_next w wr base g cap a us vs ds k c2 es _ _ rfl DX.out rfl hk hl HA2.out.2⟩⟩
          · have ek : k = vs.length := by have := HA2.out.1; omega
            subst ek
            obtain ⟨y0, y1⟩ := HA2.out.2.2.2.2.2.1.cell (a + vs.length) hl
            have DO2 := Aside0.mk (dg_dig HA2.out.2.2.2.2.2.1.dig (a + vs.length))
            have o0 := DO2.out.1
            have o1 := DO2.out.2
            have q2 : 1 ≤ q := by have := E.out; have := Int.ediv_nonneg (sg_bounds H.out.1.dig a (vs.length + 1)).1 (show 0 ≤ val vs by omega); omega
            go_wp2
            go_ret
            obtain ⟨fs, -, f1, f2, f3, f4, f5⟩ := red2_last w wr base g cap a us vs ds c2 q es _ rfl hl H.out.1.dig H.out.2.1.dig (by have := L.out.2.1; rw [HB.out] at this; omega) (by have h1 := L.out.2.2.2.2.2; rw [HB.out] at h1; have h2 := (sg_bounds L.out.2.2.2.1.dig a (vs.length + 1)).2; omega) (by rw [E.out, Int.add_sub_cancel, Int.mul_comm]; exact Int.mul_ediv_self_le (by omega)) HA2.out.2
            have E2 : q - 1 = sg a (vs.length + 1) us / val vs := by have := E.out; omega
            rw [E2] at f2
            refine ⟨fs, by rw [← E2]; rfl, f1, f2, f3, f4, f5⟩
end Go.Proofs.YtegnnghoiffmhaaDoor.Big
namespace Go.Proofs.YtegnnghoiffmhaaDoor.Big
open Go.RowKit Go.Proofs.YtegnnghoiffmhaaDoorW.PrintWords
set_option linter.unusedVariables false
theorem dg_drop (us : List Int) (a n : Nat) : dg (us.drop a) n = dg us (a + n) := by simp [dg, List.getD_eq_getElem?_getD, List.getElem?_drop]
theorem sg_succ (a n : Nat) (us : List Int) : sg a (n + 1) us = sg a n us + pw n * dg us (a + n) := by unfold sg; rw [val_take, dg_drop]
/-- The estimate is right, or one too great. -/
theorem est_ok (S V u3 v2 s' v' p q : Int) (hp : 0 < p) (hS : S = u3 * p + s') (hs : 0 ≤ s' ∧ s' < p) (hV : V = v2 * p + v') (hv : 0 ≤ v' ∧ v' < p) (hv2 : 4294967296 ≤ v2) (hlt : S < V * 4294967296) (hu : 0 ≤ u3) (h : Est q u3 v2) : S / V ≤ q ∧ q ≤ S / V + 1 := by
  obtain ⟨hq, h1, h2⟩ := h
  have hVp : 0 < V := by
    have : 0 < v2 * p := Int.mul_pos (by omega) hp
    omega
  constructor
  · rcases h2 with h2 | h2
    · have e1 : (u3 + 1) * p ≤ ((q + 1) * v2) * p := Int.mul_le_mul_of_nonneg_right (by omega) (by omega)
      have e2 : 0 ≤ (q + 1) * v' := Int.mul_nonneg (by omega) hv.1
      have e3 : V * (q + 1) = ((q + 1) * v2) * p + (q + 1) * v' := by rw [hV]; grind
      have e4 : (u3 + 1) * p = u3 * p + p := by grind
      have : S / V < q + 1 := Int.ediv_lt_of_lt_mul hVp (by rw [Int.mul_comm, e3]; omega)
      omega
    · have : S / V < 4294967296 := Int.ediv_lt_of_lt_mul hVp (by rw [Int.mul_comm] at hlt; omega)
      omega
  · rcases (show q = 0 ∨ 1 ≤ q by omega) with h0 | h0
    · have hu3 : 0 ≤ u3 * p := Int.mul_nonneg hu (by omega)
      have := Int.ediv_nonneg (show 0 ≤ S by omega) (show 0 ≤ V by omega)
      omega
    · have e1 : (q - 1) * v' ≤ (q - 1) * p := Int.mul_le_mul_of_nonneg_left (by omega) (by omega)
      have e2 : ((q * v2) - v2 + (q - 1)) * p ≤ u3 * p := Int.mul_le_mul_of_nonneg_right (by omega) (by omega)
      have e3 : (q - 1) * V = ((q * v2) - v2 + (q - 1)) * p - (q - 1) * p + (q - 1) * v' := by rw [hV]; grind
      have : q - 1 ≤ S / V := (Int.le_ediv_iff_mul_le hVp).2 (by omega)
      omega
/-- One round: the part of the dividend that is divided, its highest digits, and what is left. -/
theorem knuth_step (us vs : List Int) (j p : Nat) (hd : ∀ x ∈ us, 0 ≤ x ∧ x ≤ 4294967295) (hvd : ∀ x ∈ vs, 0 ≤ x ∧ x ≤ 4294967295) (hn : vs.length = p + 2) (hl : j + (p + 2) < us.length) (ht : 2147483648 ≤ dg vs (p + 1)) (hu : val us < val vs * pw (j + 1)) :
    (0 ≤ dg us (j + (p + 2)) ∧ dg us (j + (p + 2)) ≤ dg vs (p + 1)) ∧ 0 < val vs ∧
    (∀ q, Est q ((dg us (j + (p + 2)) * 4294967296 + dg us (j + (p + 1))) * 4294967296 + dg us (j + p)) (dg vs (p + 1) * 4294967296 + dg vs p) → sg j (vs.length + 1) us / val vs ≤ q ∧ q ≤ sg j (vs.length + 1) us / val vs + 1) ∧
    (∀ ds : List Int, val ds = val us - sg j (vs.length + 1) us / val vs * val vs * pw j → val ds < val vs * pw j) := by
  have pj := pw_pos j
  have pp := pw_pos p
  have vb := val_bounds vs hvd
  have hb := val_bounds us hd
  have hv : val vs = val (vs.take p) + pw p * dg vs p + pw (p + 1) * dg vs (p + 1) := by
    have h1 := val_take vs (p + 1)
    have h2 := val_take vs p
    rw [List.take_of_length_le (by omega)] at h1
    omega
  have v'b := val_bounds (vs.take p) (take_dig hvd p)
  rw [List.length_take, show min p vs.length = p by omega] at v'b
  have d0 := dg_dig hvd p
  have d1 := dg_dig hvd (p + 1)
  have hp1 : pw (p + 1) = pw p * 4294967296 := rfl
  have e0 := sg_succ j p us
  have e1 := sg_succ j (p + 1) us
  have e2 := sg_succ j (p + 2) us
  have s'b := sg_bounds hd j p
  have u0 := dg_dig hd (j + p)
  have u1 := dg_dig hd (j + (p + 1))
  have u2 := dg_dig hd (j + (p + 2))
  have hp2 : pw (p + 2) = pw p * 4294967296 * 4294967296 := rfl
  have sb := sg_bounds hd j (p + 3)
  -- nothing lies above
  have top := val_parts j (p + 3) us (by omega)
  have tb := val_bounds (us.take j) (take_dig hd j)
  rw [List.length_take, show min j us.length = j by omega] at tb
  have hz : val (us.drop (j + (p + 3))) = 0 := by
    have hnn := (val_bounds (us.drop (j + (p + 3))) (fun x hx => hd x (List.mem_of_mem_drop hx))).1
    rcases (show val (us.drop (j + (p + 3))) = 0 ∨ 1 ≤ val (us.drop (j + (p + 3))) by omega) with h | h
    · exact h
    · exfalso
      have h1 : pw (j + (p + 3)) * 1 ≤ pw (j + (p + 3)) * val (us.drop (j + (p + 3))) := Int.mul_le_mul_of_nonneg_left h (by have := pw_pos (j + (p + 3)); omega)
      have h2 : 0 ≤ pw j * sg j (p + 3) us := Int.mul_nonneg (by omega) sb.1
      have h3 : val vs * pw (j + 1) ≤ pw vs.length * pw (j + 1) := Int.mul_le_mul_of_nonneg_right (by omega) (by have := pw_pos (j + 1); omega)
      rw [← pw_add, hn, show p + 2 + (j + 1) = j + (p + 3) by omega] at h3
      omega
  rw [hz, Int.mul_zero, Int.add_zero] at top
  have hlt : sg j (p + 3) us < val vs * 4294967296 := by
    have h1 : pw j * sg j (p + 3) us < pw j * (val vs * 4294967296) := by
      have : pw j * (val vs * 4294967296) = val vs * pw (j + 1) := by simp only [pw]; grind
      omega
    exact Int.lt_of_mul_lt_mul_left h1 (by omega)
  have hS : sg j (p + 3) us = ((dg us (j + (p + 2)) * 4294967296 + dg us (j + (p + 1))) * 4294967296 + dg us (j + p)) * pw p + sg j p us := by rw [e2, e1, e0, hp1, hp2]; grind
  have hV : val vs = (dg vs (p + 1) * 4294967296 + dg vs p) * pw p + val (vs.take p) := by rw [hv, hp1]; grind
  have hpos : 0 < val vs := by
    have : 0 < (dg vs (p + 1) * 4294967296 + dg vs p) * pw p := Int.mul_pos (by omega) pp
    omega
  refine ⟨⟨u2.1, ?_⟩, hpos, ?_, ?_⟩
  · rcases (show dg us (j + (p + 2)) ≤ dg vs (p + 1) ∨ dg vs (p + 1) + 1 ≤ dg us (j + (p + 2)) by omega) with h | h
    · exact h
    · exfalso
      have h1 : (((dg vs (p + 1) + 1) * 4294967296) * 4294967296) * pw p ≤ ((dg us (j + (p + 2)) * 4294967296 + dg us (j + (p + 1))) * 4294967296 + dg us (j + p)) * pw p := Int.mul_le_mul_of_nonneg_right (by omega) (by omega)
      have h2 : (dg vs (p + 1) * 4294967296 + dg vs p + 1) * pw p ≤ ((dg vs (p + 1) + 1) * 4294967296) * pw p := Int.mul_le_mul_of_nonneg_right (by omega) (by omega)
      have h3 : (((dg vs (p + 1) + 1) * 4294967296) * 4294967296) * pw p = (((dg vs (p + 1) + 1) * 4294967296) * pw p) * 4294967296 := by grind
      have h4 : (dg vs (p + 1) * 4294967296 + dg vs p + 1) * pw p = (dg vs (p + 1) * 4294967296 + dg vs p) * pw p + pw p := by grind
      omega
  · intro q hq
    rw [hn]
    refine est_ok _ _ _ _ (sg j p us) (val (vs.take p)) (pw p) q pp hS s'b hV v'b (by omega) hlt ?_ hq
    have a1 := u2.1
    have a2 := u1.1
    have a3 := u0.1
    omega
  · intro ds hds
    rw [hn] at hds
    have m1 := Int.mul_ediv_add_emod (sg j (p + 3) us) (val vs)
    have m3 := Int.emod_lt_of_pos (sg j (p + 3) us) hpos
    have e : val ds = val (us.take j) + pw j * (sg j (p + 3) us % val vs) := by
      rw [hds, top]
      have : pw j * (sg j (p + 3) us % val vs) = pw j * (sg j (p + 3) us - val vs * (sg j (p + 3) us / val vs)) := by congr 1; omega
      rw [this]
      grind
    have h1 : pw j * (sg j (p + 3) us % val vs) ≤ pw j * (val vs - 1) := Int.mul_le_mul_of_nonneg_left (by omega) (by omega)
    have h2 : pw j * (val vs - 1) = val vs * pw j - pw j := by grind
    omega
/-- The end: what was shifted is shifted back. -/
theorem knuth_end (X Y U Q P : Int) (hP : 0 < P) (hY : 0 < Y) (h : X * P = U + (Y * P) * Q) (h0 : 0 ≤ U) (h1 : U < Y * P) : Q = X / Y ∧ U / P = X % Y := by
  have e : U = P * (X - Y * Q) := by grind
  have r0 : 0 ≤ X - Y * Q := by
    rcases (show 0 ≤ X - Y * Q ∨ X - Y * Q ≤ -1 by omega) with h2 | h2
    · exact h2
    · exfalso
      have : P * (X - Y * Q) ≤ P * (-1) := Int.mul_le_mul_of_nonneg_left h2 (by omega)
      omega
  have r1 : X - Y * Q < Y := by
    have : P * (X - Y * Q) < P * Y := by rw [← e]; rw [Int.mul_comm]; exact h1
    exact Int.lt_of_mul_lt_mul_left this (by omega)
  have q : X / Y = Q := by
    have : X = (X - Y * Q) + Y * Q := by omega
    rw [this, Int.add_mul_ediv_left _ _ (by omega), Int.ediv_eq_zero_of_lt r0 r1]; omega
  refine ⟨q.symm, ?_⟩
  rw [e, Int.mul_ediv_cancel_left _ (by omega)]
  have := Int.mul_ediv_add_emod X Y
  rw [q] at this
  omega
theorem val_take_small (us : List Int) (n : Nat) (hd : ∀ x ∈ us, 0 ≤ x ∧ x ≤ 4294967295) (hn : n ≤ us.length) (h : val us < pw n) : val (us.take n) = val us := by
  have top := val_parts 0 n us (by omega)
  have hnn := (val_bounds (us.drop (0 + n)) (fun x hx => hd x (List.mem_of_mem_drop hx))).1
  have sb := sg_bounds hd 0 n
  have e : sg 0 n us = val (us.take n) := by unfold sg; simp
  simp only [List.take_zero, val, pw, Nat.zero_add] at top
  rw [Nat.zero_add] at hnn
  rcases (show val (us.drop n) = 0 ∨ 1 ≤ val (us.drop n) by omega) with h2 | h2
  · rw [h2] at top; omega
  · exfalso
    have h1 : pw n * 1 ≤ pw n * val (us.drop n) := Int.mul_le_mul_of_nonneg_left h2 (by have := pw_pos n; omega)
    omega
end Go.Proofs.YtegnnghoiffmhaaDoor.Big
namespace Go.Proofs.YtegnnghoiffmhaaDoor.Big
open Go.RowKit Go.Proofs.YtegnnghoiffmhaaDoorW.PrintWords Go.Proofs.YtegnnghoiffmhaaDoorW.PrintLast
set_option linter.unusedVariables false
set_option linter.unusedSimpArgs false
attribute [local go_sem ↓] Go.wp_at_zero Go.wp_at_succ
/-- Two rows handed back: a quotient and a remainder. -/
def Quo (e : Ending) (w w' : World) (x y : Int) (n m : Nat) : Prop := ∃ (qA : Option Addr) (qc : Nat) (qs : List Int) (rA : Option Addr) (rc : Nat) (rs : List Int), e = .returned (.tuple #[.slice qA qs.length qc, .slice rA rs.length rc]) ∧ Rd w' qA qc qs ∧ Rd w' rA rc rs ∧ val qs = x / y ∧ val rs = x % y ∧ qs.length ≤ n ∧ rs.length ≤ m ∧ Below w.heap.size w w'
/-- A literal of one digit. -/
theorem Ow.lit1 (W : World) (base : Nat) (a : Int) (ha : 0 ≤ a ∧ a ≤ 4294967295) (h : base ≤ W.heap.size) : Ow (W.alloc (.cells #[.int .u32 a] 57)) base (.slice (some ⟨W.heap.size, 0, none⟩) 1 1) [a] :=
  ⟨⟨fun _ _ => trivial, OwnRow.lit (ps := [a]) (inner := [.int .u32 a]) W base ⟨rfl, fun j p hj => by
    match j, hj with
    | 0, hj => simp at hj; subst hj; rfl
    | j + 1, hj => simp at hj⟩ h (by simp)⟩, fun x hx => by
      simp at hx
      rw [hx]; exact ha⟩
set_option maxRecDepth 100000 in
theorem divide_small (A0 A1 : Option Addr) (c0 c1 : Nat) (xs ys : List Int) (w : World) (h0 : Rd w A0 c0 xs) (h1 : Rd w A1 c1 ys) (t0 : trimL xs = xs) (t1 : trimL ys = ys) (hl0 : xs.length ≤ 274877906944) (hl1 : ys.length ≤ 274877906944) (hlt : val xs < val ys) :
    Calls Tryd.prog 49 #[.slice A0 xs.length c0, .slice A1 ys.length c1] w fun e w' => Quo e w w' (val xs) (val ys) xs.length ys.length := by
  have H := Aside0.mk (And.intro t0 (And.intro t1 (And.intro hlt (cmpZ_lt hlt))))
  clear t0 t1 hlt
  go_enter Tryd.func49, Tryd.ntmps49
  go_wp2_with (first | (go_at_call 58; (with_reducible refine (compare_r A0 A1 c0 c1 xs ys _ h0 h1 H.out.1 H.out.2.1 (by omega) (by omega) (-1) H.out.2.2.2).mono ?_); rintro e w1 ⟨rfl, hd⟩; have hB := hd.below; clear hd) | (go_at_call 59; (with_reducible refine (clone_any A0 c0 xs _ (h0.below hB) (by omega)).mono ?_); rintro e w2 ⟨v, rfl, ho, hb⟩; obtain ⟨A, c, rfl, hR⟩ := ho.rd; replace hB := keep_below hb hB; clear hb ho))
  go_ret2
  have b0 := val_bounds xs h0.dig
  exact ⟨none, 0, [], A, c, xs, rfl, Rd.nil _, hR, (Int.ediv_eq_zero_of_lt b0.1 H.out.2.2.1).symm, (Int.emod_eq_of_lt b0.1 H.out.2.2.1).symm, by simp, len_of_val_le h1.dig h0.dig H.out.1 (by have := H.out.2.2.1; omega), hB⟩
set_option maxRecDepth 100000 in
theorem divide_one (A0 A1 : Option Addr) (c0 c1 : Nat) (xs : List Int) (y : Int) (w : World) (h0 : Rd w A0 c0 xs) (h1 : Rd w A1 c1 [y]) (t0 : trimL xs = xs) (t1 : trimL [y] = [y]) (hl0 : xs.length ≤ 274877906944) (hle : y ≤ val xs) :
    Calls Tryd.prog 49 #[.slice A0 xs.length c0, .slice A1 1 c1] w fun e w' => Quo e w w' (val xs) (val [y]) xs.length 1 := by
  have dy := h1.dig y List.mem_cons_self
  have hy : y ≠ 0 := by rintro rfl; simp [trimL] at t1
  obtain ⟨r, hr⟩ : ∃ r, cmpZ (val xs) (val [y]) = r := ⟨_, rfl⟩
  have hr0 : 0 ≤ r := by rw [← hr]; exact (cmpZ_nonneg _ _).2 (by simpa [val] using hle)
  have H := Aside0.mk (And.intro t0 (And.intro t1 (And.intro hle hr)))
  have HY := Aside0.mk (And.intro dy hy)
  obtain ⟨ad, rfl, x0⟩ := h1.at_ 0 (by simp)
  have x1 : w.cell? (ad.add 0) = some (.int .u32 y) := x0
  have x2 : w.cell? ad = some (.int .u32 y) := x0
  clear t0 t1 hle hr dy hy x0
  go_enter Tryd.func49, Tryd.ntmps49
  go_wp2_with (first | (go_at_call 58; refine (show Calls Tryd.prog 58 #[.slice A0 xs.length c0, .slice (some ad) 1 c1] _ _ from (compare_r A0 (some ad) c0 c1 xs [y] _ h0 h1 H.out.1 H.out.2.1 (by omega) (by simp) r H.out.2.2.2)).mono ?_; rintro e w1 ⟨rfl, hd⟩; have hB := hd.below; clear hd; replace x1 := keep_cell hB x1; replace x2 := keep_cell hB x2) | (go_at_call 59; (with_reducible refine (clone_any A0 c0 xs _ (h0.below hB) (by omega)).mono ?_); rintro e w2 ⟨v, rfl, ho, hb⟩; obtain ⟨A, c, rfl, hR⟩ := ho.rd; have HO := Aside0.mk (ho.lower hB.size); replace x1 := keep_cell hb x1; replace x2 := keep_cell hb x2; replace hB := keep_below hb hB; clear hb ho hR) | (go_at_call 65; (with_reducible refine (shrunk_any A c w.heap.size xs y _ HO.out ⟨by have := HY.out; omega, HY.out.1.2⟩ (by omega)).mono ?_); rintro e w3 ⟨qs, rfl, hq1, hq2, hq3, hq4⟩; have HQ := Aside0.mk (And.intro hq1 (And.intro hq2 (And.intro hq3 hq4))); clear hq1 hq2 hq3 hq4))
  go_ret2
  have q := HQ.out
  have hB3 : Below w.heap.size w w3 := hB.grown q.2.2.2 hB.size HO.out.from_
  have ho4 := Ow.lit1 w3 w.heap.size (val xs % y) (by have := HY.out; have := Int.emod_nonneg (val xs) this.2; have := Int.emod_lt_of_pos (val xs) (show 0 < y by omega); omega) hB3.size
  have hb4 : Below w3.heap.size w3 (w3.alloc (.cells #[.int .u32 (val xs % y)] 57)) := below_alloc (Below.refl _ _) _
  obtain ⟨e1, r1⟩ := (q.1.below hb4).rd'
  obtain ⟨e2, r2⟩ := ho4.rd'
  refine ⟨A, c, qs, some ⟨w3.heap.size, 0, none⟩, 1, [val xs % y], by rw [q.2.2.1]; rfl, r1, r2, ?_, ?_, by omega, by simp, keep_below hb4 hB3⟩
  · rw [q.2.1]; simp [val]
  · simp [val]
theorem lead (x : Int) (h0 : 1 ≤ x) (h1 : x ≤ 4294967295) : ∃ s : Nat, s < 32 ∧ 32 - (Lib.bitLen x.toNat : Int) = s ∧ 2147483648 ≤ x * 2 ^ s ∧ x * 2 ^ s ≤ 4294967295 := by
  obtain ⟨X, rfl⟩ := Int.eq_ofNat_of_zero_le (show 0 ≤ x by omega)
  obtain ⟨a1, a2, a3⟩ := Lib.bitLenAux_bounds 64 X (by omega) (by omega)
  have a4 := Lib.bitLen_le X 32 (by omega) (by omega)
  change 1 ≤ Lib.bitLen X at a1
  change 2 ^ (Lib.bitLen X - 1) ≤ X at a2
  change X < 2 ^ Lib.bitLen X at a3
  rw [Int.toNat_natCast]
  generalize Lib.bitLen X = b at *
  have e1 : 2 ^ (b - 1) * 2 ^ (32 - b) = 2147483648 := by rw [← Nat.pow_add, show b - 1 + (32 - b) = 31 by omega]
  have e2 : 2 ^ b * 2 ^ (32 - b) = 4294967296 := by rw [← Nat.pow_add, show b + (32 - b) = 32 by omega]
  have h2 : 2 ^ (b - 1) * 2 ^ (32 - b) ≤ X * 2 ^ (32 - b) := Nat.mul_le_mul_right _ a2
  have h3 : X * 2 ^ (32 - b) < 2 ^ b * 2 ^ (32 - b) := Nat.mul_lt_mul_of_pos_right a3 (Nat.pow_pos (by omega))
  refine ⟨32 - b, by omega, by omega, ?_, ?_⟩
  · have : ((2147483648 : Nat) : Int) ≤ ((X * 2 ^ (32 - b) : Nat) : Int) := by omega
    simpa using this
  · have : ((X * 2 ^ (32 - b) : Nat) : Int) ≤ ((4294967295 : Nat) : Int) := by omega
    simpa using this
theorem lead_any (x : Int) (s : Nat) (w : World) (h0 : 1 ≤ x) (h1 : x ≤ 4294967295) (hs : 32 - (Lib.bitLen x.toNat : Int) = s) :
    Calls Tryd.prog 74 #[.int .u32 x] w fun e w' => e = .returned (.int .i64 s) ∧ w = w' := by
  refine (Tryd.bits_LeadingZeros32 x w (by omega) h1).mono ?_
  rintro e w' ⟨rfl, rfl⟩
  rw [hs]
  exact ⟨rfl, rfl⟩
theorem last_pos {ys : List Int} {p : Nat} (hn : ys.length = p + 2) (hd : ∀ x ∈ ys, 0 ≤ x ∧ x ≤ 4294967295) (ht : trimL ys = ys) : 1 ≤ dg ys (p + 1) := by
  have h := dg_dig hd (p + 1)
  rcases (show dg ys (p + 1) = 0 ∨ 1 ≤ dg ys (p + 1) by omega) with h0 | h0
  · exfalso
    have e := take_dg ys (p + 1) (by omega)
    rw [List.take_of_length_le (by omega), h0] at e
    have e2 := trimL_zero (ys.take (p + 1))
    rw [← e, ht] at e2
    have := congrArg List.length e2
    have := trimL_len (ys.take (p + 1))
    rw [List.length_take] at this
    omega
  · exact h0
/-- The divisor, shifted, without its highest digit, which is 0. -/
theorem val_v {ys vf : List Int} {p s gv capv base : Nat} {wv : World} {A B : Prop} (hd : ∀ x ∈ ys, 0 ≤ x ∧ x ≤ 4294967295) (hn : ys.length = p + 2) (hsl : s < 32) (hs : 32 - (Lib.bitLen (dg ys (p + 1)).toNat : Int) = s ∧ 2147483648 ≤ dg ys (p + 1) * 2 ^ s ∧ dg ys (p + 1) * 2 ^ s ≤ 4294967295 ∧ 1 ≤ dg ys (p + 1) ∧ dg ys (p + 1) ≤ 4294967295)
    (hv : Ow wv base (.slice (some ⟨gv, 0, none⟩) vf.length capv) vf ∧ val vf = val ys * 2 ^ s ∧ vf.length = p + 3 ∧ A ∧ B) : Rd wv (some ⟨gv, 0, none⟩) capv (vf.take (p + 2)) ∧ val (vf.take (p + 2)) = val ys * 2 ^ s ∧ (vf.take (p + 2)).length = p + 2 ∧ 2147483648 ≤ dg (vf.take (p + 2)) (p + 1) := by
  obtain ⟨-, h2, h3, h4, -⟩ := hs
  obtain ⟨v1, v2, v3, -, -⟩ := hv
  have r := v1.rd'.2
  have p2 : 0 < (2 : Int) ^ s := Int.pow_pos (by omega)
  have e1 := val_take ys (p + 1)
  rw [List.take_of_length_le (by omega)] at e1
  have b1 := val_bounds (ys.take (p + 1)) (take_dig hd (p + 1))
  rw [List.length_take, show min (p + 1) ys.length = p + 1 by omega] at b1
  have ep : pw (p + 2) = pw (p + 1) * 4294967296 := rfl
  have pp := pw_pos (p + 1)
  have hlt : val vf < pw (p + 2) := by
    have h5 : val (ys.take (p + 1)) * 2 ^ s < pw (p + 1) * 2 ^ s := Int.mul_lt_mul_of_pos_right b1.2 p2
    have h6 : (dg ys (p + 1) * 2 ^ s + 2 ^ s) * pw (p + 1) ≤ 4294967296 * pw (p + 1) := by
      refine Int.mul_le_mul_of_nonneg_right ?_ (by omega)
      rcases (show dg ys (p + 1) * 2 ^ s + 2 ^ s ≤ 4294967296 ∨ 4294967296 < dg ys (p + 1) * 2 ^ s + 2 ^ s by omega) with h | h
      · exact h
      · exfalso
        -- a power of two divides both
        · obtain ⟨_, _, q, hq⟩ := pow_bounds hsl
          have h7 : 2 ^ s * q < 2 ^ s * (dg ys (p + 1) + 1) := by rw [hq]; have : (2 : Int) ^ s * (dg ys (p + 1) + 1) = dg ys (p + 1) * 2 ^ s + 2 ^ s := by grind
                                                                  omega
          have h8 := Int.lt_of_mul_lt_mul_left h7 (by omega)
          have h9 : 2 ^ s * q ≤ 2 ^ s * dg ys (p + 1) := Int.mul_le_mul_of_nonneg_left (by omega) (by omega)
          rw [hq, Int.mul_comm] at h9
          omega
    rw [v2, e1, ep]
    have : (val (ys.take (p + 1)) + pw (p + 1) * dg ys (p + 1)) * 2 ^ s = val (ys.take (p + 1)) * 2 ^ s + (dg ys (p + 1) * 2 ^ s) * pw (p + 1) := by grind
    have h10 : (dg ys (p + 1) * 2 ^ s + 2 ^ s) * pw (p + 1) = (dg ys (p + 1) * 2 ^ s) * pw (p + 1) + pw (p + 1) * 2 ^ s := by grind
    omega
  have hv2 := val_take_small vf (p + 2) v1.dig (by omega) hlt
  refine ⟨r.take (by omega), by rw [hv2, v2], by rw [List.length_take]; omega, ?_⟩
  -- the highest digit
  have e2 := val_take vf (p + 1)
  have hdg : dg (vf.take (p + 2)) (p + 1) = dg vf (p + 1) := by simp [dg, List.getD_eq_getElem?_getD, List.getElem?_take]
  have b2 := val_bounds (vf.take (p + 1)) (take_dig v1.dig (p + 1))
  rw [List.length_take, show min (p + 1) vf.length = p + 1 by omega] at b2
  rw [hdg]
  rw [hv2, v2, e1] at e2
  rcases (show 2147483648 ≤ dg vf (p + 1) ∨ dg vf (p + 1) + 1 ≤ 2147483648 by omega) with h | h
  · exact h
  · exfalso
    have h5 : pw (p + 1) * (dg vf (p + 1) + 1) ≤ pw (p + 1) * (dg ys (p + 1) * 2 ^ s) := Int.mul_le_mul_of_nonneg_left (by omega) (by omega)
    have h6 : 0 ≤ val (ys.take (p + 1)) * 2 ^ s := Int.mul_nonneg b1.1 (by omega)
    have h7 : (val (ys.take (p + 1)) + pw (p + 1) * dg ys (p + 1)) * 2 ^ s = val (ys.take (p + 1)) * 2 ^ s + pw (p + 1) * (dg ys (p + 1) * 2 ^ s) := by grind
    have h8 : pw (p + 1) * (dg vf (p + 1) + 1) = pw (p + 1) * dg vf (p + 1) + pw (p + 1) := by grind
    omega
/-- What the rounds of the long division keep: the dividend is what is left and the divisor times the quotient so far. -/
def DivI (w wr : World) (g cap gq capq gv capv : Nat) (X : Int) (vs : List Int) (nu m k : Nat) (us qs : List Int) : Prop :=
  us.length = nu ∧ qs.length = m + 1 ∧ X = val us + val vs * val qs ∧ val us < val vs * pw k ∧ (∀ j, j < k → dg qs j = 0) ∧ Ow wr w.heap.size (.slice (some ⟨g, 0, none⟩) nu cap) us ∧ Ow wr w.heap.size (.slice (some ⟨gq, 0, none⟩) (m + 1) capq) qs ∧ Rd wr (some ⟨gv, 0, none⟩) capv vs ∧ Below w.heap.size w wr
theorem div_start (w wq : World) (g cap gq capq gv capv : Nat) (us vs : List Int) (m p : Nat) (Y : Int) (s : Nat) (hul : us.length = m + p + 3) {xs : List Int} (hx : ∀ x ∈ xs, 0 ≤ x ∧ x ≤ 4294967295) (hxl : xs.length = m + (p + 2)) (hs : s < 32)
    (hv : Rd wq (some ⟨gv, 0, none⟩) capv vs ∧ val vs = Y * 2 ^ s ∧ vs.length = p + 2 ∧ 2147483648 ≤ dg vs (p + 1)) (hu : Ow wq w.heap.size (.slice (some ⟨g, 0, none⟩) us.length cap) us) (huv : val us = val xs * 2 ^ s) (hq : Ow wq w.heap.size (.slice (some ⟨gq, 0, none⟩) (List.replicate (m + 1) (0 : Int)).length capq) (List.replicate (m + 1) 0)) (hB : Below w.heap.size w wq) :
    DivI w wq g cap gq capq gv capv (val xs * 2 ^ s) vs us.length m (m + 1) us (List.replicate (m + 1) 0) := by
  rw [List.length_replicate] at hq
  obtain ⟨v1, v2, v3, v4⟩ := hv
  refine ⟨rfl, by simp, by rw [val_zeros, huv]; omega, ?_, fun j _ => by simp [dg, List.getD_eq_getElem?_getD, List.getElem?_replicate]; split <;> rfl, hu, hq, v1, hB⟩
  obtain ⟨p1, p2, _⟩ := pow_bounds hs
  have xb := val_bounds xs hx
  rw [hxl] at xb
  have e1 := val_take vs (p + 1)
  rw [List.take_of_length_le (by omega)] at e1
  have b1 := (val_bounds (vs.take (p + 1)) (take_dig v1.dig (p + 1))).1
  have h1 : pw (p + 1) * 2147483648 ≤ pw (p + 1) * dg vs (p + 1) := Int.mul_le_mul_of_nonneg_left v4 (by have := pw_pos (p + 1); omega)
  have h2 : (pw (p + 1) * 2147483648) * pw (m + 1) ≤ val vs * pw (m + 1) := Int.mul_le_mul_of_nonneg_right (by omega) (by have := pw_pos (m + 1); omega)
  have h3 : (pw (p + 1) * 2147483648) * pw (m + 1) = 2147483648 * pw (m + (p + 2)) := by
    rw [show m + (p + 2) = (p + 1) + (m + 1) by omega, pw_add (p + 1) (m + 1), Int.mul_comm (pw (p + 1)), Int.mul_assoc]
  have h4 : val xs * 2 ^ s < pw (m + (p + 2)) * 2 ^ s := Int.mul_lt_mul_of_pos_right xb.2 (by omega)
  have h5 : pw (m + (p + 2)) * 2 ^ s ≤ pw (m + (p + 2)) * 2147483648 := Int.mul_le_mul_of_nonneg_left p2 (by have := pw_pos (m + (p + 2)); omega)
  rw [huv]
  omega
theorem div_end (w wr wf : World) (g cap gq capq gv capv : Nat) (vs ys xs us qs ds : List Int) (m p s : Nat) (hs : s < 32) (hyl : ys.length = p + 2) (hxl : xs.length = m + (p + 2)) (hy : ∀ x ∈ ys, 0 ≤ x ∧ x ≤ 4294967295) (hvv : val vs = val ys * 2 ^ s) (hy0 : 0 < val ys)
    (h : DivI w wr g cap gq capq gv capv (val xs * 2 ^ s) vs (m + p + 3) m 0 us qs) (hne : gq ≠ g) (ho : Ow wf w.heap.size (.slice (some ⟨g, 0, none⟩) (m + p + 3) cap) ds) (hv : val ds = val us / 2 ^ s) (hl : ds.length = m + p + 3) (hgr : wr.grownBy wf (some g)) :
    Quo (.returned (.tuple #[.slice (some ⟨gq, 0, none⟩) (m + 1) capq, .slice (some ⟨g, 0, none⟩) (p + 2) cap])) w wf (val xs) (val ys) xs.length ys.length := by
  obtain ⟨h1, h2, h3, h4, h5, h6, h7, h8, h9⟩ := h
  obtain ⟨p1, p2, _⟩ := pow_bounds hs
  rw [hvv] at h3 h4
  simp only [pw, Int.mul_one] at h4
  have ub := val_bounds us h6.dig
  obtain ⟨e1, e2⟩ := knuth_end (val xs) (val ys) (val us) (val qs) (2 ^ s) (by omega) hy0 h3 ub.1 h4
  have hB : Below w.heap.size w wf := h9.grown hgr h9.size h6.from_
  have rq := (h7.rd'.2.grown hgr (fun ad e => by cases e; simpa using hne))
  have rd := ho.rd'.2.take (m := p + 2) (by omega)
  have hval : val (ds.take (p + 2)) = val xs % val ys := by
    rw [val_take_small ds (p + 2) ho.dig (by omega) ?_, hv, e2]
    have b := val_bounds ys hy
    have := Int.emod_lt_of_pos (val xs) hy0
    rw [hv, e2, ← hyl]
    omega
  have l1 : (ds.take (p + 2)).length = p + 2 := by rw [List.length_take]; omega
  exact ⟨_, _, qs, _, _, ds.take (p + 2), by rw [h2, l1], rq, rd, e1, hval, by omega, by omega, hB⟩
set_option maxRecDepth 100000 in
theorem div_next (w wr w1 w2 : World) (g cap gq capq gv capv : Nat) (X : Int) (vs us qs ds : List Int) (nu m p k : Nat) (hn : vs.length = p + 2) (ht : 2147483648 ≤ dg vs (p + 1)) (hl : k + (p + 2) < nu) (hk : k ≤ m) (hd : g < gv ∧ gv < gq)
    (h : DivI w wr g cap gq capq gv capv X vs nu m (k + 1) us qs) (hB : Below wr.heap.size wr w1) {q : Int} (hq : 0 ≤ q ∧ q ≤ 4294967295) (hq2 : sg k (p + 3) us / val vs ≤ q)
    (hds : ds.length = nu ∧ val ds = val us - sg k (p + 3) us / val vs * val vs * pw k ∧ (ds.take k = us.take k ∧ ds.drop (k + (p + 3)) = us.drop (k + (p + 3))) ∧ Ow w2 w.heap.size (.slice (some ⟨g, 0, none⟩) nu cap) ds ∧ w1.grownBy w2 (some g)) :
    (w2.cell? ⟨gq, k, none⟩ = some (.int .u32 (dg qs k)) ∧ w2.frozen? ⟨gq, k, none⟩ = false) ∧ DivI w (w2.setCell ⟨gq, k, none⟩ (.int .u32 (sg k (p + 3) us / val vs))) g cap gq capq gv capv X vs nu m k ds (qs.set k (sg k (p + 3) us / val vs)) := by
  obtain ⟨h1, h2, h3, h4, h5, h6, h7, h8, h9⟩ := h
  obtain ⟨d1, d2, _, d4, d5⟩ := hds
  have ks := knuth_step us vs k p h6.dig h8.dig hn (by omega) ht h4
  rw [hn] at ks
  have sb := sg_bounds h6.dig k (p + 3)
  have q0 : 0 ≤ sg k (p + 3) us / val vs := Int.ediv_nonneg sb.1 (by have := ks.2.1; omega)
  have hQ : Ow w2 w.heap.size (.slice (some ⟨gq, 0, none⟩) (m + 1) capq) qs := (h7.below hB).other d5 (Or.inr (by simp [Value.ownBlock]; omega))
  obtain ⟨gq', capq', e, hg0, _⟩ := h7.form (by omega)
  have e2 : gq = gq' := by simp only [Value.slice.injEq, Option.some.injEq, Addr.mk.injEq] at e; exact e.1.1
  rw [← e2] at hg0
  refine ⟨hQ.cell k (by omega), d1, by simp [h2], ?_, ?_, ?_, ?_, ?_, ?_, ?_⟩
  · rw [val_set qs k _ (by omega), h5 k (by omega), d2, h3]
    generalize sg k (p + 3) us / val vs = Q
    grind
  · exact ks.2.2.2 ds d2
  · intro j hj
    have := h5 j (by omega)
    rw [dg_set_ne' qs k j _ (by omega)]
    exact this
  · exact d4.other (grown_self _ _ _ _) (Or.inr (by simp [Value.ownBlock]; omega))
  · exact hQ.put k _ ⟨q0, by omega⟩
  · exact ((h8.below hB).grown d5 (by rintro ad h; cases h; simp; omega)).grown (grown_self _ _ _ _) (by rintro ad h; cases h; simp; omega)
  · obtain ⟨g', cap', e, hg1, _⟩ := h6.form (by omega)
    have e3 : g = g' := by simp only [Value.slice.injEq, Option.some.injEq, Addr.mk.injEq] at e; exact e.1.1
    rw [← e3] at hg1
    have hb2 : Below w.heap.size w w2 := by
      have := keep_below hB h9
      exact this.trans ⟨d5.os, d5.tape, d5.output, d5.size, fun b hb => d5.block b (by have := h9.size; have := hB.size; omega) (by simp; omega)⟩
    exact below_set hb2 hg0
theorem w64 (n : Int) (h : -9223372036854775808 ≤ n ∧ n ≤ 9223372036854775807) : wrap64 n = n := by unfold wrap64; omega
set_option maxRecDepth 20000 in
theorem divide_many (A0 A1 : Option Addr) (c0 c1 m p : Nat) (xs ys : List Int) (w : World) (h0 : Rd w A0 c0 xs) (h1 : Rd w A1 c1 ys) (t0 : trimL xs = xs) (t1 : trimL ys = ys) (hl0 : xs.length ≤ 274877906944) (hn : ys.length = p + 2) (hm : xs.length = m + (p + 2)) (hle : val ys ≤ val xs) :
    Calls Tryd.prog 49 #[.slice A0 xs.length c0, .slice A1 ys.length c1] w fun e w' => Quo e w w' (val xs) (val ys) xs.length ys.length := by
  obtain ⟨r, hr⟩ : ∃ r, cmpZ (val xs) (val ys) = r := ⟨_, rfl⟩
  have hr0 : 0 ≤ r := by rw [← hr]; exact (cmpZ_nonneg _ _).2 hle
  have dt := dg_dig h1.dig (p + 1)
  have dt1 := last_pos hn h1.dig t1
  obtain ⟨s, hs, hs2, hs3, hs4⟩ := lead (dg ys (p + 1)) dt1 dt.2
  have H := Aside0.mk (And.intro t0 (And.intro t1 (And.intro hle hr)))
  have HS := Aside0.mk (And.intro hs2 (And.intro hs3 (And.intro hs4 (And.intro dt1 dt.2))))
  have HM := Aside0.mk (And.intro hn hm)
  obtain ⟨ad, rfl, x0⟩ := h1.at_ (p + 1) (by omega)
  have x1 : w.cell? ⟨ad.block, ad.off + (p + 1), none⟩ = some (.int .u32 (dg ys (p + 1))) := x0
  have hp : p < 274877906944 := by omega
  have hm1 : m < 274877906944 := by omega
  clear t0 t1 hle hr dt dt1 hs2 hs3 hs4 x0 hm
  have hl : (ys.length == 1) = false := by rw [hn]; simp
  rw [hn]
  rw [hn] at hl
  go_enter Tryd.func49, Tryd.ntmps49
  go_wp2_with (first | (go_at_call 58; refine (show Calls Tryd.prog 58 #[.slice A0 xs.length c0, .slice (some ad) (p + 2) c1] _ _ from (by rw [← HM.out.1]; exact (compare_r A0 (some ad) c0 c1 xs ys _ h0 h1 H.out.1 H.out.2.1 (by omega) (by omega) r H.out.2.2.2))).mono ?_; rintro e w1 ⟨rfl, hd⟩; have hB := hd.below; clear hd; replace x1 := keep_cell hB x1) | (go_at_call 74; (with_reducible refine (lead_any (dg ys (p + 1)) s _ HS.out.2.2.2.1 HS.out.2.2.2.2 HS.out.1).mono ?_); rintro e w' ⟨rfl, rfl⟩))
  replace hB := below_drew hB
  have hn2 := HM.out.1
  have hxl : xs.length ≤ 549755813888 := by omega
  have hyl : ys.length ≤ 549755813888 := by omega
  have hsh : ∀ w1, Rd w1 (some ad) c1 ys → Calls Tryd.prog 75 #[.slice (some ad) (p + 2) c1, .int .i64 s] w1 fun e w' => ∃ v cs, e = .returned v ∧ Own w1 w' v cs ∧ val cs = val ys * 2 ^ s ∧ cs.length = p + 3 := by
    intro w1 hr1
    have h := shifted_any (some ad) c1 s ys w1 hr1 hs hyl
    rw [hn2] at h
    exact h
  have HSH := Aside0.mk hsh
  clear hsh
  go_region_held3 (fun w' => True) (trivial)
    (first | (go_simp; go_at_call 75; (with_reducible refine (shifted_any A0 c0 s xs _ (h0.below hB) hs hxl).mono ?_); rintro e wu ⟨v, us, rfl, hO, hv, hl⟩; obtain ⟨g, cap, rfl, hg0, hg1⟩ := hO.ow.form (by omega); have HU := Aside0.mk (And.intro (hO.ow.lower hB.size) (And.intro hv (And.intro hl (And.intro hg0 hg1)))); replace hB := keep_below hO.be hB; clear hO hv hl hg0 hg1) | (go_simp; go_at_call 75; (with_reducible refine (HSH.out _ (h1.below hB)).mono ?_); rintro e wv ⟨v, vf, rfl, hO, hv, hl⟩; obtain ⟨gv, capv, rfl, hgv0, hgv1⟩ := hO.ow.form (by omega); have HV := Aside0.mk (And.intro (hO.ow.lower hB.size) (And.intro hv (And.intro hl (And.intro hgv0 hgv1)))); have HU2 := Aside0.mk (HU.out.1.below hO.be); replace hB := keep_below hO.be hB; have hcv : p + 2 ≤ capv := (by have := hO.ow.rd'.2.le; omega); have hcv2 : (p : Int) + 2 ≤ (capv : Int) := (by omega); have hcv3 : (0 : Int) ≤ (p : Int) + 2 := (by omega); have hcv4 : ((p : Int) + 2).toNat = p + 2 := (by omega); clear hO hv hl hgv0 hgv1))
  have RV := Aside0.mk (val_v h1.dig HM.out.1 hs HS.out HV.out)
  have em : (xs.length : Int) - ((p : Int) + 2) + 1 = ((m + 1 : Nat) : Int) := by have := HM.out.2; omega
  have EM := Aside0.mk em
  clear em hcv2 hcv3
  have VS := Aside0.mk (And.intro RV.out.1 (And.intro hn2 (And.intro HM.out.2 HV.out.2.2.2)))
  go_wp2_with (first | ((with_reducible refine gate_dst (N := 55) rfl ?_); refine make_u32 rfl rfl _ _ rfl (m + 1) (by rw [← EM.out]; rfl) (by rw [← EM.out]; rfl) (by omega) ?_; intro v11 wq hoq hbq; obtain ⟨gq, capq, rfl, hgq0, hgq1⟩ := hoq.form (by simp); have HQ := Aside0.mk (And.intro (hoq.lower hB.size) (And.intro hgq0 hgq1)); have HU3 := Aside0.mk (HU2.out.below hbq); have RV3 := Aside0.mk (RV.out.1.below hbq); replace hB := keep_below hbq hB; clear hoq hbq hgq0 hgq1))
  obtain ⟨vs, hvs⟩ : ∃ vs, vf.take (p + 2) = vs := ⟨_, rfl⟩
  have hul : us.length = m + p + 3 := by have := HU.out.2.2.1; have := HM.out.2; omega
  have hdis : g < gv ∧ gv < gq := by have := HU.out; have := HV.out; have := HQ.out; omega
  have ST := Aside0.mk (div_start w wq g cap gq capq gv capv us vs m p (val ys) s hul h0.dig HM.out.2 hs (by rw [← hvs]; exact ⟨RV3.out, RV.out.2⟩) HU3.out HU.out.2.1 HQ.out.1 hB)
  have VV := Aside0.mk (show vs.length = p + 2 ∧ 2147483648 ≤ dg vs (p + 1) ∧ val vs = val ys * 2 ^ s by rw [← hvs]; exact ⟨RV.out.2.2.1, RV.out.2.2.2, RV.out.2.1⟩)
  have DI := Aside0.mk hdis
  have UL := Aside0.mk hul
  clear hvs hul hdis HQ HU3 RV3 VS RV HV HU2 hB EM
  go_loopg [12, 13] (m + 1) (fun kq v12 v13 w' => ∃ (k : Nat) (us2 qs : List Int), v12 = .int .i64 ((k : Int) - 1) ∧ Aside0 (k = kq ∧ k ≤ m + 1 ∧ DivI w w' g cap gq capq gv capv (val xs * 2 ^ s) vs us.length m k us2 qs))
  case atStart => exact ⟨m + 1, us, List.replicate (m + 1) 0, by go_num, ⟨rfl, Nat.le_refl _, ST.out⟩⟩
  case round =>
    clear ST
    obtain ⟨k, us2, qs, rfl, HA⟩ := hrel
    cases k with
    | zero =>
      rw [UL.out] at HA ⊢
      have hO := HA.out.2.2.2.2.2.2.2.1
      have hlu := HA.out.2.2.1
      have hun : Calls Tryd.prog 78 #[.slice (some ⟨g, 0, none⟩) (m + p + 3) cap, .int .i64 s] wr fun e w' => ∃ zs, e = .returned (.tuple #[]) ∧ Ow w' w.heap.size (.slice (some ⟨g, 0, none⟩) (m + p + 3) cap) zs ∧ val zs = val us2 / 2 ^ s ∧ zs.length = m + p + 3 ∧ wr.grownBy w' (some g) := by
        have h := unshifted_any (some ⟨g, 0, none⟩) cap w.heap.size s us2 wr (by rw [hlu]; exact hO) hs (by omega)
        rw [hlu] at h
        exact h
      have HUN := Aside0.mk hun
      have hcp : p + 2 ≤ cap := by have := hO.rd'.2.le; omega
      have hcp2 : (p : Int) + 2 ≤ (cap : Int) := by omega
      have hcp3 : ((p : Int) + 2).toNat = p + 2 := by omega
      clear hun hlu hO
      go_wp2_with (first | (go_at_call 78; (with_reducible refine HUN.out.mono ?_); rintro e wf ⟨ds, rfl, hd1, hd2, hd3, hd4⟩; have HD := Aside0.mk (And.intro hd1 (And.intro hd2 (And.intro hd3 hd4))); clear hd1 hd2 hd3 hd4))
      go_region
      go_wp2
      go_ret2
      have hd := HD.out
      have hb1 : Below wf.heap.size wf wf.drew := below_drew (Below.refl _ _)
      have hp0 : 0 < val ys := by have := val_ge ys h1.dig H.out.2.1 (by omega); have := pw_pos (ys.length - 1); omega
      have hfin := div_end w wr wf.drew g cap gq capq gv capv vs ys xs us2 qs ds m p s hs HM.out.1 HM.out.2 h1.dig VV.out.2.2 hp0 HA.out.2.2 (by have := DI.out; omega) (hd.1.below hb1) hd.2.1 hd.2.2.1 ⟨hd.2.2.2.os, hd.2.2.2.tape, hd.2.2.2.output, hd.2.2.2.size, hd.2.2.2.block⟩
      rw [HM.out.1] at hfin
      exact hfin
    | succ k =>
      have hk : k ≤ m := by have := HA.out.2.1; omega
      have hkp : k + (p + 2) < us.length := by have := UL.out; omega
      have hq := HA.out.2.2.2.2.2.2.2.2.1
      have ho := HA.out.2.2.2.2.2.2.2.1
      obtain ⟨y2, _⟩ := ho.cell (k + (p + 2)) hkp
      obtain ⟨y1, _⟩ := ho.cell (k + (p + 1)) (by omega)
      obtain ⟨y0, _⟩ := ho.cell (k + p) (by omega)
      clear ho hq
      obtain ⟨t, ht⟩ : ∃ t, k + p = t := ⟨_, rfl⟩
      have yy2 : wr.cell? ⟨g, t + 2, none⟩ = some (.int .u32 (dg us2 (t + 2))) := by rw [← ht]; exact y2
      have yy1 : wr.cell? ⟨g, t + 1, none⟩ = some (.int .u32 (dg us2 (t + 1))) := by rw [← ht]; exact y1
      have yy0 : wr.cell? ⟨g, t, none⟩ = some (.int .u32 (dg us2 t)) := by rw [← ht]; exact y0
      clear y2 y1 y0
      rw [show (((k + 1 : Nat) : Int) - 1) = (k : Int) by omega]
      have et : (k : Int) + ((p : Int) + 2) = (t : Int) + 2 := by omega
      go_wp2
      have i1 : (t : Int) + 2 - 1 = (t : Int) + 1 := by omega
      have i2 : (t : Int) + 2 - 2 = (t : Int) := by omega
      have n2 : ((t : Int) + 2).toNat = t + 2 := by omega
      have n1 : ((t : Int) + 1).toNat = t + 1 := by omega
      have l2 : (t : Int) + 2 < (us.length : Int) := by omega
      have l1 : (t : Int) + 1 < (us.length : Int) := by omega
      have l0 : (t : Int) < (us.length : Int) := by omega
      have z2 : (0 : Int) ≤ (t : Int) + 2 := by omega
      have z1 : (0 : Int) ≤ (t : Int) + 1 := by omega
      have z0 : (0 : Int) ≤ (t : Int) := by omega
      have HK := Aside0.mk (show k ≤ m ∧ k + p = t from ⟨hk, ht⟩)
      have hdc : ∀ w1, Below wr.heap.size wr w1 → Calls Tryd.prog 77 #[.int .u32 (dg us2 (t + 2)), .int .u32 (dg us2 (t + 1)), .int .u32 (dg us2 t), .slice (some ⟨gv, 0, none⟩) (p + 2) capv] w1 fun e w' => ∃ q, e = .returned (.int .u64 q) ∧ Est q ((dg us2 (t + 2) * 4294967296 + dg us2 (t + 1)) * 4294967296 + dg us2 t) (dg vs (p + 1) * 4294967296 + dg vs p) ∧ Drawn0 w1 w' := by
        intro w1 hb
        have hD := HA.out.2.2
        have vl := VV.out.1
        have ks := knuth_step us2 vs k p hD.2.2.2.2.2.1.dig hD.2.2.2.2.2.2.2.1.dig vl (by rw [hD.1]; omega) VV.out.2.1 hD.2.2.2.1
        have h := digit_any (some ⟨gv, 0, none⟩) capv vs (dg us2 (t + 2)) (dg us2 (t + 1)) (dg us2 t) w1 (hD.2.2.2.2.2.2.2.1.below hb) (by omega) (by rw [vl]; exact VV.out.2.1) (by rw [vl, ← ht, Nat.add_assoc]; exact ks.1) (dg_dig hD.2.2.2.2.2.1.dig _) (dg_dig hD.2.2.2.2.2.1.dig _)
        rw [vl] at h
        exact h
      have HDC := Aside0.mk hdc
      clear hdc
      have l4 : (k : Int) < (m : Int) + 1 := by omega
      have z4 : (0 : Int) ≤ (k : Int) := by omega
      have b1 : -9223372036854775808 ≤ (t : Int) + 1 ∧ (t : Int) + 1 ≤ 9223372036854775807 := by omega
      have b2 : -9223372036854775808 ≤ (t : Int) ∧ (t : Int) ≤ 9223372036854775807 := by omega
      have hw1 := w64 _ b1
      have hw2 := w64 _ b2
      refine start_ (n := 24) (S := (fun W => W.cell? ⟨g, t + 2, none⟩ = some (.int .u32 (dg us2 (t + 2))) ∧ W.cell? ⟨g, t + 1, none⟩ = some (.int .u32 (dg us2 (t + 1))) ∧ W.cell? ⟨g, t, none⟩ = some (.int .u32 (dg us2 t)))) (ds := [21, 23]) #[false, false, false, false, false, false, false, false, false, false, false, false, false, false, false, false, false, false, false, false, false, false, false, false] (by kernel_rfl) rfl rfl (⟨yy2, yy1, yy0⟩) (fun hHeld => ?_)
      refine pure_ (i := 0) (N := some 67) (v := ?_) (a' := ?_) #[true, false, false, false, false, false, false, false, false, false, false, false, false, false, false, false, false, false, false, false, false, false, false, false] rfl rfl (by kernel_rfl) (fun _ _ _ h => h) (Or.inl ⟨by rfl, ?_⟩) ?_ ?_
      rotate_left
      · intro w'
        go_simp
        with_reducible rfl
      rotate_left
      · simp only [Act.put, List.setIfInBounds_toArray, List.set_cons_zero, List.set_cons_succ, i64_w, i32_w]
        rfl
      refine pure_ (i := 1) (N := some 68) (v := ?_) (a' := ?_) #[true, true, false, false, false, false, false, false, false, false, false, false, false, false, false, false, false, false, false, false, false, false, false, false] rfl rfl (by kernel_rfl) (fun _ _ _ h => h) (Or.inl ⟨by rfl, ?_⟩) ?_ ?_
      rotate_left
      · intro w'
        go_simp
        with_reducible rfl
      rotate_left
      · simp only [Act.put, List.setIfInBounds_toArray, List.set_cons_zero, List.set_cons_succ, i64_w, i32_w]
        rfl
      refine pure_ (i := 2) (N := some 69) (v := ?_) (a' := ?_) #[true, true, true, false, false, false, false, false, false, false, false, false, false, false, false, false, false, false, false, false, false, false, false, false] rfl rfl (by kernel_rfl) (fun _ _ _ h => h) (Or.inl ⟨by rfl, ?_⟩) ?_ ?_
      rotate_left
      · intro w'
        go_simp
        with_reducible rfl
      rotate_left
      · simp only [Act.put, List.setIfInBounds_toArray, List.set_cons_zero, List.set_cons_succ, i64_w, i32_w]
        rfl
      refine pure_ (i := 3) (N := some 70) (v := ?_) (a' := ?_) #[true, true, true, true, false, false, false, false, false, false, false, false, false, false, false, false, false, false, false, false, false, false, false, false] rfl rfl (by kernel_rfl) (fun _ _ _ h => h) (Or.inl ⟨by rfl, ?_⟩) ?_ ?_
      rotate_left
      · intro w'
        go_simp
        with_reducible rfl
      rotate_left
      · simp only [Act.put, List.setIfInBounds_toArray, List.set_cons_zero, List.set_cons_succ, i64_w, i32_w]
        rfl
      refine pure_ (i := 4) (N := some 71) (v := ?_) (a' := ?_) #[true, true, true, true, true, false, false, false, false, false, false, false, false, false, false, false, false, false, false, false, false, false, false, false] rfl rfl (by kernel_rfl) (fun _ _ _ h => h) (Or.inl ⟨by rfl, ?_⟩) ?_ ?_
      rotate_left
      · intro w'
        go_simp
        with_reducible rfl
      rotate_left
      · simp only [Act.put, List.setIfInBounds_toArray, List.set_cons_zero, List.set_cons_succ, i64_w, i32_w]
        rfl
      refine pure_ (i := 5) (N := some 72) (v := ?_) (a' := ?_) #[true, true, true, true, true, true, false, false, false, false, false, false, false, false, false, false, false, false, false, false, false, false, false, false] rfl rfl (by kernel_rfl) (fun _ _ _ h => h) (Or.inl ⟨by rfl, ?_⟩) ?_ ?_
      rotate_left
      · intro w'
        go_simp
        with_reducible rfl
      rotate_left
      · simp only [Act.put, List.setIfInBounds_toArray, List.set_cons_zero, List.set_cons_succ, i64_w, i32_w]
        rfl
      refine pure_ (i := 6) (N := some 73) (v := ?_) (a' := ?_) #[true, true, true, true, true, true, true, false, false, false, false, false, false, false, false, false, false, false, false, false, false, false, false, false] rfl rfl (by kernel_rfl) (fun _ _ _ h => h) (Or.inl ⟨by rfl, ?_⟩) ?_ ?_
      rotate_left
      · intro w'
        go_simp
        with_reducible rfl
      rotate_left
      · simp only [Act.put, List.setIfInBounds_toArray, List.set_cons_zero, List.set_cons_succ, i64_w, i32_w]
        rfl
      refine pure_ (i := 7) (N := some 74) (v := ?_) (a' := ?_) #[true, true, true, true, true, true, true, true, false, false, false, false, false, false, false, false, false, false, false, false, false, false, false, false] rfl rfl (by kernel_rfl) (fun _ _ _ h => h) (Or.inl ⟨by rfl, ?_⟩) ?_ ?_
      rotate_left
      · intro w'
        go_simp
        with_reducible rfl
      rotate_left
      · simp only [Act.put, List.setIfInBounds_toArray, List.set_cons_zero, List.set_cons_succ, i64_w, i32_w]
        rfl
      refine take_ (i := 8) (N := some 75) (v := ?_) (a' := ?_) #[true, true, true, true, true, true, true, true, true, false, false, false, false, false, false, false, false, false, false, false, false, false, false, false] rfl rfl (by kernel_rfl) (fun _ _ _ h => h) (Or.inl ⟨by rfl, ?_⟩) hHeld ?_ ?_
      rotate_left
      · rintro w' ⟨s2, s1, s0⟩
        go_simp
        with_reducible rfl
      rotate_left
      · simp only [Act.put, List.setIfInBounds_toArray, List.set_cons_zero, List.set_cons_succ, i64_w, i32_w]
        rfl
      refine pure_ (i := 9) (N := some 76) (v := ?_) (a' := ?_) #[true, true, true, true, true, true, true, true, true, true, false, false, false, false, false, false, false, false, false, false, false, false, false, false] rfl rfl (by kernel_rfl) (fun _ _ _ h => h) (Or.inl ⟨by rfl, ?_⟩) ?_ ?_
      rotate_left
      · intro w'
        go_simp
        with_reducible rfl
      rotate_left
      · simp only [Act.put, List.setIfInBounds_toArray, List.set_cons_zero, List.set_cons_succ, i64_w, i32_w]
        rfl
      refine pure_ (i := 10) (N := some 77) (v := ?_) (a' := ?_) #[true, true, true, true, true, true, true, true, true, true, true, false, false, false, false, false, false, false, false, false, false, false, false, false] rfl rfl (by kernel_rfl) (fun _ _ _ h => h) (Or.inl ⟨by rfl, ?_⟩) ?_ ?_
      rotate_left
      · intro w'
        go_simp
        with_reducible rfl
      rotate_left
      · simp only [Act.put, List.setIfInBounds_toArray, List.set_cons_zero, List.set_cons_succ, i64_w, i32_w]
        rfl
      refine pure_ (i := 11) (N := some 78) (v := ?_) (a' := ?_) #[true, true, true, true, true, true, true, true, true, true, true, true, false, false, false, false, false, false, false, false, false, false, false, false] rfl rfl (by kernel_rfl) (fun _ _ _ h => h) (Or.inl ⟨by rfl, ?_⟩) ?_ ?_
      rotate_left
      · intro w'
        go_simp
        with_reducible rfl
      rotate_left
      · simp only [Act.put, List.setIfInBounds_toArray, List.set_cons_zero, List.set_cons_succ, i64_w, i32_w]
        rfl
      refine pure_ (i := 12) (N := some 79) (v := ?_) (a' := ?_) #[true, true, true, true, true, true, true, true, true, true, true, true, true, false, false, false, false, false, false, false, false, false, false, false] rfl rfl (by kernel_rfl) (fun _ _ _ h => h) (Or.inl ⟨by rfl, ?_⟩) ?_ ?_
      rotate_left
      · intro w'
        go_simp
        with_reducible rfl
      rotate_left
      · simp only [Act.put, List.setIfInBounds_toArray, List.set_cons_zero, List.set_cons_succ, i64_w, i32_w]
        rfl
      refine take_ (i := 13) (N := some 80) (v := ?_) (a' := ?_) #[true, true, true, true, true, true, true, true, true, true, true, true, true, true, false, false, false, false, false, false, false, false, false, false] rfl rfl (by kernel_rfl) (fun _ _ _ h => h) (Or.inl ⟨by rfl, ?_⟩) hHeld ?_ ?_
      rotate_left
      · rintro w' ⟨s2, s1, s0⟩
        go_simp
        with_reducible rfl
      rotate_left
      · simp only [Act.put, List.setIfInBounds_toArray, List.set_cons_zero, List.set_cons_succ, i64_w, i32_w]
        rfl
      refine pure_ (i := 14) (N := some 81) (v := ?_) (a' := ?_) #[true, true, true, true, true, true, true, true, true, true, true, true, true, true, true, false, false, false, false, false, false, false, false, false] rfl rfl (by kernel_rfl) (fun _ _ _ h => h) (Or.inl ⟨by rfl, ?_⟩) ?_ ?_
      rotate_left
      · intro w'
        go_simp
        with_reducible rfl
      rotate_left
      · simp only [Act.put, List.setIfInBounds_toArray, List.set_cons_zero, List.set_cons_succ, i64_w, i32_w]
        rfl
      refine pure_ (i := 15) (N := some 82) (v := ?_) (a' := ?_) #[true, true, true, true, true, true, true, true, true, true, true, true, true, true, true, true, false, false, false, false, false, false, false, false] rfl rfl (by kernel_rfl) (fun _ _ _ h => h) (Or.inl ⟨by rfl, ?_⟩) ?_ ?_
      rotate_left
      · intro w'
        go_simp
        with_reducible rfl
      rotate_left
      · simp only [Act.put, List.setIfInBounds_toArray, List.set_cons_zero, List.set_cons_succ, i64_w, i32_w]
        rfl
      refine pure_ (i := 16) (N := some 83) (v := ?_) (a' := ?_) #[true, true, true, true, true, true, true, true, true, true, true, true, true, true, true, true, true, false, false, false, false, false, false, false] rfl rfl (by kernel_rfl) (fun _ _ _ h => h) (Or.inl ⟨by rfl, ?_⟩) ?_ ?_
      rotate_left
      · intro w'
        go_simp
        with_reducible rfl
      rotate_left
      · simp only [Act.put, List.setIfInBounds_toArray, List.set_cons_zero, List.set_cons_succ, i64_w, i32_w]
        rfl
      refine pure_ (i := 17) (N := some 84) (v := ?_) (a' := ?_) #[true, true, true, true, true, true, true, true, true, true, true, true, true, true, true, true, true, true, false, false, false, false, false, false] rfl rfl (by kernel_rfl) (fun _ _ _ h => h) (Or.inl ⟨by rfl, ?_⟩) ?_ ?_
      rotate_left
      · intro w'
        go_simp
        with_reducible rfl
      rotate_left
      · simp only [Act.put, List.setIfInBounds_toArray, List.set_cons_zero, List.set_cons_succ, i64_w, i32_w]
        rfl
      refine take_ (i := 18) (N := some 85) (v := ?_) (a' := ?_) #[true, true, true, true, true, true, true, true, true, true, true, true, true, true, true, true, true, true, true, false, false, false, false, false] rfl rfl (by kernel_rfl) (fun _ _ _ h => h) (Or.inl ⟨by rfl, ?_⟩) hHeld ?_ ?_
      rotate_left
      · rintro w' ⟨s2, s1, s0⟩
        go_simp
        with_reducible rfl
      rotate_left
      · simp only [Act.put, List.setIfInBounds_toArray, List.set_cons_zero, List.set_cons_succ, i64_w, i32_w]
        rfl
      refine pure_ (i := 19) (N := some 86) (v := ?_) (a' := ?_) #[true, true, true, true, true, true, true, true, true, true, true, true, true, true, true, true, true, true, true, true, false, false, false, false] rfl rfl (by kernel_rfl) (fun _ _ _ h => h) (Or.inl ⟨by rfl, ?_⟩) ?_ ?_
      rotate_left
      · intro w'
        go_simp
        with_reducible rfl
      rotate_left
      · simp only [Act.put, List.setIfInBounds_toArray, List.set_cons_zero, List.set_cons_succ, i64_w, i32_w]
        rfl
      clear hw1 hw2
      refine one_ (i := 20) (N := some 87) #[true, true, true, true, true, true, true, true, true, true, true, true, true, true, true, true, true, true, true, true, true, false, false, false] rfl rfl (by kernel_rfl) (by decide) (fun K hK => ?_)
      · refine goes_ Tryd.func77 (by kernel_rfl) rfl #[.int .u32 (dg us2 (t + 2)), .int .u32 (dg us2 (t + 1)), .int .u32 (dg us2 t), .slice (some ⟨gv, 0, none⟩) (p + 2) capv] (by rfl) rfl rfl (by (try simp only [List.map_toArray, List.map_cons, List.map_nil]); first | done | rfl) ?_
        refine (HDC.out _ (below_drew (Below.refl _ _))).mono ?_
        rintro e w1 ⟨q, rfl, hE, hd⟩
        refine ⟨_, rfl, ?_⟩
        have hB2 : Below wr.heap.size wr w1 := (below_drew (Below.refl _ _)).trans hd.below
        have HE := Aside0.mk (And.intro hE hB2)
        refine hK.out _ _ ⟨keep_cell hB2 yy2, keep_cell hB2 yy1, keep_cell hB2 yy0⟩ (fun hHeld => ?_)
        refine norm_ (a' := ?_) ?_ ?_
        rotate_left
        · show Act.put _ (some 87) _ = _
          simp only [Act.put, List.setIfInBounds_toArray, List.set_cons_zero, List.set_cons_succ, i64_w, i32_w]
          rfl
        refine last_ (i := 21) (N := some 88) #[true, true, true, true, true, true, true, true, true, true, true, true, true, true, true, true, true, true, true, true, true, true, false, false] rfl rfl (by kernel_rfl) (by decide) (fun K hK => ?_)
        refine goes_ Tryd.func76 (by kernel_rfl) rfl #[.slice (some ⟨g, 0, none⟩) us.length cap, .slice (some ⟨gv, 0, none⟩) (p + 2) capv, .int .i64 (k : Int), .int .u64 q] (by rfl) rfl rfl (by (try simp only [List.map_toArray, List.map_cons, List.map_nil]); first | done | rfl) ?_
        obtain ⟨hE, hB2⟩ := HE.out
        clear HE
        obtain ⟨hD0, hD1, hD⟩ := HA.out
        have vl := VV.out.1
        have ks := knuth_step us2 vs k p hD.2.2.2.2.2.1.dig hD.2.2.2.2.2.2.2.1.dig vl (by rw [hD.1]; omega) VV.out.2.1 hD.2.2.2.1
        have hq := ks.2.2.1 q (by rw [← HK.out.2] at hE; rw [Nat.add_assoc, Nat.add_assoc] at hE; exact hE)
        have hrc := reduce_any g cap w.heap.size k us2 (some ⟨gv, 0, none⟩) capv vs q w1 (by rw [hD.1]; exact hD.2.2.2.2.2.1.below hB2) (hD.2.2.2.2.2.2.2.1.below hB2) (by rintro ad h; cases h; have := DI.out; simp; omega) (by rw [vl, hD.1]; exact hkp) (by rw [hD.1, UL.out]; omega) hE.1 ks.2.1 hq.1 hq.2
        rw [vl, hD.1] at hrc
        refine hrc.mono ?_
        rintro e w2 ⟨ds, rfl, hds⟩
        refine ⟨_, rfl, ?_⟩
        have hnx := div_next w wr w1 w2 g cap gq capq gv capv _ vs us2 qs ds us.length m p k vl VV.out.2.1 hkp HK.out.1 DI.out hD hB2 hE.1 (by have := hq.1; rw [vl] at this; exact this) hds
        obtain ⟨⟨c1, c2⟩, hN⟩ := hnx
        have HN := Aside0.mk hN
        clear hds hD hrc ks hq hE vl hD0 hD1 hN
        refine hK.out _ _ ?_
        refine norm_ (a' := ?_) ?_ ?_
        rotate_left
        · show Act.put _ (some 88) _ = _
          simp only [Act.put, List.setIfInBounds_toArray, List.set_cons_zero, List.set_cons_succ, i64_w, i32_w]
          rfl
        refine pure_ (i := 22) (N := some 89) (v := ?_) (a' := ?_) #[true, true, true, true, true, true, true, true, true, true, true, true, true, true, true, true, true, true, true, true, true, true, true, false] rfl rfl (by kernel_rfl) (fun _ _ _ h => h) (Or.inl ⟨by rfl, ?_⟩) ?_ ?_
        rotate_left
        · intro w'
          go_simp
          with_reducible rfl
        rotate_left
        · simp only [Act.put, List.setIfInBounds_toArray, List.set_cons_zero, List.set_cons_succ, i64_w, i32_w]
          rfl
        refine last_ (i := 23) (N := none) #[true, true, true, true, true, true, true, true, true, true, true, true, true, true, true, true, true, true, true, true, true, true, true, true] rfl rfl (by kernel_rfl) (by decide) (fun K hK => ?_)
        refine skip_ (w1 := ?_) (by rfl) rfl ?_ ?_
        rotate_left
        · go_simp
          rfl
        refine hK.out _ _ ?_
        refine done_ (by kernel_rfl) ?_
        go_wp2
        go_roundg (gk - 1)
        case measure => have := HA.out; omega
        case rel => exact ⟨k, ds, _, by go_num, ⟨by have := HA.out; omega, by have := HK.out; omega, HN.out⟩⟩
end Go.Proofs.YtegnnghoiffmhaaDoor.Big
namespace Go.Proofs.YtegnnghoiffmhaaDoor.Big
open Go.RowKit Go.Proofs.YtegnnghoiffmhaaDoorW.PrintWords Go.Proofs.YtegnnghoiffmhaaDoorW.PrintLast
set_option linter.unusedVariables false
set_option linter.unusedSimpArgs false
attribute [local go_sem ↓] Go.wp_at_zero Go.wp_at_succ
/-- Rows of any lengths. -/
theorem divide_any (A0 A1 : Option Addr) (c0 c1 : Nat) (xs ys : List Int) (w : World) (h0 : Rd w A0 c0 xs) (h1 : Rd w A1 c1 ys) (t0 : trimL xs = xs) (t1 : trimL ys = ys) (hl0 : xs.length ≤ 274877906944) (hl1 : ys.length ≤ 274877906944) (hy : val ys ≠ 0) :
    Calls Tryd.prog 49 #[.slice A0 xs.length c0, .slice A1 ys.length c1] w fun e w' => Quo e w w' (val xs) (val ys) xs.length ys.length := by
  rcases (show val xs < val ys ∨ val ys ≤ val xs by omega) with hlt | hle
  · exact divide_small A0 A1 c0 c1 xs ys w h0 h1 t0 t1 hl0 hl1 hlt
  · match ys, hy with
    | [], hy => simp [val] at hy
    | [y], _ => exact divide_one A0 A1 c0 c1 xs y w h0 h1 t0 t1 hl0 (by simpa [val] using hle)
    | y :: y2 :: ys', _ =>
      have hlen := len_of_val_le h0.dig h1.dig t1 hle
      simp only [List.length_cons] at hlen
      exact divide_many A0 A1 c0 c1 (xs.length - (ys'.length + 2)) ys'.length xs (y :: y2 :: ys') w h0 h1 t0 t1 hl0 (by simp) (by omega) hle
theorem dm_same (n : Bool) (xs ys qs rs : List Int) (hy : 0 < val ys) (hq : val qs = val xs / val ys) (hr : val rs = val xs % val ys) : iv false qs = (iv n xs).fdiv (iv n ys) ∧ iv n rs = (iv n xs).fmod (iv n ys) := by
  have e := Int.mul_ediv_add_emod (val xs) (val ys)
  have r0 := Int.emod_nonneg (val xs) (show val ys ≠ 0 by omega)
  have r1 := Int.emod_lt_of_pos (val xs) hy
  rw [← hq, ← hr] at e
  rw [← hr] at r0 r1
  cases n
  · have h := (Int.fdiv_fmod_unique (a := val xs) (b := val ys) (r := val rs) (q := val qs) hy).2 ⟨by omega, r0, r1⟩
    simp only [iv, if_false, Bool.false_eq_true]
    exact ⟨h.1.symm, h.2.symm⟩
  · have h := (Int.fdiv_fmod_unique' (a := -val xs) (b := -val ys) (r := -val rs) (q := val qs) (by omega)).2 ⟨by grind, by omega, by omega⟩
    simp only [iv, if_false, if_true, Bool.false_eq_true]
    exact ⟨h.1.symm, h.2.symm⟩
theorem dm_diff0 (n : Bool) (xs ys qs rs : List Int) (hy : 0 < val ys) (hq : val qs = val xs / val ys) (hr : val rs = val xs % val ys) (h0 : iv n rs = 0) : iv true qs = (iv n xs).fdiv (iv (!n) ys) ∧ iv n rs = (iv n xs).fmod (iv (!n) ys) := by
  have e := Int.mul_ediv_add_emod (val xs) (val ys)
  rw [← hq, ← hr] at e
  have z : val rs = 0 := by unfold iv at h0; split at h0 <;> omega
  rw [h0]
  rw [z] at e
  cases n
  · have h := (Int.fdiv_fmod_unique' (a := val xs) (b := -val ys) (r := 0) (q := -val qs) (by omega)).2 ⟨by grind, by omega, by omega⟩
    simp only [iv, if_false, if_true, Bool.false_eq_true, Bool.not_false]
    exact ⟨h.1.symm, h.2.symm⟩
  · have h := (Int.fdiv_fmod_unique (a := -val xs) (b := val ys) (r := 0) (q := -val qs) (by omega)).2 ⟨by grind, by omega, by omega⟩
    simp only [iv, if_false, if_true, Bool.false_eq_true, Bool.not_true]
    exact ⟨h.1.symm, h.2.symm⟩
theorem dm_diff1 (n : Bool) (xs ys qs rs : List Int) (hy : 0 < val ys) (hq : val qs = val xs / val ys) (hr : val rs = val xs % val ys) (h0 : iv n rs ≠ 0) : iv true qs - 1 = (iv n xs).fdiv (iv (!n) ys) ∧ iv n rs + iv (!n) ys = (iv n xs).fmod (iv (!n) ys) := by
  have e := Int.mul_ediv_add_emod (val xs) (val ys)
  have r0 := Int.emod_nonneg (val xs) (show val ys ≠ 0 by omega)
  have r1 := Int.emod_lt_of_pos (val xs) hy
  rw [← hq, ← hr] at e
  rw [← hr] at r0 r1
  have z : val rs ≠ 0 := by intro z; apply h0; unfold iv; rw [z]; split <;> rfl
  cases n
  · have h := (Int.fdiv_fmod_unique' (a := val xs) (b := -val ys) (r := val rs - val ys) (q := -val qs - 1) (by omega)).2 ⟨by grind, by omega, by omega⟩
    simp only [iv, if_false, if_true, Bool.false_eq_true, Bool.not_false]
    exact ⟨h.1.symm, by rw [h.2]; omega⟩
  · have h := (Int.fdiv_fmod_unique (a := -val xs) (b := val ys) (r := -val rs + val ys) (q := -val qs - 1) (by omega)).2 ⟨by grind, by omega, by omega⟩
    simp only [iv, if_false, if_true, Bool.false_eq_true, Bool.not_true]
    exact ⟨h.1.symm, h.2.symm⟩
theorem mg_iv_len (n : Bool) {xs : List Int} (h : ∀ x ∈ xs, 0 ≤ x ∧ x ≤ 4294967295) : (mg (iv n xs)).length ≤ xs.length := by
  have b := val_bounds xs h
  have p := pw_pos xs.length
  apply mg_len <;> unfold iv <;> split <;> omega
/-- Two integers and an error handed back. -/
def Res2 (e : Ending) (w w' : World) (q r err : Int) : Prop := ∃ (A : Option Addr) (c : Nat) (A' : Option Addr) (c' : Nat), e = .returned (.tuple #[.agg #[.bool (ng q), .slice A (mg q).length c], .agg #[.bool (ng r), .slice A' (mg r).length c'], .int .i64 err]) ∧ Rd w' A c (mg q) ∧ Rd w' A' c' (mg r) ∧ Below w.heap.size w w'
theorem Box.set {w : World} {g : Nat} {a b : Value} {t : TypeId} (h : Box w g a b t) (u v : Value) : Box ((w.setCell ⟨g, 0, none⟩ u).setCell ⟨g, 1, none⟩ v) g u v t :=
  ⟨by simpa using heap_set1 (i := 1) (heap_set1 (i := 0) h.blk u) v⟩
theorem Box.put {w : World} {g k i : Nat} {a b : Value} {t : TypeId} (h : Box w g a b t) (hne : g ≠ k) (u : Value) : Box (w.setCell ⟨k, i, none⟩ u) g a b t := ⟨(Below.heap_setCell w ⟨k, i, none⟩ u g hne).trans h.blk⟩
structure Four (w w' : World) (a0 b0 a1 b1 a2 b2 a3 b3 : Value) : Prop where
  be : Below w.heap.size w w'
  x : Box w' w.heap.size a0 b0 24
  y : Box w' (w.heap.size + 1) a1 b1 24
  q : Box w' (w.heap.size + 1 + 1) a2 b2 24
  r : Box w' (w.heap.size + 1 + 1 + 1) a3 b3 24
section
variable {w w' w1 : World} {a0 b0 a1 b1 a2 b2 a3 b3 : Value}
theorem Four.start (w : World) (a0 b0 a1 b1 a2 b2 a3 b3 : Value) {wb : World} (h : (((w.alloc (.cells #[a0, b0] 24)).alloc (.cells #[a1, b1] 24)).alloc (.cells #[a2, b2] 24)).alloc (.cells #[a3, b3] 24) = wb) : Four w wb a0 b0 a1 b1 a2 b2 a3 b3 := by
  subst h
  obtain ⟨h1, h2, h3, h4⟩ := boxes3 w a0 b0 a1 b1 a2 b2 24 24 24 rfl
  refine ⟨below_alloc h1 _, h2.alloc _, h3.alloc _, h4.alloc _, ?_⟩
  have h := Box.new (((w.alloc (.cells #[a0, b0] 24)).alloc (.cells #[a1, b1] 24)).alloc (.cells #[a2, b2] 24)) a3 b3 24
  simpa using h
theorem Four.drew (h : Four w w' a0 b0 a1 b1 a2 b2 a3 b3) : Four w w'.drew a0 b0 a1 b1 a2 b2 a3 b3 := ⟨below_drew h.be, h.x.drew, h.y.drew, h.q.drew, h.r.drew⟩
theorem Four.below (h : Four w w' a0 b0 a1 b1 a2 b2 a3 b3) (hb : Below w'.heap.size w' w1) : Four w w1 a0 b0 a1 b1 a2 b2 a3 b3 := ⟨keep_below hb h.be, h.x.below hb, h.y.below hb, h.q.below hb, h.r.below hb⟩
theorem Four.setq (h : Four w w' a0 b0 a1 b1 a2 b2 a3 b3) (u v : Value) : Four w ((w'.setCell ⟨w.heap.size + 1 + 1, 0, none⟩ u).setCell ⟨w.heap.size + 1 + 1, 1, none⟩ v) a0 b0 a1 b1 u v a3 b3 :=
  ⟨(h.be.setCell (by simp; omega) _).setCell (by simp; omega) _, (h.x.put (by omega) _).put (by omega) _, (h.y.put (by omega) _).put (by omega) _, h.q.set u v, (h.r.put (by omega) _).put (by omega) _⟩
theorem Four.setr (h : Four w w' a0 b0 a1 b1 a2 b2 a3 b3) (u v : Value) : Four w ((w'.setCell ⟨w.heap.size + 1 + 1 + 1, 0, none⟩ u).setCell ⟨w.heap.size + 1 + 1 + 1, 1, none⟩ v) a0 b0 a1 b1 a2 b2 u v :=
  ⟨(h.be.setCell (by simp; omega) _).setCell (by simp; omega) _, (h.x.put (by omega) _).put (by omega) _, (h.y.put (by omega) _).put (by omega) _, (h.q.put (by omega) _).put (by omega) _, h.r.set u v⟩
theorem Four.cells (h : Four w w' a0 b0 a1 b1 a2 b2 a3 b3) : w'.cell? ⟨w.heap.size, 0, none⟩ = some a0 ∧ w'.cell? ⟨w.heap.size, 1, none⟩ = some b0 ∧ w'.cell? ⟨w.heap.size + 1, 0, none⟩ = some a1 ∧ w'.cell? ⟨w.heap.size + 1, 1, none⟩ = some b1 := ⟨h.x.at0, h.x.at1, h.y.at0, h.y.at1⟩
theorem Four.room (h : Four w w' a0 b0 a1 b1 a2 b2 a3 b3) : (w'.cell? ⟨w.heap.size + 1 + 1, 0, none⟩ = some a2 ∧ w'.cell? ⟨w.heap.size + 1 + 1, 1, none⟩ = some b2 ∧ w'.frozen? ⟨w.heap.size + 1 + 1, 0, none⟩ = false ∧ w'.frozen? ⟨w.heap.size + 1 + 1, 1, none⟩ = false) ∧
    w'.cell? ⟨w.heap.size + 1 + 1 + 1, 0, none⟩ = some a3 ∧ w'.cell? ⟨w.heap.size + 1 + 1 + 1, 1, none⟩ = some b3 ∧ w'.frozen? ⟨w.heap.size + 1 + 1 + 1, 0, none⟩ = false ∧ w'.frozen? ⟨w.heap.size + 1 + 1 + 1, 1, none⟩ = false := ⟨⟨h.q.at0, h.q.at1, h.q.free 0, h.q.free 1⟩, h.r.at0, h.r.at1, h.r.free 0, h.r.free 1⟩
end
/-- A row stays behind the two stores into a variable. -/
theorem Rd.boxed2 {w : World} {A : Option Addr} {c : Nat} {xs : List Int} (h : Rd w A c xs) {g : Nat} {n0 n : Bool} {A0 A1 : Option Addr} {l0 c0 l1 c1 : Nat} {t : TypeId} (hg : Box w g (.bool n0) (.slice A0 l0 c0) t) :
    Rd ((w.setCell ⟨g, 0, none⟩ (.bool n)).setCell ⟨g, 1, none⟩ (.slice A1 l1 c1)) A c xs := h.boxed hg.blk
theorem sub_z (p q : Int) (A0 A1 : Option Addr) (c0 c1 : Nat) (w : World) (h0 : Rd w A0 c0 (mg p)) (h1 : Rd w A1 c1 (mg q)) (hl0 : (mg p).length ≤ 274877906944) (hl1 : (mg q).length ≤ 274877906944) :
    Calls Tryd.prog 20 #[.agg #[.bool (ng p), .slice A0 (mg p).length c0], .agg #[.bool (ng q), .slice A1 (mg q).length c1]] w fun e w' => Res e w w' (p - q) := by
  have h := sub_any (ng p) (ng q) A0 A1 c0 c1 _ _ w h0 h1 hl0 hl1
  rw [iv_canon, iv_canon] at h
  exact h
theorem add_r (p : Int) (n : Bool) (ys : List Int) (A0 A1 : Option Addr) (c0 c1 : Nat) (w : World) (h0 : Rd w A0 c0 (mg p)) (h1 : Rd w A1 c1 ys) (hl0 : (mg p).length ≤ 274877906944) (hl1 : ys.length ≤ 274877906944) :
    Calls Tryd.prog 17 #[.agg #[.bool (ng p), .slice A0 (mg p).length c0], .agg #[.bool n, .slice A1 ys.length c1]] w fun e w' => Res e w w' (p + iv n ys) := by
  have h := add_any (ng p) n A0 A1 c0 c1 _ _ w h0 h1 hl0 hl1
  rw [iv_canon] at h
  exact h
theorem one_len : (mg 1).length ≤ 274877906944 := by
  have : (mg 1).length ≤ 1 := mg_len (by decide) (by decide)
  omega
set_option maxRecDepth 100000 in
theorem DivMod_same (n : Bool) (A0 A1 : Option Addr) (c0 c1 : Nat) (xs ys : List Int) (w : World) (h0 : Rd w A0 c0 xs) (h1 : Rd w A1 c1 ys) (hl0 : xs.length ≤ 274877906944) (hl1 : ys.length ≤ 274877906944) (hy : iv n ys ≠ 0) :
    Calls Tryd.prog 14 #[.agg #[.bool n, .slice A0 xs.length c0], .agg #[.bool n, .slice A1 ys.length c1]] w fun e w' => Res2 e w w' ((iv n xs).fdiv (iv n ys)) ((iv n xs).fmod (iv n ys)) 0 := by
  have L0 := trimL_len xs
  have L1 := trimL_len ys
  have hvy : val (trimL ys) ≠ 0 := by rw [val_trim]; intro z; apply hy; unfold iv; rw [z]; split <;> rfl
  have hvp : 0 < val ys := by have := (val_bounds ys h1.dig).1; rw [val_trim] at hvy; omega
  obtain ⟨r, hr⟩ : ∃ r, cmpZ (iv n ys) 0 = r := ⟨_, rfl⟩
  have hr0 : (r == 0) = false := by rw [← hr]; simp [cmpZ]; split <;> (try split) <;> omega
  have HR := Aside0.mk hr
  have HY := Aside0.mk (And.intro hy (And.intro hvy hvp))
  clear hr hy hvy hvp
  go_enter Tryd.func14, Tryd.ntmps14
  go_wp2_with (first | (go_at_call 19; generalize hwb : World.alloc (World.alloc _ _) _ = wb; have hT := Four.start w _ _ _ _ _ _ _ _ hwb; clear hwb; (with_reducible refine (sign_any n A1 c1 ys _ (h1.below hT.be) (by omega) r HR.out).mono ?_); rintro e w1 ⟨rfl, hb⟩; replace hT := hT.below hb; clear hb))
  replace hT := hT.drew
  go_region_held3 (fun w' => w'.cell? ⟨w.heap.size, 0, none⟩ = some (.bool n) ∧ w'.cell? ⟨w.heap.size, 1, none⟩ = some (.slice A0 xs.length c0) ∧ w'.cell? ⟨w.heap.size + 1, 0, none⟩ = some (.bool n) ∧ w'.cell? ⟨w.heap.size + 1, 1, none⟩ = some (.slice A1 ys.length c1))
    (exact hT.cells)
    (first | (go_simp; go_at_call 50; (with_reducible refine (magnitude_any n A0 c0 xs _ (h0.below hT.be) (by omega)).mono ?_); rintro e w1 ⟨rfl, hb⟩; replace hT := hT.below hb; clear hb) | (go_simp; go_at_call 50; (with_reducible refine (magnitude_any n A1 c1 ys _ (h1.below hT.be) (by omega)).mono ?_); rintro e w1 ⟨rfl, hb⟩; replace hT := hT.below hb; clear hb) | (go_simp; go_at_call 49; (with_reducible refine (divide_any A0 A1 c0 c1 (trimL xs) (trimL ys) _ (h0.trim.below hT.be) (h1.trim.below hT.be) (trimL_trimL _) (trimL_trimL _) (by omega) (by omega) HY.out.2.1).mono ?_); rintro e w2 ⟨qA, qc, qs, rA, rc, rs, rfl, hQ, hR, hq1, hr1, hq2, hr2, hb⟩; replace hT := hT.below hb; have HV := Aside0.mk (And.intro hq1 hr1); clear hb hq1 hr1))
  obtain ⟨x0, x1, y0, y1⟩ := hT.cells
  go_wp2
  replace hT := hT.drew
  replace hQ := hQ.below (below_drew (Below.refl _ _))
  replace hR := hR.below (below_drew (Below.refl _ _))
  have D := Aside0.mk (dm_same n xs ys qs rs HY.out.2.2 (by rw [HV.out.1, val_trim, val_trim]) (by rw [HV.out.2, val_trim, val_trim]))
  go_region_held3 (fun w' => w'.cell? ⟨w.heap.size + 1, 0, none⟩ = some (.bool n))
    (first | with_reducible exact hT.cells.2.2.1 | with_reducible exact (hT.setq _ _).cells.2.2.1 | with_reducible exact ((hT.setq _ _).setr _ _).cells.2.2.1)
    (first | (go_simp; go_at_call 51; (with_reducible refine (canonical_res false qA qc qs _ hQ (by omega)).mono ?_); rintro e w3 ⟨A3, c3, rfl, hQ', hb⟩; replace hT := hT.below hb; replace hR := hR.below hb; clear hb) | (go_simp; go_at_call 51; (with_reducible refine (canonical_res n rA rc rs _ hR (by omega)).mono ?_); rintro e w4 ⟨A4, c4, rfl, hR', hb⟩; replace hT := hT.below hb; replace hQ' := hQ'.below hb; clear hb; have hroom := hT.room; have hcells := hT.cells))
  have hQ2 := (hQ'.boxed2 (n := ng (iv false qs)) (A1 := A3) (l1 := (mg (iv false qs)).length) (c1 := c3) hT.q).boxed2 (n := ng (iv n rs)) (A1 := A4) (l1 := (mg (iv n rs)).length) (c1 := c4) (hT.setq _ _).r
  have hR2 := (hR'.boxed2 (n := ng (iv false qs)) (A1 := A3) (l1 := (mg (iv false qs)).length) (c1 := c3) hT.q).boxed2 (n := ng (iv n rs)) (A1 := A4) (l1 := (mg (iv n rs)).length) (c1 := c4) (hT.setq _ _).r
  replace hT := (hT.setq (.bool (ng (iv false qs))) (.slice A3 (mg (iv false qs)).length c3)).setr (.bool (ng (iv n rs))) (.slice A4 (mg (iv n rs)).length c4)
  clear hroom hcells
  generalize World.setCell _ _ _ = wz at hT hQ2 hR2 ⊢
  go_wp2
  obtain ⟨⟨q0, q1, q2, q3⟩, r0, r1, r2, r3⟩ := hT.room
  rw [D.out.1] at q0 q1 hQ2
  rw [D.out.2] at r0 r1 hR2
  exact bodyPost_ret (v := .tuple #[.agg #[.bool (ng ((iv n xs).fdiv (iv n ys))), .slice A3 (mg ((iv n xs).fdiv (iv n ys))).length c3], .agg #[.bool (ng ((iv n xs).fmod (iv n ys))), .slice A4 (mg ((iv n xs).fmod (iv n ys))).length c4], .int .i64 0]) (by simp [results, Tryd.results14, go_sem, q0, q1, r0, r1]) rfl ⟨A3, c3, A4, c4, rfl, hQ2, hR2, hT.be⟩
set_option maxRecDepth 100000 in
theorem DivMod_diff (n : Bool) (A0 A1 : Option Addr) (c0 c1 : Nat) (xs ys : List Int) (w : World) (h0 : Rd w A0 c0 xs) (h1 : Rd w A1 c1 ys) (hl0 : xs.length ≤ 274877906944) (hl1 : ys.length ≤ 274877906944) (hy : iv (!n) ys ≠ 0) :
    Calls Tryd.prog 14 #[.agg #[.bool n, .slice A0 xs.length c0], .agg #[.bool (!n), .slice A1 ys.length c1]] w fun e w' => Res2 e w w' ((iv n xs).fdiv (iv (!n) ys)) ((iv n xs).fmod (iv (!n) ys)) 0 := by
  have L0 := trimL_len xs
  have L1 := trimL_len ys
  have hvy : val (trimL ys) ≠ 0 := by rw [val_trim]; intro z; apply hy; unfold iv; rw [z]; split <;> rfl
  have hvp : 0 < val ys := by have := (val_bounds ys h1.dig).1; rw [val_trim] at hvy; omega
  obtain ⟨r, hr⟩ : ∃ r, cmpZ (iv (!n) ys) 0 = r := ⟨_, rfl⟩
  have hr0 : (r == 0) = false := by rw [← hr]; simp [cmpZ]; split <;> (try split) <;> omega
  have HR := Aside0.mk hr
  have HY := Aside0.mk (And.intro hy (And.intro hvy hvp))
  clear hr hy hvy hvp
  have hnn : (n == !n) = false := by cases n <;> rfl
  go_enter Tryd.func14, Tryd.ntmps14
  go_wp2_with (first | (go_at_call 19; generalize hwb : World.alloc (World.alloc _ _) _ = wb; have hT := Four.start w _ _ _ _ _ _ _ _ hwb; clear hwb; (with_reducible refine (sign_any (!n) A1 c1 ys _ (h1.below hT.be) (by omega) r HR.out).mono ?_); rintro e w1 ⟨rfl, hb⟩; replace hT := hT.below hb; clear hb))
  replace hT := hT.drew
  go_region_held3 (fun w' => w'.cell? ⟨w.heap.size, 0, none⟩ = some (.bool n) ∧ w'.cell? ⟨w.heap.size, 1, none⟩ = some (.slice A0 xs.length c0) ∧ w'.cell? ⟨w.heap.size + 1, 0, none⟩ = some (.bool (!n)) ∧ w'.cell? ⟨w.heap.size + 1, 1, none⟩ = some (.slice A1 ys.length c1))
    (exact hT.cells)
    (first | (go_simp; go_at_call 50; (with_reducible refine (magnitude_any n A0 c0 xs _ (h0.below hT.be) (by omega)).mono ?_); rintro e w1 ⟨rfl, hb⟩; replace hT := hT.below hb; clear hb) | (go_simp; go_at_call 50; (with_reducible refine (magnitude_any (!n) A1 c1 ys _ (h1.below hT.be) (by omega)).mono ?_); rintro e w1 ⟨rfl, hb⟩; replace hT := hT.below hb; clear hb) | (go_simp; go_at_call 49; (with_reducible refine (divide_any A0 A1 c0 c1 (trimL xs) (trimL ys) _ (h0.trim.below hT.be) (h1.trim.below hT.be) (trimL_trimL _) (trimL_trimL _) (by omega) (by omega) HY.out.2.1).mono ?_); rintro e w2 ⟨qA, qc, qs, rA, rc, rs, rfl, hQ, hR, hq1, hr1, hq2, hr2, hb⟩; replace hT := hT.below hb; have HV := Aside0.mk (And.intro hq1 hr1); clear hb hq1 hr1))
  obtain ⟨x0, x1, y0, y1⟩ := hT.cells
  go_wp2
  have dq := hQ.dig
  have dr := hR.dig
  replace hT := hT.drew
  replace hQ := hQ.below (below_drew (Below.refl _ _))
  replace hR := hR.below (below_drew (Below.refl _ _))
  go_region_held3 (fun w' => w'.cell? ⟨w.heap.size, 0, none⟩ = some (.bool n))
    (first | with_reducible exact hT.cells.1 | with_reducible exact (hT.setq _ _).cells.1 | with_reducible exact ((hT.setq _ _).setr _ _).cells.1)
    (first | (go_simp; go_at_call 51; (with_reducible refine (canonical_res true qA qc qs _ hQ (by omega)).mono ?_); rintro e w3 ⟨A3, c3, rfl, hQ', hb⟩; replace hT := hT.below hb; replace hR := hR.below hb; clear hb) | (go_simp; go_at_call 51; (with_reducible refine (canonical_res n rA rc rs _ hR (by omega)).mono ?_); rintro e w4 ⟨A4, c4, rfl, hR', hb⟩; replace hT := hT.below hb; replace hQ' := hQ'.below hb; clear hb; have hroom := hT.room; have hcells := hT.cells))
  have hQ2 := (hQ'.boxed2 (n := ng (iv true qs)) (A1 := A3) (l1 := (mg (iv true qs)).length) (c1 := c3) hT.q).boxed2 (n := ng (iv n rs)) (A1 := A4) (l1 := (mg (iv n rs)).length) (c1 := c4) (hT.setq _ _).r
  have hR2 := (hR'.boxed2 (n := ng (iv true qs)) (A1 := A3) (l1 := (mg (iv true qs)).length) (c1 := c3) hT.q).boxed2 (n := ng (iv n rs)) (A1 := A4) (l1 := (mg (iv n rs)).length) (c1 := c4) (hT.setq _ _).r
  replace hT := (hT.setq (.bool (ng (iv true qs))) (.slice A3 (mg (iv true qs)).length c3)).setr (.bool (ng (iv n rs))) (.slice A4 (mg (iv n rs)).length c4)
  clear hroom hcells
  generalize World.setCell _ _ _ = wz at hT hQ2 hR2 ⊢
  have hroom := hT.room
  have ML := Aside0.mk (And.intro (mg_iv_len true dq) (And.intro (mg_iv_len n dr) (And.intro (iv_canon (iv true qs)) (iv_canon (iv n rs)))))
  have l1 : (mg (iv true qs)).length ≤ 274877906944 := by have := ML.out.1; omega
  have l2 : (mg (iv n rs)).length ≤ 274877906944 := by have := ML.out.2.1; omega
  obtain ⟨sg, hsg⟩ : ∃ sg, cmpZ (iv n rs) 0 = sg := ⟨_, rfl⟩
  have HS := Aside0.mk hsg
  clear hsg
  by_cases hz : iv n rs = 0
  · have hs0 : (sg == 0) = true := by rw [← HS.out, hz]; rfl
    have D := Aside0.mk (dm_diff0 n xs ys qs rs HY.out.2.2 (by rw [HV.out.1, val_trim, val_trim]) (by rw [HV.out.2, val_trim, val_trim]) hz)
    clear hz
    go_wp2_with (first | (go_at_call 19; (with_reducible refine (sign_any (ng (iv n rs)) A4 c4 (mg (iv n rs)) _ hR2 (by omega) sg (by rw [ML.out.2.2.2]; exact HS.out)).mono ?_); rintro e w5 ⟨rfl, hb⟩; replace hT := hT.below hb; replace hQ2 := hQ2.below hb; replace hR2 := hR2.below hb; clear hb hroom; have hroom := hT.room))
    go_region
    have hQ3 := (hQ2.boxed2 (n := ng (iv true qs)) (A1 := A3) (l1 := (mg (iv true qs)).length) (c1 := c3) hT.q).boxed2 (n := ng (iv n rs)) (A1 := A4) (l1 := (mg (iv n rs)).length) (c1 := c4) (hT.setq _ _).r
    have hR3 := (hR2.boxed2 (n := ng (iv true qs)) (A1 := A3) (l1 := (mg (iv true qs)).length) (c1 := c3) hT.q).boxed2 (n := ng (iv n rs)) (A1 := A4) (l1 := (mg (iv n rs)).length) (c1 := c4) (hT.setq _ _).r
    replace hT := (hT.setq (.bool (ng (iv true qs))) (.slice A3 (mg (iv true qs)).length c3)).setr (.bool (ng (iv n rs))) (.slice A4 (mg (iv n rs)).length c4)
    clear hroom
    generalize World.setCell _ _ _ = wy at hT hQ3 hR3 ⊢
    replace hT := hT.drew
    replace hQ3 := hQ3.below (below_drew (Below.refl _ _))
    replace hR3 := hR3.below (below_drew (Below.refl _ _))
    go_wp2
    obtain ⟨⟨q0, q1, q2, q3⟩, r0, r1, r2, r3⟩ := hT.room
    rw [D.out.1] at q0 q1 hQ3
    rw [D.out.2] at r0 r1 hR3
    exact bodyPost_ret (v := .tuple #[.agg #[.bool (ng ((iv n xs).fdiv (iv (!n) ys))), .slice A3 (mg ((iv n xs).fdiv (iv (!n) ys))).length c3], .agg #[.bool (ng ((iv n xs).fmod (iv (!n) ys))), .slice A4 (mg ((iv n xs).fmod (iv (!n) ys))).length c4], .int .i64 0]) (by simp [results, Tryd.results14, go_sem, q0, q1, r0, r1]) rfl ⟨A3, c3, A4, c4, rfl, hQ3, hR3, hT.be⟩
  · have hs0 : (sg == 0) = false := by rw [← HS.out]; simp [cmpZ]; split <;> (try split) <;> omega
    have D := Aside0.mk (dm_diff1 n xs ys qs rs HY.out.2.2 (by rw [HV.out.1, val_trim, val_trim]) (by rw [HV.out.2, val_trim, val_trim]) hz)
    clear hz
    go_wp2_with (first | (go_at_call 19; (with_reducible refine (sign_any (ng (iv n rs)) A4 c4 (mg (iv n rs)) _ hR2 (by omega) sg (by rw [ML.out.2.2.2]; exact HS.out)).mono ?_); rintro e w5 ⟨rfl, hb⟩; replace hT := hT.below hb; replace hQ2 := hQ2.below hb; replace hR2 := hR2.below hb; clear hb hroom; have hroom := hT.room))
    replace hT := hT.drew
    replace hQ2 := hQ2.below (below_drew (Below.refl _ _))
    replace hR2 := hR2.below (below_drew (Below.refl _ _))
    clear hroom
    refine start_ (n := 8) (S := (fun W => W.cell? ⟨w.heap.size + 1 + 1, 0, none⟩ = some (.bool (ng (iv true qs))) ∧ W.cell? ⟨w.heap.size + 1 + 1, 1, none⟩ = some (.slice A3 (mg (iv true qs)).length c3) ∧ W.cell? ⟨w.heap.size + 1 + 1 + 1, 0, none⟩ = some (.bool (ng (iv n rs))) ∧ W.cell? ⟨w.heap.size + 1 + 1 + 1, 1, none⟩ = some (.slice A4 (mg (iv n rs)).length c4) ∧ W.cell? ⟨w.heap.size + 1, 0, none⟩ = some (.bool (!n)) ∧ W.cell? ⟨w.heap.size + 1, 1, none⟩ = some (.slice A1 ys.length c1))) (ds := [6, 7]) #[false, false, false, false, false, false, false, false] (by kernel_rfl) rfl rfl (⟨hT.q.at0, hT.q.at1, hT.r.at0, hT.r.at1, hT.y.at0, hT.y.at1⟩) (fun hHeld => ?_)
    refine take_ (i := 0) (N := some 42) (v := ?_) (a' := ?_) #[true, false, false, false, false, false, false, false] rfl rfl (by kernel_rfl) (fun _ _ _ h => h) (Or.inl ⟨by rfl, ?_⟩) hHeld ?_ ?_
    rotate_left
    · rintro w' ⟨s0, s1, s2, s3, s4, s5⟩
      go_simp
      with_reducible rfl
    rotate_left
    · simp only [Act.put, List.setIfInBounds_toArray, List.set_cons_zero, List.set_cons_succ, i64_w, i32_w]
      rfl
    refine take_ (i := 3) (N := some 45) (v := ?_) (a' := ?_) #[true, false, false, true, false, false, false, false] rfl rfl (by kernel_rfl) (fun _ _ _ h => h) (Or.inl ⟨by rfl, ?_⟩) hHeld ?_ ?_
    rotate_left
    · rintro w' ⟨s0, s1, s2, s3, s4, s5⟩
      go_simp
      with_reducible rfl
    rotate_left
    · simp only [Act.put, List.setIfInBounds_toArray, List.set_cons_zero, List.set_cons_succ, i64_w, i32_w]
      rfl
    refine take_ (i := 4) (N := some 46) (v := ?_) (a' := ?_) #[true, false, false, true, true, false, false, false] rfl rfl (by kernel_rfl) (fun _ _ _ h => h) (Or.inl ⟨by rfl, ?_⟩) hHeld ?_ ?_
    rotate_left
    · rintro w' ⟨s0, s1, s2, s3, s4, s5⟩
      go_simp
      with_reducible rfl
    rotate_left
    · simp only [Act.put, List.setIfInBounds_toArray, List.set_cons_zero, List.set_cons_succ, i64_w, i32_w]
      rfl
    refine one_ (i := 1) (N := some 43) #[true, true, false, true, true, false, false, false] rfl rfl (by kernel_rfl) (by decide) (fun K hK => ?_)
    refine goes_ Tryd.func21 (by kernel_rfl) rfl #[.int .i64 1] (by rfl) rfl rfl (by (try simp only [List.map_toArray, List.map_cons, List.map_nil]); first | done | rfl) ?_
    refine (FromInt64_any 1 _ (by omega) (by omega)).mono ?_
    rintro e w6 ⟨A5, c5, rfl, hO, hb⟩
    refine ⟨_, rfl, ?_⟩
    replace hT := hT.below hb
    replace hQ2 := hQ2.below hb
    replace hR2 := hR2.below hb
    clear hb
    refine hK.out _ _ ⟨hT.q.at0, hT.q.at1, hT.r.at0, hT.r.at1, hT.y.at0, hT.y.at1⟩ (fun hHeld => ?_)
    refine norm_ (a' := ?_) ?_ ?_
    rotate_left
    · show Act.put _ (some 43) _ = _
      simp only [Act.put, List.setIfInBounds_toArray, List.set_cons_zero, List.set_cons_succ, i64_w, i32_w]
      rfl
    refine one_ (i := 2) (N := some 44) #[true, true, true, true, true, false, false, false] rfl rfl (by kernel_rfl) (by decide) (fun K hK => ?_)
    refine goes_ Tryd.func20 (by kernel_rfl) rfl #[.agg #[.bool (ng (iv true qs)), .slice A3 (mg (iv true qs)).length c3], .agg #[.bool (ng 1), .slice A5 (mg 1).length c5]] (by rfl) rfl rfl (by (try simp only [List.map_toArray, List.map_cons, List.map_nil]); first | done | rfl) ?_
    refine (sub_z (iv true qs) 1 A3 A5 c3 c5 _ hQ2 hO l1 one_len).mono ?_
    rintro e w7 ⟨A6, c6, rfl, hQ4, hb⟩
    refine ⟨_, rfl, ?_⟩
    replace hT := hT.below hb
    replace hR2 := hR2.below hb
    clear hb hO
    refine hK.out _ _ ⟨hT.q.at0, hT.q.at1, hT.r.at0, hT.r.at1, hT.y.at0, hT.y.at1⟩ (fun hHeld => ?_)
    refine norm_ (a' := ?_) ?_ ?_
    rotate_left
    · show Act.put _ (some 44) _ = _
      simp only [Act.put, List.setIfInBounds_toArray, List.set_cons_zero, List.set_cons_succ, i64_w, i32_w]
      rfl
    refine one_ (i := 5) (N := some 47) #[true, true, true, true, true, true, false, false] rfl rfl (by kernel_rfl) (by decide) (fun K hK => ?_)
    refine goes_ Tryd.func17 (by kernel_rfl) rfl #[.agg #[.bool (ng (iv n rs)), .slice A4 (mg (iv n rs)).length c4], .agg #[.bool (!n), .slice A1 ys.length c1]] (by rfl) rfl rfl (by (try simp only [List.map_toArray, List.map_cons, List.map_nil]); first | done | rfl) ?_
    refine (add_r (iv n rs) (!n) ys A4 A1 c4 c1 _ hR2 (h1.below hT.be) l2 hl1).mono ?_
    rintro e w8 ⟨A7, c7, rfl, hR4, hb⟩
    refine ⟨_, rfl, ?_⟩
    replace hT := hT.below hb
    replace hQ4 := hQ4.below hb
    clear hb hR2 hQ2
    refine hK.out _ _ ⟨hT.q.at0, hT.q.at1, hT.r.at0, hT.r.at1, hT.y.at0, hT.y.at1⟩ (fun hHeld => ?_)
    refine norm_ (a' := ?_) ?_ ?_
    rotate_left
    · show Act.put _ (some 47) _ = _
      simp only [Act.put, List.setIfInBounds_toArray, List.set_cons_zero, List.set_cons_succ, i64_w, i32_w]
      rfl
    have hroom := hT.room
    refine last_ (i := 6) (N := none) #[true, true, true, true, true, true, true, false] rfl rfl (by kernel_rfl) (by decide) (fun K hK => ?_)
    refine skip_ (w1 := ?_) (by rfl) rfl ?_ ?_
    rotate_left
    · go_simp
      rfl
    refine hK.out _ _ ?_
    refine last_ (i := 7) (N := none) #[true, true, true, true, true, true, true, true] rfl rfl (by kernel_rfl) (by decide) (fun K hK => ?_)
    refine skip_ (w1 := ?_) (by rfl) rfl ?_ ?_
    rotate_left
    · go_simp
      rfl
    refine hK.out _ _ ?_
    refine done_ (by kernel_rfl) ?_
    have hQ2 := (hQ4.boxed2 (n := ng (iv true qs - 1)) (A1 := A6) (l1 := (mg (iv true qs - 1)).length) (c1 := c6) hT.q).boxed2 (n := ng (iv n rs + iv (!n) ys)) (A1 := A7) (l1 := (mg (iv n rs + iv (!n) ys)).length) (c1 := c7) (hT.setq _ _).r
    have hR2 := (hR4.boxed2 (n := ng (iv true qs - 1)) (A1 := A6) (l1 := (mg (iv true qs - 1)).length) (c1 := c6) hT.q).boxed2 (n := ng (iv n rs + iv (!n) ys)) (A1 := A7) (l1 := (mg (iv n rs + iv (!n) ys)).length) (c1 := c7) (hT.setq _ _).r
    replace hT := (hT.setq (.bool (ng (iv true qs - 1))) (.slice A6 (mg (iv true qs - 1)).length c6)).setr (.bool (ng (iv n rs + iv (!n) ys))) (.slice A7 (mg (iv n rs + iv (!n) ys)).length c7)
    clear hroom
    generalize World.setCell _ _ _ = wz at hT hQ2 hR2 ⊢
    have hroom := hT.room
    go_wp2
    go_region
    have hQ3 := (hQ2.boxed2 (n := ng (iv true qs - 1)) (A1 := A6) (l1 := (mg (iv true qs - 1)).length) (c1 := c6) hT.q).boxed2 (n := ng (iv n rs + iv (!n) ys)) (A1 := A7) (l1 := (mg (iv n rs + iv (!n) ys)).length) (c1 := c7) (hT.setq _ _).r
    have hR3 := (hR2.boxed2 (n := ng (iv true qs - 1)) (A1 := A6) (l1 := (mg (iv true qs - 1)).length) (c1 := c6) hT.q).boxed2 (n := ng (iv n rs + iv (!n) ys)) (A1 := A7) (l1 := (mg (iv n rs + iv (!n) ys)).length) (c1 := c7) (hT.setq _ _).r
    replace hT := (hT.setq (.bool (ng (iv true qs - 1))) (.slice A6 (mg (iv true qs - 1)).length c6)).setr (.bool (ng (iv n rs + iv (!n) ys))) (.slice A7 (mg (iv n rs + iv (!n) ys)).length c7)
    clear hroom
    generalize World.setCell _ _ _ = wy at hT hQ3 hR3 ⊢
    replace hT := hT.drew
    replace hQ3 := hQ3.below (below_drew (Below.refl _ _))
    replace hR3 := hR3.below (below_drew (Below.refl _ _))
    go_wp2
    obtain ⟨⟨q0, q1, q2, q3⟩, r0, r1, r2, r3⟩ := hT.room
    rw [D.out.1] at q0 q1 hQ3
    rw [D.out.2] at r0 r1 hR3
    exact bodyPost_ret (v := .tuple #[.agg #[.bool (ng ((iv n xs).fdiv (iv (!n) ys))), .slice A6 (mg ((iv n xs).fdiv (iv (!n) ys))).length c6], .agg #[.bool (ng ((iv n xs).fmod (iv (!n) ys))), .slice A7 (mg ((iv n xs).fmod (iv (!n) ys))).length c7], .int .i64 0]) (by simp [results, Tryd.results14, go_sem, q0, q1, r0, r1]) rfl ⟨A6, c6, A7, c7, rfl, hQ3, hR3, hT.be⟩
theorem DivMod_any (n0 n1 : Bool) (A0 A1 : Option Addr) (c0 c1 : Nat) (xs ys : List Int) (w : World) (h0 : Rd w A0 c0 xs) (h1 : Rd w A1 c1 ys) (hl0 : xs.length ≤ 274877906944) (hl1 : ys.length ≤ 274877906944) (hy : iv n1 ys ≠ 0) :
    Calls Tryd.prog 14 #[.agg #[.bool n0, .slice A0 xs.length c0], .agg #[.bool n1, .slice A1 ys.length c1]] w fun e w' => Res2 e w w' ((iv n0 xs).fdiv (iv n1 ys)) ((iv n0 xs).fmod (iv n1 ys)) 0 := by
  by_cases h : n1 = n0
  · subst h; exact DivMod_same n1 A0 A1 c0 c1 xs ys w h0 h1 hl0 hl1 hy
  · have e : n1 = !n0 := by cases n0 <;> cases n1 <;> simp_all
    subst e; exact DivMod_diff n0 A0 A1 c0 c1 xs ys w h0 h1 hl0 hl1 hy
theorem ng_zero : ng 0 = false := rfl
theorem mg_zero : mg 0 = [] := (mg_nil 0).2 rfl
set_option maxRecDepth 100000 in
theorem DivMod_zero (n0 n1 : Bool) (A0 A1 : Option Addr) (c0 c1 : Nat) (xs ys : List Int) (w : World) (h0 : Rd w A0 c0 xs) (h1 : Rd w A1 c1 ys) (hl0 : xs.length ≤ 274877906944) (hl1 : ys.length ≤ 274877906944) (hy : iv n1 ys = 0) :
    Calls Tryd.prog 14 #[.agg #[.bool n0, .slice A0 xs.length c0], .agg #[.bool n1, .slice A1 ys.length c1]] w fun e w' => Res2 e w w' 0 0 11 := by
  have HR := Aside0.mk (show cmpZ (iv n1 ys) 0 = 0 by rw [hy]; rfl)
  clear hy
  go_enter Tryd.func14, Tryd.ntmps14
  go_wp2_with (first | (go_at_call 19; generalize hwb : World.alloc (World.alloc _ _) _ = wb; have hT := Four.start w _ _ _ _ _ _ _ _ hwb; clear hwb; (with_reducible refine (sign_any n1 A1 c1 ys _ (h1.below hT.be) (by omega) 0 HR.out).mono ?_); rintro e w1 ⟨rfl, hb⟩; replace hT := hT.below hb; clear hb; have hroom := hT.room))
  replace hT := (hT.setq (.bool false) (.slice none 0 0)).setr (.bool false) (.slice none 0 0)
  clear hroom
  generalize World.setCell _ _ _ = wy at hT ⊢
  obtain ⟨⟨q0, q1, q2, q3⟩, r0, r1, r2, r3⟩ := hT.room
  exact bodyPost_ret (v := .tuple #[.agg #[.bool (ng 0), .slice none (mg 0).length 0], .agg #[.bool (ng 0), .slice none (mg 0).length 0], .int .i64 11]) (by simp [results, Tryd.results14, go_sem, q0, q1, r0, r1, mg_zero, ng_zero]) rfl ⟨none, 0, none, 0, rfl, by rw [mg_zero]; exact Rd.nil _, by rw [mg_zero]; exact Rd.nil _, hT.be⟩
end Go.Proofs.YtegnnghoiffmhaaDoor.Big
namespace Go.Proofs.YtegnnghoiffmhaaDoor.Big
open Go.RowKit Go.Proofs.YtegnnghoiffmhaaDoorW.PrintWords
set_option linter.unusedVariables false
set_option linter.unusedSimpArgs false
/-- The number that groups of nine decimal digits denote, the least one first. -/
def gv : List Int → Int
  | [] => 0
  | g :: gs => g + 1000000000 * gv gs
theorem gv_append : ∀ (gs : List Int) (g : Int), gv (gs ++ [g]) = gv gs + 1000000000 ^ gs.length * g
  | [], g => by simp [gv]
  | x :: gs, g => by
    simp only [List.cons_append, gv, List.length_cons, gv_append gs g]
    rw [Int.pow_succ]
    grind
theorem gv_drop (gs : List Int) (k : Nat) (h : k < gs.length) : gv (gs.drop k) = dg gs k + 1000000000 * gv (gs.drop (k + 1)) := by
  rw [List.drop_eq_getElem_cons h, gv]
  simp [dg, List.getD_eq_getElem?_getD, h]
theorem gv_nonneg : ∀ (gs : List Int), (∀ g ∈ gs, 0 ≤ g ∧ g < 1000000000) → 0 ≤ gv gs
  | [], _ => by simp [gv]
  | x :: gs, h => by
    have h1 := h x List.mem_cons_self
    have h2 := gv_nonneg gs (fun g hg => h g (List.mem_cons_of_mem _ hg))
    simp only [gv]
    omega
theorem gv_dg (gs : List Int) (h : ∀ g ∈ gs, 0 ≤ g ∧ g < 1000000000) (k : Nat) : 0 ≤ dg gs k ∧ dg gs k < 1000000000 := by
  unfold dg
  by_cases hk : k < gs.length
  · rw [List.getD_eq_getElem?_getD, List.getElem?_eq_getElem hk]; exact h _ (List.getElem_mem hk)
  · rw [List.getD_eq_getElem?_getD, List.getElem?_eq_none (by omega)]; simp
theorem gv_pos (gs : List Int) (h : ∀ g ∈ gs, 0 ≤ g ∧ g < 1000000000) (hl : 0 < dg gs (gs.length - 1)) : ∀ (j k : Nat), k + j + 1 = gs.length → 0 < gv (gs.drop k)
  | 0, k, e => by
    rw [gv_drop gs k (by omega), List.drop_of_length_le (by omega)]
    rw [show gs.length - 1 = k by omega] at hl
    simp only [gv]
    omega
  | j + 1, k, e => by
    have h1 := gv_pos gs h hl j (k + 1) (by omega)
    have h2 := gv_dg gs h k
    rw [gv_drop gs k (by omega)]
    omega
/-- A text's bytes as numbers. -/
def tx (l : List UInt8) : List Int := l.map fun b => (b.toNat : Int)
theorem tx_append (a b : List UInt8) : tx (a ++ b) = tx a ++ tx b := by simp [tx]
theorem tx_length (a : List UInt8) : (tx a).length = a.length := by simp [tx]
theorem tx_replicate (n : Nat) (b : UInt8) : tx (List.replicate n b) = List.replicate n (b.toNat : Int) := by simp [tx]
theorem bytesOf_tx (l : List UInt8) : bytesOf ⟨l.toArray⟩ = tx l := rfl
theorem strOfNums_tx (l : List UInt8) : strOfNums (tx l) = ⟨l.toArray⟩ := by
  unfold strOfNums tx
  rw [List.map_map]
  have : (l.map ((fun n : Int => UInt8.ofNat n.toNat) ∘ fun b : UInt8 => (b.toNat : Int))) = l := by
    conv => rhs; rw [← List.map_id l]
    exact List.map_congr_left fun b _ => by simp
  rw [this]
theorem dec_step (a g : Nat) (ha : 0 < a) (hg : g < 10) : Lib.decDigits (a * 10 + g) = Lib.decDigits a ++ [UInt8.ofNat (48 + g)] := by
  rw [Lib.decDigits, dif_neg (by omega), show (a * 10 + g) / 10 = a by omega, show (a * 10 + g) % 10 = g by omega]
theorem dec_pad (a : Nat) (ha : 0 < a) : ∀ (k g : Nat), g < 10 ^ (k + 1) → Lib.decDigits (a * 10 ^ (k + 1) + g) = Lib.decDigits a ++ (List.replicate (k + 1 - Lib.nDigits g) 48 ++ Lib.decDigits g)
  | 0, g, h => by
    have h' : g < 10 := by simpa using h
    have e := dec_step a g ha h'
    rw [Lib.nDigits_small h', Lib.decDigits_one h']
    simpa using e
  | k + 1, g, h => by
    have hk : 0 < 10 ^ (k + 1) := Nat.pow_pos (by decide)
    have e1 : a * 10 ^ (k + 1 + 1) + g = (a * 10 ^ (k + 1) + g / 10) * 10 + g % 10 := by rw [Nat.pow_succ 10 (k + 1)]; have := Nat.mul_assoc a (10 ^ (k + 1)) 10; omega
    have hp : 0 < a * 10 ^ (k + 1) := Nat.mul_pos ha hk
    have ih := dec_pad a ha k (g / 10) (by rw [Nat.pow_succ] at h; omega)
    rw [e1, dec_step _ _ (by omega) (by omega), ih]
    by_cases hg : g < 10
    · rw [show g / 10 = 0 by omega, show g % 10 = g by omega, Lib.nDigits_small (by omega : 0 < 10), Lib.nDigits_small hg, Lib.decDigits_one hg, Lib.decDigits_one (by omega : 0 < 10)]
      simp only [Nat.add_sub_cancel, List.append_assoc]
      rw [List.replicate_succ' (n := k)]
      simp
    · have h2 : Lib.decDigits g = Lib.decDigits (g / 10) ++ [UInt8.ofNat (48 + g % 10)] := by rw [Lib.decDigits, dif_neg hg]
      rw [Lib.nDigits_big hg, h2, show k + 1 + 1 - (Lib.nDigits (g / 10) + 1) = k + 1 - Lib.nDigits (g / 10) by omega]
      simp
theorem nDigits_le : ∀ (k g : Nat), g < 10 ^ (k + 1) → Lib.nDigits g ≤ k + 1
  | 0, g, h => by rw [Lib.nDigits_small (by simpa using h)]; omega
  | k + 1, g, h => by
    by_cases hg : g < 10
    · rw [Lib.nDigits_small hg]; omega
    · rw [Lib.nDigits_big hg]; have := nDigits_le k (g / 10) (by rw [Nat.pow_succ] at h; omega); omega
/-- What the loop over the groups adds: behind the first group the digits are padded to nine. -/
theorem group_text (gs : List Int) (h : ∀ g ∈ gs, 0 ≤ g ∧ g < 1000000000) (hl : 0 < dg gs (gs.length - 1)) (k : Nat) (hk : k + 1 < gs.length) :
    Lib.decDigits (gv (gs.drop k)).toNat = Lib.decDigits (gv (gs.drop (k + 1))).toNat ++ (List.replicate (9 - Lib.nDigits (dg gs k).toNat) 48 ++ Lib.decDigits (dg gs k).toNat) := by
  have h1 := gv_pos gs h hl (gs.length - (k + 1) - 1) (k + 1) (by omega)
  have h2 := gv_dg gs h k
  rw [gv_drop gs k (by omega), show (dg gs k + 1000000000 * gv (gs.drop (k + 1))).toNat = (gv (gs.drop (k + 1))).toNat * 10 ^ 9 + (dg gs k).toNat by omega]
  exact dec_pad _ (by omega) 8 _ (by omega)
theorem top_text (gs : List Int) (k : Nat) (hk : k + 1 = gs.length) : gv (gs.drop k) = dg gs k := by
  rw [gv_drop gs k (by omega), List.drop_of_length_le (by omega)]
  simp [gv]
/-- The text of the groups from k on. -/
def tt (gs : List Int) (k : Nat) : List UInt8 := if k = gs.length then [] else Lib.decDigits (gv (gs.drop k)).toNat
def sgn (n : Bool) : List UInt8 := if n then [45] else []
theorem tt_step (gs : List Int) (h : ∀ g ∈ gs, 0 ≤ g ∧ g < 1000000000) (hl : 0 < dg gs (gs.length - 1)) (k t : Nat) (hk : k < gs.length) (ht : (k + 1 = gs.length ∧ t = 0) ∨ (k + 1 < gs.length ∧ t = 9 - Lib.nDigits (dg gs k).toNat)) :
    tt gs k = tt gs (k + 1) ++ (List.replicate t 48 ++ Lib.decDigits (dg gs k).toNat) := by
  unfold tt
  rw [if_neg (by omega)]
  rcases ht with ⟨h1, rfl⟩ | ⟨h1, rfl⟩
  · rw [if_pos h1, top_text gs k h1]; simp
  · rw [if_neg (by omega)]; exact group_text gs h hl k h1
theorem tt_len (gs : List Int) : tt gs gs.length = [] := by simp [tt]
theorem itoa_pos (x : Int) (hx : 0 ≤ x) : Lib.itoa x = Lib.decDigits x.toNat := by unfold Lib.itoa; rw [if_neg (by omega)]
theorem itoa_neg (x : Int) (hx : 0 < x) : Lib.itoa (-x) = 45 :: Lib.decDigits x.toNat := by
  unfold Lib.itoa
  rw [if_pos (show -x < 0 by omega), show (-x).natAbs = x.toNat by omega]
theorem text_iv (n : Bool) (xs gs : List Int) (hv : gv gs = val xs) (hp : 0 < val xs) (hl : 0 < gs.length) : sgn n ++ tt gs 0 = Lib.itoa (iv n xs) := by
  have e : tt gs 0 = Lib.decDigits (val xs).toNat := by unfold tt; rw [if_neg (show ¬ (0 = gs.length) by omega), List.drop_zero, hv]
  rw [e]
  cases n
  · exact (itoa_pos (val xs) (by omega)).symm
  · exact (itoa_neg (val xs) hp).symm
end Go.Proofs.YtegnnghoiffmhaaDoor.Big
namespace Go.Proofs.YtegnnghoiffmhaaDoor.Big
open Go.RowKit Go.Proofs.YtegnnghoiffmhaaDoorW.PrintWords
set_option linter.unusedVariables false
set_option linter.unusedSimpArgs false
def Tab_p10 (w : World) : Prop := Lib.TabIs Tryd.prog w "internal/strconv.uint64pow10" .u64 Lib.pow10Tab
theorem Tab_p10.below {w w1 : World} (h : Tab_p10 w) (hb : Below w.heap.size w w1) : Tab_p10 w1 := Lib.tabBelow_of_tabIs h w1 hb
section
variable {P : Program} {ops : Array Oper} {rest : List Oper} {o : Oper} {a : Act} {Q : Exit → Act → World → Prop} {W : World}
/-- append(v, x) to a row of the call's own: where the new row lies. -/
theorem app1_u32 {base : Nat} (hgd : o.guard = none) (s x : Operand) (ho : o.op = .call { callee := .builtin .append, args := #[s, x], argTypes := #[22, 22] }) (v : Value) (xs : List Int) (y : Int) (hy : 0 ≤ y ∧ y ≤ 4294967295)
    (hs : a.eval s = v) (hx : a.eval x = .slice (some ⟨W.heap.size, 0, none⟩) 1 1) (HO : Ow W base v xs) (hbase : base ≤ W.heap.size) (hl : xs.length + 1 ≤ 2199023255552 * 8)
    (h : ∀ v1 w1, Ow w1 base v1 (xs ++ [y]) → W.grownBy w1 v.ownBlock → (v1.ownBlock = v.ownBlock ∨ ∃ b, v1.ownBlock = some b ∧ W.heap.size ≤ b) → wpList Tryd.prog ops Q rest (a.put o.dst v1) w1) : wpList Tryd.prog ops Q (o :: rest) a (W.alloc (.cells #[.int .u32 y] 57)) := by
  refine Kd.R_append (Kd.int .u32) (w0 := W) base hgd s x 22 57 (.int .u32 0) 4 ho Tryd.underlying22 info_u32 rfl (by decide) (by omega) v xs y [.int .u32 y] (fun _ => True) (fun k => some k ≠ v.ownBlock) hs hx ?_ (fun k hk => ⟨trivial, hk⟩) (fun _ _ => trivial) HO.own (Below.refl _ _ |>.mono hbase) hbase (by omega) ?_
  · rfl
  intro v1 w1 h1 h2 h3 h4
  exact h v1 w1 ⟨h1, fun z hz => (List.mem_append.1 hz).elim (HO.dig z) (fun h => by rw [List.mem_singleton.1 h]; exact hy)⟩ h3 h4
theorem info_u8 : (Tryd.prog.info? 5).map (fun i => (i.zero, i.size, i.bytes)) = some (some (.int .u8 0), 1, 1) := by kernel_rfl
/-- A row of bytes of the call's own. -/
def Bw (w : World) (base : Nat) (v : Value) (bs : List Int) : Prop := w.ownsRow base 5 1 v bs.length (nums .u8 bs)
theorem Bw.below {w w1 : World} {base : Nat} {v : Value} {bs : List Int} (h : Bw w base v bs) (hb : Below w.heap.size w w1) : Bw w1 base v bs := pw_own_below h hb
theorem Bw.nil (w : World) (base : Nat) : Bw w base (.slice none 0 0) [] := own_nil _ _ _ _
theorem app1_u8 {w0 : World} {base : Nat} (hgd : o.guard = none) (s x : Operand) (ho : o.op = .call { callee := .builtin .append, args := #[s, x], argTypes := #[63, 63] }) (v : Value) (bs : List Int) (y : Int)
    (hs : a.eval s = v) (hx : a.eval x = .slice (some ⟨W.heap.size, 0, none⟩) 1 1) (HO : Bw W base v bs) (HB : Below base w0 W) (hbase : base ≤ W.heap.size) (hl : bs.length + 1 ≤ 140737488355328)
    (h : ∀ v1 w1, Bw w1 base v1 (bs ++ [y]) → Below base w0 w1 → W.grownBy w1 v.ownBlock → wpList Tryd.prog ops Q rest (a.put o.dst v1) w1) : wpList Tryd.prog ops Q (o :: rest) a (W.alloc (.cells #[.int .u8 y] 5)) :=
  print_append_num base hgd s x 63 5 .u8 1 ho Tryd.underlying63 info_u8 (by omega) v bs y hs hx HO HB hbase (by omega) fun v1 w1 h1 h2 h3 _ => h v1 w1 h1 h2 h3
theorem app_str {w0 : World} {base : Nat} (hgd : o.guard = none) (s x : Operand) (ho : o.op = .call { callee := .builtin .append, args := #[s, x], argTypes := #[63, 9] }) (v : Value) (bs : List Int) (y : ByteArray)
    (hs : a.eval s = v) (hx : a.eval x = .string y) (HO : Bw W base v bs) (HB : Below base w0 W) (hbase : base ≤ W.heap.size) (hl : bs.length + y.size ≤ 140737488355328)
    (h : ∀ v1 w1, Bw w1 base v1 (bs ++ bytesOf y) → Below base w0 w1 → W.grownBy w1 v.ownBlock → wpList Tryd.prog ops Q rest (a.put o.dst v1) w1) : wpList Tryd.prog ops Q (o :: rest) a W :=
  print_append_str base hgd s x 63 9 5 ho Tryd.underlying63 Tryd.underlying9 info_u8 v bs y hs hx HO HB hbase hl h
end
theorem Arg1.grown {w W W' : World} {a0 b0 : Value} {row : Option Nat} (h : Arg1 w W a0 b0) (hg : W.grownBy W' row) (hr : ∀ k, row = some k → w.heap.size + 1 ≤ k) : Arg1 w W' a0 b0 :=
  ⟨h.be.grown hg h.be.size (fun k hk => by have := hr k hk; omega), ⟨(hg.block _ (Array.getElem?_eq_some_iff.1 h.x.blk).1 (fun e => by have := hr _ e.symm; omega)).trans h.x.blk⟩⟩
/-- What the loop over the digits keeps. -/
def FI (w w' : World) (n : Bool) (A0 : Option Addr) (c0 : Nat) (xs : List Int) (A : Option Addr) (c : Nat) (G : Value) (cs gs : List Int) (kq : Nat) : Prop :=
  trimL cs = cs ∧ cs.length ≤ xs.length ∧ val cs * 1000000000 ^ gs.length + gv gs = val xs ∧ (∀ g ∈ gs, 0 ≤ g ∧ g < 1000000000) ∧ (cs = [] → 0 < dg gs (gs.length - 1)) ∧ (val cs < 2 ^ kq ∧ kq + gs.length ≤ 32 * xs.length) ∧
  Ow w' (w.heap.size + 1) (.slice A cs.length c) cs ∧ Ow w' (w.heap.size + 1) G gs ∧ ((Value.slice A cs.length c).ownBlock = none ∨ (Value.slice A cs.length c).ownBlock ≠ G.ownBlock) ∧ Arg1 w w' (.bool n) (.slice A0 xs.length c0)
theorem Ow.take {w : World} {base n c m : Nat} {A : Option Addr} {xs : List Int} (h : Ow w base (.slice A n c) xs) (hm : m ≤ xs.length) : Ow w base (.slice A m c) (xs.take m) :=
  ⟨Kd.R_take h.own hm, fun x hx => h.dig x (List.mem_of_mem_take hx)⟩
theorem Ow.trim {w : World} {base n c : Nat} {A : Option Addr} {xs : List Int} (h : Ow w base (.slice A n c) xs) : Ow w base (.slice A (trimL xs).length c) (trimL xs) := by
  have e := trimL_prefix xs
  have h1 := h.take (trimL_len xs)
  rw [← e] at h1
  exact h1
theorem val_pos {cs : List Int} (hd : ∀ x ∈ cs, 0 ≤ x ∧ x ≤ 4294967295) (ht : trimL cs = cs) (hc : cs ≠ []) : 0 < val cs := by
  have h1 := val_ge cs hd ht (List.length_pos_iff.2 hc)
  have h2 := pw_pos (cs.length - 1)
  omega
theorem val_pos' {xs : List Int} (ht : trimL xs ≠ []) (hd : ∀ x ∈ xs, 0 ≤ x ∧ x ≤ 4294967295) : 0 < val xs := by
  have h := val_pos (cs := trimL xs) (fun x hx => by rw [trimL_prefix xs] at hx; exact hd x (List.mem_of_mem_take hx)) (trimL_trimL _) ht
  rwa [val_trim] at h
theorem addr_add0 (g k : Nat) : (⟨g, 0, none⟩ : Addr).add k = ⟨g, k, none⟩ := by unfold Addr.add; split <;> simp_all
theorem fi_next (w w' w1 w3 w4 : World) (n : Bool) (A0 : Option Addr) (c0 : Nat) (xs : List Int) (g c : Nat) (G G' : Value) (cs gs ys : List Int) (kq : Nat) (h : FI w w' n A0 c0 xs (some ⟨g, 0, none⟩) c G cs gs kq) (hc : cs ≠ [])
    (hy : Ow w1 (w.heap.size + 1) (.slice (some ⟨g, 0, none⟩) cs.length c) ys) (hv : val ys = val cs / 1000000000) (hl : ys.length = cs.length) (hg1 : w'.grownBy w1 (some g)) (hG : Ow w3 (w.heap.size + 1) G' (gs ++ [val cs % 1000000000])) (hg2 : w1.grownBy w3 G.ownBlock)
    (hat : G'.ownBlock = G.ownBlock ∨ ∃ b, G'.ownBlock = some b ∧ w1.heap.size ≤ b) (hb : Below w3.heap.size w3 w4) :
    1 ≤ kq ∧ FI w w4 n A0 c0 xs (some ⟨g, 0, none⟩) c G' (trimL ys) (gs ++ [val cs % 1000000000]) (kq - 1) := by
  obtain ⟨h1, h2, h3, h4, h5, ⟨h6, h7⟩, h8, h9, h10, h11⟩ := h
  have hp := val_pos h8.dig h1 hc
  have hk : 1 ≤ kq := by
    rcases Nat.eq_zero_or_pos kq with e | e
    · subst e; simp at h6; omega
    · exact e
  have e1 := Int.mul_ediv_add_emod (val cs) 1000000000
  have hgl : 0 < cs.length := List.length_pos_iff.2 hc
  obtain ⟨g', cap', e, hg0, hglt⟩ := h8.form hgl
  have e3 : g = g' := by simp only [Value.slice.injEq, Option.some.injEq, Addr.mk.injEq] at e; exact e.1.1
  rw [← e3] at hg0 hglt
  have hne : some g ≠ G.ownBlock := by
    rcases h10 with h | h
    · simp [Value.ownBlock] at h
    · simpa [Value.ownBlock] using h
  refine ⟨hk, trimL_trimL _, by have := trimL_len ys; omega, ?_, ?_, ?_, ⟨?_, by rw [List.length_append]; simp; omega⟩, ?_, hG.below hb, Or.inr ?_, ?_⟩
  · rw [val_trim, hv, gv_append, List.length_append, List.length_singleton, Int.pow_succ]
    generalize (1000000000 : Int) ^ gs.length = P at *
    grind
  · intro x hx
    rcases List.mem_append.1 hx with hx | hx
    · exact h4 x hx
    · rw [List.mem_singleton.1 hx]; omega
  · intro hn
    have : val ys = 0 := by rw [← val_trim, hn]; rfl
    rw [List.length_append, List.length_singleton, Nat.add_sub_cancel]
    simp [dg, List.getD_eq_getElem?_getD]
    omega
  · rw [val_trim, hv]
    have : (2 : Int) ^ kq = 2 ^ (kq - 1) * 2 := by obtain ⟨k', rfl⟩ : ∃ k', kq = k' + 1 := ⟨kq - 1, by omega⟩; rw [Nat.add_sub_cancel, Int.pow_succ]
    omega
  · exact ((hy.other hg2 (Or.inr (by simpa [Value.ownBlock] using hne))).below hb).trim
  · show some g ≠ G'.ownBlock
    rcases hat with e | ⟨b, e, hb2⟩
    · rw [e]; exact hne
    · rw [e]; intro e4; have := hg1.size; injection e4 with e4; omega
  · refine ((h11.grown hg1 ?_).grown hg2 ?_).below hb
    · intro k e; injection e with e; omega
    · intro k e; exact h9.from_ k e
theorem two_pow_pw (n : Nat) : pw n = 2 ^ (32 * n) := by
  induction n with
  | zero => rfl
  | succ n ih => rw [pw, ih, show 32 * (n + 1) = 32 * n + 32 by omega, Int.pow_add]; omega
set_option maxHeartbeats 4000000 in
set_option maxRecDepth 100000 in
theorem Format_any (n : Bool) (A0 : Option Addr) (c0 : Nat) (xs : List Int) (w : World) (h0 : Rd w A0 c0 xs) (hl0 : xs.length ≤ 274877906944) (hT : Tab_p10 w) :
    Calls Tryd.prog 35 #[.agg #[.bool n, .slice A0 xs.length c0]] w fun e w' => e = .returned (.string ⟨(Lib.itoa (iv n xs)).toArray⟩) ∧ Below w.heap.size w w' := by
  have L0 := trimL_len xs
  have HT := Aside0.mk hT
  clear hT
  go_enter Tryd.func35, Tryd.ntmps35
  by_cases hz : trimL xs = []
  · have hz0 : (((trimL xs).length : Int) == 0) = true := by rw [hz]; rfl
    have HZ := Aside0.mk hz
    clear hz
    go_wp2_with (first | (go_at_call 50; generalize hwb : World.alloc _ _ = wb; have hA := Arg1.start w _ _ hwb; clear hwb; (with_reducible refine (magnitude_any n A0 c0 xs _ (h0.below hA.be) (by omega)).mono ?_); rintro e w1 ⟨rfl, hb⟩; replace hA := hA.below hb; clear hb) | (go_at_call 59; (with_reducible refine (clone_any A0 c0 (trimL xs) _ (h0.trim.below hA.be) (by omega)).mono ?_); rintro e w2 ⟨v, rfl, ho, hb⟩; obtain ⟨A, c, rfl, hR⟩ := ho.rd; replace hA := hA.below hb; clear hb ho))
    go_ret
    have hv : val xs = 0 := by rw [← val_trim, HZ.out]; rfl
    have hi : iv n xs = 0 := by unfold iv; rw [hv]; split <;> rfl
    refine ⟨?_, hA.be⟩
    rw [hi]
    simp [Lib.itoa, Lib.decDigits_one]
  · have hz0 : (((trimL xs).length : Int) == 0) = false := by rw [beq_eq_false_iff_ne]; intro h; exact hz (List.eq_nil_of_length_eq_zero (by omega))
    have HZ := Aside0.mk hz
    clear hz
    go_wp2_with (first | (go_at_call 50; generalize hwb : World.alloc _ _ = wb; have hA := Arg1.start w _ _ hwb; clear hwb; (with_reducible refine (magnitude_any n A0 c0 xs _ (h0.below hA.be) (by omega)).mono ?_); rintro e w1 ⟨rfl, hb⟩; replace hA := hA.below hb; clear hb) | (go_at_call 59; (with_reducible refine (clone_any A0 c0 (trimL xs) _ (h0.trim.below hA.be) (by omega)).mono ?_); rintro e w2 ⟨v, rfl, ho, hb⟩; have hbox := (Array.getElem?_eq_some_iff.1 hA.x.blk).1; replace hA := hA.below hb; obtain ⟨A, c, rfl, hR⟩ := ho.rd; have HO := Aside0.mk (ho.lower hbox); have HA := Aside0.mk hA; clear hb ho hR hbox))
    go_loopg [3, 4] (32 * xs.length) (fun kq v3 v4 w' => ∃ (cs gs : List Int) (A : Option Addr) (c : Nat) (G : Value), v3 = .slice A cs.length c ∧ G = v4 ∧ Aside0 (FI w w' n A0 c0 xs A c G cs gs kq))
    case atStart => exact ⟨trimL xs, [], A, c, _, rfl, rfl, ⟨trimL_trimL _, L0, by rw [val_trim]; simp [gv], by simp, fun h => absurd h HZ.out, ⟨by rw [val_trim, ← two_pow_pw]; exact (val_bounds xs h0.dig).2, by simp⟩, HO.out, Ow.nil _ _, by cases A <;> simp [Value.ownBlock], HA.out⟩⟩
    case round =>
      clear HO HA
      obtain ⟨cs, gs, A, c, G, rfl, rfl, HF⟩ := hrel
      by_cases hc : cs = []
      · subst hc
        have hF := HF.out
        have hlen : 0 < gs.length := by
          rcases Nat.eq_zero_or_pos gs.length with e | e
          · have h := hF.2.2.2.2.1 rfl
            rw [List.eq_nil_of_length_eq_zero e] at h
            simp [dg] at h
          · exact e
        have hgv : gv gs = val xs := by have := hF.2.2.1; simpa [val] using this
        obtain ⟨g, cap, rfl, hg0, hglt⟩ := hF.2.2.2.2.2.2.2.1.form hlen
        have hRG := hF.2.2.2.2.2.2.2.1.rd'.2
        have hbox := hF.2.2.2.2.2.2.2.2.2
        have hb0 := hbox.x.at0
        have hgl : gs.length ≤ 8796093022208 := by have := hF.2.2.2.2.2.1.2; omega
        have GS := Aside0.mk (And.intro hF.2.2.2.1 (hF.2.2.2.2.1 rfl))
        have GR := Aside0.mk (And.intro hRG hbox.be)
        have GV := Aside0.mk hgv
        clear hF hRG hbox hgv hg0 hglt HF
        obtain ⟨wo, rfl⟩ : ∃ wo : World, wo = wr := ⟨_, rfl⟩
        go_upto_if 27 with (fail)
        go_cut [5] (fun v5 wc => ∃ V : Value, V = v5 ∧ Aside0 (Bw wc wo.heap.size V (tx (sgn n)) ∧ Below wo.heap.size wo wc))
        case first =>
          cases n with
          | true =>
            go_wp2_with (first | (at_builtin; refine app1_u8 (w0 := wo) (base := wo.heap.size) rfl _ _ rfl (.slice none 0 0) [] 45 rfl rfl (Bw.nil _ _) (Below.refl _ _) (Nat.le_refl _) (by simp) ?_; intro v6 w6 hv hb hg))
            go_meet
            case rel => exact ⟨_, rfl, ⟨hv, hb⟩⟩
          | false =>
            go_wp2
            go_meet
            case rel => exact ⟨_, rfl, ⟨Bw.nil _ _, Below.refl _ _⟩⟩
        case rest =>
          obtain ⟨V, rfl, HV⟩ := hcut
          go_wp2
          go_loopg [5, 6] gs.length (fun kq v5 v6 w' => ∃ (k : Nat) (bs : List Int) (V : Value), V = v5 ∧ v6 = .int .i64 ((k : Int) - 1) ∧ Aside0 (k = kq ∧ k ≤ gs.length ∧ bs = tx (sgn n ++ tt gs k) ∧ bs.length + 9 * k ≤ 9 * gs.length + 1 ∧ Bw w' wo.heap.size V bs ∧ Below wo.heap.size wo w'))
          case atStart => exact ⟨gs.length, tx (sgn n), _, rfl, rfl, ⟨rfl, Nat.le_refl _, by rw [tt_len, List.append_nil], by rw [tx_length]; cases n <;> simp [sgn] <;> omega, HV.out.1, HV.out.2⟩⟩
          case round =>
            clear HV
            obtain ⟨k, bs, V, rfl, rfl, HA⟩ := hrel
            cases k with
            | zero =>
              have hcv := own_string (P := Tryd.prog) (src := 63) (dst := 9) Tryd.underlying63 Tryd.underlying5 Tryd.underlying9 HA.out.2.2.2.2.1
              go_wp2
              go_ret
              have hA := HA.out
              have hxp : 0 < val xs := val_pos' HZ.out h0.dig
              refine ⟨?_, keep_below hA.2.2.2.2.2 GR.out.2⟩
              rw [hA.2.2.1, strOfNums_tx, text_iv n xs gs GV.out hxp hlen]
              rfl
            | succ k =>
              have hk : k < gs.length := by have := HA.out.2.1; omega
              obtain ⟨x0, e0, hx⟩ := GR.out.1.at_ k hk
              cases e0
              have hx2 : wr.cell? ⟨g, k, none⟩ = some (.int .u32 (dg gs k)) := by
                have h := (HA.out.2.2.2.2.2.cell (World.block_lt_of_cell? wo _ hx)).trans hx
                rw [addr_add0] at h
                exact h
              clear hx
              obtain ⟨d0, d1⟩ := gv_dg gs GS.out.1 k
              have hkl : k < 8796093022208 := by omega
              obtain ⟨nd, hnd⟩ : ∃ nd, Lib.nDigits (dg gs k).toNat = nd := ⟨_, rfl⟩
              have HN := Aside0.mk (show (Lib.decDigits (dg gs k).toNat).length = nd ∧ 1 ≤ nd ∧ nd ≤ 9 by
                rw [Lib.decDigits_length, hnd, ← hnd]; exact ⟨rfl, Lib.nDigits_pos _, nDigits_le 8 _ (by omega)⟩)
              have HNN := Aside0.mk hnd
              have hit : ∀ w1 : World, Below wo.heap.size wo w1 → Calls Tryd.prog 66 #[.int .i64 (dg gs k)] w1 fun e w' => e = .returned (.string ⟨(Lib.decDigits (dg gs k).toNat).toArray⟩) ∧ Below w1.heap.size w1 w' := by
                intro w1 hb
                refine (Tryd.strconv_Itoa (dg gs k) (by omega) (by omega) w1 (HT.out.below (keep_below hb GR.out.2))).mono ?_
                rintro e w' ⟨rfl, j, os, rfl⟩
                exact ⟨by rw [itoa_pos _ d0], Lib.below_grow _ w1 (Nat.le_refl _) j os⟩
              have HIT := Aside0.mk hit
              have hsz : (⟨(Lib.decDigits (dg gs k).toNat).toArray⟩ : ByteArray).size = nd := HN.out.1
              clear hit hnd
              rw [show (((k + 1 : Nat) : Int) - 1) = (k : Int) by omega]
              go_wp2_with (first | (go_at_call 66; (with_reducible refine (HIT.out _ HA.out.2.2.2.2.2).mono ?_); rintro e w5 ⟨rfl, hb⟩; have HB5 := Aside0.mk hb; clear hb))
              go_loopg [5, 8] (9 - nd) (fun kq v5 v8 w' => ∃ (t : Nat) (cs : List Int) (V2 : Value), V2 = v5 ∧ v8 = .int .i64 ((nd + t : Nat) : Int) ∧ Aside0 (t + kq = 9 - nd ∧ cs = bs ++ List.replicate t 48 ∧ (k + 1 = gs.length → t = 0) ∧ Bw w' wo.heap.size V2 cs ∧ Below wo.heap.size wo w'))
              case atStart => exact ⟨0, bs, _, rfl, rfl, ⟨by omega, by simp, fun _ => rfl, HA.out.2.2.2.2.1.below HB5.out, HA.out.2.2.2.2.2.trans (HB5.out.mono HA.out.2.2.2.2.2.size)⟩⟩
              case round =>
                obtain ⟨t, cs, V2, rfl, rfl, HB⟩ := hrel
                have hnd9 : nd ≤ 9 := HN.out.2.2
                have htl : t ≤ 9 := by have := HB.out.1; omega
                have HC7 := Aside0.mk (show cs.length + 9 ≤ 140737488355328 by rw [HB.out.2.1, List.length_append, List.length_replicate]; have := HA.out.2.2.2.1; omega)
                by_cases h9 : nd + t < 9
                · by_cases hkt : k + 1 < gs.length
                  · have h9i : ((nd + t : Nat) : Int) < 9 := by omega
                    have hki : (k : Int) < (gs.length : Int) - 1 := by omega
                    go_wp2_with (first | (at_builtin; refine app1_u8 (w0 := wo) (base := wo.heap.size) rfl _ _ rfl V2 cs 48 rfl rfl HB.out.2.2.2.1 HB.out.2.2.2.2 HB.out.2.2.2.2.size (by have := HC7.out; omega) ?_; intro v6 w6 hv hb hg; have HV6 := Aside0.mk (And.intro hv hb); clear hv hb hg))
                    go_roundg (gk - 1)
                    case measure => have := HB.out.1; omega
                    case rel => exact ⟨t + 1, _, _, rfl, by go_num, ⟨by have := HB.out.1; omega, by rw [HB.out.2.1, List.append_assoc, ← List.replicate_succ'], fun h => absurd h (by omega), HV6.out.1, HV6.out.2⟩⟩
                  · have h9i : ((nd + t : Nat) : Int) < 9 := by omega
                    have hki : ¬ ((k : Int) < (gs.length : Int) - 1) := by omega
                    have ht0 : t = 0 := HB.out.2.2.1 (by omega)
                    have TT : (k + 1 = gs.length ∧ t = 0) ∨ (k + 1 < gs.length ∧ t = 9 - Lib.nDigits (dg gs k).toNat) := Or.inl ⟨by omega, ht0⟩
                    go_wp2_with (first | (at_builtin; refine app_str (w0 := wo) (base := wo.heap.size) rfl _ _ rfl V2 cs ⟨(Lib.decDigits (dg gs k).toNat).toArray⟩ rfl rfl HB.out.2.2.2.1 HB.out.2.2.2.2 HB.out.2.2.2.2.size (by rw [hsz]; have := HC7.out; omega) ?_; intro v7 w7 hv hb hg; have HV7 := Aside0.mk (And.intro hv hb); clear hv hb hg))
                    go_roundg k
                    case measure => have := HA.out; omega
                    case rel =>
                      have hs := tt_step gs GS.out.1 GS.out.2 k t hk TT
                      refine ⟨k, _, _, rfl, by go_num, ⟨rfl, by omega, ?_, ?_, HV7.out.1, HV7.out.2⟩⟩
                      · rw [HB.out.2.1, HA.out.2.2.1, bytesOf_tx, hs, tx_append, tx_append, tx_append, tx_append, tx_replicate]
                        simp [List.append_assoc]
                      · rw [HB.out.2.1]
                        have h1 := HA.out.2.2.2.1
                        have h2 := HN.out
                        have h3 := HNN.out
                        have h4 := HB.out.1
                        rw [bytesOf_tx, List.length_append, List.length_append, List.length_replicate, tx_length]
                        omega
                · have h9i : ¬ (((nd + t : Nat) : Int) < 9) := by omega
                  have TT : (k + 1 = gs.length ∧ t = 0) ∨ (k + 1 < gs.length ∧ t = 9 - Lib.nDigits (dg gs k).toNat) := by
                    by_cases hkt : k + 1 = gs.length
                    · exact Or.inl ⟨hkt, HB.out.2.2.1 hkt⟩
                    · exact Or.inr ⟨by omega, by rw [HNN.out]; have := HB.out.1; omega⟩
                  go_wp2_with (first | (at_builtin; refine app_str (w0 := wo) (base := wo.heap.size) rfl _ _ rfl V2 cs ⟨(Lib.decDigits (dg gs k).toNat).toArray⟩ rfl rfl HB.out.2.2.2.1 HB.out.2.2.2.2 HB.out.2.2.2.2.size (by rw [hsz]; have := HC7.out; omega) ?_; intro v7 w7 hv hb hg; have HV7 := Aside0.mk (And.intro hv hb); clear hv hb hg))
                  go_roundg k
                  case measure => have := HA.out; omega
                  case rel =>
                    have hs := tt_step gs GS.out.1 GS.out.2 k t hk TT
                    refine ⟨k, _, _, rfl, by go_num, ⟨rfl, by omega, ?_, ?_, HV7.out.1, HV7.out.2⟩⟩
                    · rw [HB.out.2.1, HA.out.2.2.1, bytesOf_tx, hs, tx_append, tx_append, tx_append, tx_append, tx_replicate]
                      simp [List.append_assoc]
                    · rw [HB.out.2.1]
                      have h1 := HA.out.2.2.2.1
                      have h2 := HN.out
                      have h3 := HNN.out
                      have h4 := HB.out.1
                      rw [bytesOf_tx, List.length_append, List.length_append, List.length_replicate, tx_length]
                      omega
      · have hcl : 0 < cs.length := List.length_pos_iff.2 hc
        have HC := Aside0.mk hc
        clear hc
        have hF := HF.out
        obtain ⟨g, cap, e, hg0, hglt⟩ := hF.2.2.2.2.2.2.1.form hcl
        simp only [Value.slice.injEq] at e
        obtain ⟨rfl, _, rfl⟩ := e
        have hgl : gs.length + 1 ≤ 2199023255552 * 8 := by have := hF.2.2.2.2.2.1.2; omega
        have hcs : cs.length ≤ 274877906944 := by have := hF.2.1; omega
        have hGw : ∀ w1, wr.grownBy w1 (some g) → Ow w1 (w.heap.size + 1) G gs := by
          intro w1 hg1
          refine hF.2.2.2.2.2.2.2.1.other hg1 ?_
          rcases hF.2.2.2.2.2.2.2.2.1 with h | h
          · simp [Value.ownBlock] at h
          · right; intro e; exact h (by rw [e]; rfl)
        have HG := Aside0.mk hGw
        have HW := Aside0.mk hF.2.2.2.2.2.2.1
        clear hF hGw hg0 hglt
        have hbs : ∀ w1 : World, wr.grownBy w1 (some g) → w.heap.size + 1 ≤ w1.heap.size := by
          intro w1 hg1
          have h1 := HF.out.2.2.2.2.2.2.2.2.2
          have := (Array.getElem?_eq_some_iff.1 h1.x.blk).1
          have := hg1.size
          omega
        have HBS := Aside0.mk hbs
        have hm : ∀ (w1 w3 : World) (ys : List Int), Ow w1 (w.heap.size + 1) (.slice (some ⟨g, 0, none⟩) cs.length c) ys → w1.grownBy w3 G.ownBlock → ys.length = cs.length → Calls Tryd.prog 50 #[.agg #[.bool false, .slice (some ⟨g, 0, none⟩) cs.length c]] w3 fun e w' => e = .returned (.slice (some ⟨g, 0, none⟩) (trimL ys).length c) ∧ Below w3.heap.size w3 w' := by
          intro w1 w3 ys hy hg2 hl
          have h := HF.out.2.2.2.2.2.2.2.2.1
          have h2 := magnitude_any false (some ⟨g, 0, none⟩) c ys w3 (hy.other hg2 (h.imp id id)).rd'.2 (by omega)
          rw [hl] at h2
          exact h2
        have HM := Aside0.mk hm
        clear hm
        clear hbs
        go_wp2_with (first
          | (go_at_call 65; (with_reducible refine (shrunk_any (some ⟨g, 0, none⟩) c (w.heap.size + 1) cs 1000000000 _ HW.out (by omega) (by omega)).mono ?_); rintro e w1 ⟨ys, rfl, hy, hv, hl, hg1⟩; have HY := Aside0.mk (And.intro hy (And.intro hv hl)); have HG1 := Aside0.mk (show wr.grownBy w1 (some g) from hg1); clear hy hv hl hg1)
          | (at_builtin; refine app1_u32 (base := w.heap.size + 1) rfl _ _ rfl G gs (val cs % 1000000000) (by omega) rfl rfl (HG.out _ HG1.out) (HBS.out _ HG1.out) hgl ?_; intro v5 w3 hG hg2 hat; have HG3 := Aside0.mk (And.intro hG (And.intro hg2 hat)); clear hG hg2 hat)
          | (go_at_call 50; (with_reducible refine (HM.out _ _ _ HY.out.1 HG3.out.2.1 HY.out.2.2).mono ?_); rintro e w4 ⟨rfl, hb⟩))
        have FN := fi_next w wr w1 _ w4 n A0 c0 xs g c G _ cs gs ys gk HF.out HC.out HY.out.1 HY.out.2.1 HY.out.2.2 HG1.out HG3.out.1 HG3.out.2.1 HG3.out.2.2 hb
        go_roundg (gk - 1)
        case measure => have := FN.1; omega
        case rel => exact ⟨_, _, _, _, _, rfl, rfl, ⟨FN.2⟩⟩
end Go.Proofs.YtegnnghoiffmhaaDoor.Big
namespace Go.Proofs.YtegnnghoiffmhaaDoor.Big
open Go.RowKit Go.Proofs.YtegnnghoiffmhaaDoorW.PrintWords Go.Proofs.YtegnnghoiffmhaaDoorW.PrintLast
set_option linter.unusedVariables false
set_option linter.unusedSimpArgs false
attribute [local go_sem ↓] Go.wp_at_zero Go.wp_at_succ
theorem sum_take (ls : List Nat) (i : Nat) (h : i < ls.length) : (ls.take (i + 1)).sum = (ls.take i).sum + ls.getD i 0 := by
  rw [List.take_succ_eq_append_getElem h, List.sum_append]
  simp [List.getD_eq_getElem?_getD, h]
def lz (ls : List Nat) (i : Nat) : Nat := ls.getD i 0
def ls_ (ls : List Nat) (i : Nat) : Nat := (ls.take i).sum
theorem ls_succ (ls : List Nat) (i : Nat) (h : i < ls.length) : ls_ ls (i + 1) = ls_ ls i + lz ls i := sum_take ls i h
theorem ls_le (ls : List Nat) (h : ∀ i, i < ls.length → lz ls i ≤ 35184372088832) : ∀ i, i ≤ ls.length → ls_ ls i ≤ 35184372088832 * i
  | 0, _ => by simp [ls_]
  | i + 1, hi => by
    have h1 := ls_le ls h i (by omega)
    have h2 := h i (by omega)
    rw [ls_succ ls i (by omega)]
    omega
set_option maxRecDepth 100000 in
theorem Light_any (g k : Nat) (ls : List Nat) (w : World) (hk : ls.length = k) (hk3 : k ≤ 100) (hc : ∀ i, i < k → ∃ A c, w.cell? ⟨g, i * 2 + 1, none⟩ = some (.slice A (lz ls i) c)) (hl : ∀ i, i < ls.length → lz ls i ≤ 35184372088832) (b : Bool) (hb : decide (ls.sum ≤ 60) = b) :
    Calls Tryd.prog 12 #[.slice (some ⟨g, 0, none⟩) k k] w fun e w' => e = .returned (.bool b) ∧ w' = w := by
  have HC := Aside0.mk hc
  have HL := Aside0.mk (And.intro (ls_le ls hl) hb)
  clear hc hb
  go_enter Tryd.func12, Tryd.ntmps12
  go_wp2
  go_loopg [3, 4] k (fun kq v3 v4 w' => ∃ i : Nat, v3 = .int .i64 (ls_ ls i) ∧ v4 = .int .i64 i ∧ Aside0 (i + kq = k) ∧ w' = w)
  case atStart => exact ⟨0, by simp [ls_], rfl, ⟨by omega⟩, rfl⟩
  case round =>
    obtain ⟨i, rfl, rfl, HI, rfl⟩ := hrel
    by_cases hi : i < k
    · obtain ⟨A, c, x0⟩ := HC.out i hi
      have b1 : ls_ ls i ≤ 3518437208883200 := by have := HL.out.1 i (by omega); omega
      have b2 := hl i (by omega)
      have hi2 : i ≤ 100 := by omega
      go_wp2
      go_roundg (gk - 1)
      case measure => have := HI.out; omega
      case rel => exact ⟨i + 1, by rw [ls_succ ls i (by omega)]; go_num, by go_num, ⟨by have := HI.out; omega⟩, rfl⟩
    · have e : i = k := by have := HI.out; omega
      have b1 : ls_ ls i ≤ 3518437208883200 := by have := HL.out.1 i (by omega); omega
      go_wp2
      go_ret
      refine ⟨?_, rfl⟩
      rw [← HL.out.2]
      have : ls_ ls i = ls.sum := by rw [e]; unfold ls_; rw [List.take_of_length_le (by omega)]
      rw [e] at this ⊢
      show Ending.returned (.bool (decide ((ls_ ls k : Int) ≤ 60))) = _
      rw [this]
      congr 3
      exact propext (by omega)
/-- The same on canonical integers. -/
theorem DivMod_z (x y : Int) (A0 A1 : Option Addr) (c0 c1 : Nat) (w : World) (h0 : Rd w A0 c0 (mg x)) (h1 : Rd w A1 c1 (mg y)) (hl0 : (mg x).length ≤ 274877906944) (hl1 : (mg y).length ≤ 274877906944) (hy : y ≠ 0) :
    Calls Tryd.prog 14 #[.agg #[.bool (ng x), .slice A0 (mg x).length c0], .agg #[.bool (ng y), .slice A1 (mg y).length c1]] w fun e w' => Res2 e w w' (x.fdiv y) (x.fmod y) 0 := by
  have h := DivMod_any (ng x) (ng y) A0 A1 c0 c1 _ _ w h0 h1 hl0 hl1 (by rw [iv_canon]; exact hy)
  rw [iv_canon, iv_canon] at h
  exact h
def dec (z : Int) : ByteArray := ⟨(Lib.itoa z).toArray⟩
theorem Format_z (x : Int) (A0 : Option Addr) (c0 : Nat) (w : World) (h0 : Rd w A0 c0 (mg x)) (hl0 : (mg x).length ≤ 274877906944) (hT : Tab_p10 w) :
    Calls Tryd.prog 35 #[.agg #[.bool (ng x), .slice A0 (mg x).length c0]] w fun e w' => e = .returned (.string (dec x)) ∧ Below w.heap.size w w' := by
  have h := Format_any (ng x) A0 c0 _ w h0 hl0 hT
  rw [iv_canon] at h
  exact h
theorem small_len (z : Int) (h1 : -4294967296 < z) (h2 : z < 4294967296) : (mg z).length ≤ 274877906944 := by
  have : (mg z).length ≤ 1 := mg_len (by simp only [pw]; omega) (by simp only [pw]; omega)
  omega
theorem dec_m4 : dec (-4) = ⟨#[45, 52]⟩ := by unfold dec; rw [itoa_neg 4 (by decide)]; rw [show Lib.decDigits (4 : Int).toNat = [52] from Lib.decDigits_one (by decide)]
theorem dec_1 : dec 1 = ⟨#[49]⟩ := by unfold dec; rw [itoa_pos 1 (by decide)]; rw [show Lib.decDigits (1 : Int).toNat = [49] from Lib.decDigits_one (by decide)]
theorem awake_div (A0 A1 : Option Addr) (c0 c1 : Nat) (w : World) (h0 : Rd w A0 c0 (mg (-7))) (h1 : Rd w A1 c1 (mg 2)) :
    Calls Tryd.prog 14 #[.agg #[.bool (ng (-7)), .slice A0 (mg (-7)).length c0], .agg #[.bool (ng 2), .slice A1 (mg 2).length c1]] w fun e w' => Res2 e w w' (-4) 1 0 :=
  DivMod_z (-7) 2 A0 A1 c0 c1 w h0 h1 (small_len _ (by omega) (by omega)) (small_len _ (by omega) (by omega)) (by decide)
theorem awake_f1 (A0 : Option Addr) (c0 : Nat) (w : World) (h0 : Rd w A0 c0 (mg (-4))) (hT : Tab_p10 w) :
    Calls Tryd.prog 35 #[.agg #[.bool (ng (-4)), .slice A0 (mg (-4)).length c0]] w fun e w' => e = .returned (.string ⟨#[45, 52]⟩) ∧ Below w.heap.size w w' := by
  have h := Format_z (-4) A0 c0 w h0 (small_len _ (by omega) (by omega)) hT
  rw [dec_m4] at h
  exact h
theorem awake_f2 (A0 : Option Addr) (c0 : Nat) (w : World) (h0 : Rd w A0 c0 (mg 1)) (hT : Tab_p10 w) :
    Calls Tryd.prog 35 #[.agg #[.bool (ng 1), .slice A0 (mg 1).length c0]] w fun e w' => e = .returned (.string ⟨#[49]⟩) ∧ Below w.heap.size w w' := by
  have h := Format_z 1 A0 c0 w h0 (small_len _ (by omega) (by omega)) hT
  rw [dec_1] at h
  exact h
set_option maxRecDepth 100000 in
theorem awake_any (w : World) (hT : Tab_p10 w) : Calls Tryd.prog 13 #[] w fun e w' => e = .returned (.bool true) ∧ Below w.heap.size w w' := by
  go_enter Tryd.func13, Tryd.ntmps13
  go_wp2_with (first
    | (go_at_call 21; (with_reducible refine (FromInt64_any (-7) _ (by omega) (by omega)).mono ?_); rintro e w1 ⟨A1, c1, rfl, h1, hB⟩)
    | (go_at_call 21; (with_reducible refine (FromInt64_any 2 _ (by omega) (by omega)).mono ?_); rintro e w2 ⟨A2, c2, rfl, h2, hb⟩; replace h1 := h1.below hb; replace hB := keep_below hb hB; clear hb)
    | (go_at_call 14; (with_reducible refine (awake_div A1 A2 c1 c2 _ h1 h2).mono ?_); rintro e w3 ⟨A3, c3, A4, c4, rfl, h3, h4, hb⟩; replace hB := keep_below hb hB; clear hb h1 h2)
    | (go_at_call 35; generalize hwb : World.alloc (World.alloc _ _) _ = wb; obtain ⟨hb0, hq, hr⟩ := boxes2 w3 _ _ _ _ _ _ hwb; clear hwb; (with_reducible refine (awake_f1 A3 c3 _ (h3.below hb0) (hT.below (keep_below hb0 hB))).mono ?_); rintro e w5 ⟨rfl, hb⟩; replace h4 := (h4.below hb0).below hb; replace hB := keep_below hb (keep_below hb0 hB); replace hr := hr.below hb; have r0 := hr.at0; have r1 := hr.at1; clear hb hb0 h3 hq)
    | (go_at_call 35; (with_reducible refine (awake_f2 A4 c4 _ h4 (hT.below hB)).mono ?_); rintro e w6 ⟨rfl, hb⟩; replace hB := keep_below hb hB; clear hb))
  go_ret
  exact ⟨rfl, hB⟩
end Go.Proofs.YtegnnghoiffmhaaDoor.Big
namespace Go.Proofs.YtegnnghoiffmhaaDoor.Big
open Go.RowKit Go.Proofs.YtegnnghoiffmhaaDoorW.PrintWords Go.Proofs.YtegnnghoiffmhaaDoorW.PrintLast
set_option linter.unusedVariables false
set_option linter.unusedSimpArgs false
attribute [local go_sem ↓] Go.wp_at_zero Go.wp_at_succ
theorem take_next (xs ys : List Int) (i : Nat) (hx : i < xs.length) (hy : i < ys.length) (h : xs.take i = ys.take i) (e : dg xs i = dg ys i) : xs.take (i + 1) = ys.take (i + 1) := by
  rw [List.take_succ_eq_append_getElem hx, List.take_succ_eq_append_getElem hy, h]
  congr 2
  simpa [dg, List.getD_eq_getElem?_getD, hx, hy] using e
set_option maxRecDepth 100000 in
theorem SameInt_any (n0 n1 : Bool) (A0 A1 : Option Addr) (c0 c1 : Nat) (xs ys : List Int) (w : World) (h0 : Rd w A0 c0 xs) (h1 : Rd w A1 c1 ys) (hl0 : xs.length ≤ 274877906944) (hl1 : ys.length ≤ 274877906944) (b : Bool) (hb : decide (n0 = n1 ∧ xs = ys) = b) :
    Calls Tryd.prog 54 #[.agg #[.bool n0, .slice A0 xs.length c0], .agg #[.bool n1, .slice A1 ys.length c1]] w fun e w' => e = .returned (.bool b) ∧ Below w.heap.size w w' := by
  have H := Aside0.mk (And.intro h0 h1)
  have HB := Aside0.mk hb
  clear h0 h1 hb
  go_enter Tryd.func54, Tryd.ntmps54
  by_cases hn : n0 = n1
  · subst hn
    by_cases hl : xs.length = ys.length
    · have hll : ((xs.length : Int) == (ys.length : Int)) = true := by rw [hl]; simp
      have hnn : (n0 == n0) = true := by simp
      have HL := Aside0.mk hl
      clear hl
      go_wp2
      generalize hwb : World.alloc _ _ = wb
      have hT := Arg2.start w _ _ _ _ hwb
      clear hwb hnn hll
      have HT := Aside0.mk hT
      go_loopg [5] xs.length (fun kq v5 w' => ∃ i : Nat, v5 = .int .i64 i ∧ Aside0 (i + kq = xs.length ∧ xs.take i = ys.take i ∧ Arg2 w w' (.bool n0) (.slice A0 xs.length c0) (.bool n0) (.slice A1 ys.length c1)))
      case atStart => exact ⟨0, rfl, ⟨by omega, by simp, hT⟩⟩
      case round =>
        clear HT hT
        obtain ⟨i, rfl, HI⟩ := hrel
        have hT := HI.out.2.2
        obtain ⟨x0, x1, y0, y1⟩ := hT.cells
        by_cases hi : i < xs.length
        · obtain ⟨a0, rfl, z0⟩ := (H.out.1.below hT.be).at_ i hi
          obtain ⟨a1, rfl, z1⟩ := (H.out.2.below hT.be).at_ i (by have := HL.out; omega)
          have hi2 : i < ys.length := by have := HL.out; omega
          have hi3 : i < 274877906944 := by omega
          have hii : (i : Int) < (xs.length : Int) := by omega
          have hii2 : (i : Int) < (ys.length : Int) := by omega
          have hi0 : (0 : Int) ≤ (i : Int) := by omega
          have HT := Aside0.mk hT
          clear hT
          by_cases he : dg xs i = dg ys i
          · have hee : (dg xs i == dg ys i) = true := by rw [he]; simp
            have HE := Aside0.mk he
            clear he
            go_wp2
            go_quiet (fail)
            go_wp2
            go_roundg (gk - 1)
            case measure => have := HI.out; omega
            case rel => exact ⟨i + 1, by go_num, ⟨by have := HI.out; omega, take_next xs ys i hi hi2 HI.out.2.1 HE.out, HT.out.below (pw_below_drewN (Below.refl _ _) _)⟩⟩
          · have hee : (dg xs i == dg ys i) = false := by simp [he]
            have hbf : b = false := by
              rw [← HB.out]
              refine decide_eq_false ?_
              rintro ⟨_, e⟩
              exact he (by rw [e])
            clear he
            go_wp2
            go_quiet (fail)
            go_wp2
            go_ret
            exact ⟨by first | rfl | (rw [hbf]; rfl), pw_below_drewN HT.out.be _⟩
        · have hii : ¬ (i : Int) < (xs.length : Int) := by omega
          have hbt : b = true := by
            rw [← HB.out]
            refine decide_eq_true ⟨by simp, ?_⟩
            have h := HI.out.2.1
            rwa [List.take_of_length_le (by omega), List.take_of_length_le (by have := HL.out; omega)] at h
          have HT := Aside0.mk hT
          clear hT
          go_wp2
          go_ret
          exact ⟨by first | rfl | (rw [hbt]; rfl), HT.out.be⟩
    · have hll : ((xs.length : Int) == (ys.length : Int)) = false := by rw [beq_eq_false_iff_ne]; omega
      have hnn : (n0 == n0) = true := by simp
      have hbf : b = false := by
        rw [← HB.out]
        refine decide_eq_false ?_
        rintro ⟨_, e⟩
        exact hl (by rw [e])
      clear hl
      go_wp2
      generalize hwb : World.alloc _ _ = wb
      have hT := Arg2.start w _ _ _ _ hwb
      go_ret
      exact ⟨by first | rfl | (rw [hbf]; rfl), hT.be⟩
  · have hnn : (n0 == n1) = false := by rw [beq_eq_false_iff_ne]; exact hn
    have hbf : b = false := by
      rw [← HB.out]
      refine decide_eq_false ?_
      rintro ⟨e, _⟩
      exact hn e
    clear hn
    go_wp2
    generalize hwb : World.alloc _ _ = wb
    have hT := Arg2.start w _ _ _ _ hwb
    go_ret
    exact ⟨by first | rfl | (rw [hbf]; rfl), hT.be⟩
/-- On canonical integers. -/
theorem SameInt_z (x y : Int) (A0 A1 : Option Addr) (c0 c1 : Nat) (w : World) (h0 : Rd w A0 c0 (mg x)) (h1 : Rd w A1 c1 (mg y)) (hl0 : (mg x).length ≤ 274877906944) (hl1 : (mg y).length ≤ 274877906944) (b : Bool) (hb : decide (x = y) = b) :
    Calls Tryd.prog 54 #[.agg #[.bool (ng x), .slice A0 (mg x).length c0], .agg #[.bool (ng y), .slice A1 (mg y).length c1]] w fun e w' => e = .returned (.bool b) ∧ Below w.heap.size w w' := by
  refine SameInt_any (ng x) (ng y) A0 A1 c0 c1 _ _ w h0 h1 hl0 hl1 b ?_
  rw [← hb]
  congr 1
  refine propext ⟨fun h => ?_, fun h => by rw [h]; exact ⟨rfl, rfl⟩⟩
  rw [← iv_canon x, ← iv_canon y, h.1, h.2]
set_option maxRecDepth 100000 in
theorem same_any (n0 n1 : Bool) (A0 A1 : Option Addr) (c0 c1 : Nat) (xs ys : List Int) (w : World) (h0 : Rd w A0 c0 xs) (h1 : Rd w A1 c1 ys) (hl0 : xs.length ≤ 274877906944) (hl1 : ys.length ≤ 274877906944) (b : Bool) (hb : decide (n0 = n1 ∧ xs = ys) = b) :
    Calls Tryd.prog 16 #[.agg #[.bool n0, .slice A0 xs.length c0], .agg #[.bool n1, .slice A1 ys.length c1]] w fun e w' => e = .returned (.bool b) ∧ Below w.heap.size w w' := by
  have HB := Aside0.mk hb
  clear hb
  go_enter Tryd.func16, Tryd.ntmps16
  go_wp2_with (first | (go_at_call 54; generalize hwb : World.alloc _ _ = wb; have hT := Arg2.start w _ _ _ _ hwb; clear hwb; (with_reducible refine (SameInt_any n0 n1 A0 A1 c0 c1 xs ys _ (h0.below hT.be) (h1.below hT.be) (by omega) (by omega) b HB.out).mono ?_); rintro e w1 ⟨rfl, hb⟩; replace hT := hT.below hb; clear hb))
  go_ret
  exact ⟨rfl, hT.be⟩
/-- An integer is the same as itself. -/
theorem same_z (x : Int) (A0 A1 : Option Addr) (c0 c1 : Nat) (w : World) (h0 : Rd w A0 c0 (mg x)) (h1 : Rd w A1 c1 (mg x)) (hl0 : (mg x).length ≤ 274877906944) :
    Calls Tryd.prog 16 #[.agg #[.bool (ng x), .slice A0 (mg x).length c0], .agg #[.bool (ng x), .slice A1 (mg x).length c1]] w fun e w' => e = .returned (.bool true) ∧ Below w.heap.size w w' :=
  same_any (ng x) (ng x) A0 A1 c0 c1 _ _ w h0 h1 hl0 hl0 true (by simp)
end Go.Proofs.YtegnnghoiffmhaaDoor.Big
namespace Go.Proofs.YtegnnghoiffmhaaDoor.Big
open Go.RowKit Go.Proofs.YtegnnghoiffmhaaDoorW.PrintWords Go.Proofs.YtegnnghoiffmhaaDoorW.PrintLast
set_option linter.unusedVariables false
set_option linter.unusedSimpArgs false
structure Keep (w w' : World) (l : List (Nat × Value × Value)) (rs : List (Option Addr × Nat × List Int)) : Prop where
  be : Below w.heap.size w w'
  bx : ∀ g a b, (g, a, b) ∈ l → Box w' g a b 24
  ge : ∀ g a b, (g, a, b) ∈ l → w.heap.size ≤ g
  nd : (l.map (·.1)).Nodup
  rd : ∀ A c xs, (A, c, xs) ∈ rs → Rd w' A c xs
section
variable {w w' w1 : World} {l : List (Nat × Value × Value)} {rs rs' : List (Option Addr × Nat × List Int)} {g : Nat} {a b : Value}
theorem Keep.start (w : World) : Keep w w [] [] := ⟨Below.refl _ _, (by intro g a b h; cases h), (by intro g a b h; cases h), List.nodup_nil, (by intro A c xs h; cases h)⟩
theorem Keep.below (h : Keep w w' l rs) (hb : Below w'.heap.size w' w1) : Keep w w1 l rs := ⟨keep_below hb h.be, fun g a b hm => (h.bx g a b hm).below hb, h.ge, h.nd, fun A c xs hm => (h.rd A c xs hm).below hb⟩
theorem Keep.drew (h : Keep w w' l rs) : Keep w w'.drew l rs := h.below (below_drew (Below.refl _ _))
theorem Keep.drewN (h : Keep w w' l rs) (n : Nat) : Keep w (w'.drewN n) l rs := h.below (pw_below_drewN (Below.refl _ _) n)
theorem Keep.row (h : Keep w w' l rs) {A : Option Addr} {c : Nat} {xs : List Int} (hr : Rd w' A c xs) : Keep w w' l ((A, c, xs) :: rs) := ⟨h.be, h.bx, h.ge, h.nd, fun A' c' xs' hm => by
  rcases List.mem_cons.1 hm with e | hm
  · simp only [Prod.mk.injEq] at e; obtain ⟨rfl, rfl, rfl⟩ := e; exact hr
  · exact h.rd _ _ _ hm⟩
theorem Keep.sub (h : Keep w w' l rs) (hs : ∀ x, x ∈ rs' → x ∈ rs) : Keep w w' l rs' := ⟨h.be, h.bx, h.ge, h.nd, fun A c xs hm => h.rd A c xs (hs _ hm)⟩
theorem Keep.alloc (h : Keep w w' l rs) (o : Obj) : Keep w (w'.alloc o) l rs := h.below (below_alloc (Below.refl _ _) o)
theorem Keep.lt (h : Keep w w' l rs) (hm : (g, a, b) ∈ l) : g < w'.heap.size := (Array.getElem?_eq_some_iff.1 (h.bx _ _ _ hm).blk).1
theorem Keep.new (h : Keep w w' l rs) (a b : Value) : Keep w (w'.alloc (.cells #[a, b] 24)) ((w'.heap.size, a, b) :: l) rs := ⟨(h.alloc _).be, fun g' a' b' hm => by
  rcases List.mem_cons.1 hm with e | hm
  · simp only [Prod.mk.injEq] at e; obtain ⟨rfl, rfl, rfl⟩ := e; exact Box.new w' _ _ _
  · exact (h.alloc _).bx _ _ _ hm, fun g' a' b' hm => by
  rcases List.mem_cons.1 hm with e | hm
  · simp only [Prod.mk.injEq] at e; obtain ⟨rfl, rfl, rfl⟩ := e; exact h.be.size
  · exact h.ge _ _ _ hm, by
  rw [List.map_cons, List.nodup_cons]
  refine ⟨fun hm => ?_, h.nd⟩
  obtain ⟨⟨g', a', b'⟩, hm, e⟩ := List.mem_map.1 hm
  have := h.lt hm
  simp only at e
  omega, (h.alloc _).rd⟩
theorem Keep.set {n0 : Bool} {B0 : Option Addr} {l0 d0 : Nat} (h : Keep w w' ((g, .bool n0, .slice B0 l0 d0) :: l) rs) (n1 : Bool) (B1 : Option Addr) (l1 d1 : Nat) : Keep w ((w'.setCell ⟨g, 0, none⟩ (.bool n1)).setCell ⟨g, 1, none⟩ (.slice B1 l1 d1)) ((g, .bool n1, .slice B1 l1 d1) :: l) rs := by
  have hb := h.bx _ _ _ List.mem_cons_self
  have hge := h.ge _ _ _ List.mem_cons_self
  refine ⟨(h.be.setCell (by simpa using hge) _).setCell (by simpa using hge) _, fun g' a' b' hm => ?_, fun g' a' b' hm => ?_, h.nd, fun A c xs hm => (h.rd _ _ _ hm).boxed hb.blk⟩
  · rcases List.mem_cons.1 hm with e | hm2
    · simp only [Prod.mk.injEq] at e; obtain ⟨rfl, rfl, rfl⟩ := e; exact hb.set _ _
    · have hne : g' ≠ g := by
        rintro rfl
        have := h.nd
        rw [List.map_cons, List.nodup_cons] at this
        exact this.1 (List.mem_map.2 ⟨_, hm2, rfl⟩)
      exact ((h.bx _ _ _ (List.mem_cons_of_mem _ hm2)).put hne _).put hne _
  · rcases List.mem_cons.1 hm with e | hm2
    · simp only [Prod.mk.injEq] at e; obtain ⟨rfl, rfl, rfl⟩ := e; exact hge
    · exact h.ge _ _ _ (List.mem_cons_of_mem _ hm2)
theorem Keep.at0 (h : Keep w w' l rs) (hm : (g, a, b) ∈ l) : w'.cell? ⟨g, 0, none⟩ = some a := (h.bx _ _ _ hm).at0
theorem Keep.room (h : Keep w w' ((g, a, b) :: l) rs) : w'.cell? ⟨g, 0, none⟩ = some a ∧ w'.cell? ⟨g, 1, none⟩ = some b ∧ w'.frozen? ⟨g, 0, none⟩ = false ∧ w'.frozen? ⟨g, 1, none⟩ = false := ⟨(h.bx _ _ _ List.mem_cons_self).at0, (h.bx _ _ _ List.mem_cons_self).at1, (h.bx _ _ _ List.mem_cons_self).free 0, (h.bx _ _ _ List.mem_cons_self).free 1⟩
theorem Keep.at1 (h : Keep w w' l rs) (hm : (g, a, b) ∈ l) : w'.cell? ⟨g, 1, none⟩ = some b := (h.bx _ _ _ hm).at1
end
theorem mg_iv_le (n : Bool) {xs : List Int} (h : ∀ x ∈ xs, 0 ≤ x ∧ x ≤ 4294967295) {k : Nat} (hk : xs.length ≤ k) : (mg (iv n xs)).length ≤ k := Nat.le_trans (mg_iv_len n h) hk
theorem mg_bound {z : Int} {k : Nat} (h : (mg z).length ≤ k) : -pw k < z ∧ z < pw k := by
  have h1 := mg_lt z
  have h2 := pw_le h
  omega
theorem mg_add {x y : Int} {i j k : Nat} (hx : (mg x).length ≤ i) (hy : (mg y).length ≤ j) (hi : i < k) (hj : j < k) : (mg (x + y)).length ≤ k := by
  have h1 := mg_bound hx
  have h2 := mg_bound hy
  have h3 := pw_le (show i ≤ k - 1 by omega)
  have h4 := pw_le (show j ≤ k - 1 by omega)
  have h5 : pw k = 4294967296 * pw (k - 1) := by obtain ⟨m, rfl⟩ : ∃ m, k = m + 1 := ⟨k - 1, by omega⟩; rw [Nat.add_sub_cancel, pw]; omega
  have h6 := pw_pos (k - 1)
  exact mg_len (by omega) (by omega)
theorem mg_neg {x : Int} : (mg (-x)).length = (mg x).length := by unfold mg; rw [Int.natAbs_neg]
theorem mg_sub {x y : Int} {i j k : Nat} (hx : (mg x).length ≤ i) (hy : (mg y).length ≤ j) (hi : i < k) (hj : j < k) : (mg (x - y)).length ≤ k := by
  rw [Int.sub_eq_add_neg]; exact mg_add hx (by rw [mg_neg]; exact hy) hi hj
theorem mg_abs {x : Int} : (mg (x.natAbs : Int)).length = (mg x).length := by unfold mg; rw [Int.natAbs_natCast]
theorem mg_mul {x y : Int} {i j k : Nat} (hx : (mg x).length ≤ i) (hy : (mg y).length ≤ j) (hk : i + j ≤ k) : (mg (x * y)).length ≤ k := by
  have h1 := mg_bound hx
  have h2 := mg_bound hy
  have h3 := pw_le hk
  rw [pw_add] at h3
  have h4 : (x * y).natAbs < (pw i * pw j).natAbs ∨ x * y = 0 := by
    rw [Int.natAbs_mul, Int.natAbs_mul]
    left
    exact Nat.mul_lt_mul'' (by omega) (by omega)
  have h5 : 0 < pw i * pw j := Int.mul_pos (pw_pos i) (pw_pos j)
  exact mg_len (by rcases h4 with h4 | h4 <;> omega) (by rcases h4 with h4 | h4 <;> omega)
section
variable (n0 n1 : Bool) (A0 A1 : Option Addr) (c0 c1 : Nat) (xs ys : List Int) (w : World)
theorem add_v (h0 : Rd w A0 c0 xs) (h1 : Rd w A1 c1 ys) (hl0 : xs.length ≤ 274877906944) (hl1 : ys.length ≤ 274877906944) (x y z : Int) (hx : iv n0 xs = x) (hy : iv n1 ys = y) (hz : x + y = z) :
    Calls Tryd.prog 17 #[.agg #[.bool n0, .slice A0 xs.length c0], .agg #[.bool n1, .slice A1 ys.length c1]] w fun e w' => Res e w w' z := by subst hx hy hz; exact add_any n0 n1 A0 A1 c0 c1 xs ys w h0 h1 hl0 hl1
theorem sub_v (h0 : Rd w A0 c0 xs) (h1 : Rd w A1 c1 ys) (hl0 : xs.length ≤ 274877906944) (hl1 : ys.length ≤ 274877906944) (x y z : Int) (hx : iv n0 xs = x) (hy : iv n1 ys = y) (hz : x - y = z) :
    Calls Tryd.prog 20 #[.agg #[.bool n0, .slice A0 xs.length c0], .agg #[.bool n1, .slice A1 ys.length c1]] w fun e w' => Res e w w' z := by subst hx hy hz; exact sub_any n0 n1 A0 A1 c0 c1 xs ys w h0 h1 hl0 hl1
theorem mul_v (h0 : Rd w A0 c0 xs) (h1 : Rd w A1 c1 ys) (hl0 : xs.length ≤ 274877906944) (hl1 : ys.length ≤ 274877906944) (x y z : Int) (hx : iv n0 xs = x) (hy : iv n1 ys = y) (hz : x * y = z) :
    Calls Tryd.prog 18 #[.agg #[.bool n0, .slice A0 xs.length c0], .agg #[.bool n1, .slice A1 ys.length c1]] w fun e w' => Res e w w' z := by subst hx hy hz; exact mul_any n0 n1 A0 A1 c0 c1 xs ys w h0 h1 hl0 hl1
theorem abs_v (h0 : Rd w A0 c0 xs) (hl0 : xs.length ≤ 274877906944) (x z : Int) (hx : iv n0 xs = x) (hz : (x.natAbs : Int) = z) :
    Calls Tryd.prog 26 #[.agg #[.bool n0, .slice A0 xs.length c0]] w fun e w' => Res e w w' z := by subst hx hz; exact abs_any n0 A0 c0 xs w h0 hl0
theorem negate_v (h0 : Rd w A0 c0 xs) (hl0 : xs.length ≤ 274877906944) (x z : Int) (hx : iv n0 xs = x) (hz : -x = z) :
    Calls Tryd.prog 29 #[.agg #[.bool n0, .slice A0 xs.length c0]] w fun e w' => Res e w w' z := by subst hx hz; exact negate_any n0 A0 c0 xs w h0 hl0
theorem sign_v (h0 : Rd w A0 c0 xs) (hl0 : xs.length ≤ 274877906944) (x r : Int) (hx : iv n0 xs = x) (hr : cmpZ x 0 = r) :
    Calls Tryd.prog 19 #[.agg #[.bool n0, .slice A0 xs.length c0]] w fun e w' => e = .returned (.int .i64 r) ∧ Below w.heap.size w w' := by subst hx; exact sign_any n0 A0 c0 xs w h0 hl0 r hr
theorem compare_v (h0 : Rd w A0 c0 xs) (h1 : Rd w A1 c1 ys) (hl0 : xs.length ≤ 274877906944) (hl1 : ys.length ≤ 274877906944) (x y r : Int) (hx : iv n0 xs = x) (hy : iv n1 ys = y) (hr : cmpZ x y = r) :
    Calls Tryd.prog 25 #[.agg #[.bool n0, .slice A0 xs.length c0], .agg #[.bool n1, .slice A1 ys.length c1]] w fun e w' => e = .returned (.int .i64 r) ∧ Below w.heap.size w w' := by subst hx hy; exact Compare_any n0 n1 A0 A1 c0 c1 xs ys w h0 h1 hl0 hl1 r hr
theorem divmod_v (h0 : Rd w A0 c0 xs) (h1 : Rd w A1 c1 ys) (hl0 : xs.length ≤ 274877906944) (hl1 : ys.length ≤ 274877906944) (x y q r : Int) (hx : iv n0 xs = x) (hy : iv n1 ys = y) (hy0 : y ≠ 0) (hq : x.fdiv y = q) (hr : x.fmod y = r) :
    Calls Tryd.prog 14 #[.agg #[.bool n0, .slice A0 xs.length c0], .agg #[.bool n1, .slice A1 ys.length c1]] w fun e w' => Res2 e w w' q r 0 := by subst hx hy hq hr; exact DivMod_any n0 n1 A0 A1 c0 c1 xs ys w h0 h1 hl0 hl1 hy0
theorem same_v (x y : Int) (h0 : Rd w A0 c0 (mg x)) (h1 : Rd w A1 c1 (mg y)) (hl0 : (mg x).length ≤ 274877906944) (hl1 : (mg y).length ≤ 274877906944) (e : x = y) :
    Calls Tryd.prog 16 #[.agg #[.bool (ng x), .slice A0 (mg x).length c0], .agg #[.bool (ng y), .slice A1 (mg y).length c1]] w fun e w' => e = .returned (.bool true) ∧ Below w.heap.size w w' := by subst e; exact same_z x A0 A1 c0 c1 w h0 h1 hl0
end
theorem fdm (a b : Int) (hb : b ≠ 0) : (0 ≤ a.fmod b ∧ a.fmod b < b ∨ b < a.fmod b ∧ a.fmod b ≤ 0) ∧ b * a.fdiv b + a.fmod b = a := by
  rcases (show 0 < b ∨ b < 0 by omega) with h | h
  · have h1 := (Int.fdiv_fmod_unique (a := a) h).1 ⟨rfl, rfl⟩
    omega
  · have h1 := (Int.fdiv_fmod_unique' (a := a) h).1 ⟨rfl, rfl⟩
    omega
theorem mg_fdiv {a b : Int} {k : Nat} (hb : b ≠ 0) (ha : (mg a).length ≤ k) : (mg (a.fdiv b)).length ≤ k + 1 := by
  have h1 := mg_bound ha
  obtain ⟨h2, h3⟩ := fdm a b hb
  have hp := pw_pos k
  have h5 : pw (k + 1) = 4294967296 * pw k := by rw [pw]; omega
  have hab : (a.fdiv b).natAbs ≤ a.natAbs + 1 := by
    have h6 : (b * a.fdiv b).natAbs ≤ a.natAbs + b.natAbs := by omega
    rw [Int.natAbs_mul] at h6
    rcases Nat.eq_zero_or_pos (a.fdiv b).natAbs with e | e
    · omega
    · have h7 : b.natAbs * ((a.fdiv b).natAbs - 1) ≤ a.natAbs := by rw [Nat.mul_sub_one]; omega
      have h8 : 1 * ((a.fdiv b).natAbs - 1) ≤ b.natAbs * ((a.fdiv b).natAbs - 1) := Nat.mul_le_mul_right _ (by omega)
      omega
  exact mg_len (by omega) (by omega)
theorem keep3 (w : World) (a0 b0 a1 b1 a2 b2 : Value) (o : Obj) {wb : World} (h : (((w.alloc (.cells #[a0, b0] 24)).alloc (.cells #[a1, b1] 24)).alloc (.cells #[a2, b2] 24)).alloc o = wb) :
    Keep w wb [(w.heap.size, a0, b0), (w.heap.size + 1, a1, b1), (w.heap.size + 1 + 1, a2, b2)] [] := by
  subst h
  have h := (((Keep.start w).new a0 b0).new a1 b1).new a2 b2
  have h2 := h.alloc o
  refine ⟨h2.be, fun g a b hm => h2.bx g a b ?_, fun g a b hm => h2.ge g a b ?_, by simp; try omega, h2.rd⟩
  all_goals
    simp only [List.mem_cons, List.not_mem_nil, or_false, Prod.mk.injEq] at hm ⊢
    rcases hm with ⟨rfl, rfl, rfl⟩ | ⟨rfl, rfl, rfl⟩ | ⟨rfl, rfl, rfl⟩ <;> simp
theorem keep2 (w : World) (a0 b0 a1 b1 : Value) (o : Obj) {wb : World} (h : ((w.alloc (.cells #[a0, b0] 24)).alloc (.cells #[a1, b1] 24)).alloc o = wb) :
    Keep w wb [(w.heap.size, a0, b0), (w.heap.size + 1, a1, b1)] [] := by
  subst h
  have h := ((Keep.start w).new a0 b0).new a1 b1
  have h2 := h.alloc o
  refine ⟨h2.be, fun g a b hm => h2.bx g a b ?_, fun g a b hm => h2.ge g a b ?_, by simp; try omega, h2.rd⟩
  all_goals
    simp only [List.mem_cons, List.not_mem_nil, or_false, Prod.mk.injEq] at hm ⊢
    rcases hm with ⟨rfl, rfl, rfl⟩ | ⟨rfl, rfl, rfl⟩ <;> simp
theorem light_cells3 (W : World) (n0 n1 n2 : Bool) (A0 A1 A2 : Option Addr) (l0 l1 l2 c0 c1 c2 : Nat) (t : TypeId) {wb : World} (h : W.alloc (.cells #[.bool n0, .slice A0 l0 c0, .bool n1, .slice A1 l1 c1, .bool n2, .slice A2 l2 c2] t) = wb) (g : Nat) (hg : W.heap.size = g) :
    ∀ i, i < 3 → ∃ A c, wb.cell? ⟨g, i * 2 + 1, none⟩ = some (.slice A (lz [l0, l1, l2] i) c) := by
  subst hg
  intro i hi
  have hb : wb.heap[W.heap.size]? = some (.cells #[.bool n0, .slice A0 l0 c0, .bool n1, .slice A1 l1 c1, .bool n2, .slice A2 l2 c2] t (0, 0)) := by rw [← h]; exact heap_alloc_new W _
  match i, hi with
  | 0, _ => exact ⟨A0, c0, by simp [World.cell?, hb, lz]⟩
  | 1, _ => exact ⟨A1, c1, by simp [World.cell?, hb, lz]⟩
  | 2, _ => exact ⟨A2, c2, by simp [World.cell?, hb, lz]⟩
theorem light_cells2 (W : World) (n0 n1 : Bool) (A0 A1 : Option Addr) (l0 l1 c0 c1 : Nat) (t : TypeId) {wb : World} (h : W.alloc (.cells #[.bool n0, .slice A0 l0 c0, .bool n1, .slice A1 l1 c1] t) = wb) (g : Nat) (hg : W.heap.size = g) :
    ∀ i, i < 2 → ∃ A c, wb.cell? ⟨g, i * 2 + 1, none⟩ = some (.slice A (lz [l0, l1] i) c) := by
  subst hg
  intro i hi
  have hb : wb.heap[W.heap.size]? = some (.cells #[.bool n0, .slice A0 l0 c0, .bool n1, .slice A1 l1 c1] t (0, 0)) := by rw [← h]; exact heap_alloc_new W _
  match i, hi with
  | 0, _ => exact ⟨A0, c0, by simp [World.cell?, hb, lz]⟩
  | 1, _ => exact ⟨A1, c1, by simp [World.cell?, hb, lz]⟩
theorem light_cells1 (W : World) (n0 : Bool) (A0 : Option Addr) (l0 c0 : Nat) (t : TypeId) {wb : World} (h : W.alloc (.cells #[.bool n0, .slice A0 l0 c0] t) = wb) (g : Nat) (hg : W.heap.size = g) :
    ∀ i, i < 1 → ∃ A c, wb.cell? ⟨g, i * 2 + 1, none⟩ = some (.slice A (lz [l0] i) c) := by
  subst hg
  intro i hi
  have hb : wb.heap[W.heap.size]? = some (.cells #[.bool n0, .slice A0 l0 c0] t (0, 0)) := by rw [← h]; exact heap_alloc_new W _
  match i, hi with
  | 0, _ => exact ⟨A0, c0, by simp [World.cell?, hb, lz]⟩
end Go.Proofs.YtegnnghoiffmhaaDoor.Big
