/- The reference's bitLen, shift and half. -/
import Derived.Test.YtegnnghoiffmhaaDoorKMath
import Derived.Test.YtegnnghoiffmhaaDoorMC
namespace Go.Proofs.YtegnnghoiffmhaaDoor.Big
open Go.RowKit Go.Proofs.YtegnnghoiffmhaaDoorW.PrintWords Go.Proofs.YtegnnghoiffmhaaDoorW.PrintLast
set_option linter.unusedVariables false
set_option linter.unusedSimpArgs false
attribute [local go_sem ↓] Go.wp_at_zero Go.wp_at_succ
set_option maxRecDepth 100000 in
theorem bitLen_ref (A : Option Addr) (c : Nat) (xs : List Int) (w : World) (h : Rd w A c xs) (hl : xs.length ≤ 1099511627776) :
    Calls Tryd.prog 71 #[.slice A xs.length c] w fun e w' => e = .returned (.int .i64 (bl (val xs))) ∧ w' = w := by
  have L0 := trimL_len xs
  have ht := trim_any A c xs w h hl
  have h1 := h.trim
  have h2 := trimL_trimL xs
  rw [← val_trim xs]
  obtain ⟨ts, hts⟩ : ∃ t, trimL xs = t := ⟨_, rfl⟩
  rw [hts] at L0 ht h1 h2 ⊢
  have HR := Aside0.mk h1
  have H2 := Aside0.mk h2
  clear h h1 h2 hts
  by_cases hz : ts.length = 0
  · have hn := List.eq_nil_of_length_eq_zero hz
    subst hn
    have HT := Aside0.mk ht
    clear ht
    go_enter Tryd.func71, Tryd.ntmps71
    go_wp2_with (first | (go_at_call 63; (with_reducible refine HT.out.mono ?_); rintro e w1 ⟨rfl, rfl⟩))
    go_ret
    exact ⟨rfl, rfl⟩
  · obtain ⟨p, hp⟩ : ∃ p, ts.length = p + 1 := ⟨ts.length - 1, by omega⟩
    have B := Aside0.mk (bl_top HR.out.dig hp H2.out)
    obtain ⟨ad, rfl, x0⟩ := HR.out.at_ p (by omega)
    have hpc : p + 1 ≤ c := by have := HR.out.le; omega
    have hp2 : p + 1 ≤ 1099511627776 := by omega
    rw [hp] at ht
    have HT := Aside0.mk ht
    have D := Aside0.mk (dg_dig HR.out.dig p)
    clear hz ht
    go_enter Tryd.func71, Tryd.ntmps71
    go_wp2_with (first | (go_at_call 63; (with_reducible refine HT.out.mono ?_); rintro e w1 ⟨rfl, rfl⟩))
    go_loopg [3, 4] 32 (fun kq v3 v4 w' => ∃ (x : Int) (k : Nat), v3 = .int .i64 (32 * (p : Int) + k) ∧ v4 = .int .u32 x ∧ Aside0 (k + bl x = bl (dg ts p) ∧ bl x ≤ kq ∧ k ≤ 32) ∧ (0 ≤ x ∧ x ≤ 4294967295) ∧ w' = w1)
    case atStart => exact ⟨_, 0, by go_num, rfl, ⟨by omega, bl32 D.out.2, by omega⟩, D.out, rfl⟩
    case round =>
      obtain ⟨x, k, rfl, rfl, HA, ⟨b0, b1⟩, rfl⟩ := hrel
      have hk := HA.out.2.2
      by_cases hx : 0 < x
      · have hh := bl_half hx
        have HH := Aside0.mk hh
        have hk2 : k + 1 ≤ 32 := by have := HA.out; have := bl32 D.out.2; omega
        clear hh
        go_wp2
        go_roundg (gk - 1)
        case measure => have := HA.out; have := HH.out; omega
        case rel => exact ⟨x / 2, k + 1, by go_num, by go_num, ⟨by have := HA.out; have := HH.out; omega, by have := HA.out; have := HH.out; omega, hk2⟩, ⟨by omega, by omega⟩, rfl⟩
      · go_wp2
        go_ret
        have h0 : bl x = 0 := by rw [show x = 0 by omega]; rfl
        have h1 := HA.out
        have h2 := B.out.2
        have e : (32 * (p : Int) + k) = ((bl (val ts) : Nat) : Int) := by omega
        exact ⟨by rw [← e]; rfl, rfl⟩
theorem sh2_next (w wr : World) (g n cap gk k m s : Nat) (x : Int) (cs xs : List Int) (hs : s < 32) (ex : dg xs k = x) (dx : 0 ≤ x ∧ x ≤ 4294967295) (hk : k < xs.length)
    (h : k + gk = xs.length ∧ cs.length = xs.length + m + 1 ∧ val cs = val (xs.take k) * 2 ^ s * pw m ∧ (0 ≤ dg cs (k + m) ∧ dg cs (k + m) < 2 ^ s) ∧ (∀ j, k + m < j → dg cs j = 0) ∧ Own w wr (.slice (some ⟨g, 0, none⟩) n cap) cs) :
    Aside0 (k + 1 + (gk - 1) = xs.length ∧ ((cs.set (k + m) (dg cs (k + m) + x * 2 ^ s % 4294967296)).set (k + m + 1) (x * 2 ^ s / 4294967296)).length = xs.length + m + 1 ∧ val ((cs.set (k + m) (dg cs (k + m) + x * 2 ^ s % 4294967296)).set (k + m + 1) (x * 2 ^ s / 4294967296)) = val (xs.take (k + 1)) * 2 ^ s * pw m ∧ (0 ≤ dg ((cs.set (k + m) (dg cs (k + m) + x * 2 ^ s % 4294967296)).set (k + m + 1) (x * 2 ^ s / 4294967296)) (k + 1 + m) ∧ dg ((cs.set (k + m) (dg cs (k + m) + x * 2 ^ s % 4294967296)).set (k + m + 1) (x * 2 ^ s / 4294967296)) (k + 1 + m) < 2 ^ s) ∧
      (∀ j, k + 1 + m < j → dg ((cs.set (k + m) (dg cs (k + m) + x * 2 ^ s % 4294967296)).set (k + m + 1) (x * 2 ^ s / 4294967296)) j = 0) ∧
      Own w ((wr.setCell ⟨g, k + m, none⟩ (.int .u32 (dg cs (k + m) + x * 2 ^ s % 4294967296))).setCell ⟨g, k + m + 1, none⟩ (.int .u32 (x * 2 ^ s / 4294967296))) (.slice (some ⟨g, 0, none⟩) n cap) ((cs.set (k + m) (dg cs (k + m) + x * 2 ^ s % 4294967296)).set (k + m + 1) (x * 2 ^ s / 4294967296))) := by
  obtain ⟨h1, h2, h3, h4, h5, h6⟩ := h
  obtain ⟨f1, f2, f3, f4⟩ := sh_facts hs dx
  have hb : dg cs (k + m) + x * 2 ^ s % 4294967296 ≤ 4294967295 := by
    have h := sh_or hs (dg cs (k + m)) x h4 dx
    rw [← h]
    obtain ⟨O, hO⟩ := Int.eq_ofNat_of_zero_le h4.1
    obtain ⟨M, hM⟩ := Int.eq_ofNat_of_zero_le (show 0 ≤ x * 2 ^ s % 4294967296 by omega)
    have p := pow_bounds hs
    rw [hO, hM, u32_or_nat _ _ (by omega) (by omega)]
    have : O ||| M < 2 ^ 32 := Nat.or_lt_two_pow (by omega) (by omega)
    omega
  have hp := pow_bounds hs
  rw [show k + 1 + m = k + m + 1 by omega]
  refine ⟨by omega, by simpa using h2, ?_, ?_, ?_, (h6.put (k + m) _ (by omega) ⟨by omega, hb⟩).put (k + m + 1) _ (by simp; omega) (by omega)⟩
  · rw [val_set _ _ _ (by simp; omega), val_set _ _ _ (by omega), dg_set_ne' _ _ _ _ (by omega), h5 (k + m + 1) (by omega), val_take xs, h3, ex]
    have e := Int.mul_ediv_add_emod (x * 2 ^ s) 4294967296
    simp only [pw, pw_add]
    generalize pw k = a at *
    generalize pw m = b at *
    generalize (2 : Int) ^ s = t at *
    grind
  · rw [dg_set_self _ _ _ (by simp; omega)]; exact ⟨f3, f4⟩
  · intro j hj
    rw [dg_set_ne' _ _ _ _ (by omega), dg_set_ne' _ _ _ _ (by omega)]
    exact h5 j (by omega)
/-- A row of the call's own, cut to its digits. -/
theorem Own.trimmed {w w' : World} {A : Option Addr} {n c : Nat} {xs : List Int} (h : Own w w' (.slice A n c) xs) : Own w w' (.slice A (trimL xs).length c) (trimL xs) := ⟨h.ow.trim, h.be⟩
set_option maxRecDepth 100000 in
theorem shift_ref (A : Option Addr) (c n m s : Nat) (xs : List Int) (w : World) (h : Rd w A c xs) (hn : n = 32 * m + s) (hs : s < 32) (hl : xs.length ≤ 274877906944) (hm : m ≤ 274877906944) :
    Calls Tryd.prog 72 #[.slice A xs.length c, .int .i64 n] w fun e w' => ∃ A' c' cs, e = .returned (.slice A' cs.length c') ∧ Own w w' (.slice A' cs.length c') cs ∧ val cs = val xs * 2 ^ n ∧ trimL cs = cs := by
  have H := Aside0.mk h
  have e1 : Int.tdiv (n : Int) 32 = (m : Int) := by rw [Int.tdiv_eq_ediv_of_nonneg (by omega)]; omega
  have e2 : Int.tmod (n : Int) 32 = (s : Int) := by rw [Int.tmod_eq_emod_of_nonneg (by omega)]; omega
  have hn2 : n < 9007199254740992 := by omega
  have HN := Aside0.mk hn
  clear h hn
  go_enter Tryd.func72, Tryd.ntmps72
  go_wp2_with (first | ((with_reducible refine gate_dst (N := 14) rfl ?_); refine make_u32 rfl rfl _ _ rfl (xs.length + m + 1) (by rfl) (by rfl) (by omega) ?_; intro v5 w1 ho hb; have HO := Aside0.mk (Own.mk ho hb); clear ho hb))
  go_loopg [6, 7] xs.length (fun kq v6 v7 w' => ∃ (k : Nat) (cs : List Int), v6 = .int .i64 k ∧ Aside0 (k + kq = xs.length ∧ cs.length = xs.length + m + 1 ∧ val cs = val (xs.take k) * 2 ^ s * pw m ∧ (0 ≤ dg cs (k + m) ∧ dg cs (k + m) < 2 ^ s) ∧ (∀ j, k + m < j → dg cs j = 0) ∧ Own w w' v5 cs))
  case atStart => exact ⟨0, List.replicate (xs.length + m + 1) 0, rfl, ⟨by omega, by simp, by rw [val_zeros]; simp [val], ⟨by simp [dg, List.getD_eq_getElem?_getD, List.getElem?_replicate]; split <;> simp, by have := pow_bounds hs; simp [dg, List.getD_eq_getElem?_getD, List.getElem?_replicate]; split <;> simp <;> omega⟩, fun j _ => by simp [dg, List.getD_eq_getElem?_getD, List.getElem?_replicate]; split <;> rfl, HO.out⟩⟩
  case round =>
    clear HO
    obtain ⟨k, cs, rfl, HA⟩ := hrel
    obtain ⟨g, cap, rfl, -⟩ := HA.out.2.2.2.2.2.ow.form (by have := HA.out; omega)
    by_cases hk : k < xs.length
    · obtain ⟨ad0, rfl, x0⟩ := H.out.at_ k hk
      replace x0 := (HA.out.2.2.2.2.2.be.cell (World.block_lt_of_cell? w _ x0)).trans x0
      have hk1 : k + m < cs.length := by have := HA.out; omega
      have hk2 : k + m + 1 < cs.length := by have := HA.out; omega
      have hk3 : k < 549755813888 := by omega
      have hk4 : k ≤ 274877906944 := by omega
      obtain ⟨y0, y1⟩ := HA.out.2.2.2.2.2.ow.cell (k + m) hk1
      obtain ⟨z0, z1⟩ := HA.out.2.2.2.2.2.ow.cell (k + m + 1) hk2
      have D := Aside0.mk (dg_dig H.out.dig k)
      have d0 := D.out.1
      have d1 := D.out.2
      have f := sh_facts hs D.out
      have e3 : IntKind.u64.wrap (dg xs k * 2 ^ s) = dg xs k * 2 ^ s := IntWalk.u64_in _ ⟨f.1, by omega⟩
      have e4 := sh_or hs (dg cs (k + m)) (dg xs k) HA.out.2.2.2.1 D.out
      have e5 : dg xs k * 2 ^ s / 4294967296 % 4294967296 = dg xs k * 2 ^ s / 4294967296 := by omega
      clear f
      go_wp2
      go_roundg (gk - 1)
      case measure => have := HA.out; omega
      case rel => exact ⟨k + 1, _, by go_num, sh2_next w wr g _ cap gk k m s _ cs xs hs rfl D.out hk HA.out⟩
    · have h := HA.out
      have HV := Aside0.mk (show val (trimL cs) = val xs * 2 ^ n by rw [val_trim, h.2.2.1, List.take_of_length_le (by omega), HN.out, Int.pow_add, pw_two]; grind)
      clear h
      go_wp2_with (first | (go_at_call 63; (with_reducible refine (trim_any _ _ _ _ HA.out.2.2.2.2.2.ow.rd'.2 (by have := HA.out; omega)).mono ?_); rintro e w1 ⟨rfl, rfl⟩))
      go_ret
      exact ⟨_, _, trimL cs, rfl, HA.out.2.2.2.2.2.trimmed, HV.out, trimL_trimL _⟩
theorem half_or (x y : Int) (hx : 0 ≤ x ∧ x ≤ 4294967295) (hy : 0 ≤ y) : bits .or .u32 (x / 2) (y * 2147483648 % 4294967296) = x / 2 + y % 2 * 2147483648 := by
  obtain ⟨X, hX⟩ := Int.eq_ofNat_of_zero_le (show 0 ≤ x / 2 by omega)
  obtain ⟨M, hM⟩ := Int.eq_ofNat_of_zero_le (show 0 ≤ y % 2 by omega)
  have e : y * 2147483648 % 4294967296 = ((2 ^ 31 * M : Nat) : Int) := by omega
  rw [hX, e, u32_or_nat _ _ (by omega) (by omega), Nat.or_comm, ← Nat.two_pow_add_eq_or_of_lt (show X < 2 ^ 31 by omega)]
  omega
theorem Own.drew {w w' : World} {v : Value} {xs : List Int} (h : Own w w' v xs) : Own w w'.drew v xs := ⟨h.ow.below (below_drew (Below.refl _ _)), below_drew h.be⟩
theorem half_next (w wr : World) (g n cap gk k : Nat) (cs xs : List Int) (hd : ∀ x ∈ xs, 0 ≤ x ∧ x ≤ 4294967295) (hk : k < xs.length)
    (h : k + gk = xs.length ∧ cs.length = xs.length ∧ cs.take k = (halfL xs).take k ∧ Own w wr (.slice (some ⟨g, 0, none⟩) n cap) cs) :
    Aside0 (k + 1 + (gk - 1) = xs.length ∧ (cs.set k (dg (halfL xs) k)).length = xs.length ∧ (cs.set k (dg (halfL xs) k)).take (k + 1) = (halfL xs).take (k + 1) ∧ Own w (wr.setCell ⟨g, k, none⟩ (.int .u32 (dg (halfL xs) k))).drew (.slice (some ⟨g, 0, none⟩) n cap) (cs.set k (dg (halfL xs) k))) := by
  obtain ⟨h1, h2, h3, h4⟩ := h
  exact ⟨by omega, by simpa using h2, set_take_next (by rw [halfL_len, h2]) (by omega) h3, (h4.put k _ (by omega) (dg_dig (halfL_dig xs hd) k)).drew⟩
set_option maxRecDepth 100000 in
theorem half_ref (A : Option Addr) (c : Nat) (xs : List Int) (w : World) (h : Rd w A c xs) (hl : xs.length ≤ 274877906944) :
    Calls Tryd.prog 79 #[.slice A xs.length c] w fun e w' => ∃ A' c' cs, e = .returned (.slice A' cs.length c') ∧ Own w w' (.slice A' cs.length c') cs ∧ val cs = val xs / 2 ∧ trimL cs = cs := by
  have H := Aside0.mk h
  clear h
  go_enter Tryd.func79, Tryd.ntmps79
  go_wp2_with (first | ((with_reducible refine gate_dst (N := 7) rfl ?_); refine make_u32 rfl rfl _ _ rfl xs.length (by rfl) (by rfl) (by omega) ?_; intro v3 w1 ho hb; have HO := Aside0.mk (Own.mk ho hb); clear ho hb))
  go_loopg [4] xs.length (fun kq v4 w' => ∃ (k : Nat) (cs : List Int), v4 = .int .i64 k ∧ Aside0 (k + kq = xs.length ∧ cs.length = xs.length ∧ cs.take k = (halfL xs).take k ∧ Own w w' v3 cs))
  case atStart => exact ⟨0, List.replicate xs.length 0, rfl, ⟨by omega, by simp, by simp, HO.out⟩⟩
  case round =>
    clear HO
    obtain ⟨k, cs, rfl, HA⟩ := hrel
    by_cases hk : k < xs.length
    · obtain ⟨g, cap, rfl, -⟩ := HA.out.2.2.2.ow.form (by have := HA.out; omega)
      have BX := Aside0.mk HA.out.2.2.2.drew
      obtain ⟨ad0, rfl, x0⟩ := (H.out.below BX.out.be).at_ k hk
      have hk1 : k < cs.length := by have := HA.out; omega
      have hk3 : k < 274877906944 := by omega
      have x1 : wr.cell? (ad0.add k) = some (.int .u32 (dg xs k)) := x0
      have hne : (ad0.add k).block ≠ g := by
        have h1 := (H.out.at_ k hk)
        obtain ⟨ad1, e1, h2⟩ := h1
        injection e1 with e1
        subst e1
        have h3 := World.block_lt_of_cell? w _ h2
        have h4 := BX.out.ow.from_ g rfl
        omega
      obtain ⟨y0, y1⟩ := BX.out.ow.cell k hk1
      have D := Aside0.mk (dg_dig H.out.dig k)
      have d0 := D.out.1
      have d1 := D.out.2
      have D1 := Aside0.mk (dg_dig H.out.dig (k + 1))
      have f0 := D1.out.1
      have f1 := D1.out.2
      have e3 : IntKind.u64.wrap (dg xs (k + 1) * 2147483648) = dg xs (k + 1) * 2147483648 := IntWalk.u64_in _ ⟨by omega, by omega⟩
      have e4 := half_or (dg xs k) (dg xs (k + 1)) D.out f0
      have k0 : Calls Tryd.prog 57 #[.slice (some ad0) xs.length c, .int .i64 (IntKind.i64.wrap ((k : Int) + 1))] wr.drew fun e w' => e = .returned (.int .u64 (dg xs (k + 1))) ∧ w' = wr.drew := by
        rw [show IntKind.i64.wrap ((k : Int) + 1) = ((k + 1 : Nat) : Int) by rw [IntKind.wrap_i64]; omega]
        exact digit_ref (some ad0) c xs (k + 1) _ (H.out.below BX.out.be) (by omega) (by omega)
      have K0 := Aside0.mk k0
      clear k0
      go_wp2
      go_region_held3 (fun w' => w'.cell? (ad0.add k) = some (.int .u32 (dg xs k)))
        (first | with_reducible exact x0 | exact far_cell hne x1)
        (first | (go_simp; go_at_call 57; (with_reducible refine K0.out.mono ?_); rintro e w2 ⟨rfl, rfl⟩))
      have e5 : bits .or .u32 (dg xs k / 2) (IntKind.u32.wrap (dg xs (k + 1) * 2147483648)) = dg (halfL xs) k := by rw [IntKind.wrap_u32, e4, halfL_dg xs k hk]
      rw [e5]
      clear e3 e4 e5
      go_wp2
      go_roundg (gk - 1)
      case measure => have := HA.out; omega
      case rel => exact ⟨k + 1, _, by go_num, half_next w wr g _ cap gk k cs xs H.out.dig hk HA.out⟩
    · have HV := Aside0.mk (show cs = halfL xs by
        have h := HA.out
        have h3 := h.2.2.1
        rwa [List.take_of_length_le (by omega), List.take_of_length_le (by rw [halfL_len]; omega)] at h3)
      obtain ⟨A', c', rfl, hR⟩ := HA.out.2.2.2.ow.rd
      have HRR := Aside0.mk hR
      clear hR
      go_wp2_with (first | (go_at_call 63; (with_reducible refine (trim_any _ _ _ _ HRR.out (by have := HA.out; omega)).mono ?_); rintro e w1 ⟨rfl, rfl⟩))
      go_ret
      exact ⟨_, _, trimL cs, rfl, HA.out.2.2.2.trimmed, by rw [val_trim, HV.out, halfL_val], trimL_trimL _⟩
end Go.Proofs.YtegnnghoiffmhaaDoor.Big
