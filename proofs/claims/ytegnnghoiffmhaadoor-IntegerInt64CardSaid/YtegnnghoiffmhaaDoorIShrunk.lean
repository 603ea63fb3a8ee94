/- integer.shrunk: a row of digits divided in place by one digit. -/
import Derived.Test.YtegnnghoiffmhaaDoorIBase
import Derived.Laws.BitsAllLaws
namespace Go.Proofs.YtegnnghoiffmhaaDoor.Big
open Go.RowKit Go.Proofs.YtegnnghoiffmhaaDoorW.PrintWords
set_option linter.unusedVariables false
set_option linter.unusedSimpArgs false
theorem or64_hi (r y : Int) (hr : 0 ≤ r ∧ r ≤ 4294967295) (hy : 0 ≤ y ∧ y ≤ 4294967295) : bits .or .u64 (r * 4294967296) y = r * 4294967296 + y := by
  obtain ⟨R, rfl⟩ := Int.eq_ofNat_of_zero_le hr.1
  obtain ⟨Y, rfl⟩ := Int.eq_ofNat_of_zero_le hy.1
  have h := Nat.two_pow_add_eq_or_of_lt (i := 32) (b := Y) (by omega) R
  have e : (R : Int) * 4294967296 = ((2 ^ 32 * R : Nat) : Int) := by omega
  rw [e, u64_or_nat _ _ (by omega) (by omega), ← h]
  omega
theorem or64_lo (r y : Int) (hr : 0 ≤ r ∧ r ≤ 4294967295) (hy : 0 ≤ y ∧ y ≤ 4294967295) : bits .or .u64 y (r * 4294967296) = y + r * 4294967296 := by
  have h := or64_hi r y hr hy
  obtain ⟨R, rfl⟩ := Int.eq_ofNat_of_zero_le hr.1
  obtain ⟨Y, rfl⟩ := Int.eq_ofNat_of_zero_le hy.1
  have e : (R : Int) * 4294967296 = ((2 ^ 32 * R : Nat) : Int) := by omega
  rw [e] at h ⊢
  rw [u64_or_nat _ _ (by omega) (by omega)] at h ⊢
  rw [Nat.or_comm, h]
  omega
theorem val_drop (xs : List Int) (k : Nat) (hk : k < xs.length) : val (xs.drop k) = dg xs k + 4294967296 * val (xs.drop (k + 1)) := by rw [drop_dg xs k hk]; rfl
theorem div_dig {rest d K : Int} (h0 : 0 ≤ rest) (h1 : rest < K) (hd : 0 ≤ d ∧ d ≤ 4294967295) : 0 ≤ (rest * 4294967296 + d) / K ∧ (rest * 4294967296 + d) / K ≤ 4294967295 ∧ 0 ≤ (rest * 4294967296 + d) % K ∧ (rest * 4294967296 + d) % K < K := by
  have hK : 0 < K := by omega
  refine ⟨Int.ediv_nonneg (by omega) (by omega), ?_, Int.emod_nonneg _ (by omega), Int.emod_lt_of_pos _ hK⟩
  have : (rest * 4294967296 + d) / K < 4294967296 := Int.ediv_lt_of_lt_mul hK (by omega)
  omega
theorem shr_next (w wr : World) (base g n cap gk k : Nat) (rest K d : Int) (cs xs : List Int) (hd : dg xs k = d) (hdd : 0 ≤ d ∧ d ≤ 4294967295)
    (h : k + 1 = gk ∧ k + 1 ≤ xs.length ∧ cs.length = xs.length ∧ (0 ≤ rest ∧ rest < K) ∧ cs.take (k + 1) = xs.take (k + 1) ∧ val (cs.drop (k + 1)) * K + rest = val (xs.drop (k + 1)) ∧ Ow wr base (.slice (some ⟨g, 0, none⟩) n cap) cs ∧ w.grownBy wr (some g)) :
    Aside0 (k = gk - 1 ∧ k ≤ xs.length ∧ (cs.set k ((rest * 4294967296 + d) / K)).length = xs.length ∧ (0 ≤ (rest * 4294967296 + d) % K ∧ (rest * 4294967296 + d) % K < K) ∧ (cs.set k ((rest * 4294967296 + d) / K)).take k = xs.take k ∧ val ((cs.set k ((rest * 4294967296 + d) / K)).drop k) * K + (rest * 4294967296 + d) % K = val (xs.drop k) ∧
      Ow (wr.setCell ⟨g, k, none⟩ (.int .u32 ((rest * 4294967296 + d) / K))) base (.slice (some ⟨g, 0, none⟩) n cap) (cs.set k ((rest * 4294967296 + d) / K)) ∧ w.grownBy (wr.setCell ⟨g, k, none⟩ (.int .u32 ((rest * 4294967296 + d) / K))) (some g)) := by
  obtain ⟨h1, h2, h3, h4, h5, h6, h7, h8⟩ := h
  have hq := div_dig h4.1 h4.2 hdd
  have hk : k < cs.length := by omega
  refine ⟨by omega, by omega, by simpa using h3, ⟨hq.2.2.1, hq.2.2.2⟩, ?_, ?_, h7.put k _ ⟨hq.1, hq.2.1⟩, grown_set h8⟩
  · rw [List.take_set, List.set_eq_of_length_le (by simp; omega)]
    have := congrArg (List.take k) h5
    rwa [List.take_take, List.take_take, show min k (k + 1) = k by omega] at this
  · rw [val_drop _ k (by simpa using hk), val_drop xs k (by omega), hd, ← h6, List.drop_set_of_lt (by omega)]
    have e0 : dg (cs.set k ((rest * 4294967296 + d) / K)) k = (rest * 4294967296 + d) / K := by simp [dg, List.getD_eq_getElem?_getD, hk]
    rw [e0]
    have e := Int.mul_ediv_add_emod (rest * 4294967296 + d) K
    grind
set_option maxRecDepth 100000 in
theorem shrunk_any (A : Option Addr) (c base : Nat) (xs : List Int) (K : Int) (w : World) (h : Ow w base (.slice A xs.length c) xs) (hK : 0 < K ∧ K ≤ 4294967295) (hl : xs.length ≤ 1099511627776) :
    Calls Tryd.prog 65 #[.slice A xs.length c, .int .u32 K] w fun e w' => ∃ ys, e = .returned (.int .u32 (val xs % K)) ∧ Ow w' base (.slice A xs.length c) ys ∧ val ys = val xs / K ∧ ys.length = xs.length ∧ w.grownBy w' (Value.slice A xs.length c).ownBlock := by
  have H := Aside0.mk h
  clear h
  obtain ⟨hK0, hK1⟩ := hK
  go_enter Tryd.func65, Tryd.ntmps65
  go_wp2
  go_loopg [5, 6] xs.length (fun kq v5 v6 w' => ∃ (k : Nat) (rest : Int) (cs : List Int), v5 = .int .u64 rest ∧ v6 = .int .i64 ((k : Int) - 1) ∧ Aside0 (k = kq ∧ k ≤ xs.length ∧ cs.length = xs.length ∧ (0 ≤ rest ∧ rest < K) ∧ cs.take k = xs.take k ∧ val (cs.drop k) * K + rest = val (xs.drop k) ∧ Ow w' base (.slice A xs.length c) cs ∧ w.grownBy w' (Value.slice A xs.length c).ownBlock))
  case atStart => exact ⟨xs.length, 0, xs, rfl, rfl, ⟨rfl, Nat.le_refl _, rfl, ⟨by omega, by omega⟩, rfl, by rw [List.drop_of_length_le (Nat.le_refl _)]; simp [val], H.out, World.grownBy.refl _ _⟩⟩
  case round =>
    obtain ⟨k, rest, cs, rfl, rfl, HA⟩ := hrel
    have r0 := HA.out.2.2.2.1.1
    have r1 := HA.out.2.2.2.1.2
    cases k with
    | zero =>
      go_wp2
      go_ret
      have h := HA.out
      have e := h.2.2.2.2.2.1
      simp only [List.drop_zero] at e
      have e1 : val xs % K = rest := by rw [← e, Int.add_comm, Int.add_mul_emod_self_right]; exact Int.emod_eq_of_lt r0 r1
      have e2 : val cs = val xs / K := by rw [← e, Int.add_comm, Int.add_mul_ediv_right _ _ (by omega), Int.ediv_eq_zero_of_lt r0 r1]; omega
      refine ⟨cs, ?_, h.2.2.2.2.2.2.1, e2, h.2.2.1, h.2.2.2.2.2.2.2⟩
      rw [e1]; rfl
    | succ k =>
      obtain ⟨g, cap, e, -⟩ := HA.out.2.2.2.2.2.2.1.form (by have := HA.out; omega)
      simp only [Value.slice.injEq] at e
      obtain ⟨rfl, -, rfl⟩ := e
      have hk : k < xs.length := by have := HA.out; omega
      have hk2 : k < 1099511627776 := by omega
      obtain ⟨y0, y1⟩ := HA.out.2.2.2.2.2.2.1.cell k hk
      have D := Aside0.mk (dg_dig H.out.dig k)
      have ed : dg cs k = dg xs k := by
        have := congrArg (fun l => dg l k) HA.out.2.2.2.2.1
        simpa [dg, List.getD_eq_getElem?_getD, List.getElem?_take] using this
      rw [ed] at y0
      have ho := or64_hi rest (dg xs k) ⟨r0, by omega⟩ D.out
      obtain ⟨q0, q1, q2, q3⟩ := div_dig r0 r1 D.out
      have d0 := D.out.1
      have d1 := D.out.2
      have r2 : rest ≤ 4294967295 := by omega
      clear ed
      go_wp2
      go_roundg (gk - 1)
      case measure => have := HA.out; omega
      case rel => exact ⟨k, _, _, rfl, by go_num, shr_next w wr base g _ c gk k rest K _ cs xs rfl D.out HA.out⟩
end Go.Proofs.YtegnnghoiffmhaaDoor.Big
