/- integer.plus: the sum of two rows of digits. -/
import Derived.Test.YtegnnghoiffmhaaDoorIBase
namespace Go.Proofs.YtegnnghoiffmhaaDoor.Big
open Go.RowKit Go.Proofs.YtegnnghoiffmhaaDoorW.PrintWords
set_option linter.unusedVariables false
set_option linter.unusedSimpArgs false
theorem add32_any (x y c : Int) (w : World) (hx : 0 ≤ x ∧ x ≤ 4294967295) (hy : 0 ≤ y ∧ y ≤ 4294967295) (hc : 0 ≤ c ∧ c ≤ 1) :
    Calls Tryd.prog 85 #[.int .u32 x, .int .u32 y, .int .u32 c] w fun e w' => e = .returned (.tuple #[.int .u32 ((x + y + c) % 4294967296), .int .u32 ((x + y + c) / 4294967296)]) ∧ w = w' := by
  obtain ⟨hx0, hx1⟩ := hx
  obtain ⟨hy0, hy1⟩ := hy
  obtain ⟨hc0, hc1⟩ := hc
  go_enter Tryd.func85, Tryd.ntmps85
  go_wp2
  go_ret2
  exact ⟨rfl, rfl⟩
theorem plus_next (w wr : World) (g n cap gk k : Nat) (c x y : Int) (cs xs ys : List Int) (hk : k < xs.length) (ex : dg xs k = x) (ey : dg ys k = y) (dx : 0 ≤ x ∧ x ≤ 4294967295) (dy : 0 ≤ y ∧ y ≤ 4294967295)
    (h : k + gk = xs.length ∧ (0 ≤ c ∧ c ≤ 1) ∧ cs.length = xs.length + 1 ∧ val (cs.take k) + c * pw k = val (xs.take k) + val (ys.take k) ∧ Own w wr (.slice (some ⟨g, 0, none⟩) n cap) cs) :
    Aside0 (k + 1 + (gk - 1) = xs.length ∧ (0 ≤ (x + y + c) / 4294967296 ∧ (x + y + c) / 4294967296 ≤ 1) ∧ (cs.set k ((x + y + c) % 4294967296)).length = xs.length + 1 ∧ val ((cs.set k ((x + y + c) % 4294967296)).take (k + 1)) + (x + y + c) / 4294967296 * pw (k + 1) = val (xs.take (k + 1)) + val (ys.take (k + 1)) ∧
      Own w (wr.setCell ⟨g, k, none⟩ (.int .u32 ((x + y + c) % 4294967296))) (.slice (some ⟨g, 0, none⟩) n cap) (cs.set k ((x + y + c) % 4294967296))) := by
  obtain ⟨h1, h2, h3, h4, h5⟩ := h
  refine ⟨by omega, by omega, by simpa using h3, ?_, h5.put k _ (by omega) (by omega)⟩
  rw [set_take cs k _ (by omega), val_append, val_take xs, val_take ys, List.length_take, show min k cs.length = k by omega, ex, ey]
  have e := Int.mul_ediv_add_emod (x + y + c) 4294967296
  simp only [val, pw]
  grind
set_option maxRecDepth 100000 in
theorem plus_any (A0 A1 : Option Addr) (c0 c1 : Nat) (xs ys : List Int) (w : World) (h0 : Rd w A0 c0 xs) (h1 : Rd w A1 c1 ys) (hl0 : xs.length ≤ 549755813888) (hl1 : ys.length ≤ 549755813888) :
    Calls Tryd.prog 80 #[.slice A0 xs.length c0, .slice A1 ys.length c1] w fun e w' => ∃ v cs, e = .returned v ∧ Own w w' v cs ∧ val cs = val xs + val ys ∧ cs.length = max xs.length ys.length + 1 := by
  have H := Aside0.mk (And.intro h0 (And.intro h1 (And.intro hl0 hl1)))
  clear h0 h1
  go_enter Tryd.func80, Tryd.ntmps80
  go_upto_if 14 with (fail)
  go_cut [0, 1] (fun v0 v1 wc => ∃ (A0' A1' : Option Addr) (c0' c1' : Nat) (xs' ys' : List Int), v0 = .slice A0' xs'.length c0' ∧ v1 = .slice A1' ys'.length c1' ∧ Aside0 (Rd w A0' c0' xs' ∧ Rd w A1' c1' ys' ∧ xs'.length ≤ 549755813888 ∧ ys'.length ≤ xs'.length ∧ val xs' + val ys' = val xs + val ys ∧ xs'.length + 1 = max xs.length ys.length + 1) ∧ wc = w)
  case first =>
    by_cases hlt : xs.length < ys.length
    · go_wp2
      go_meet
      case rel => exact ⟨A1, A0, c1, c0, ys, xs, rfl, rfl, ⟨H.out.2.1, H.out.1, hl1, by omega, by omega, by omega⟩, rfl⟩
    · go_wp2
      go_meet
      case rel => exact ⟨A0, A1, c0, c1, xs, ys, rfl, rfl, ⟨H.out.1, H.out.2.1, hl0, by omega, by omega, by omega⟩, rfl⟩
  case rest =>
    obtain ⟨B0, B1, d0, d1, us, vs, rfl, rfl, HC, rfl⟩ := hcut
    have hla : us.length ≤ 549755813888 := HC.out.2.2.1
    go_wp2_with (first | ((with_reducible refine gate_dst (N := 20) rfl ?_); refine make_u32 rfl rfl _ _ rfl (us.length + 1) rfl rfl (by omega) ?_; intro v5 w1 ho hb; have HO := Aside0.mk (Own.mk ho hb); clear ho hb))
    go_loopg [6, 23] us.length (fun kq v6 v23 w' => ∃ (k : Nat) (c : Int) (cs : List Int), v6 = .int .u32 c ∧ v23 = .int .i64 k ∧ Aside0 (k + kq = us.length ∧ (0 ≤ c ∧ c ≤ 1) ∧ cs.length = us.length + 1 ∧ val (cs.take k) + c * pw k = val (us.take k) + val (vs.take k) ∧ Own wc w' v5 cs))
    case atStart => exact ⟨0, 0, List.replicate (us.length + 1) 0, rfl, rfl, ⟨by omega, by omega, by simp, by simp [val], HO.out⟩⟩
    case round =>
      clear HO
      obtain ⟨k, c, cs, rfl, rfl, HA⟩ := hrel
      obtain ⟨g, cap, rfl, -⟩ := HA.out.2.2.2.2.ow.form (by have := HA.out; omega)
      have ecs := Aside0.mk HA.out.2.2.1
      by_cases hk : k < us.length
      · obtain ⟨ad0, rfl, x0⟩ := HC.out.1.at_ k hk
        replace x0 := (HA.out.2.2.2.2.be.cell (World.block_lt_of_cell? wc _ x0)).trans x0
        have d0 := Aside0.mk (dg_dig HC.out.1.dig k)
        have hk1 : k < cs.length := by have := ecs.out; omega
        obtain ⟨y0, y1⟩ := HA.out.2.2.2.2.ow.cell k hk1
        by_cases hm : k < vs.length
        · have d1 := Aside0.mk (dg_dig HC.out.2.1.dig k)
          obtain ⟨ad1, rfl, x1⟩ := HC.out.2.1.at_ k hm
          replace x1 := (HA.out.2.2.2.2.be.cell (World.block_lt_of_cell? wc _ x1)).trans x1
          go_wp2_with (first | (go_at_call 85; (with_reducible refine (add32_any (dg us k) (dg vs k) c _ d0.out d1.out HA.out.2.1).mono ?_); rintro e w' ⟨rfl, rfl⟩))
          go_roundg (gk - 1)
          case measure => have := HA.out; omega
          case rel => exact ⟨k + 1, _, _, rfl, by go_num, plus_next wc wr g _ cap gk k c _ _ cs us vs hk rfl rfl d0.out d1.out HA.out⟩
        · have z := Aside0.mk (dg_ge vs k (by omega))
          go_wp2_with (first | (go_at_call 85; (with_reducible refine (add32_any (dg us k) 0 c _ d0.out (by omega) HA.out.2.1).mono ?_); rintro e w' ⟨rfl, rfl⟩))
          go_roundg (gk - 1)
          case measure => have := HA.out; omega
          case rel => exact ⟨k + 1, _, _, rfl, by go_num, by have h := plus_next wc wr g _ cap gk k c _ 0 cs us vs hk rfl z.out d0.out (by omega) HA.out; rw [Int.add_zero] at h; exact h⟩
      · have hn : us.length < cs.length := by have := ecs.out; omega
        obtain ⟨y0, y1⟩ := HA.out.2.2.2.2.ow.cell us.length hn
        go_wp2
        go_ret
        have h := HA.out
        have ek : k = us.length := by omega
        subst ek
        refine ⟨_, cs.set us.length c, rfl, h.2.2.2.2.put us.length c (by omega) (by omega), ?_, by rw [List.length_set, h.2.2.1]; exact HC.out.2.2.2.2.2⟩
        have h4 := h.2.2.2.1
        rw [← List.take_of_length_le (l := cs.set us.length c) (i := us.length + 1) (by simp; omega), set_take cs _ _ (by omega), val_append, List.length_take, show min us.length cs.length = us.length by omega]
        rw [List.take_of_length_le (l := us) (by omega), List.take_of_length_le (l := vs) (by have := HC.out; omega)] at h4
        rw [← HC.out.2.2.2.2.1, ← h4]
        simp only [val]
        grind
end Go.Proofs.YtegnnghoiffmhaaDoor.Big
