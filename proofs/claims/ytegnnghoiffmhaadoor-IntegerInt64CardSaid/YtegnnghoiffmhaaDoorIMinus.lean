/- integer.minus. -/
import Derived.Test.YtegnnghoiffmhaaDoorIBase
import Derived.Test.YtegnnghoiffmhaaDoorISub
namespace Go.Proofs.YtegnnghoiffmhaaDoor.Big
open Go.RowKit Go.Proofs.YtegnnghoiffmhaaDoorW.PrintWords
set_option linter.unusedVariables false
set_option linter.unusedSimpArgs false
theorem minus_next (w wr : World) (g cap gk k : Nat) (c : Int) (cs xs ys : List Int) (hk : k < xs.length) (h : k + gk = xs.length ∧ (0 ≤ c ∧ c ≤ 1) ∧ cs.length = xs.length ∧ cs.take k ++ subL (xs.drop k) (ys.drop k) c = subL xs ys 0 ∧ Ow wr w.heap.size (.slice (some ⟨g, 0, none⟩) cs.length cap) cs ∧ Below w.heap.size w wr) :
    Aside0 (k + 1 + (gk - 1) = xs.length ∧ (0 ≤ bor (dg xs k) (dg ys k) c ∧ bor (dg xs k) (dg ys k) c ≤ 1) ∧ (cs.set k ((dg xs k - dg ys k - c) % 4294967296)).length = xs.length ∧ (cs.set k ((dg xs k - dg ys k - c) % 4294967296)).take (k + 1) ++ subL (xs.drop (k + 1)) (ys.drop (k + 1)) (bor (dg xs k) (dg ys k) c) = subL xs ys 0 ∧
      Ow (wr.setCell ⟨g, k, none⟩ (.int .u32 ((dg xs k - dg ys k - c) % 4294967296))) w.heap.size (.slice (some ⟨g, 0, none⟩) cs.length cap) (cs.set k ((dg xs k - dg ys k - c) % 4294967296)) ∧ Below w.heap.size w (wr.setCell ⟨g, k, none⟩ (.int .u32 ((dg xs k - dg ys k - c) % 4294967296)))) := by
  obtain ⟨h1, h2, h3, h4, h5, h6⟩ := h
  refine ⟨by omega, bor01 _ _ _, by simpa using h3, ?_, h5.put k _ (by omega), ?_⟩
  · rw [set_take cs k _ (by omega), ← h4, subL_step xs ys k c hk]; simp
  · obtain ⟨g', cap', e, hg, _⟩ := h5.form (by omega)
    cases e
    exact below_set h6 hg
set_option maxRecDepth 100000 in
theorem minus_any (A0 A1 : Option Addr) (c0 c1 : Nat) (xs ys : List Int) (w : World) (h0 : Rd w A0 c0 xs) (h1 : Rd w A1 c1 ys) (hl : xs.length ≤ 1099511627776) (hl1 : ys.length ≤ 1099511627776) :
    Calls Tryd.prog 81 #[.slice A0 xs.length c0, .slice A1 ys.length c1] w fun e w' => ∃ v, e = .returned v ∧ Ow w' w.heap.size v (subL xs ys 0) ∧ Below w.heap.size w w' := by
  have H0 := Aside0.mk h0
  have H1 := Aside0.mk h1
  clear h0 h1
  go_enter Tryd.func81, Tryd.ntmps81
  go_wp2_with (first | ((with_reducible refine gate_dst (N := 12) rfl ?_); refine make_u32 rfl rfl _ _ rfl xs.length rfl rfl hl ?_; intro v5 w1 ho hb; have HO := Aside0.mk ho; have HB := Aside0.mk hb; clear ho hb))
  go_loopg [6, 15] xs.length (fun kq v6 v15 w' => ∃ (k : Nat) (c : Int) (cs : List Int), v6 = .int .u32 c ∧ v15 = .int .i64 k ∧ Aside0 (k + kq = xs.length ∧ (0 ≤ c ∧ c ≤ 1) ∧ cs.length = xs.length ∧ cs.take k ++ subL (xs.drop k) (ys.drop k) c = subL xs ys 0 ∧ Ow w' w.heap.size v5 cs ∧ Below w.heap.size w w'))
  case atStart => exact ⟨0, 0, List.replicate xs.length 0, rfl, rfl, ⟨by omega, by omega, by simp, by simp, HO.out, HB.out⟩⟩
  case round =>
    clear HO HB
    obtain ⟨k, c, cs, rfl, rfl, HA⟩ := hrel
    by_cases hk : k < xs.length
    · obtain ⟨ad0, rfl, x0⟩ := H0.out.at_ k hk
      replace x0 := (HA.out.2.2.2.2.2.cell (World.block_lt_of_cell? w _ x0)).trans x0
      have d0 := Aside0.mk (dg_dig H0.out.dig k)
      have d1 := Aside0.mk (dg_dig H1.out.dig k)
      obtain ⟨g, cap, rfl, hg⟩ := HA.out.2.2.2.2.1.form (by have := HA.out.2.2.1; omega)
      obtain ⟨y0, y1⟩ := HA.out.2.2.2.2.1.cell k (by have := HA.out.2.2.1; omega)
      clear hg
      have hcs : k < cs.length := by have := HA.out.2.2.1; omega
      by_cases hm : k < ys.length
      · obtain ⟨ad1, rfl, x1⟩ := H1.out.at_ k hm
        replace x1 := (HA.out.2.2.2.2.2.cell (World.block_lt_of_cell? w _ x1)).trans x1
        go_wp2_with (first | (go_at_call 84; (with_reducible refine (sub32_any (dg xs k) (dg ys k) c _ d0.out d1.out HA.out.2.1).mono ?_); rintro e w' ⟨rfl, rfl⟩))
        go_roundg (gk - 1)
        case measure => have := HA.out; omega
        case rel => exact ⟨k + 1, _, _, rfl, by go_num, minus_next w wr g cap gk k c cs xs ys hk HA.out⟩
      · have z : dg ys k = 0 := dg_ge ys k (by omega)
        have Z := Aside0.mk z
        rw [z] at d1
        clear z
        go_wp2_with (first | (go_at_call 84; (with_reducible refine (sub32_any (dg xs k) 0 c _ d0.out d1.out HA.out.2.1).mono ?_); rintro e w' ⟨rfl, rfl⟩))
        go_roundg (gk - 1)
        case measure => have := HA.out; omega
        case rel => exact ⟨k + 1, _, _, rfl, by go_num, by have h := minus_next w wr g cap gk k c cs xs ys hk HA.out; rw [Z.out, Int.sub_zero] at h; exact h⟩
    · go_wp2
      go_ret
      exact ⟨_, rfl, by have h := HA.out; have e : subL xs ys 0 = cs := (by have h1 := h.2.2.2.1; rw [List.drop_of_length_le (by omega), List.take_of_length_le (by omega)] at h1; simpa [subL] using h1.symm); rw [e]; exact h.2.2.2.2.1, HA.out.2.2.2.2.2⟩
/-- minus, of numbers. -/
theorem minus_val (A0 A1 : Option Addr) (c0 c1 : Nat) (xs ys : List Int) (w : World) (h0 : Rd w A0 c0 xs) (h1 : Rd w A1 c1 ys) (hl : xs.length ≤ 1099511627776) (hle : ys.length ≤ xs.length) (hv : val ys ≤ val xs) :
    Calls Tryd.prog 81 #[.slice A0 xs.length c0, .slice A1 ys.length c1] w fun e w' => ∃ v cs, e = .returned v ∧ Own w w' v cs ∧ val cs = val xs - val ys ∧ cs.length = xs.length := by
  refine (minus_any A0 A1 c0 c1 xs ys w h0 h1 hl (by omega)).mono ?_
  rintro e w' ⟨v, rfl, ho, hb⟩
  obtain ⟨b, hb0, hb1, e⟩ := val_subL xs ys 0 h0.dig h1.dig (by omega) (by omega) hle
  have hlen : (subL xs ys 0).length = xs.length := subL_len xs ys 0
  have h2 := val_bounds _ ho.dig
  have h3 := val_bounds ys h1.dig
  have h4 := val_bounds xs h0.dig
  rw [hlen] at h2
  refine ⟨v, _, rfl, ⟨ho, hb⟩, ?_, hlen⟩
  rcases (show b = 0 ∨ b = 1 by omega) with rfl | rfl <;> omega
end Go.Proofs.YtegnnghoiffmhaaDoor.Big
