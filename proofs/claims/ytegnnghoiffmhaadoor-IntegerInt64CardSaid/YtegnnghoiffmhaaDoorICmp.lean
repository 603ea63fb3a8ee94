/- integer.compare: rows of digits without zeros at the end. -/
import Derived.Test.YtegnnghoiffmhaaDoorIBase
namespace Go.Proofs.YtegnnghoiffmhaaDoor.Big
open Go.RowKit Go.Proofs.YtegnnghoiffmhaaDoorW.PrintWords
set_option linter.unusedVariables false
set_option linter.unusedSimpArgs false
theorem cmp_next (xs ys : List Int) (k gk : Nat) (he : dg xs k = dg ys k) (h : k + 1 = gk ∧ k + 1 ≤ xs.length ∧ val xs - val ys = val (xs.take (k + 1)) - val (ys.take (k + 1))) : Aside0 (k = gk - 1 ∧ k ≤ xs.length ∧ val xs - val ys = val (xs.take k) - val (ys.take k)) := by
  refine ⟨by omega, by omega, ?_⟩
  have h3 := h.2.2
  rw [val_take, val_take, he] at h3
  omega
theorem cmp_end (xs ys : List Int) (k gk : Nat) (hx : ∀ x ∈ xs, 0 ≤ x ∧ x ≤ 4294967295) (hy : ∀ x ∈ ys, 0 ≤ x ∧ x ≤ 4294967295) (hl : dg xs k < dg ys k) (h : k + 1 = gk ∧ k + 1 ≤ xs.length ∧ val xs - val ys = val (xs.take (k + 1)) - val (ys.take (k + 1))) : cmpZ (val xs) (val ys) = -1 :=
  cmpZ_lt (by have := val_take_lt hx hy k hl; have := h.2.2; omega)
theorem cmp_end' (xs ys : List Int) (k gk : Nat) (hx : ∀ x ∈ xs, 0 ≤ x ∧ x ≤ 4294967295) (hy : ∀ x ∈ ys, 0 ≤ x ∧ x ≤ 4294967295) (hl : dg ys k < dg xs k) (h : k + 1 = gk ∧ k + 1 ≤ xs.length ∧ val xs - val ys = val (xs.take (k + 1)) - val (ys.take (k + 1))) : cmpZ (val xs) (val ys) = 1 :=
  cmpZ_gt (by have := val_take_lt hy hx k hl; have := h.2.2; omega)
set_option maxRecDepth 100000 in
theorem compare_any (A0 A1 : Option Addr) (c0 c1 : Nat) (xs ys : List Int) (w : World) (h0 : Rd w A0 c0 xs) (h1 : Rd w A1 c1 ys) (t0 : trimL xs = xs) (t1 : trimL ys = ys) (hl0 : xs.length ≤ 1099511627776) (hl1 : ys.length ≤ 1099511627776) :
    Calls Tryd.prog 58 #[.slice A0 xs.length c0, .slice A1 ys.length c1] w fun e w' => e = .returned (.int .i64 (cmpZ (val xs) (val ys))) ∧ Drawn0 w w' := by
  have H := Aside0.mk (And.intro h0 (And.intro h1 (And.intro t0 t1)))
  clear h0 h1 t0 t1
  by_cases he : xs.length = ys.length
  · have HE := Aside0.mk he
    have hb : (xs.length == ys.length) = true := by simpa using he
    have hb' : (xs.length != ys.length) = false := by simpa using he
    clear he
    go_enter Tryd.func58, Tryd.ntmps58
    go_wp2
    go_loopg [5] xs.length (fun kq v5 w' => ∃ k : Nat, v5 = .int .i64 ((k : Int) - 1) ∧ Aside0 (k = kq ∧ k ≤ xs.length ∧ val xs - val ys = val (xs.take k) - val (ys.take k)) ∧ Aside0 (Drawn0 w w'))
    case atStart => exact ⟨xs.length, rfl, ⟨rfl, Nat.le_refl _, by rw [List.take_of_length_le (Nat.le_refl _), List.take_of_length_le (by have := HE.out; omega)]⟩, ⟨Drawn0.refl _⟩⟩
    case round =>
      obtain ⟨k, rfl, HA, HD⟩ := hrel
      cases k with
      | zero =>
        go_wp2
        go_ret
        exact ⟨by rw [cmpZ_eq (by have := HA.out.2.2; simp [val] at this; omega)]; rfl, HD.out⟩
      | succ k =>
        have hk : k < xs.length := by have := HA.out; omega
        have hk' : k < ys.length := by have := HE.out; omega
        have hk2 : k < 1099511627776 := by omega
        obtain ⟨ad0, rfl, x0⟩ := H.out.1.at_ k hk
        replace x0 := (HD.out.below.cell (World.block_lt_of_cell? w _ x0)).trans x0
        obtain ⟨ad1, rfl, x1⟩ := H.out.2.1.at_ k hk'
        replace x1 := (HD.out.below.cell (World.block_lt_of_cell? w _ x1)).trans x1
        by_cases hz : dg xs k = dg ys k
        · have Z := Aside0.mk hz
          have z1 : (dg xs k != dg ys k) = false := by simpa using hz
          clear hz
          go_wp2
          go_quiet (fail)
          go_wp2
          go_roundg (gk - 1)
          case measure => have := HA.out; omega
          case rel => exact ⟨k, by go_num, cmp_next xs ys k gk Z.out HA.out, ⟨HD.out.step _⟩⟩
        · have z1 : (dg xs k != dg ys k) = true := by simpa using hz
          by_cases hlt : dg xs k < dg ys k
          · have z2 : decide (dg xs k < dg ys k) = true := decide_eq_true hlt
            have Z := Aside0.mk hlt
            clear hz hlt
            go_wp2
            go_quiet (fail)
            go_wp2
            go_quiet (fail)
            go_wp2
            go_ret
            exact ⟨by rw [cmp_end xs ys k gk H.out.1.dig H.out.2.1.dig Z.out HA.out]; rfl, (HD.out.step _).step _⟩
          · have z2 : decide (dg xs k < dg ys k) = false := decide_eq_false hlt
            have Z := Aside0.mk (show dg ys k < dg xs k by omega)
            clear hz hlt
            go_wp2
            go_quiet (fail)
            go_wp2
            go_quiet (fail)
            go_wp2
            go_ret
            exact ⟨by rw [cmp_end' xs ys k gk H.out.1.dig H.out.2.1.dig Z.out HA.out]; rfl, (HD.out.step _).step _⟩
  · have hb : (xs.length == ys.length) = false := by simpa using he
    have hb' : (xs.length != ys.length) = true := by simpa using he
    by_cases hlt : xs.length < ys.length
    · have Z := Aside0.mk (cmpZ_lt (val_lt_len H.out.1.dig H.out.2.1.dig H.out.2.2.2 hlt))
      clear he
      go_enter Tryd.func58, Tryd.ntmps58
      go_wp2
      go_ret
      exact ⟨by rw [Z.out]; rfl, Drawn0.refl _⟩
    · have Z := Aside0.mk (cmpZ_gt (val_lt_len H.out.2.1.dig H.out.1.dig H.out.2.2.1 (show ys.length < xs.length by omega)))
      clear he
      go_enter Tryd.func58, Tryd.ntmps58
      go_wp2
      go_ret
      exact ⟨by rw [Z.out]; rfl, Drawn0.refl _⟩
theorem compare_r (A0 A1 : Option Addr) (c0 c1 : Nat) (xs ys : List Int) (w : World) (h0 : Rd w A0 c0 xs) (h1 : Rd w A1 c1 ys) (t0 : trimL xs = xs) (t1 : trimL ys = ys) (hl0 : xs.length ≤ 1099511627776) (hl1 : ys.length ≤ 1099511627776) (r : Int) (hr : cmpZ (val xs) (val ys) = r) :
    Calls Tryd.prog 58 #[.slice A0 xs.length c0, .slice A1 ys.length c1] w fun e w' => e = .returned (.int .i64 r) ∧ Drawn0 w w' := by
  subst hr; exact compare_any A0 A1 c0 c1 xs ys w h0 h1 t0 t1 hl0 hl1
end Go.Proofs.YtegnnghoiffmhaaDoor.Big
