/- integer.digit: the estimate of a quotient's digit. -/
import Derived.Test.YtegnnghoiffmhaaDoorIShrunk
namespace Go.Proofs.YtegnnghoiffmhaaDoor.Big
open Go.RowKit Go.Proofs.YtegnnghoiffmhaaDoorW.PrintWords
set_option linter.unusedVariables false
set_option linter.unusedSimpArgs false
/-- The estimate: the quotient of the three highest digits by the two highest, at most the greatest digit. -/
def Est (q u3 v2 : Int) : Prop := (0 ≤ q ∧ q ≤ 4294967295) ∧ q * v2 ≤ u3 ∧ (u3 < (q + 1) * v2 ∨ q = 4294967295)
/-- What the loop keeps. -/
def EstI (N t s third q r : Int) : Prop := q * t + r = N ∧ (0 ≤ r ∧ r ≤ 4294967295) ∧ (0 ≤ q ∧ q ≤ 4294967297) ∧ (N * 4294967296 + third < (q + 1) * (t * 4294967296 + s) ∨ 4294967295 ≤ q)
theorem est_begin (N t s third : Int) (ht : 2147483648 ≤ t ∧ t ≤ 4294967295) (hs : 0 ≤ s ∧ s ≤ 4294967295) (h3 : 0 ≤ third ∧ third ≤ 4294967295) (hN : 0 ≤ N ∧ N < t * 4294967296 + 4294967296) : EstI N t s third (N / t) (N % t) := by
  have a1 := Int.mul_ediv_add_emod N t
  have a2 := Int.emod_nonneg N (show t ≠ 0 by omega)
  have a3 := Int.emod_lt_of_pos N (show 0 < t by omega)
  have a4 := Int.ediv_nonneg hN.1 (show 0 ≤ t by omega)
  have a5 : N / t < 4294967298 := Int.ediv_lt_of_lt_mul (by omega) (by omega)
  generalize N / t = q at *
  generalize N % t = r at *
  refine ⟨by grind, by omega, by omega, .inl ?_⟩
  have h1 : (q + 1) * (t * 4294967296 + s) = (t * q + t) * 4294967296 + (q + 1) * s := by grind
  have h2 : 0 ≤ (q + 1) * s := Int.mul_nonneg (by omega) hs.1
  rw [h1]
  omega
theorem est_less (N t s third q r : Int) (ht : 2147483648 ≤ t ∧ t ≤ 4294967295) (hs : 0 ≤ s ∧ s ≤ 4294967295) (h3 : 0 ≤ third ∧ third ≤ 4294967295) (h : EstI N t s third q r) (hr : 4294967296 ≤ q ∨ r * 4294967296 + third < q * s) : 1 ≤ q ∧ (q - 1) * t + (r + t) = N ∧ (N * 4294967296 + third < (q - 1 + 1) * (t * 4294967296 + s) ∨ 4294967295 ≤ q - 1) := by
  obtain ⟨h1, h2, h4, h5⟩ := h
  have hq : 1 ≤ q := by
    rcases hr with hr | hr
    · omega
    · rcases (show q < 1 ∨ 1 ≤ q by omega) with hl | hl
      · have : q = 0 := by omega
        subst this
        omega
      · exact hl
  refine ⟨hq, by grind, ?_⟩
  rcases hr with hr | hr
  · exact .inr (by omega)
  · refine .inl ?_
    have e : (q - 1 + 1) * (t * 4294967296 + s) = (q * t) * 4294967296 + q * s := by grind
    rw [e]
    omega
theorem est_next (N t s third q r : Int) (ht : 2147483648 ≤ t ∧ t ≤ 4294967295) (hs : 0 ≤ s ∧ s ≤ 4294967295) (h3 : 0 ≤ third ∧ third ≤ 4294967295) (h : EstI N t s third q r) (hr : 4294967296 ≤ q ∨ r * 4294967296 + third < q * s) (hl : r + t ≤ 4294967295) : EstI N t s third (q - 1) (r + t) := by
  obtain ⟨h1, h2, h4⟩ := est_less N t s third q r ht hs h3 h hr
  have := h.2.2.1
  have := h.2.1
  exact ⟨h2, by omega, by omega, h4⟩
theorem est_break (N t s third q r : Int) (ht : 2147483648 ≤ t ∧ t ≤ 4294967295) (hs : 0 ≤ s ∧ s ≤ 4294967295) (h3 : 0 ≤ third ∧ third ≤ 4294967295) (hN : 0 ≤ N ∧ N < t * 4294967296 + 4294967296) (h : EstI N t s third q r) (hr : 4294967296 ≤ q ∨ r * 4294967296 + third < q * s) (hl : 4294967296 ≤ r + t) : Est (q - 1) (N * 4294967296 + third) (t * 4294967296 + s) := by
  obtain ⟨h1, h2, h4⟩ := est_less N t s third q r ht hs h3 h hr
  have hb : q - 1 ≤ 4294967295 := by
    rcases (show q - 1 < 4294967296 ∨ 4294967296 ≤ q - 1 by omega) with hb | hb
    · omega
    · have : 4294967296 * t ≤ (q - 1) * t := Int.mul_le_mul_of_nonneg_right hb (by omega)
      omega
  refine ⟨⟨by omega, hb⟩, ?_, ?_⟩
  · have e : (q - 1) * (t * 4294967296 + s) = ((q - 1) * t) * 4294967296 + (q - 1) * s := by grind
    have e2 : (q - 1) * s ≤ 4294967295 * 4294967295 := Int.mul_le_mul hb hs.2 hs.1 (by omega)
    rw [e]
    omega
  · rcases h4 with h4 | h4
    · exact .inl h4
    · exact .inr (by omega)
theorem est_end (N t s third q r : Int) (ht : 2147483648 ≤ t ∧ t ≤ 4294967295) (h : EstI N t s third q r) (hq : q < 4294967296) (hr : q * s ≤ r * 4294967296 + third) : Est q (N * 4294967296 + third) (t * 4294967296 + s) := by
  obtain ⟨h1, h2, h4, h5⟩ := h
  refine ⟨by omega, ?_, ?_⟩
  · have e : q * (t * 4294967296 + s) = (q * t) * 4294967296 + q * s := by grind
    rw [e]
    omega
  · rcases h5 with h5 | h5
    · exact .inl h5
    · exact .inr (by omega)
set_option maxRecDepth 100000 in
theorem digit_any (A : Option Addr) (c : Nat) (vs : List Int) (high next third : Int) (w : World) (h : Rd w A c vs) (hl : 2 ≤ vs.length ∧ vs.length ≤ 1099511627776) (ht : 2147483648 ≤ dg vs (vs.length - 1)) (hh : 0 ≤ high ∧ high ≤ dg vs (vs.length - 1)) (hn : 0 ≤ next ∧ next ≤ 4294967295) (h3 : 0 ≤ third ∧ third ≤ 4294967295) :
    Calls Tryd.prog 77 #[.int .u32 high, .int .u32 next, .int .u32 third, .slice A vs.length c] w fun e w' => ∃ q, e = .returned (.int .u64 q) ∧ Est q ((high * 4294967296 + next) * 4294967296 + third) (dg vs (vs.length - 1) * 4294967296 + dg vs (vs.length - 2)) ∧ Drawn0 w w' := by
  obtain ⟨m, hm⟩ : ∃ m, vs.length = m + 2 := ⟨vs.length - 2, by omega⟩
  have T := Aside0.mk (dg_dig h.dig (m + 1))
  have S := Aside0.mk (dg_dig h.dig m)
  obtain ⟨ad, rfl, x0⟩ := h.at_ (m + 1) (by omega)
  obtain ⟨ad', e, x1⟩ := h.at_ m (by omega)
  cases e
  have hm2 := hl.2
  rw [hm] at ht hh hm2 ⊢
  clear h hm hl
  simp only [show m + 2 - 1 = m + 1 from rfl, show m + 2 - 2 = m from rfl] at ht hh ⊢
  generalize dg vs (m + 1) = t at *
  generalize dg vs m = s at *
  obtain ⟨h30, h31⟩ := h3
  obtain ⟨hn0, hn1⟩ := hn
  obtain ⟨hh0, hh1⟩ := hh
  have t1 := T.out.2
  have s0 := S.out.1
  have s1 := S.out.2
  have hm : m < 1099511627776 := by omega
  have ho := or64_hi high next ⟨hh0, by omega⟩ ⟨hn0, hn1⟩
  have EB := Aside0.mk (est_begin (high * 4294967296 + next) t s third ⟨ht, t1⟩ ⟨s0, s1⟩ ⟨h30, h31⟩ ⟨by omega, by omega⟩)
  go_enter Tryd.func77, Tryd.ntmps77
  go_wp2
  have w1 : IntKind.i64.wrap ((m : Int) + 2 - 1) = (m : Int) + 1 := by rw [IntWalk.i64_in _ ⟨by omega, by omega⟩]; omega
  have w2 : IntKind.i64.wrap ((m : Int) + 2 - 2) = (m : Int) := by rw [IntWalk.i64_in _ ⟨by omega, by omega⟩]; omega
  have w3 : ((m : Int) + 1).toNat = m + 1 := by omega
  have w4 : 0 ≤ (m : Int) + 1 := by omega
  have w5 : (m : Int) + 1 < (m : Int) + 2 := by omega
  have w6 : (m : Int) < (m : Int) + 2 := by omega
  have x0' : w.cell? ⟨ad.block, ad.off + (m + 1), none⟩ = some (.int .u32 t) := x0
  go_quiet (fail)
  clear w1 w2 w3 w4 w5 w6
  go_wp2
  obtain ⟨N, hN⟩ : ∃ N, high * 4294967296 + next = N := ⟨_, rfl⟩
  have N0 : 0 ≤ N := by omega
  have N1 : N < t * 4294967296 + 4294967296 := by omega
  rw [hN] at EB
  rw [hN]
  have HN := Aside0.mk hN
  clear ho hN
  have tz : ¬ (t = 0) := by omega
  have tb : (t == 0) = false := by simpa using tz
  go_quiet (fail)
  go_wp2
  go_loopg [12, 13] (4294967296 - (N % t).toNat) (fun kq v12 v13 w' => ∃ q r : Int, v12 = .int .u64 q ∧ v13 = .int .u64 r ∧ Aside0 (EstI N t s third q r ∧ r + kq = 4294967296) ∧ Aside0 (Drawn0 w w'))
  case atStart => exact ⟨_, _, rfl, rfl, ⟨EB.out, by have := Int.emod_nonneg N tz; have := Int.emod_lt_of_pos N (show 0 < t by omega); omega⟩, ⟨((Drawn0.refl w).step _).step _⟩⟩
  case round =>
    clear EB tz tb
    obtain ⟨q, r, rfl, rfl, HA, HD⟩ := hrel
    have q0 := HA.out.1.2.2.1.1
    have q1 := HA.out.1.2.2.1.2
    have r0 := HA.out.1.2.1.1
    have r1 := HA.out.1.2.1.2
    by_cases hq : 4294967296 ≤ q
    · have HQ := Aside0.mk hq
      have q2 : 1 ≤ q := by omega
      by_cases hl : r + t ≤ 4294967295
      · go_wp2
        go_roundg (gk - t.toNat)
        case measure => have := HA.out; omega
        case rel => exact ⟨q - 1, r + t, rfl, rfl, ⟨est_next N t s third q r ⟨ht, t1⟩ ⟨s0, s1⟩ ⟨h30, h31⟩ HA.out.1 (.inl HQ.out) hl, by have := HA.out; omega⟩, HD⟩
      · go_wp2
        go_ret
        exact ⟨q - 1, rfl, (by rw [HN.out]; exact est_break N t s third q r ⟨ht, t1⟩ ⟨s0, s1⟩ ⟨h30, h31⟩ ⟨N0, N1⟩ HA.out.1 (.inl HQ.out) (by omega)), HD.out⟩
    · have hq' : q < 4294967296 := by omega
      have p0 : 0 ≤ q * s := Int.mul_nonneg q0 s0
      have p1 : q * s ≤ 18446744065119617025 := Int.mul_le_mul (show q ≤ 4294967295 by omega) s1 s0 (by omega)
      have ho := or64_hi r third ⟨r0, r1⟩ ⟨h30, h31⟩
      by_cases hgt : r * 4294967296 + third < q * s
      · have HG := Aside0.mk hgt
        have q2 : 1 ≤ q := (est_less N t s third q r ⟨ht, t1⟩ ⟨s0, s1⟩ ⟨h30, h31⟩ HA.out.1 (.inr HG.out)).1
        by_cases hl : r + t ≤ 4294967295
        · go_wp2
          go_roundg (gk - t.toNat)
          case measure => have := HA.out; omega
          case rel => exact ⟨q - 1, r + t, rfl, rfl, ⟨est_next N t s third q r ⟨ht, t1⟩ ⟨s0, s1⟩ ⟨h30, h31⟩ HA.out.1 (.inr HG.out) hl, by have := HA.out; omega⟩, HD⟩
        · go_wp2
          go_ret
          exact ⟨q - 1, rfl, (by rw [HN.out]; exact est_break N t s third q r ⟨ht, t1⟩ ⟨s0, s1⟩ ⟨h30, h31⟩ ⟨N0, N1⟩ HA.out.1 (.inr HG.out) (by omega)), HD.out⟩
      · go_wp2
        go_ret
        exact ⟨q, rfl, (by rw [HN.out]; exact est_end N t s third q r ⟨ht, t1⟩ HA.out.1 hq' (by omega)), HD.out⟩
end Go.Proofs.YtegnnghoiffmhaaDoor.Big
