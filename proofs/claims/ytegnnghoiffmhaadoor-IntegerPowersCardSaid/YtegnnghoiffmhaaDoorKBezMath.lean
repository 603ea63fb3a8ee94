/- Bezout's numbers. Of no program. -/
import Derived.Test.YtegnnghoiffmhaaDoorMB
namespace Go.Proofs.YtegnnghoiffmhaaDoor.Big
open Go.RowKit
theorem lt_or_ge_i (a b : Int) : a < b ∨ b ≤ a := by omega
theorem gauss_i {k m n : Int} (h : Int.gcd k m = 1) (h2 : k ∣ m * n) : k ∣ n := by
  have h3 : k.natAbs ∣ m.natAbs * n.natAbs := by rw [← Int.natAbs_mul]; exact Int.natAbs_dvd_natAbs.2 h2
  exact Int.natAbs_dvd_natAbs.1 (Nat.Coprime.dvd_of_dvd_mul_left (show Nat.Coprime k.natAbs m.natAbs from h) h3)
theorem mul_self_nn (a : Int) : 0 ≤ a * a := by
  rcases Int.le_total 0 a with h | h
  · exact Int.mul_nonneg h h
  · exact Int.mul_nonneg_of_nonpos_of_nonpos h h
/-- Of two numbers of which one is not positive where the other is not negative: each is at most their difference, in absolute value. -/
theorem abs_of_prod {u v d : Int} (h : u * v ≤ 0) (hd : u - v = d ∨ u - v = -d) : u.natAbs ≤ d.natAbs ∧ v.natAbs ≤ d.natAbs := by
  rcases Int.lt_trichotomy u 0 with hu | hu | hu
  · have hv : 0 ≤ v := by
      rcases lt_or_ge_i v 0 with h2 | h2
      · exfalso; have := Int.mul_pos_of_neg_of_neg hu h2; omega
      · exact h2
    omega
  · subst hu; omega
  · have hv : v ≤ 0 := by
      rcases lt_or_ge_i 0 v with h2 | h2
      · exfalso; have := Int.mul_pos hu h2; omega
      · exact h2
    omega
theorem natAbs_le_mul {x r : Int} (hr : r ≠ 0) : x.natAbs ≤ (x * r).natAbs := by
  rw [Int.natAbs_mul]
  exact Nat.le_mul_of_pos_right _ (by omega)
/-- The state of Euclid's algorithm with one cofactor. -/
structure EG (a b r0 x0 r1 x1 : Int) : Prop where
  c0 : ∃ s, r0 = a * x0 + b * s
  c1 : ∃ t, r1 = a * x1 + b * t
  gc : Int.gcd r0 r1 = Int.gcd a b
  st : (x0 = 1 ∧ x1 = 0 ∧ r0 = a ∧ r1 = b) ∨ (x0 * x1 ≤ 0 ∧ 0 ≤ r0 * r1 ∧ (x1 * r0 - x0 * r1 = b ∨ x1 * r0 - x0 * r1 = -b))
  b0 : x0.natAbs ≤ b.natAbs + 1
  b1 : x1.natAbs ≤ b.natAbs + 1
theorem fmod_sign {a b : Int} (hb : b ≠ 0) : 0 ≤ b * a.fmod b := by
  obtain ⟨h, _⟩ := fdm a b hb
  rcases h with h | h
  · exact Int.mul_nonneg (by omega) h.1
  · exact Int.mul_nonneg_of_nonpos_of_nonpos (by omega) h.2
theorem fdiv_nn {a b : Int} (hb : b ≠ 0) (h : 0 ≤ a * b) : 0 ≤ a.fdiv b := by
  rcases lt_or_ge_i (a.fdiv b) 0 with h2 | h2
  · exfalso
    obtain ⟨h3, h4⟩ := fdm a b hb
    rcases (show 0 < b ∨ b < 0 by omega) with hp | hp
    · have ha : 0 ≤ a := by
        rcases lt_or_ge_i a 0 with h5 | h5
        · have := Int.mul_neg_of_neg_of_pos h5 hp; omega
        · exact h5
      have : b * a.fdiv b ≤ b * (-1) := Int.mul_le_mul_of_nonneg_left (by omega) (by omega)
      omega
    · have ha : a ≤ 0 := by
        rcases lt_or_ge_i 0 a with h5 | h5
        · have := Int.mul_neg_of_pos_of_neg h5 hp; omega
        · exact h5
      have : b * (-1) ≤ b * a.fdiv b := Int.mul_le_mul_of_nonpos_left (by omega) (by omega)
      omega
  · exact h2
theorem gcd_fmod (a b : Int) (hb : b ≠ 0) : Int.gcd b (a.fmod b) = Int.gcd a b := by
  obtain ⟨_, h⟩ := fdm a b hb
  have e : Int.gcd b (b * a.fdiv b + a.fmod b) = Int.gcd b (a.fmod b) := Int.gcd_mul_left_add_right _ _ _
  rw [← e, h, Int.gcd_comm]
theorem EG.next {a b r0 x0 r1 x1 : Int} (h : EG a b r0 x0 r1 x1) (hr : r1 ≠ 0) : EG a b r1 x1 (r0.fmod r1) (x0 - r0.fdiv r1 * x1) := by
  obtain ⟨_, h4⟩ := fdm r0 r1 hr
  obtain ⟨s, hs⟩ := h.c0
  obtain ⟨t, ht⟩ := h.c1
  have hm := fmod_sign (a := r0) hr
  have hgc := gcd_fmod r0 r1 hr
  generalize r0.fmod r1 = r2 at *
  have hst : x1 * (x0 - r0.fdiv r1 * x1) ≤ 0 ∧ 0 ≤ r1 * r2 ∧ ((x0 - r0.fdiv r1 * x1) * r1 - x1 * r2 = b ∨ (x0 - r0.fdiv r1 * x1) * r1 - x1 * r2 = -b) := by
    rcases h.st with ⟨e1, e2, e3, e4⟩ | ⟨e1, e2, e3⟩
    · subst e1 e2
      refine ⟨by omega, hm, Or.inl ?_⟩
      rw [e4]; simp
    · have hq := fdiv_nn hr e2
      generalize r0.fdiv r1 = q at *
      refine ⟨?_, hm, ?_⟩
      · have h1 := Int.mul_nonneg hq (mul_self_nn x1)
        have h2 : x1 * (x0 - q * x1) = x0 * x1 - q * (x1 * x1) := by grind
        omega
      · have h1 : (x0 - q * x1) * r1 - x1 * r2 = -(x1 * r0 - x0 * r1) := by grind
        omega
  generalize r0.fdiv r1 = q at *
  refine ⟨⟨t, ht⟩, ⟨s - q * t, by grind⟩, by rw [hgc]; exact h.gc, Or.inr hst, h.b1, ?_⟩
  have h1 : ((x0 - q * x1) * r1) * (x1 * r2) ≤ 0 := by
    have h2 : ((x0 - q * x1) * r1) * (x1 * r2) = (x1 * (x0 - q * x1)) * (r1 * r2) := by grind
    rw [h2]
    exact Int.mul_nonpos_of_nonpos_of_nonneg hst.1 hst.2.1
  have h3 := (abs_of_prod h1 hst.2.2).1
  have h4 := natAbs_le_mul (x := x0 - q * x1) hr
  omega
theorem EG.start (a b : Int) : EG a b a 1 b 0 := ⟨⟨0, by simp⟩, ⟨1, by simp⟩, rfl, Or.inl ⟨rfl, rfl, rfl, rfl⟩, by simp, by simp⟩
theorem EG.start2 {p m : Int} (hp : 0 ≤ p) (hm : 0 < m) : EG p m m 0 p 1 := ⟨⟨1, by simp⟩, ⟨0, by simp⟩, Int.gcd_comm _ _, Or.inr ⟨by simp, Int.mul_nonneg (by omega) hp, Or.inl (by simp)⟩, by simp, by simp⟩
/-- What ExtendedGCD hands back beside the greatest common divisor. -/
def BZ (a b g x y : Int) : Prop := (b = 0 ∧ x = cmpZ a 0 ∧ y = 0) ∨ (b ≠ 0 ∧ 0 ≤ x ∧ x < (b.natAbs : Int) / g ∧ a * x + b * y = g)
theorem gcd_pos {a b : Int} (hb : b ≠ 0) : 0 < (Int.gcd a b : Int) := by
  have := Int.gcd_pos_of_ne_zero_right a hb
  omega
theorem bez_unique {a b x y u v : Int} (h1 : BZ a b (Int.gcd a b) x y) (h2 : BZ a b (Int.gcd a b) u v) : x = u ∧ y = v := by
  rcases h1 with ⟨h1, h3, h4⟩ | ⟨h1, h3, h4, h5⟩
  · rcases h2 with ⟨_, h6, h7⟩ | ⟨h6, _⟩
    · exact ⟨by rw [h3, h6], by rw [h4, h7]⟩
    · exact absurd h1 h6
  · rcases h2 with ⟨h6, _⟩ | ⟨_, h6, h7, h8⟩
    · exact absurd h6 h1
    have hg := gcd_pos (a := a) h1
    obtain ⟨a', ha⟩ := Int.gcd_dvd_left a b
    obtain ⟨b', hb⟩ := Int.gcd_dvd_right a b
    have hco : Int.gcd b' a' = 1 := by
      have := Int.gcd_mul_left (Int.gcd a b : Int) b' a'
      rw [← ha, ← hb, Int.gcd_comm b a] at this
      simp only [Int.natAbs_natCast] at this
      have h9 : 0 < Int.gcd a b := by omega
      exact (Nat.eq_of_mul_eq_mul_left h9 (by omega)).symm
    have hm : (b.natAbs : Int) / (Int.gcd a b : Int) = (b'.natAbs : Int) := by
      have : (b.natAbs : Int) = (Int.gcd a b : Int) * (b'.natAbs : Int) := by
        conv => lhs; rw [hb, Int.natAbs_mul]
        simp
      rw [this, Int.mul_ediv_cancel_left _ (by omega)]
    rw [hm] at h4 h7
    have e : a' * (x - u) = b' * (v - y) := by
      have h10 : (Int.gcd a b : Int) * (a' * (x - u)) = (Int.gcd a b : Int) * (b' * (v - y)) := by
        rw [← Int.mul_assoc, ← Int.mul_assoc, ← ha, ← hb]
        grind
      exact Int.eq_of_mul_eq_mul_left (by omega) h10
    have hd : b' ∣ x - u := by
      have h11 : b' ∣ a' * (x - u) := ⟨v - y, e⟩
      exact gauss_i hco h11
    have hx : x = u := by
      have := Int.eq_zero_of_dvd_of_natAbs_lt_natAbs hd (by omega)
      omega
    subst hx
    refine ⟨rfl, ?_⟩
    have : b * y = b * v := by omega
    exact Int.eq_of_mul_eq_mul_left h1 this
theorem eg_end {a b r0 x0 x1 g m x y : Int} (h : EG a b r0 x0 0 x1) (hb : b ≠ 0) (hg : (Int.gcd a b : Int) = g) (r x0' : Int) (hr : (r = r0 ∧ x0' = x0) ∨ (r = -r0 ∧ x0' = -x0)) (hrn : 0 ≤ r) (hm : (b.natAbs : Int).fdiv g = m) (hx : x0'.fmod m = x) (hy : (g - a * x).fdiv b = y) : BZ a b g x y := by
  have hgp := gcd_pos (a := a) hb
  rw [hg] at hgp
  obtain ⟨s, hs⟩ := h.c0
  have hr2 : r = g := by
    have h1 := h.gc
    rw [← hg, ← h1]
    simp [Int.gcd]
    omega
  obtain ⟨s', hs'⟩ : ∃ s', g = a * x0' + b * s' := by
    rcases hr with ⟨e1, e2⟩ | ⟨e1, e2⟩
    · exact ⟨s, by rw [← hr2, e1, e2, hs]⟩
    · exact ⟨-s, by rw [← hr2, e1, e2, hs]; grind⟩
  obtain ⟨a', ha⟩ : g ∣ a := hg ▸ Int.gcd_dvd_left a b
  obtain ⟨b', hb'⟩ : g ∣ b := hg ▸ Int.gcd_dvd_right a b
  have hbn : (b.natAbs : Int) = g * (b'.natAbs : Int) := by
    conv => lhs; rw [hb', Int.natAbs_mul]
    rw [Int.natCast_mul]; congr 1; omega
  have hb0 : b' ≠ 0 := by rintro rfl; simp at hb'; exact hb hb'
  have em : m = (b'.natAbs : Int) := by
    rw [← hm, hbn, Int.fdiv_eq_ediv_of_nonneg _ (by omega), Int.mul_ediv_cancel_left _ (by omega)]
  have hmp : 0 < m := by omega
  obtain ⟨h3, h4⟩ := fdm x0' m (by omega)
  rw [hx] at h3 h4
  refine Or.inr ⟨hb, by omega, ?_, ?_⟩
  · rw [hbn, Int.mul_ediv_cancel_left _ (by omega), ← em]; omega
  · have hdv : b ∣ g - a * x := by
      have e1 : g - a * x = b * s' + (a * m) * x0'.fdiv m := by
        have : x = x0' - m * x0'.fdiv m := by omega
        rw [this]; conv => lhs; rw [hs']
        grind
      have e2 : b ∣ a * m := by
        have : a * m = a' * (b.natAbs : Int) := by rw [hbn, ha, em]; grind
        rw [this]
        exact Int.dvd_trans (Int.dvd_natAbs.2 (Int.dvd_refl b)) (Int.dvd_mul_left _ _)
      rw [e1]
      exact Int.dvd_add (Int.dvd_mul_right _ _) (Int.dvd_trans e2 (Int.dvd_mul_right _ _))
    obtain ⟨k, hk⟩ := hdv
    have : y = k := by rw [← hy, hk, Int.mul_fdiv_cancel_left _ hb]
    rw [this]; omega
theorem eg_ref {a b g m p0 p r0 x0 x1 x y : Int} (hb : b ≠ 0) (hg : (Int.gcd a b : Int) = g) (hm : (b.natAbs : Int).fdiv g = m) (hp0 : a.fdiv g = p0) (hp : p0.fmod m = p) (h : EG p m r0 x0 0 x1) (hr : 0 ≤ r0) (hx : x0.fmod m = x) (hy : (g - a * x).fdiv b = y) : BZ a b g x y := by
  have hgp := gcd_pos (a := a) hb
  have hgN : 0 < Int.gcd a b := by omega
  obtain ⟨s, hs⟩ := h.c0
  obtain ⟨a', ha⟩ : g ∣ a := hg ▸ Int.gcd_dvd_left a b
  obtain ⟨b', hb'⟩ : g ∣ b := hg ▸ Int.gcd_dvd_right a b
  rw [hg] at hgp
  have hbn : (b.natAbs : Int) = g * (b'.natAbs : Int) := by
    conv => lhs; rw [hb', Int.natAbs_mul]
    rw [Int.natCast_mul]; congr 1; omega
  have hb0 : b' ≠ 0 := by rintro rfl; simp at hb'; exact hb hb'
  have em : m = (b'.natAbs : Int) := by
    rw [← hm, hbn, Int.fdiv_eq_ediv_of_nonneg _ (by omega), Int.mul_ediv_cancel_left _ (by omega)]
  have hmp : 0 < m := by omega
  have ep0 : p0 = a' := by rw [← hp0, ha, Int.mul_fdiv_cancel_left _ (by omega)]
  have hco : Int.gcd a' b' = 1 := by
    have := Int.gcd_mul_left g a' b'
    rw [← ha, ← hb'] at this
    have h9 : Int.gcd a b = g.natAbs := by omega
    rw [h9] at this hgN
    exact (Nat.eq_of_mul_eq_mul_left hgN (by omega)).symm
  obtain ⟨h3, h4⟩ := fdm p0 m (by omega)
  rw [hp] at h3 h4
  have hgpm : Int.gcd p m = 1 := by
    have h1 := gcd_fmod p0 m (by omega)
    rw [hp, Int.gcd_comm] at h1
    rw [h1, ep0, em, ← hco]
    simp [Int.gcd]
  have er : r0 = 1 := by
    have h1 := h.gc
    rw [hgpm] at h1
    simp [Int.gcd] at h1
    omega
  obtain ⟨h5, h6⟩ := fdm x0 m (by omega)
  rw [hx] at h5 h6
  refine Or.inr ⟨hb, by omega, ?_, ?_⟩
  · rw [hbn, Int.mul_ediv_cancel_left _ (by omega), ← em]; omega
  · have hdv : b ∣ g - a * x := by
      have hdm : m ∣ 1 - a' * x := by
        have e1 : 1 - a' * x = m * (s + p * x0.fdiv m - p0.fdiv m * x) := by
          have e2 : p = a' - m * p0.fdiv m := by rw [← ep0]; omega
          have e3 : x = x0 - m * x0.fdiv m := by omega
          have e4 : (1 : Int) = p * x0 + m * s := by rw [← hs, er]
          conv => lhs; rw [e4]
          have e5 : x0 = x + m * x0.fdiv m := by omega
          generalize x0.fdiv m = k at *
          generalize p0.fdiv m = l at *
          rw [e5]
          have e6 : a' = p + m * l := by omega
          rw [e6]
          grind
        exact ⟨_, e1⟩
      obtain ⟨k, hk⟩ := hdm
      have e7 : g - a * x = (b.natAbs : Int) * k := by
        have : g - a * x = g * (1 - a' * x) := by rw [ha]; grind
        rw [this, hk, hbn, em]; grind
      rw [e7]
      exact Int.dvd_trans (Int.dvd_natAbs.2 (Int.dvd_refl b)) (Int.dvd_mul_right _ _)
    obtain ⟨k, hk⟩ := hdv
    have : y = k := by rw [← hy, hk, Int.mul_fdiv_cancel_left _ hb]
    rw [this]; omega
end Go.Proofs.YtegnnghoiffmhaaDoor.Big
