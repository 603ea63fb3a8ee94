/- The steps of the long division, in numbers. -/
import Derived.Test.YtegnnghoiffmhaaDoorIReduce
import Derived.Test.YtegnnghoiffmhaaDoorIDigit
namespace Go.Proofs.YtegnnghoiffmhaaDoor.Big
open Go.RowKit Go.Proofs.YtegnnghoiffmhaaDoorW.PrintWords
set_option linter.unusedVariables false
theorem dg_drop (us : List Int) (a n : Nat) : dg (us.drop a) n = dg us (a + n) := by simp [dg, List.getD_eq_getElem?_getD, List.getElem?_drop]
theorem sg_succ (a n : Nat) (us : List Int) : sg a (n + 1) us = sg a n us + pw n * dg us (a + n) := by unfold sg; rw [val_take, dg_drop]
/-- The estimate is right, or one too great. -/
theorem est_ok (S V u3 v2 s' v' p q : Int) (hp : 0 < p) (hS : S = u3 * p + s') (hs : 0 ≤ s' ∧ s' < p) (hV : V = v2 * p + v') (hv : 0 ≤ v' ∧ v' < p) (hv2 : 4294967296 ≤ v2) (hlt : S < V * 4294967296) (hu : 0 ≤ u3) (h : Est q u3 v2) : S / V ≤ q ∧ q ≤ S / V + 1 := by
  obtain ⟨hq, h1, h2⟩ := h
  have hVp : 0 < V := by
    have : 0 < v2 * p := Int.mul_pos (by omega) hp
    omega
  constructor
  · rcases h2 with h2 | h2
    · have e1 : (u3 + 1) * p ≤ ((q + 1) * v2) * p := Int.mul_le_mul_of_nonneg_right (by omega) (by omega)
      have e2 : 0 ≤ (q + 1) * v' := Int.mul_nonneg (by omega) hv.1
      have e3 : V * (q + 1) = ((q + 1) * v2) * p + (q + 1) * v' := by rw [hV]; grind
      have e4 : (u3 + 1) * p = u3 * p + p := by grind
      have : S / V < q + 1 := Int.ediv_lt_of_lt_mul hVp (by rw [Int.mul_comm, e3]; omega)
      omega
    · have : S / V < 4294967296 := Int.ediv_lt_of_lt_mul hVp (by rw [Int.mul_comm] at hlt; omega)
      omega
  · rcases (show q = 0 ∨ 1 ≤ q by omega) with h0 | h0
    · have hu3 : 0 ≤ u3 * p := Int.mul_nonneg hu (by omega)
      have := Int.ediv_nonneg (show 0 ≤ S by omega) (show 0 ≤ V by omega)
      omega
    · have e1 : (q - 1) * v' ≤ (q - 1) * p := Int.mul_le_mul_of_nonneg_left (by omega) (by omega)
      have e2 : ((q * v2) - v2 + (q - 1)) * p ≤ u3 * p := Int.mul_le_mul_of_nonneg_right (by omega) (by omega)
      have e3 : (q - 1) * V = ((q * v2) - v2 + (q - 1)) * p - (q - 1) * p + (q - 1) * v' := by rw [hV]; grind
      have : q - 1 ≤ S / V := (Int.le_ediv_iff_mul_le hVp).2 (by omega)
      omega
/-- One round: the part of the dividend that is divided, its highest digits, and what is left. -/
theorem knuth_step (us vs : List Int) (j p : Nat) (hd : ∀ x ∈ us, 0 ≤ x ∧ x ≤ 4294967295) (hvd : ∀ x ∈ vs, 0 ≤ x ∧ x ≤ 4294967295) (hn : vs.length = p + 2) (hl : j + (p + 2) < us.length) (ht : 2147483648 ≤ dg vs (p + 1)) (hu : val us < val vs * pw (j + 1)) :
    (0 ≤ dg us (j + (p + 2)) ∧ dg us (j + (p + 2)) ≤ dg vs (p + 1)) ∧ 0 < val vs ∧
    (∀ q, Est q ((dg us (j + (p + 2)) * 4294967296 + dg us (j + (p + 1))) * 4294967296 + dg us (j + p)) (dg vs (p + 1) * 4294967296 + dg vs p) → sg j (vs.length + 1) us / val vs ≤ q ∧ q ≤ sg j (vs.length + 1) us / val vs + 1) ∧
    (∀ ds : List Int, val ds = val us - sg j (vs.length + 1) us / val vs * val vs * pw j → val ds < val vs * pw j) := by
  have pj := pw_pos j
  have pp := pw_pos p
  have vb := val_bounds vs hvd
  have hb := val_bounds us hd
  have hv : val vs = val (vs.take p) + pw p * dg vs p + pw (p + 1) * dg vs (p + 1) := by
    have h1 := val_take vs (p + 1)
    have h2 := val_take vs p
    rw [List.take_of_length_le (by omega)] at h1
    omega
  have v'b := val_bounds (vs.take p) (take_dig hvd p)
  rw [List.length_take, show min p vs.length = p by omega] at v'b
  have d0 := dg_dig hvd p
  have d1 := dg_dig hvd (p + 1)
  have hp1 : pw (p + 1) = pw p * 4294967296 := rfl
  have e0 := sg_succ j p us
  have e1 := sg_succ j (p + 1) us
  have e2 := sg_succ j (p + 2) us
  have s'b := sg_bounds hd j p
  have u0 := dg_dig hd (j + p)
  have u1 := dg_dig hd (j + (p + 1))
  have u2 := dg_dig hd (j + (p + 2))
  have hp2 : pw (p + 2) = pw p * 4294967296 * 4294967296 := rfl
  have sb := sg_bounds hd j (p + 3)
  -- nothing lies above
  have top := val_parts j (p + 3) us (by omega)
  have tb := val_bounds (us.take j) (take_dig hd j)
  rw [List.length_take, show min j us.length = j by omega] at tb
  have hz : val (us.drop (j + (p + 3))) = 0 := by
    have hnn := (val_bounds (us.drop (j + (p + 3))) (fun x hx => hd x (List.mem_of_mem_drop hx))).1
    rcases (show val (us.drop (j + (p + 3))) = 0 ∨ 1 ≤ val (us.drop (j + (p + 3))) by omega) with h | h
    · exact h
    · exfalso
      have h1 : pw (j + (p + 3)) * 1 ≤ pw (j + (p + 3)) * val (us.drop (j + (p + 3))) := Int.mul_le_mul_of_nonneg_left h (by have := pw_pos (j + (p + 3)); omega)
      have h2 : 0 ≤ pw j * sg j (p + 3) us := Int.mul_nonneg (by omega) sb.1
      have h3 : val vs * pw (j + 1) ≤ pw vs.length * pw (j + 1) := Int.mul_le_mul_of_nonneg_right (by omega) (by have := pw_pos (j + 1); omega)
      rw [← pw_add, hn, show p + 2 + (j + 1) = j + (p + 3) by omega] at h3
      omega
  rw [hz, Int.mul_zero, Int.add_zero] at top
  have hlt : sg j (p + 3) us < val vs * 4294967296 := by
    have h1 : pw j * sg j (p + 3) us < pw j * (val vs * 4294967296) := by
      have : pw j * (val vs * 4294967296) = val vs * pw (j + 1) := by simp only [pw]; grind
      omega
    exact Int.lt_of_mul_lt_mul_left h1 (by omega)
  have hS : sg j (p + 3) us = ((dg us (j + (p + 2)) * 4294967296 + dg us (j + (p + 1))) * 4294967296 + dg us (j + p)) * pw p + sg j p us := by rw [e2, e1, e0, hp1, hp2]; grind
  have hV : val vs = (dg vs (p + 1) * 4294967296 + dg vs p) * pw p + val (vs.take p) := by rw [hv, hp1]; grind
  have hpos : 0 < val vs := by
    have : 0 < (dg vs (p + 1) * 4294967296 + dg vs p) * pw p := Int.mul_pos (by omega) pp
    omega
  refine ⟨⟨u2.1, ?_⟩, hpos, ?_, ?_⟩
  · rcases (show dg us (j + (p + 2)) ≤ dg vs (p + 1) ∨ dg vs (p + 1) + 1 ≤ dg us (j + (p + 2)) by omega) with h | h
    · exact h
    · exfalso
      have h1 : (((dg vs (p + 1) + 1) * 4294967296) * 4294967296) * pw p ≤ ((dg us (j + (p + 2)) * 4294967296 + dg us (j + (p + 1))) * 4294967296 + dg us (j + p)) * pw p := Int.mul_le_mul_of_nonneg_right (by omega) (by omega)
      have h2 : (dg vs (p + 1) * 4294967296 + dg vs p + 1) * pw p ≤ ((dg vs (p + 1) + 1) * 4294967296) * pw p := Int.mul_le_mul_of_nonneg_right (by omega) (by omega)
      have h3 : (((dg vs (p + 1) + 1) * 4294967296) * 4294967296) * pw p = (((dg vs (p + 1) + 1) * 4294967296) * pw p) * 4294967296 := by grind
      have h4 : (dg vs (p + 1) * 4294967296 + dg vs p + 1) * pw p = (dg vs (p + 1) * 4294967296 + dg vs p) * pw p + pw p := by grind
      omega
  · intro q hq
    rw [hn]
    refine est_ok _ _ _ _ (sg j p us) (val (vs.take p)) (pw p) q pp hS s'b hV v'b (by omega) hlt ?_ hq
    have a1 := u2.1
    have a2 := u1.1
    have a3 := u0.1
    omega
  · intro ds hds
    rw [hn] at hds
    have m1 := Int.mul_ediv_add_emod (sg j (p + 3) us) (val vs)
    have m3 := Int.emod_lt_of_pos (sg j (p + 3) us) hpos
    have e : val ds = val (us.take j) + pw j * (sg j (p + 3) us % val vs) := by
      rw [hds, top]
      have : pw j * (sg j (p + 3) us % val vs) = pw j * (sg j (p + 3) us - val vs * (sg j (p + 3) us / val vs)) := by congr 1; omega
      rw [this]
      grind
    have h1 : pw j * (sg j (p + 3) us % val vs) ≤ pw j * (val vs - 1) := Int.mul_le_mul_of_nonneg_left (by omega) (by omega)
    have h2 : pw j * (val vs - 1) = val vs * pw j - pw j := by grind
    omega
/-- The end: what was shifted is shifted back. -/
theorem knuth_end (X Y U Q P : Int) (hP : 0 < P) (hY : 0 < Y) (h : X * P = U + (Y * P) * Q) (h0 : 0 ≤ U) (h1 : U < Y * P) : Q = X / Y ∧ U / P = X % Y := by
  have e : U = P * (X - Y * Q) := by grind
  have r0 : 0 ≤ X - Y * Q := by
    rcases (show 0 ≤ X - Y * Q ∨ X - Y * Q ≤ -1 by omega) with h2 | h2
    · exact h2
    · exfalso
      have : P * (X - Y * Q) ≤ P * (-1) := Int.mul_le_mul_of_nonneg_left h2 (by omega)
      omega
  have r1 : X - Y * Q < Y := by
    have : P * (X - Y * Q) < P * Y := by rw [← e]; rw [Int.mul_comm]; exact h1
    exact Int.lt_of_mul_lt_mul_left this (by omega)
  have q : X / Y = Q := by
    have : X = (X - Y * Q) + Y * Q := by omega
    rw [this, Int.add_mul_ediv_left _ _ (by omega), Int.ediv_eq_zero_of_lt r0 r1]; omega
  refine ⟨q.symm, ?_⟩
  rw [e, Int.mul_ediv_cancel_left _ (by omega)]
  have := Int.mul_ediv_add_emod X Y
  rw [q] at this
  omega
theorem val_take_small (us : List Int) (n : Nat) (hd : ∀ x ∈ us, 0 ≤ x ∧ x ≤ 4294967295) (hn : n ≤ us.length) (h : val us < pw n) : val (us.take n) = val us := by
  have top := val_parts 0 n us (by omega)
  have hnn := (val_bounds (us.drop (0 + n)) (fun x hx => hd x (List.mem_of_mem_drop hx))).1
  have sb := sg_bounds hd 0 n
  have e : sg 0 n us = val (us.take n) := by unfold sg; simp
  simp only [List.take_zero, val, pw, Nat.zero_add] at top
  rw [Nat.zero_add] at hnn
  rcases (show val (us.drop n) = 0 ∨ 1 ≤ val (us.drop n) by omega) with h2 | h2
  · rw [h2] at top; omega
  · exfalso
    have h1 : pw n * 1 ≤ pw n * val (us.drop n) := Int.mul_le_mul_of_nonneg_left h2 (by have := pw_pos n; omega)
    omega
end Go.Proofs.YtegnnghoiffmhaaDoor.Big
