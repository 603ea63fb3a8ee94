/- integer.divide: the quotient and the remainder of rows of digits. -/
import Derived.Test.YtegnnghoiffmhaaDoorIMag
import Derived.Test.YtegnnghoiffmhaaDoorICmp
import Derived.Test.YtegnnghoiffmhaaDoorIShrunk
import Derived.Test.YtegnnghoiffmhaaDoorIShift
import Derived.Test.YtegnnghoiffmhaaDoorIDigit
import Derived.Test.YtegnnghoiffmhaaDoorIKnuth
import Derived.Test.YtegnnghoiffmhaaDoorShelf
import Derived.Test.YtegnnghoiffmhaaDoorWLast
import Derived.Lib.ItoaNum
import Derived.Deep.RegionHeld3
import Derived.Deep.DrawnRows
namespace Go.Proofs.YtegnnghoiffmhaaDoor.Big
open Go.RowKit Go.Proofs.YtegnnghoiffmhaaDoorW.PrintWords Go.Proofs.YtegnnghoiffmhaaDoorW.PrintLast
set_option linter.unusedVariables false
set_option linter.unusedSimpArgs false
attribute [local go_sem ↓] Go.wp_at_zero Go.wp_at_succ
/-- Two rows handed back: a quotient and a remainder. -/
def Quo (e : Ending) (w w' : World) (x y : Int) (n m : Nat) : Prop := ∃ (qA : Option Addr) (qc : Nat) (qs : List Int) (rA : Option Addr) (rc : Nat) (rs : List Int), e = .returned (.tuple #[.slice qA qs.length qc, .slice rA rs.length rc]) ∧ Rd w' qA qc qs ∧ Rd w' rA rc rs ∧ val qs = x / y ∧ val rs = x % y ∧ qs.length ≤ n ∧ rs.length ≤ m ∧ Below w.heap.size w w'
/-- A literal of one digit. -/
theorem Ow.lit1 (W : World) (base : Nat) (a : Int) (ha : 0 ≤ a ∧ a ≤ 4294967295) (h : base ≤ W.heap.size) : Ow (W.alloc (.cells #[.int .u32 a] 57)) base (.slice (some ⟨W.heap.size, 0, none⟩) 1 1) [a] :=
  ⟨⟨fun _ _ => trivial, OwnRow.lit (ps := [a]) (inner := [.int .u32 a]) W base ⟨rfl, fun j p hj => by
    match j, hj with
    | 0, hj => simp at hj; subst hj; rfl
    | j + 1, hj => simp at hj⟩ h (by simp)⟩, fun x hx => by
      simp at hx
      rw [hx]; exact ha⟩
set_option maxRecDepth 100000 in
theorem divide_small (A0 A1 : Option Addr) (c0 c1 : Nat) (xs ys : List Int) (w : World) (h0 : Rd w A0 c0 xs) (h1 : Rd w A1 c1 ys) (t0 : trimL xs = xs) (t1 : trimL ys = ys) (hl0 : xs.length ≤ 274877906944) (hl1 : ys.length ≤ 274877906944) (hlt : val xs < val ys) :
    Calls Tryd.prog 49 #[.slice A0 xs.length c0, .slice A1 ys.length c1] w fun e w' => Quo e w w' (val xs) (val ys) xs.length ys.length := by
  have H := Aside0.mk (And.intro t0 (And.intro t1 (And.intro hlt (cmpZ_lt hlt))))
  clear t0 t1 hlt
  go_enter Tryd.func49, Tryd.ntmps49
  go_wp2_with (first | (go_at_call 58; (with_reducible refine (compare_r A0 A1 c0 c1 xs ys _ h0 h1 H.out.1 H.out.2.1 (by omega) (by omega) (-1) H.out.2.2.2).mono ?_); rintro e w1 ⟨rfl, hd⟩; have hB := hd.below; clear hd) | (go_at_call 59; (with_reducible refine (clone_any A0 c0 xs _ (h0.below hB) (by omega)).mono ?_); rintro e w2 ⟨v, rfl, ho, hb⟩; obtain ⟨A, c, rfl, hR⟩ := ho.rd; replace hB := keep_below hb hB; clear hb ho))
  go_ret2
  have b0 := val_bounds xs h0.dig
  exact ⟨none, 0, [], A, c, xs, rfl, Rd.nil _, hR, (Int.ediv_eq_zero_of_lt b0.1 H.out.2.2.1).symm, (Int.emod_eq_of_lt b0.1 H.out.2.2.1).symm, by simp, len_of_val_le h1.dig h0.dig H.out.1 (by have := H.out.2.2.1; omega), hB⟩
set_option maxRecDepth 100000 in
theorem divide_one (A0 A1 : Option Addr) (c0 c1 : Nat) (xs : List Int) (y : Int) (w : World) (h0 : Rd w A0 c0 xs) (h1 : Rd w A1 c1 [y]) (t0 : trimL xs = xs) (t1 : trimL [y] = [y]) (hl0 : xs.length ≤ 274877906944) (hle : y ≤ val xs) :
    Calls Tryd.prog 49 #[.slice A0 xs.length c0, .slice A1 1 c1] w fun e w' => Quo e w w' (val xs) (val [y]) xs.length 1 := by
  have dy := h1.dig y List.mem_cons_self
  have hy : y ≠ 0 := by rintro rfl; simp [trimL] at t1
  obtain ⟨r, hr⟩ : ∃ r, cmpZ (val xs) (val [y]) = r := ⟨_, rfl⟩
  have hr0 : 0 ≤ r := by rw [← hr]; exact (cmpZ_nonneg _ _).2 (by simpa [val] using hle)
  have H := Aside0.mk (And.intro t0 (And.intro t1 (And.intro hle hr)))
  have HY := Aside0.mk (And.intro dy hy)
  obtain ⟨ad, rfl, x0⟩ := h1.at_ 0 (by simp)
  have x1 : w.cell? (ad.add 0) = some (.int .u32 y) := x0
  have x2 : w.cell? ad = some (.int .u32 y) := x0
  clear t0 t1 hle hr dy hy x0
  go_enter Tryd.func49, Tryd.ntmps49
  go_wp2_with (first | (go_at_call 58; refine (show Calls Tryd.prog 58 #[.slice A0 xs.length c0, .slice (some ad) 1 c1] _ _ from (compare_r A0 (some ad) c0 c1 xs [y] _ h0 h1 H.out.1 H.out.2.1 (by omega) (by simp) r H.out.2.2.2)).mono ?_; rintro e w1 ⟨rfl, hd⟩; have hB := hd.below; clear hd; replace x1 := keep_cell hB x1; replace x2 := keep_cell hB x2) | (go_at_call 59; (with_reducible refine (clone_any A0 c0 xs _ (h0.below hB) (by omega)).mono ?_); rintro e w2 ⟨v, rfl, ho, hb⟩; obtain ⟨A, c, rfl, hR⟩ := ho.rd; have HO := Aside0.mk (ho.lower hB.size); replace x1 := keep_cell hb x1; replace x2 := keep_cell hb x2; replace hB := keep_below hb hB; clear hb ho hR) | (go_at_call 65; (with_reducible refine (shrunk_any A c w.heap.size xs y _ HO.out ⟨by have := HY.out; omega, HY.out.1.2⟩ (by omega)).mono ?_); rintro e w3 ⟨qs, rfl, hq1, hq2, hq3, hq4⟩; have HQ := Aside0.mk (And.intro hq1 (And.intro hq2 (And.intro hq3 hq4))); clear hq1 hq2 hq3 hq4))
  go_ret2
  have q := HQ.out
  have hB3 : Below w.heap.size w w3 := hB.grown q.2.2.2 hB.size HO.out.from_
  have ho4 := Ow.lit1 w3 w.heap.size (val xs % y) (by have := HY.out; have := Int.emod_nonneg (val xs) this.2; have := Int.emod_lt_of_pos (val xs) (show 0 < y by omega); omega) hB3.size
  have hb4 : Below w3.heap.size w3 (w3.alloc (.cells #[.int .u32 (val xs % y)] 57)) := below_alloc (Below.refl _ _) _
  obtain ⟨e1, r1⟩ := (q.1.below hb4).rd'
  obtain ⟨e2, r2⟩ := ho4.rd'
  refine ⟨A, c, qs, some ⟨w3.heap.size, 0, none⟩, 1, [val xs % y], by rw [q.2.2.1]; rfl, r1, r2, ?_, ?_, by omega, by simp, keep_below hb4 hB3⟩
  · rw [q.2.1]; simp [val]
  · simp [val]
theorem lead (x : Int) (h0 : 1 ≤ x) (h1 : x ≤ 4294967295) : ∃ s : Nat, s < 32 ∧ 32 - (Lib.bitLen x.toNat : Int) = s ∧ 2147483648 ≤ x * 2 ^ s ∧ x * 2 ^ s ≤ 4294967295 := by
  obtain ⟨X, rfl⟩ := Int.eq_ofNat_of_zero_le (show 0 ≤ x by omega)
  obtain ⟨a1, a2, a3⟩ := Lib.bitLenAux_bounds 64 X (by omega) (by omega)
  have a4 := Lib.bitLen_le X 32 (by omega) (by omega)
  change 1 ≤ Lib.bitLen X at a1
  change 2 ^ (Lib.bitLen X - 1) ≤ X at a2
  change X < 2 ^ Lib.bitLen X at a3
  rw [Int.toNat_natCast]
  generalize Lib.bitLen X = b at *
  have e1 : 2 ^ (b - 1) * 2 ^ (32 - b) = 2147483648 := by rw [← Nat.pow_add, show b - 1 + (32 - b) = 31 by omega]
  have e2 : 2 ^ b * 2 ^ (32 - b) = 4294967296 := by rw [← Nat.pow_add, show b + (32 - b) = 32 by omega]
  have h2 : 2 ^ (b - 1) * 2 ^ (32 - b) ≤ X * 2 ^ (32 - b) := Nat.mul_le_mul_right _ a2
  have h3 : X * 2 ^ (32 - b) < 2 ^ b * 2 ^ (32 - b) := Nat.mul_lt_mul_of_pos_right a3 (Nat.pow_pos (by omega))
  refine ⟨32 - b, by omega, by omega, ?_, ?_⟩
  · have : ((2147483648 : Nat) : Int) ≤ ((X * 2 ^ (32 - b) : Nat) : Int) := by omega
    simpa using this
  · have : ((X * 2 ^ (32 - b) : Nat) : Int) ≤ ((4294967295 : Nat) : Int) := by omega
    simpa using this
theorem lead_any (x : Int) (s : Nat) (w : World) (h0 : 1 ≤ x) (h1 : x ≤ 4294967295) (hs : 32 - (Lib.bitLen x.toNat : Int) = s) :
    Calls Tryd.prog 74 #[.int .u32 x] w fun e w' => e = .returned (.int .i64 s) ∧ w = w' := by
  refine (Tryd.bits_LeadingZeros32 x w (by omega) h1).mono ?_
  rintro e w' ⟨rfl, rfl⟩
  rw [hs]
  exact ⟨rfl, rfl⟩
theorem last_pos {ys : List Int} {p : Nat} (hn : ys.length = p + 2) (hd : ∀ x ∈ ys, 0 ≤ x ∧ x ≤ 4294967295) (ht : trimL ys = ys) : 1 ≤ dg ys (p + 1) := by
  have h := dg_dig hd (p + 1)
  rcases (show dg ys (p + 1) = 0 ∨ 1 ≤ dg ys (p + 1) by omega) with h0 | h0
  · exfalso
    have e := take_dg ys (p + 1) (by omega)
    rw [List.take_of_length_le (by omega), h0] at e
    have e2 := trimL_zero (ys.take (p + 1))
    rw [← e, ht] at e2
    have := congrArg List.length e2
    have := trimL_len (ys.take (p + 1))
    rw [List.length_take] at this
    omega
  · exact h0
/-- The divisor, shifted, without its highest digit, which is 0. -/
theorem val_v {ys vf : List Int} {p s gv capv base : Nat} {wv : World} {A B : Prop} (hd : ∀ x ∈ ys, 0 ≤ x ∧ x ≤ 4294967295) (hn : ys.length = p + 2) (hsl : s < 32) (hs : 32 - (Lib.bitLen (dg ys (p + 1)).toNat : Int) = s ∧ 2147483648 ≤ dg ys (p + 1) * 2 ^ s ∧ dg ys (p + 1) * 2 ^ s ≤ 4294967295 ∧ 1 ≤ dg ys (p + 1) ∧ dg ys (p + 1) ≤ 4294967295)
    (hv : Ow wv base (.slice (some ⟨gv, 0, none⟩) vf.length capv) vf ∧ val vf = val ys * 2 ^ s ∧ vf.length = p + 3 ∧ A ∧ B) : Rd wv (some ⟨gv, 0, none⟩) capv (vf.take (p + 2)) ∧ val (vf.take (p + 2)) = val ys * 2 ^ s ∧ (vf.take (p + 2)).length = p + 2 ∧ 2147483648 ≤ dg (vf.take (p + 2)) (p + 1) := by
  obtain ⟨-, h2, h3, h4, -⟩ := hs
  obtain ⟨v1, v2, v3, -, -⟩ := hv
  have r := v1.rd'.2
  have p2 : 0 < (2 : Int) ^ s := Int.pow_pos (by omega)
  have e1 := val_take ys (p + 1)
  rw [List.take_of_length_le (by omega)] at e1
  have b1 := val_bounds (ys.take (p + 1)) (take_dig hd (p + 1))
  rw [List.length_take, show min (p + 1) ys.length = p + 1 by omega] at b1
  have ep : pw (p + 2) = pw (p + 1) * 4294967296 := rfl
  have pp := pw_pos (p + 1)
  have hlt : val vf < pw (p + 2) := by
    have h5 : val (ys.take (p + 1)) * 2 ^ s < pw (p + 1) * 2 ^ s := Int.mul_lt_mul_of_pos_right b1.2 p2
    have h6 : (dg ys (p + 1) * 2 ^ s + 2 ^ s) * pw (p + 1) ≤ 4294967296 * pw (p + 1) := by
      refine Int.mul_le_mul_of_nonneg_right ?_ (by omega)
      rcases (show dg ys (p + 1) * 2 ^ s + 2 ^ s ≤ 4294967296 ∨ 4294967296 < dg ys (p + 1) * 2 ^ s + 2 ^ s by omega) with h | h
      · exact h
      · exfalso
        -- a power of two divides both
        · obtain ⟨_, _, q, hq⟩ := pow_bounds hsl
          have h7 : 2 ^ s * q < 2 ^ s * (dg ys (p + 1) + 1) := by rw [hq]; have : (2 : Int) ^ s * (dg ys (p + 1) + 1) = dg ys (p + 1) * 2 ^ s + 2 ^ s := by grind
                                                                  omega
          have h8 := Int.lt_of_mul_lt_mul_left h7 (by omega)
          have h9 : 2 ^ s * q ≤ 2 ^ s * dg ys (p + 1) := Int.mul_le_mul_of_nonneg_left (by omega) (by omega)
          rw [hq, Int.mul_comm] at h9
          omega
    rw [v2, e1, ep]
    have : (val (ys.take (p + 1)) + pw (p + 1) * dg ys (p + 1)) * 2 ^ s = val (ys.take (p + 1)) * 2 ^ s + (dg ys (p + 1) * 2 ^ s) * pw (p + 1) := by grind
    have h10 : (dg ys (p + 1) * 2 ^ s + 2 ^ s) * pw (p + 1) = (dg ys (p + 1) * 2 ^ s) * pw (p + 1) + pw (p + 1) * 2 ^ s := by grind
    omega
  have hv2 := val_take_small vf (p + 2) v1.dig (by omega) hlt
  refine ⟨r.take (by omega), by rw [hv2, v2], by rw [List.length_take]; omega, ?_⟩
  -- the highest digit
  have e2 := val_take vf (p + 1)
  have hdg : dg (vf.take (p + 2)) (p + 1) = dg vf (p + 1) := by simp [dg, List.getD_eq_getElem?_getD, List.getElem?_take]
  have b2 := val_bounds (vf.take (p + 1)) (take_dig v1.dig (p + 1))
  rw [List.length_take, show min (p + 1) vf.length = p + 1 by omega] at b2
  rw [hdg]
  rw [hv2, v2, e1] at e2
  rcases (show 2147483648 ≤ dg vf (p + 1) ∨ dg vf (p + 1) + 1 ≤ 2147483648 by omega) with h | h
  · exact h
  · exfalso
    have h5 : pw (p + 1) * (dg vf (p + 1) + 1) ≤ pw (p + 1) * (dg ys (p + 1) * 2 ^ s) := Int.mul_le_mul_of_nonneg_left (by omega) (by omega)
    have h6 : 0 ≤ val (ys.take (p + 1)) * 2 ^ s := Int.mul_nonneg b1.1 (by omega)
    have h7 : (val (ys.take (p + 1)) + pw (p + 1) * dg ys (p + 1)) * 2 ^ s = val (ys.take (p + 1)) * 2 ^ s + pw (p + 1) * (dg ys (p + 1) * 2 ^ s) := by grind
    have h8 : pw (p + 1) * (dg vf (p + 1) + 1) = pw (p + 1) * dg vf (p + 1) + pw (p + 1) := by grind
    omega
/-- What the rounds of the long division keep: the dividend is what is left and the divisor times the quotient so far. -/
def DivI (w wr : World) (g cap gq capq gv capv : Nat) (X : Int) (vs : List Int) (nu m k : Nat) (us qs : List Int) : Prop :=
  us.length = nu ∧ qs.length = m + 1 ∧ X = val us + val vs * val qs ∧ val us < val vs * pw k ∧ (∀ j, j < k → dg qs j = 0) ∧ Ow wr w.heap.size (.slice (some ⟨g, 0, none⟩) nu cap) us ∧ Ow wr w.heap.size (.slice (some ⟨gq, 0, none⟩) (m + 1) capq) qs ∧ Rd wr (some ⟨gv, 0, none⟩) capv vs ∧ Below w.heap.size w wr
theorem div_start (w wq : World) (g cap gq capq gv capv : Nat) (us vs : List Int) (m p : Nat) (Y : Int) (s : Nat) (hul : us.length = m + p + 3) {xs : List Int} (hx : ∀ x ∈ xs, 0 ≤ x ∧ x ≤ 4294967295) (hxl : xs.length = m + (p + 2)) (hs : s < 32)
    (hv : Rd wq (some ⟨gv, 0, none⟩) capv vs ∧ val vs = Y * 2 ^ s ∧ vs.length = p + 2 ∧ 2147483648 ≤ dg vs (p + 1)) (hu : Ow wq w.heap.size (.slice (some ⟨g, 0, none⟩) us.length cap) us) (huv : val us = val xs * 2 ^ s) (hq : Ow wq w.heap.size (.slice (some ⟨gq, 0, none⟩) (List.replicate (m + 1) (0 : Int)).length capq) (List.replicate (m + 1) 0)) (hB : Below w.heap.size w wq) :
    DivI w wq g cap gq capq gv capv (val xs * 2 ^ s) vs us.length m (m + 1) us (List.replicate (m + 1) 0) := by
  rw [List.length_replicate] at hq
  obtain ⟨v1, v2, v3, v4⟩ := hv
  refine ⟨rfl, by simp, by rw [val_zeros, huv]; omega, ?_, fun j _ => by simp [dg, List.getD_eq_getElem?_getD, List.getElem?_replicate]; split <;> rfl, hu, hq, v1, hB⟩
  obtain ⟨p1, p2, _⟩ := pow_bounds hs
  have xb := val_bounds xs hx
  rw [hxl] at xb
  have e1 := val_take vs (p + 1)
  rw [List.take_of_length_le (by omega)] at e1
  have b1 := (val_bounds (vs.take (p + 1)) (take_dig v1.dig (p + 1))).1
  have h1 : pw (p + 1) * 2147483648 ≤ pw (p + 1) * dg vs (p + 1) := Int.mul_le_mul_of_nonneg_left v4 (by have := pw_pos (p + 1); omega)
  have h2 : (pw (p + 1) * 2147483648) * pw (m + 1) ≤ val vs * pw (m + 1) := Int.mul_le_mul_of_nonneg_right (by omega) (by have := pw_pos (m + 1); omega)
  have h3 : (pw (p + 1) * 2147483648) * pw (m + 1) = 2147483648 * pw (m + (p + 2)) := by
    rw [show m + (p + 2) = (p + 1) + (m + 1) by omega, pw_add (p + 1) (m + 1), Int.mul_comm (pw (p + 1)), Int.mul_assoc]
  have h4 : val xs * 2 ^ s < pw (m + (p + 2)) * 2 ^ s := Int.mul_lt_mul_of_pos_right xb.2 (by omega)
  have h5 : pw (m + (p + 2)) * 2 ^ s ≤ pw (m + (p + 2)) * 2147483648 := Int.mul_le_mul_of_nonneg_left p2 (by have := pw_pos (m + (p + 2)); omega)
  rw [huv]
  omega
theorem div_end (w wr wf : World) (g cap gq capq gv capv : Nat) (vs ys xs us qs ds : List Int) (m p s : Nat) (hs : s < 32) (hyl : ys.length = p + 2) (hxl : xs.length = m + (p + 2)) (hy : ∀ x ∈ ys, 0 ≤ x ∧ x ≤ 4294967295) (hvv : val vs = val ys * 2 ^ s) (hy0 : 0 < val ys)
    (h : DivI w wr g cap gq capq gv capv (val xs * 2 ^ s) vs (m + p + 3) m 0 us qs) (hne : gq ≠ g) (ho : Ow wf w.heap.size (.slice (some ⟨g, 0, none⟩) (m + p + 3) cap) ds) (hv : val ds = val us / 2 ^ s) (hl : ds.length = m + p + 3) (hgr : wr.grownBy wf (some g)) :
    Quo (.returned (.tuple #[.slice (some ⟨gq, 0, none⟩) (m + 1) capq, .slice (some ⟨g, 0, none⟩) (p + 2) cap])) w wf (val xs) (val ys) xs.length ys.length := by
  obtain ⟨h1, h2, h3, h4, h5, h6, h7, h8, h9⟩ := h
  obtain ⟨p1, p2, _⟩ := pow_bounds hs
  rw [hvv] at h3 h4
  simp only [pw, Int.mul_one] at h4
  have ub := val_bounds us h6.dig
  obtain ⟨e1, e2⟩ := knuth_end (val xs) (val ys) (val us) (val qs) (2 ^ s) (by omega) hy0 h3 ub.1 h4
  have hB : Below w.heap.size w wf := h9.grown hgr h9.size h6.from_
  have rq := (h7.rd'.2.grown hgr (fun ad e => by cases e; simpa using hne))
  have rd := ho.rd'.2.take (m := p + 2) (by omega)
  have hval : val (ds.take (p + 2)) = val xs % val ys := by
    rw [val_take_small ds (p + 2) ho.dig (by omega) ?_, hv, e2]
    have b := val_bounds ys hy
    have := Int.emod_lt_of_pos (val xs) hy0
    rw [hv, e2, ← hyl]
    omega
  have l1 : (ds.take (p + 2)).length = p + 2 := by rw [List.length_take]; omega
  exact ⟨_, _, qs, _, _, ds.take (p + 2), by rw [h2, l1], rq, rd, e1, hval, by omega, by omega, hB⟩
set_option maxRecDepth 100000 in
theorem div_next (w wr w1 w2 : World) (g cap gq capq gv capv : Nat) (X : Int) (vs us qs ds : List Int) (nu m p k : Nat) (hn : vs.length = p + 2) (ht : 2147483648 ≤ dg vs (p + 1)) (hl : k + (p + 2) < nu) (hk : k ≤ m) (hd : g < gv ∧ gv < gq)
    (h : DivI w wr g cap gq capq gv capv X vs nu m (k + 1) us qs) (hB : Below wr.heap.size wr w1) {q : Int} (hq : 0 ≤ q ∧ q ≤ 4294967295) (hq2 : sg k (p + 3) us / val vs ≤ q)
    (hds : ds.length = nu ∧ val ds = val us - sg k (p + 3) us / val vs * val vs * pw k ∧ (ds.take k = us.take k ∧ ds.drop (k + (p + 3)) = us.drop (k + (p + 3))) ∧ Ow w2 w.heap.size (.slice (some ⟨g, 0, none⟩) nu cap) ds ∧ w1.grownBy w2 (some g)) :
    (w2.cell? ⟨gq, k, none⟩ = some (.int .u32 (dg qs k)) ∧ w2.frozen? ⟨gq, k, none⟩ = false) ∧ DivI w (w2.setCell ⟨gq, k, none⟩ (.int .u32 (sg k (p + 3) us / val vs))) g cap gq capq gv capv X vs nu m k ds (qs.set k (sg k (p + 3) us / val vs)) := by
  obtain ⟨h1, h2, h3, h4, h5, h6, h7, h8, h9⟩ := h
  obtain ⟨d1, d2, _, d4, d5⟩ := hds
  have ks := knuth_step us vs k p h6.dig h8.dig hn (by omega) ht h4
  rw [hn] at ks
  have sb := sg_bounds h6.dig k (p + 3)
  have q0 : 0 ≤ sg k (p + 3) us / val vs := Int.ediv_nonneg sb.1 (by have := ks.2.1; omega)
  have hQ : Ow w2 w.heap.size (.slice (some ⟨gq, 0, none⟩) (m + 1) capq) qs := (h7.below hB).other d5 (Or.inr (by simp [Value.ownBlock]; omega))
  obtain ⟨gq', capq', e, hg0, _⟩ := h7.form (by omega)
  have e2 : gq = gq' := by simp only [Value.slice.injEq, Option.some.injEq, Addr.mk.injEq] at e; exact e.1.1
  rw [← e2] at hg0
  refine ⟨hQ.cell k (by omega), d1, by simp [h2], ?_, ?_, ?_, ?_, ?_, ?_, ?_⟩
  · rw [val_set qs k _ (by omega), h5 k (by omega), d2, h3]
    generalize sg k (p + 3) us / val vs = Q
    grind
  · exact ks.2.2.2 ds d2
  · intro j hj
    have := h5 j (by omega)
    rw [dg_set_ne' qs k j _ (by omega)]
    exact this
  · exact d4.other (grown_self _ _ _ _) (Or.inr (by simp [Value.ownBlock]; omega))
  · exact hQ.put k _ ⟨q0, by omega⟩
  · exact ((h8.below hB).grown d5 (by rintro ad h; cases h; simp; omega)).grown (grown_self _ _ _ _) (by rintro ad h; cases h; simp; omega)
  · obtain ⟨g', cap', e, hg1, _⟩ := h6.form (by omega)
    have e3 : g = g' := by simp only [Value.slice.injEq, Option.some.injEq, Addr.mk.injEq] at e; exact e.1.1
    rw [← e3] at hg1
    have hb2 : Below w.heap.size w w2 := by
      have := keep_below hB h9
      exact this.trans ⟨d5.os, d5.tape, d5.output, d5.size, fun b hb => d5.block b (by have := h9.size; have := hB.size; omega) (by simp; omega)⟩
    exact below_set hb2 hg0
theorem w64 (n : Int) (h : -9223372036854775808 ≤ n ∧ n ≤ 9223372036854775807) : wrap64 n = n := by unfold wrap64; omega
set_option maxRecDepth 20000 in
theorem divide_many (A0 A1 : Option Addr) (c0 c1 m p : Nat) (xs ys : List Int) (w : World) (h0 : Rd w A0 c0 xs) (h1 : Rd w A1 c1 ys) (t0 : trimL xs = xs) (t1 : trimL ys = ys) (hl0 : xs.length ≤ 274877906944) (hn : ys.length = p + 2) (hm : xs.length = m + (p + 2)) (hle : val ys ≤ val xs) :
    Calls Tryd.prog 49 #[.slice A0 xs.length c0, .slice A1 ys.length c1] w fun e w' => Quo e w w' (val xs) (val ys) xs.length ys.length := by
  obtain ⟨r, hr⟩ : ∃ r, cmpZ (val xs) (val ys) = r := ⟨_, rfl⟩
  have hr0 : 0 ≤ r := by rw [← hr]; exact (cmpZ_nonneg _ _).2 hle
  have dt := dg_dig h1.dig (p + 1)
  have dt1 := last_pos hn h1.dig t1
  obtain ⟨s, hs, hs2, hs3, hs4⟩ := lead (dg ys (p + 1)) dt1 dt.2
  have H := Aside0.mk (And.intro t0 (And.intro t1 (And.intro hle hr)))
  have HS := Aside0.mk (And.intro hs2 (And.intro hs3 (And.intro hs4 (And.intro dt1 dt.2))))
  have HM := Aside0.mk (And.intro hn hm)
  obtain ⟨ad, rfl, x0⟩ := h1.at_ (p + 1) (by omega)
  have x1 : w.cell? ⟨ad.block, ad.off + (p + 1), none⟩ = some (.int .u32 (dg ys (p + 1))) := x0
  have hp : p < 274877906944 := by omega
  have hm1 : m < 274877906944 := by omega
  clear t0 t1 hle hr dt dt1 hs2 hs3 hs4 x0 hm
  have hl : (ys.length == 1) = false := by rw [hn]; simp
  rw [hn]
  rw [hn] at hl
  go_enter Tryd.func49, Tryd.ntmps49
  go_wp2_with (first | (go_at_call 58; refine (show Calls Tryd.prog 58 #[.slice A0 xs.length c0, .slice (some ad) (p + 2) c1] _ _ from (by rw [← HM.out.1]; exact (compare_r A0 (some ad) c0 c1 xs ys _ h0 h1 H.out.1 H.out.2.1 (by omega) (by omega) r H.out.2.2.2))).mono ?_; rintro e w1 ⟨rfl, hd⟩; have hB := hd.below; clear hd; replace x1 := keep_cell hB x1) | (go_at_call 74; (with_reducible refine (lead_any (dg ys (p + 1)) s _ HS.out.2.2.2.1 HS.out.2.2.2.2 HS.out.1).mono ?_); rintro e w' ⟨rfl, rfl⟩))
  replace hB := below_drew hB
  have hn2 := HM.out.1
  have hxl : xs.length ≤ 549755813888 := by omega
  have hyl : ys.length ≤ 549755813888 := by omega
  have hsh : ∀ w1, Rd w1 (some ad) c1 ys → Calls Tryd.prog 75 #[.slice (some ad) (p + 2) c1, .int .i64 s] w1 fun e w' => ∃ v cs, e = .returned v ∧ Own w1 w' v cs ∧ val cs = val ys * 2 ^ s ∧ cs.length = p + 3 := by
    intro w1 hr1
    have h := shifted_any (some ad) c1 s ys w1 hr1 hs hyl
    rw [hn2] at h
    exact h
  have HSH := Aside0.mk hsh
  clear hsh
  go_region_held3 (fun w' => True) (trivial)
    (first | (go_simp; go_at_call 75; (with_reducible refine (shifted_any A0 c0 s xs _ (h0.below hB) hs hxl).mono ?_); rintro e wu ⟨v, us, rfl, hO, hv, hl⟩; obtain ⟨g, cap, rfl, hg0, hg1⟩ := hO.ow.form (by omega); have HU := Aside0.mk (And.intro (hO.ow.lower hB.size) (And.intro hv (And.intro hl (And.intro hg0 hg1)))); replace hB := keep_below hO.be hB; clear hO hv hl hg0 hg1) | (go_simp; go_at_call 75; (with_reducible refine (HSH.out _ (h1.below hB)).mono ?_); rintro e wv ⟨v, vf, rfl, hO, hv, hl⟩; obtain ⟨gv, capv, rfl, hgv0, hgv1⟩ := hO.ow.form (by omega); have HV := Aside0.mk (And.intro (hO.ow.lower hB.size) (And.intro hv (And.intro hl (And.intro hgv0 hgv1)))); have HU2 := Aside0.mk (HU.out.1.below hO.be); replace hB := keep_below hO.be hB; have hcv : p + 2 ≤ capv := (by have := hO.ow.rd'.2.le; omega); have hcv2 : (p : Int) + 2 ≤ (capv : Int) := (by omega); have hcv3 : (0 : Int) ≤ (p : Int) + 2 := (by omega); have hcv4 : ((p : Int) + 2).toNat = p + 2 := (by omega); clear hO hv hl hgv0 hgv1))
  have RV := Aside0.mk (val_v h1.dig HM.out.1 hs HS.out HV.out)
  have em : (xs.length : Int) - ((p : Int) + 2) + 1 = ((m + 1 : Nat) : Int) := by have := HM.out.2; omega
  have EM := Aside0.mk em
  clear em hcv2 hcv3
  have VS := Aside0.mk (And.intro RV.out.1 (And.intro hn2 (And.intro HM.out.2 HV.out.2.2.2)))
  go_wp2_with (first | ((with_reducible refine gate_dst (N := 55) rfl ?_); refine make_u32 rfl rfl _ _ rfl (m + 1) (by rw [← EM.out]; rfl) (by rw [← EM.out]; rfl) (by omega) ?_; intro v11 wq hoq hbq; obtain ⟨gq, capq, rfl, hgq0, hgq1⟩ := hoq.form (by simp); have HQ := Aside0.mk (And.intro (hoq.lower hB.size) (And.intro hgq0 hgq1)); have HU3 := Aside0.mk (HU2.out.below hbq); have RV3 := Aside0.mk (RV.out.1.below hbq); replace hB := keep_below hbq hB; clear hoq hbq hgq0 hgq1))
  obtain ⟨vs, hvs⟩ : ∃ vs, vf.take (p + 2) = vs := ⟨_, rfl⟩
  have hul : us.length = m + p + 3 := by have := HU.out.2.2.1; have := HM.out.2; omega
  have hdis : g < gv ∧ gv < gq := by have := HU.out; have := HV.out; have := HQ.out; omega
  have ST := Aside0.mk (div_start w wq g cap gq capq gv capv us vs m p (val ys) s hul h0.dig HM.out.2 hs (by rw [← hvs]; exact ⟨RV3.out, RV.out.2⟩) HU3.out HU.out.2.1 HQ.out.1 hB)
  have VV := Aside0.mk (show vs.length = p + 2 ∧ 2147483648 ≤ dg vs (p + 1) ∧ val vs = val ys * 2 ^ s by rw [← hvs]; exact ⟨RV.out.2.2.1, RV.out.2.2.2, RV.out.2.1⟩)
  have DI := Aside0.mk hdis
  have UL := Aside0.mk hul
  clear hvs hul hdis HQ HU3 RV3 VS RV HV HU2 hB EM
  go_loopg [12, 13] (m + 1) (fun kq v12 v13 w' => ∃ (k : Nat) (us2 qs : List Int), v12 = .int .i64 ((k : Int) - 1) ∧ Aside0 (k = kq ∧ k ≤ m + 1 ∧ DivI w w' g cap gq capq gv capv (val xs * 2 ^ s) vs us.length m k us2 qs))
  case atStart => exact ⟨m + 1, us, List.replicate (m + 1) 0, by go_num, ⟨rfl, Nat.le_refl _, ST.out⟩⟩
  case round =>
    clear ST
    obtain ⟨k, us2, qs, rfl, HA⟩ := hrel
    cases k with
    | zero =>
      rw [UL.out] at HA ⊢
      have hO := HA.out.2.2.2.2.2.2.2.1
      have hlu := HA.out.2.2.1
      have hun : Calls Tryd.prog 78 #[.slice (some ⟨g, 0, none⟩) (m + p + 3) cap, .int .i64 s] wr fun e w' => ∃ zs, e = .returned (.tuple #[]) ∧ Ow w' w.heap.size (.slice (some ⟨g, 0, none⟩) (m + p + 3) cap) zs ∧ val zs = val us2 / 2 ^ s ∧ zs.length = m + p + 3 ∧ wr.grownBy w' (some g) := by
        have h := unshifted_any (some ⟨g, 0, none⟩) cap w.heap.size s us2 wr (by rw [hlu]; exact hO) hs (by omega)
        rw [hlu] at h
        exact h
      have HUN := Aside0.mk hun
      have hcp : p + 2 ≤ cap := by have := hO.rd'.2.le; omega
      have hcp2 : (p : Int) + 2 ≤ (cap : Int) := by omega
      have hcp3 : ((p : Int) + 2).toNat = p + 2 := by omega
      clear hun hlu hO
      go_wp2_with (first | (go_at_call 78; (with_reducible refine HUN.out.mono ?_); rintro e wf ⟨ds, rfl, hd1, hd2, hd3, hd4⟩; have HD := Aside0.mk (And.intro hd1 (And.intro hd2 (And.intro hd3 hd4))); clear hd1 hd2 hd3 hd4))
      go_region
      go_wp2
      go_ret2
      have hd := HD.out
      have hb1 : Below wf.heap.size wf wf.drew := below_drew (Below.refl _ _)
      have hp0 : 0 < val ys := by have := val_ge ys h1.dig H.out.2.1 (by omega); have := pw_pos (ys.length - 1); omega
      have hfin := div_end w wr wf.drew g cap gq capq gv capv vs ys xs us2 qs ds m p s hs HM.out.1 HM.out.2 h1.dig VV.out.2.2 hp0 HA.out.2.2 (by have := DI.out; omega) (hd.1.below hb1) hd.2.1 hd.2.2.1 ⟨hd.2.2.2.os, hd.2.2.2.tape, hd.2.2.2.output, hd.2.2.2.size, hd.2.2.2.block⟩
      rw [HM.out.1] at hfin
      exact hfin
    | succ k =>
      have hk : k ≤ m := by have := HA.out.2.1; omega
      have hkp : k + (p + 2) < us.length := by have := UL.out; omega
      have hq := HA.out.2.2.2.2.2.2.2.2.1
      have ho := HA.out.2.2.2.2.2.2.2.1
      obtain ⟨y2, _⟩ := ho.cell (k + (p + 2)) hkp
      obtain ⟨y1, _⟩ := ho.cell (k + (p + 1)) (by omega)
      obtain ⟨y0, _⟩ := ho.cell (k + p) (by omega)
      clear ho hq
      obtain ⟨t, ht⟩ : ∃ t, k + p = t := ⟨_, rfl⟩
      have yy2 : wr.cell? ⟨g, t + 2, none⟩ = some (.int .u32 (dg us2 (t + 2))) := by rw [← ht]; exact y2
      have yy1 : wr.cell? ⟨g, t + 1, none⟩ = some (.int .u32 (dg us2 (t + 1))) := by rw [← ht]; exact y1
      have yy0 : wr.cell? ⟨g, t, none⟩ = some (.int .u32 (dg us2 t)) := by rw [← ht]; exact y0
      clear y2 y1 y0
      rw [show (((k + 1 : Nat) : Int) - 1) = (k : Int) by omega]
      have et : (k : Int) + ((p : Int) + 2) = (t : Int) + 2 := by omega
      go_wp2
      have i1 : (t : Int) + 2 - 1 = (t : Int) + 1 := by omega
      have i2 : (t : Int) + 2 - 2 = (t : Int) := by omega
      have n2 : ((t : Int) + 2).toNat = t + 2 := by omega
      have n1 : ((t : Int) + 1).toNat = t + 1 := by omega
      have l2 : (t : Int) + 2 < (us.length : Int) := by omega
      have l1 : (t : Int) + 1 < (us.length : Int) := by omega
      have l0 : (t : Int) < (us.length : Int) := by omega
      have z2 : (0 : Int) ≤ (t : Int) + 2 := by omega
      have z1 : (0 : Int) ≤ (t : Int) + 1 := by omega
      have z0 : (0 : Int) ≤ (t : Int) := by omega
      have HK := Aside0.mk (show k ≤ m ∧ k + p = t from ⟨hk, ht⟩)
      have hdc : ∀ w1, Below wr.heap.size wr w1 → Calls Tryd.prog 77 #[.int .u32 (dg us2 (t + 2)), .int .u32 (dg us2 (t + 1)), .int .u32 (dg us2 t), .slice (some ⟨gv, 0, none⟩) (p + 2) capv] w1 fun e w' => ∃ q, e = .returned (.int .u64 q) ∧ Est q ((dg us2 (t + 2) * 4294967296 + dg us2 (t + 1)) * 4294967296 + dg us2 t) (dg vs (p + 1) * 4294967296 + dg vs p) ∧ Drawn0 w1 w' := by
        intro w1 hb
        have hD := HA.out.2.2
        have vl := VV.out.1
        have ks := knuth_step us2 vs k p hD.2.2.2.2.2.1.dig hD.2.2.2.2.2.2.2.1.dig vl (by rw [hD.1]; omega) VV.out.2.1 hD.2.2.2.1
        have h := digit_any (some ⟨gv, 0, none⟩) capv vs (dg us2 (t + 2)) (dg us2 (t + 1)) (dg us2 t) w1 (hD.2.2.2.2.2.2.2.1.below hb) (by omega) (by rw [vl]; exact VV.out.2.1) (by rw [vl, ← ht, Nat.add_assoc]; exact ks.1) (dg_dig hD.2.2.2.2.2.1.dig _) (dg_dig hD.2.2.2.2.2.1.dig _)
        rw [vl] at h
        exact h
      have HDC := Aside0.mk hdc
      clear hdc
      have l4 : (k : Int) < (m : Int) + 1 := by omega
      have z4 : (0 : Int) ≤ (k : Int) := by omega
      have b1 : -9223372036854775808 ≤ (t : Int) + 1 ∧ (t : Int) + 1 ≤ 9223372036854775807 := by omega
      have b2 : -9223372036854775808 ≤ (t : Int) ∧ (t : Int) ≤ 9223372036854775807 := by omega
      have hw1 := w64 _ b1
      have hw2 := w64 _ b2
      refine start_ (n := 24) (S := (fun W => W.cell? ⟨g, t + 2, none⟩ = some (.int .u32 (dg us2 (t + 2))) ∧ W.cell? ⟨g, t + 1, none⟩ = some (.int .u32 (dg us2 (t + 1))) ∧ W.cell? ⟨g, t, none⟩ = some (.int .u32 (dg us2 t)))) (ds := [21, 23]) #[false, false, false, false, false, false, false, false, false, false, false, false, false, false, false, false, false, false, false, false, false, false, false, false] (by kernel_rfl) rfl rfl (⟨yy2, yy1, yy0⟩) (fun hHeld => ?_)
      refine pure_ (i := 0) (N := some 67) (v := ?_) (a' := ?_) #[true, false, false, false, false, false, false, false, false, false, false, false, false, false, false, false, false, false, false, false, false, false, false, false] rfl rfl (by kernel_rfl) (fun _ _ _ h => h) (Or.inl ⟨by rfl, ?_⟩) ?_ ?_
      rotate_left
      · intro w'
        go_simp
        with_reducible rfl
      rotate_left
      · simp only [Act.put, List.setIfInBounds_toArray, List.set_cons_zero, List.set_cons_succ, i64_w, i32_w]
        rfl
      refine pure_ (i := 1) (N := some 68) (v := ?_) (a' := ?_) #[true, true, false, false, false, false, false, false, false, false, false, false, false, false, false, false, false, false, false, false, false, false, false, false] rfl rfl (by kernel_rfl) (fun _ _ _ h => h) (Or.inl ⟨by rfl, ?_⟩) ?_ ?_
      rotate_left
      · intro w'
        go_simp
        with_reducible rfl
      rotate_left
      · simp only [Act.put, List.setIfInBounds_toArray, List.set_cons_zero, List.set_cons_succ, i64_w, i32_w]
        rfl
      refine pure_ (i := 2) (N := some 69) (v := ?_) (a' := ?_) #[true, true, true, false, false, false, false, false, false, false, false, false, false, false, false, false, false, false, false, false, false, false, false, false] rfl rfl (by kernel_rfl) (fun _ _ _ h => h) (Or.inl ⟨by rfl, ?_⟩) ?_ ?_
      rotate_left
      · intro w'
        go_simp
        with_reducible rfl
      rotate_left
      · simp only [Act.put, List.setIfInBounds_toArray, List.set_cons_zero, List.set_cons_succ, i64_w, i32_w]
        rfl
      refine pure_ (i := 3) (N := some 70) (v := ?_) (a' := ?_) #[true, true, true, true, false, false, false, false, false, false, false, false, false, false, false, false, false, false, false, false, false, false, false, false] rfl rfl (by kernel_rfl) (fun _ _ _ h => h) (Or.inl ⟨by rfl, ?_⟩) ?_ ?_
      rotate_left
      · intro w'
        go_simp
        with_reducible rfl
      rotate_left
      · simp only [Act.put, List.setIfInBounds_toArray, List.set_cons_zero, List.set_cons_succ, i64_w, i32_w]
        rfl
      refine pure_ (i := 4) (N := some 71) (v := ?_) (a' := ?_) #[true, true, true, true, true, false, false, false, false, false, false, false, false, false, false, false, false, false, false, false, false, false, false, false] rfl rfl (by kernel_rfl) (fun _ _ _ h => h) (Or.inl ⟨by rfl, ?_⟩) ?_ ?_
      rotate_left
      · intro w'
        go_simp
        with_reducible rfl
      rotate_left
      · simp only [Act.put, List.setIfInBounds_toArray, List.set_cons_zero, List.set_cons_succ, i64_w, i32_w]
        rfl
      refine pure_ (i := 5) (N := some 72) (v := ?_) (a' := ?_) #[true, true, true, true, true, true, false, false, false, false, false, false, false, false, false, false, false, false, false, false, false, false, false, false] rfl rfl (by kernel_rfl) (fun _ _ _ h => h) (Or.inl ⟨by rfl, ?_⟩) ?_ ?_
      rotate_left
      · intro w'
        go_simp
        with_reducible rfl
      rotate_left
      · simp only [Act.put, List.setIfInBounds_toArray, List.set_cons_zero, List.set_cons_succ, i64_w, i32_w]
        rfl
      refine pure_ (i := 6) (N := some 73) (v := ?_) (a' := ?_) #[true, true, true, true, true, true, true, false, false, false, false, false, false, false, false, false, false, false, false, false, false, false, false, false] rfl rfl (by kernel_rfl) (fun _ _ _ h => h) (Or.inl ⟨by rfl, ?_⟩) ?_ ?_
      rotate_left
      · intro w'
        go_simp
        with_reducible rfl
      rotate_left
      · simp only [Act.put, List.setIfInBounds_toArray, List.set_cons_zero, List.set_cons_succ, i64_w, i32_w]
        rfl
      refine pure_ (i := 7) (N := some 74) (v := ?_) (a' := ?_) #[true, true, true, true, true, true, true, true, false, false, false, false, false, false, false, false, false, false, false, false, false, false, false, false] rfl rfl (by kernel_rfl) (fun _ _ _ h => h) (Or.inl ⟨by rfl, ?_⟩) ?_ ?_
      rotate_left
      · intro w'
        go_simp
        with_reducible rfl
      rotate_left
      · simp only [Act.put, List.setIfInBounds_toArray, List.set_cons_zero, List.set_cons_succ, i64_w, i32_w]
        rfl
      refine take_ (i := 8) (N := some 75) (v := ?_) (a' := ?_) #[true, true, true, true, true, true, true, true, true, false, false, false, false, false, false, false, false, false, false, false, false, false, false, false] rfl rfl (by kernel_rfl) (fun _ _ _ h => h) (Or.inl ⟨by rfl, ?_⟩) hHeld ?_ ?_
      rotate_left
      · rintro w' ⟨s2, s1, s0⟩
        go_simp
        with_reducible rfl
      rotate_left
      · simp only [Act.put, List.setIfInBounds_toArray, List.set_cons_zero, List.set_cons_succ, i64_w, i32_w]
        rfl
      refine pure_ (i := 9) (N := some 76) (v := ?_) (a' := ?_) #[true, true, true, true, true, true, true, true, true, true, false, false, false, false, false, false, false, false, false, false, false, false, false, false] rfl rfl (by kernel_rfl) (fun _ _ _ h => h) (Or.inl ⟨by rfl, ?_⟩) ?_ ?_
      rotate_left
      · intro w'
        go_simp
        with_reducible rfl
      rotate_left
      · simp only [Act.put, List.setIfInBounds_toArray, List.set_cons_zero, List.set_cons_succ, i64_w, i32_w]
        rfl
      refine pure_ (i := 10) (N := some 77) (v := ?_) (a' := ?_) #[true, true, true, true, true, true, true, true, true, true, true, false, false, false, false, false, false, false, false, false, false, false, false, false] rfl rfl (by kernel_rfl) (fun _ _ _ h => h) (Or.inl ⟨by rfl, ?_⟩) ?_ ?_
      rotate_left
      · intro w'
        go_simp
        with_reducible rfl
      rotate_left
      · simp only [Act.put, List.setIfInBounds_toArray, List.set_cons_zero, List.set_cons_succ, i64_w, i32_w]
        rfl
      refine pure_ (i := 11) (N := some 78) (v := ?_) (a' := ?_) #[true, true, true, true, true, true, true, true, true, true, true, true, false, false, false, false, false, false, false, false, false, false, false, false] rfl rfl (by kernel_rfl) (fun _ _ _ h => h) (Or.inl ⟨by rfl, ?_⟩) ?_ ?_
      rotate_left
      · intro w'
        go_simp
        with_reducible rfl
      rotate_left
      · simp only [Act.put, List.setIfInBounds_toArray, List.set_cons_zero, List.set_cons_succ, i64_w, i32_w]
        rfl
      refine pure_ (i := 12) (N := some 79) (v := ?_) (a' := ?_) #[true, true, true, true, true, true, true, true, true, true, true, true, true, false, false, false, false, false, false, false, false, false, false, false] rfl rfl (by kernel_rfl) (fun _ _ _ h => h) (Or.inl ⟨by rfl, ?_⟩) ?_ ?_
      rotate_left
      · intro w'
        go_simp
        with_reducible rfl
      rotate_left
      · simp only [Act.put, List.setIfInBounds_toArray, List.set_cons_zero, List.set_cons_succ, i64_w, i32_w]
        rfl
      refine take_ (i := 13) (N := some 80) (v := ?_) (a' := ?_) #[true, true, true, true, true, true, true, true, true, true, true, true, true, true, false, false, false, false, false, false, false, false, false, false] rfl rfl (by kernel_rfl) (fun _ _ _ h => h) (Or.inl ⟨by rfl, ?_⟩) hHeld ?_ ?_
      rotate_left
      · rintro w' ⟨s2, s1, s0⟩
        go_simp
        with_reducible rfl
      rotate_left
      · simp only [Act.put, List.setIfInBounds_toArray, List.set_cons_zero, List.set_cons_succ, i64_w, i32_w]
        rfl
      refine pure_ (i := 14) (N := some 81) (v := ?_) (a' := ?_) #[true, true, true, true, true, true, true, true, true, true, true, true, true, true, true, false, false, false, false, false, false, false, false, false] rfl rfl (by kernel_rfl) (fun _ _ _ h => h) (Or.inl ⟨by rfl, ?_⟩) ?_ ?_
      rotate_left
      · intro w'
        go_simp
        with_reducible rfl
      rotate_left
      · simp only [Act.put, List.setIfInBounds_toArray, List.set_cons_zero, List.set_cons_succ, i64_w, i32_w]
        rfl
      refine pure_ (i := 15) (N := some 82) (v := ?_) (a' := ?_) #[true, true, true, true, true, true, true, true, true, true, true, true, true, true, true, true, false, false, false, false, false, false, false, false] rfl rfl (by kernel_rfl) (fun _ _ _ h => h) (Or.inl ⟨by rfl, ?_⟩) ?_ ?_
      rotate_left
      · intro w'
        go_simp
        with_reducible rfl
      rotate_left
      · simp only [Act.put, List.setIfInBounds_toArray, List.set_cons_zero, List.set_cons_succ, i64_w, i32_w]
        rfl
      refine pure_ (i := 16) (N := some 83) (v := ?_) (a' := ?_) #[true, true, true, true, true, true, true, true, true, true, true, true, true, true, true, true, true, false, false, false, false, false, false, false] rfl rfl (by kernel_rfl) (fun _ _ _ h => h) (Or.inl ⟨by rfl, ?_⟩) ?_ ?_
      rotate_left
      · intro w'
        go_simp
        with_reducible rfl
      rotate_left
      · simp only [Act.put, List.setIfInBounds_toArray, List.set_cons_zero, List.set_cons_succ, i64_w, i32_w]
        rfl
      refine pure_ (i := 17) (N := some 84) (v := ?_) (a' := ?_) #[true, true, true, true, true, true, true, true, true, true, true, true, true, true, true, true, true, true, false, false, false, false, false, false] rfl rfl (by kernel_rfl) (fun _ _ _ h => h) (Or.inl ⟨by rfl, ?_⟩) ?_ ?_
      rotate_left
      · intro w'
        go_simp
        with_reducible rfl
      rotate_left
      · simp only [Act.put, List.setIfInBounds_toArray, List.set_cons_zero, List.set_cons_succ, i64_w, i32_w]
        rfl
      refine take_ (i := 18) (N := some 85) (v := ?_) (a' := ?_) #[true, true, true, true, true, true, true, true, true, true, true, true, true, true, true, true, true, true, true, false, false, false, false, false] rfl rfl (by kernel_rfl) (fun _ _ _ h => h) (Or.inl ⟨by rfl, ?_⟩) hHeld ?_ ?_
      rotate_left
      · rintro w' ⟨s2, s1, s0⟩
        go_simp
        with_reducible rfl
      rotate_left
      · simp only [Act.put, List.setIfInBounds_toArray, List.set_cons_zero, List.set_cons_succ, i64_w, i32_w]
        rfl
      refine pure_ (i := 19) (N := some 86) (v := ?_) (a' := ?_) #[true, true, true, true, true, true, true, true, true, true, true, true, true, true, true, true, true, true, true, true, false, false, false, false] rfl rfl (by kernel_rfl) (fun _ _ _ h => h) (Or.inl ⟨by rfl, ?_⟩) ?_ ?_
      rotate_left
      · intro w'
        go_simp
        with_reducible rfl
      rotate_left
      · simp only [Act.put, List.setIfInBounds_toArray, List.set_cons_zero, List.set_cons_succ, i64_w, i32_w]
        rfl
      clear hw1 hw2
      refine one_ (i := 20) (N := some 87) #[true, true, true, true, true, true, true, true, true, true, true, true, true, true, true, true, true, true, true, true, true, false, false, false] rfl rfl (by kernel_rfl) (by decide) (fun K hK => ?_)
      · refine goes_ Tryd.func77 (by kernel_rfl) rfl #[.int .u32 (dg us2 (t + 2)), .int .u32 (dg us2 (t + 1)), .int .u32 (dg us2 t), .slice (some ⟨gv, 0, none⟩) (p + 2) capv] (by rfl) rfl rfl (by (try simp only [List.map_toArray, List.map_cons, List.map_nil]); first | done | rfl) ?_
        refine (HDC.out _ (below_drew (Below.refl _ _))).mono ?_
        rintro e w1 ⟨q, rfl, hE, hd⟩
        refine ⟨_, rfl, ?_⟩
        have hB2 : Below wr.heap.size wr w1 := (below_drew (Below.refl _ _)).trans hd.below
        have HE := Aside0.mk (And.intro hE hB2)
        refine hK.out _ _ ⟨keep_cell hB2 yy2, keep_cell hB2 yy1, keep_cell hB2 yy0⟩ (fun hHeld => ?_)
        refine norm_ (a' := ?_) ?_ ?_
        rotate_left
        · show Act.put _ (some 87) _ = _
          simp only [Act.put, List.setIfInBounds_toArray, List.set_cons_zero, List.set_cons_succ, i64_w, i32_w]
          rfl
        refine last_ (i := 21) (N := some 88) #[true, true, true, true, true, true, true, true, true, true, true, true, true, true, true, true, true, true, true, true, true, true, false, false] rfl rfl (by kernel_rfl) (by decide) (fun K hK => ?_)
        refine goes_ Tryd.func76 (by kernel_rfl) rfl #[.slice (some ⟨g, 0, none⟩) us.length cap, .slice (some ⟨gv, 0, none⟩) (p + 2) capv, .int .i64 (k : Int), .int .u64 q] (by rfl) rfl rfl (by (try simp only [List.map_toArray, List.map_cons, List.map_nil]); first | done | rfl) ?_
        obtain ⟨hE, hB2⟩ := HE.out
        clear HE
        obtain ⟨hD0, hD1, hD⟩ := HA.out
        have vl := VV.out.1
        have ks := knuth_step us2 vs k p hD.2.2.2.2.2.1.dig hD.2.2.2.2.2.2.2.1.dig vl (by rw [hD.1]; omega) VV.out.2.1 hD.2.2.2.1
        have hq := ks.2.2.1 q (by rw [← HK.out.2] at hE; rw [Nat.add_assoc, Nat.add_assoc] at hE; exact hE)
        have hrc := reduce_any g cap w.heap.size k us2 (some ⟨gv, 0, none⟩) capv vs q w1 (by rw [hD.1]; exact hD.2.2.2.2.2.1.below hB2) (hD.2.2.2.2.2.2.2.1.below hB2) (by rintro ad h; cases h; have := DI.out; simp; omega) (by rw [vl, hD.1]; exact hkp) (by rw [hD.1, UL.out]; omega) hE.1 ks.2.1 hq.1 hq.2
        rw [vl, hD.1] at hrc
        refine hrc.mono ?_
        rintro e w2 ⟨ds, rfl, hds⟩
        refine ⟨_, rfl, ?_⟩
        have hnx := div_next w wr w1 w2 g cap gq capq gv capv _ vs us2 qs ds us.length m p k vl VV.out.2.1 hkp HK.out.1 DI.out hD hB2 hE.1 (by have := hq.1; rw [vl] at this; exact this) hds
        obtain ⟨⟨c1, c2⟩, hN⟩ := hnx
        have HN := Aside0.mk hN
        clear hds hD hrc ks hq hE vl hD0 hD1 hN
        refine hK.out _ _ ?_
        refine norm_ (a' := ?_) ?_ ?_
        rotate_left
        · show Act.put _ (some 88) _ = _
          simp only [Act.put, List.setIfInBounds_toArray, List.set_cons_zero, List.set_cons_succ, i64_w, i32_w]
          rfl
        refine pure_ (i := 22) (N := some 89) (v := ?_) (a' := ?_) #[true, true, true, true, true, true, true, true, true, true, true, true, true, true, true, true, true, true, true, true, true, true, true, false] rfl rfl (by kernel_rfl) (fun _ _ _ h => h) (Or.inl ⟨by rfl, ?_⟩) ?_ ?_
        rotate_left
        · intro w'
          go_simp
          with_reducible rfl
        rotate_left
        · simp only [Act.put, List.setIfInBounds_toArray, List.set_cons_zero, List.set_cons_succ, i64_w, i32_w]
          rfl
        refine last_ (i := 23) (N := none) #[true, true, true, true, true, true, true, true, true, true, true, true, true, true, true, true, true, true, true, true, true, true, true, true] rfl rfl (by kernel_rfl) (by decide) (fun K hK => ?_)
        refine skip_ (w1 := ?_) (by rfl) rfl ?_ ?_
        rotate_left
        · go_simp
          rfl
        refine hK.out _ _ ?_
        refine done_ (by kernel_rfl) ?_
        go_wp2
        go_roundg (gk - 1)
        case measure => have := HA.out; omega
        case rel => exact ⟨k, ds, _, by go_num, ⟨by have := HA.out; omega, by have := HK.out; omega, HN.out⟩⟩
end Go.Proofs.YtegnnghoiffmhaaDoor.Big
