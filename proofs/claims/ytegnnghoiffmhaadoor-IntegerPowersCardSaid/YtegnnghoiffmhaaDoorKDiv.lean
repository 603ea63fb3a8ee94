/- The reference's divDigits: division by shifts and subtractions. -/
import Derived.Test.YtegnnghoiffmhaaDoorKShift
import Derived.Test.YtegnnghoiffmhaaDoorMC
import Derived.Test.YtegnnghoiffmhaaDoorMB
namespace Go.Proofs.YtegnnghoiffmhaaDoor.Big
open Go.RowKit Go.Proofs.YtegnnghoiffmhaaDoorW.PrintWords Go.Proofs.YtegnnghoiffmhaaDoorW.PrintLast
set_option linter.unusedVariables false
set_option linter.unusedSimpArgs false
attribute [local go_sem ↓] Go.wp_at_zero Go.wp_at_succ
theorem Rd.apart {w : World} {A : Option Addr} {c : Nat} {xs : List Int} (h : Rd w A c xs) {g : Nat} (hA : ∀ ad, A = some ad → ad.block ≠ g) (k : Nat) (u : Value) : Rd (w.setCell ⟨g, k, none⟩ u) A c xs :=
  h.grown (grown_self w g k u) (fun ad e h2 => hA ad e (by injection h2))
theorem val_drop_pw (xs : List Int) (k : Nat) : val xs = val (xs.take k) + pw k * val (xs.drop k) := by
  by_cases h : k ≤ xs.length
  · have e := val_append (xs.take k) (xs.drop k)
    rw [List.take_append_drop, List.length_take, show min k xs.length = k by omega] at e
    exact e
  · rw [List.take_of_length_le (by omega), List.drop_of_length_le (by omega)]; simp [val]
theorem dg_val (xs : List Int) (k : Nat) (hd : ∀ x ∈ xs, 0 ≤ x ∧ x ≤ 4294967295) : dg xs k = val xs / pw k % 4294967296 := by
  have e := val_drop_pw xs k
  have b := val_bounds (xs.take k) (take_dig hd k)
  have hp := pw_le (show (xs.take k).length ≤ k by rw [List.length_take]; omega)
  have p := pw_pos k
  rw [e, Int.add_mul_ediv_left _ _ (by omega), Int.ediv_eq_zero_of_lt b.1 (by omega), Int.zero_add]
  by_cases h : k < xs.length
  · rw [drop_dg xs k h]
    have d := dg_dig hd k
    simp only [val]
    omega
  · rw [dg_ge xs k (by omega), List.drop_of_length_le (by omega)]; rfl
/-- A bit put where all lower ones are 0. -/
theorem bit_or {xs : List Int} {k s : Nat} {Q : Int} (hd : ∀ x ∈ xs, 0 ≤ x ∧ x ≤ 4294967295) (hs : s < 32) (hQ : val xs = Q * 2 ^ (32 * k + s + 1)) : bits .or .u32 (dg xs k) (2 ^ s) = dg xs k + 2 ^ s ∧ dg xs k + 2 ^ s ≤ 4294967295 := by
  have e := dg_val xs k hd
  have p2 : 0 < (2 : Int) ^ (32 * k) := Int.pow_pos (by omega)
  rw [hQ, pw_two, show 32 * k + s + 1 = (s + 1) + 32 * k by omega, Int.pow_add, ← Int.mul_assoc, Int.mul_ediv_cancel _ (by omega)] at e
  have d := dg_dig hd k
  obtain ⟨D, hD⟩ := Int.eq_ofNat_of_zero_le d.1
  have hdvd : (2 : Int) ^ (s + 1) ∣ dg xs k := by
    rw [e]
    have h1 : (2 : Int) ^ (s + 1) ∣ 4294967296 := by
      have : (4294967296 : Int) = 2 ^ (s + 1) * 2 ^ (31 - s) := by rw [← Int.pow_add, show s + 1 + (31 - s) = 32 by omega]; rfl
      rw [this]; exact Int.dvd_mul_right _ _
    rw [Int.emod_def]; exact Int.dvd_sub (Int.dvd_mul_left _ _) (Int.dvd_trans h1 (Int.dvd_mul_right _ _))
  have hdn : 2 ^ (s + 1) ∣ D := by rw [hD] at hdvd; exact_mod_cast hdvd
  obtain ⟨M, hM⟩ := hdn
  have hlt : D < 2 ^ (s + 1) * 2 ^ (31 - s) := by rw [← Nat.pow_add, show s + 1 + (31 - s) = 32 by omega]; omega
  rw [hM] at hlt
  have hM2 : M < 2 ^ (31 - s) := Nat.lt_of_mul_lt_mul_left hlt
  have hle : 2 ^ (s + 1) * (M + 1) ≤ 2 ^ (s + 1) * 2 ^ (31 - s) := Nat.mul_le_mul_left _ (by omega)
  rw [← Nat.pow_add, show s + 1 + (31 - s) = 32 by omega, Nat.mul_add, Nat.mul_one, ← hM] at hle
  have hs2 : 2 ^ s < 2 ^ (s + 1) := Nat.pow_lt_pow_right (by omega) (by omega)
  have hc : (2 : Int) ^ s = ((2 ^ s : Nat) : Int) := by simp
  refine ⟨?_, by rw [hD, hc]; omega⟩
  rw [hD, hc, u32_or_nat _ _ (by omega) (by omega), hM, ← Nat.two_pow_add_eq_or_of_lt hs2]
  rfl
theorem trimmed_len {xs : List Int} (hd : ∀ x ∈ xs, 0 ≤ x ∧ x ≤ 4294967295) (ht : trimL xs = xs) {n : Nat} (h : val xs < pw n) : xs.length ≤ n := by
  rcases Nat.eq_zero_or_pos xs.length with h0 | h0
  · omega
  · have h1 := val_ge xs hd ht h0
    rcases Nat.lt_or_ge n xs.length with h2 | h2
    · have := pw_le (show n ≤ xs.length - 1 by omega); omega
    · exact h2
/-- A quotient and a remainder handed back, the remainder without zeros at its end. -/
def QuoT (e : Ending) (w w' : World) (x y : Int) (n m : Nat) : Prop := ∃ (qA : Option Addr) (qc : Nat) (qs : List Int) (rA : Option Addr) (rc : Nat) (rs : List Int), e = .returned (.tuple #[.slice qA qs.length qc, .slice rA rs.length rc]) ∧ Rd w' qA qc qs ∧ Rd w' rA rc rs ∧ val qs = x / y ∧ val rs = x % y ∧ qs.length ≤ n ∧ rs.length ≤ m ∧ trimL rs = rs ∧ Below w.heap.size w w'
/-- What the loop keeps: j bits of the quotient are still to be found. -/
structure DvI (w w' : World) (xs ys : List Int) (n m j : Nat) (rA : Option Addr) (rc : Nat) (rs : List Int) (dA : Option Addr) (dc : Nat) (ds : List Int) (g cap : Nat) (qs : List Int) : Prop where
  r : Rd w' rA rc rs
  d : Rd w' dA dc ds
  q : Ow w' w.heap.size (.slice (some ⟨g, 0, none⟩) (m + 1) cap) qs
  ar : ∀ ad, rA = some ad → ad.block ≠ g
  ad : ∀ ad, dA = some ad → ad.block ≠ g
  tr : trimL rs = rs
  td : trimL ds = ds
  ql : qs.length = m + 1
  sum : val xs = val rs + val ys * val qs
  lt : val rs < val ys * 2 ^ j
  low : ∃ Q, val qs = Q * 2 ^ j
  dv : 1 ≤ j → val ds = val ys * 2 ^ (j - 1)
  jn : j ≤ n + 1
  be : Below w.heap.size w w'
  dl : ds.length ≤ xs.length
  rl : rs.length ≤ xs.length
theorem RowFr.neq {w : World} {A : Option Addr} {g : Nat} (h : ∀ ad, A = some ad → w.heap.size ≤ ad.block) (hg : g < w.heap.size) : ∀ ad, A = some ad → ad.block ≠ g := fun ad e => by have := h ad e; omega
set_option maxRecDepth 100000 in
theorem divDigits_less (A0 A1 : Option Addr) (c0 c1 : Nat) (xs ys : List Int) (w : World) (h0 : Rd w A0 c0 xs) (h1 : Rd w A1 c1 ys) (hl0 : xs.length ≤ 274877906944) (hl1 : ys.length ≤ 274877906944) (hlt : bl (val xs) < bl (val ys)) :
    Calls Tryd.prog 52 #[.slice A0 xs.length c0, .slice A1 ys.length c1] w fun e w' => QuoT e w w' (val xs) (val ys) xs.length ys.length := by
  have L0 := trimL_len xs
  have hv : val xs < val ys := by
    rcases (show val ys ≤ 0 ∨ 0 < val ys by omega) with h | h
    · have : bl (val ys) = 0 := by unfold bl; rw [if_pos h]
      omega
    · have h2 := (bl_bounds h).2.1
      have h3 := bl_lt (val xs)
      have h4 : (2 : Int) ^ bl (val xs) ≤ 2 ^ (bl (val ys) - 1) := by exact_mod_cast Nat.pow_le_pow_right (show 0 < 2 by omega) (show bl (val xs) ≤ bl (val ys) - 1 by omega)
      omega
  have HV := Aside0.mk hv
  have b0 : bl (val xs) ≤ 35184372088832 := by have := bl_le (v := val xs) (k := 32 * xs.length) (by rw [← pw_two]; exact (val_bounds xs h0.dig).2); omega
  have b1 : bl (val ys) ≤ 35184372088832 := by have := bl_le (v := val ys) (k := 32 * ys.length) (by rw [← pw_two]; exact (val_bounds ys h1.dig).2); omega
  have Q := Aside0.mk (And.intro (Int.ediv_eq_zero_of_lt (val_bounds xs h0.dig).1 hv) (Int.emod_eq_of_lt (val_bounds xs h0.dig).1 hv))
  have hlen : (trimL xs).length ≤ ys.length := by
    have h2 := pw_le (Nat.le_refl ys.length)
    exact trimmed_len h0.trim.dig (trimL_trimL _) (by rw [val_trim]; have := (val_bounds ys h1.dig).2; omega)
  have k0 := fun w1 (hb : Below w.heap.size w w1) => bitLen_ref A0 c0 xs w1 (h0.below hb) (by omega)
  have k1 := fun w1 (hb : Below w.heap.size w w1) => bitLen_ref A1 c1 ys w1 (h1.below hb) (by omega)
  generalize bl (val xs) = p at hlt b0 k0
  generalize bl (val ys) = q at hlt b1 k1
  have K0 := Aside0.mk k0
  have K1 := Aside0.mk k1
  clear k0 k1 hv
  go_enter Tryd.func52, Tryd.ntmps52
  go_wp2_with (first
    | (go_at_call 63; (with_reducible refine (trim_any A0 c0 xs _ h0 (by omega)).mono ?_); rintro e w1 ⟨rfl, rfl⟩)
    | (at_builtin; refine app_u32 (w0 := w1) (base := w1.heap.size) rfl _ _ rfl (.slice none 0 0) [] (trimL xs) A0 c0 rfl rfl (Ow.nil _ _) h0.trim (Below.refl _ _) (Nat.le_refl _) (by simp; omega) ?_; intro v1 w2 ho hb; rw [List.nil_append] at ho; obtain ⟨A2, c2, rfl, hR⟩ := ho.rd; have HRB := Aside0.mk (And.intro hR hb); clear ho hb hR)
    | (go_at_call 71; (with_reducible refine (K0.out _ HRB.out.2).mono ?_); rintro e w3 ⟨rfl, rfl⟩)
    | (go_at_call 71; (with_reducible refine (K1.out _ HRB.out.2).mono ?_); rintro e w4 ⟨rfl, rfl⟩))
  go_ret2
  exact ⟨none, 0, [], A2, c2, trimL xs, rfl, Rd.nil _, HRB.out.1, by rw [Q.out.1]; rfl, by rw [val_trim, Q.out.2], by simp, hlen, trimL_trimL _, HRB.out.2⟩
theorem DvI.qlt {w w' : World} {xs ys rs ds qs : List Int} {rA dA : Option Addr} {rc dc n m j g cap : Nat} (h : DvI w w' xs ys n m j rA rc rs dA dc ds g cap qs) : g < w'.heap.size := by
  obtain ⟨g', c', e, -, h⟩ := h.q.form (by have := h.ql; omega)
  simp only [Value.slice.injEq, Option.some.injEq, Addr.mk.injEq] at e
  obtain ⟨⟨rfl, -⟩, -⟩ := e
  exact h
theorem dv_start {w w2 : World} {xs ys rs ds : List Int} {rA dA : Option Addr} {rc dc n m g cap : Nat} (hn : n + bl (val ys) = bl (val xs)) (hx : ∀ x ∈ xs, 0 ≤ x ∧ x ≤ 4294967295) (hy : 0 < val ys)
    (hr : Rd w2 rA rc rs) (hd : Rd w2 dA dc ds) (hq : Ow w2 w.heap.size (.slice (some ⟨g, 0, none⟩) (m + 1) cap) (List.replicate (m + 1) 0)) (ar : ∀ ad, rA = some ad → ad.block ≠ g) (ad : ∀ ad, dA = some ad → ad.block ≠ g)
    (hrs : rs = trimL xs) (hds : val ds = val ys * 2 ^ n) (td : trimL ds = ds) (be : Below w.heap.size w w2) : DvI w w2 xs ys n m (n + 1) rA rc rs dA dc ds g cap (List.replicate (m + 1) 0) := by
  have hb := bl_bounds hy
  have hxl := bl_lt (val xs)
  rw [← hn] at hxl
  have hyl := hb.2.1
  have p1 : (2 : Int) ^ (bl (val ys) - 1) * 2 ^ (n + 1) ≤ val ys * 2 ^ (n + 1) := Int.mul_le_mul_of_nonneg_right hyl (by have : 0 < (2 : Int) ^ (n + 1) := Int.pow_pos (by omega); omega)
  rw [← Int.pow_add, show bl (val ys) - 1 + (n + 1) = n + bl (val ys) by omega] at p1
  refine ⟨hr, hd, hq, ar, ad, by rw [hrs]; exact trimL_trimL _, td, by simp, by rw [val_zeros, hrs, val_trim]; omega, by rw [hrs, val_trim]; omega, ⟨0, by rw [val_zeros]; omega⟩, fun _ => by rw [Nat.add_sub_cancel]; exact hds, by omega, be, ?_, by rw [hrs]; exact trimL_len _⟩
  refine trimmed_len hd.dig td ?_
  rw [hds, pw_two]
  have p2 : val ys * 2 ^ n < 2 ^ bl (val ys) * 2 ^ n := Int.mul_lt_mul_of_pos_right hb.2.2 (Int.pow_pos (by omega))
  rw [← Int.pow_add, show bl (val ys) + n = bl (val xs) by omega] at p2
  have p3 : bl (val xs) ≤ 32 * xs.length := bl_le (by rw [← pw_two]; exact (val_bounds xs hx).2)
  have p4 : (2 : Int) ^ bl (val xs) ≤ 2 ^ (32 * xs.length) := by exact_mod_cast Nat.pow_le_pow_right (show 0 < 2 by omega) p3
  omega
theorem dv_next {w wr w2 : World} {xs ys rs ds qs rs2 ds2 qs2 : List Int} {rA dA rA2 dA2 : Option Addr} {rc dc rc2 dc2 n m j g cap : Nat} (h : DvI w wr xs ys n m (j + 1) rA rc rs dA dc ds g cap qs)
    (r2 : Rd w2 rA2 rc2 rs2) (d2 : Rd w2 dA2 dc2 ds2) (q2 : Ow w2 w.heap.size (.slice (some ⟨g, 0, none⟩) (m + 1) cap) qs2) (ar : ∀ ad, rA2 = some ad → ad.block ≠ g) (ad : ∀ ad, dA2 = some ad → ad.block ≠ g) (tr : trimL rs2 = rs2) (td : trimL ds2 = ds2) (hds : val ds2 = val ds / 2) (be : Below w.heap.size w w2)
    (hc : val ds ≤ val rs ∧ val rs2 = val rs - val ds ∧ val qs2 = val qs + 2 ^ j ∧ qs2.length = m + 1 ∧ rs2.length ≤ rs.length ∨ val rs < val ds ∧ rs2 = rs ∧ qs2 = qs) : DvI w w2 xs ys n m j rA2 rc2 rs2 dA2 dc2 ds2 g cap qs2 := by
  obtain ⟨Q, hQ⟩ := h.low
  have hdv := h.dv (by omega)
  rw [Nat.add_sub_cancel] at hdv
  have hlt := h.lt
  have hsum := h.sum
  have hp : (2 : Int) ^ (j + 1) = 2 * 2 ^ j := by rw [Int.pow_succ]; omega
  rw [hp] at hlt hQ
  have hpj : 0 < (2 : Int) ^ j := Int.pow_pos (by omega)
  have hl2 : val ys * (2 * 2 ^ j) = 2 * (val ys * 2 ^ j) := by grind
  rw [hl2, ← hdv] at hlt
  refine ⟨r2, d2, q2, ar, ad, tr, td, ?_, ?_, ?_, ?_, ?_, by have := h.jn; omega, be, ?_, ?_⟩
  · rcases hc with hc | hc
    · exact hc.2.2.2.1
    · rw [hc.2.2]; exact h.ql
  · rcases hc with hc | hc
    · rw [hc.2.1, hc.2.2.1, Int.mul_add, ← hdv]; omega
    · rw [hc.2.1, hc.2.2]; exact hsum
  · rw [← hdv]
    rcases hc with hc | hc
    · omega
    · rw [hc.2.1]; omega
  · rcases hc with hc | hc
    · exact ⟨2 * Q + 1, by rw [hc.2.2.1, hQ]; grind⟩
    · exact ⟨2 * Q, by rw [hc.2.2, hQ]; grind⟩
  · intro hj
    obtain ⟨i, rfl⟩ : ∃ i, j = i + 1 := ⟨j - 1, by omega⟩
    rw [hds, hdv, Nat.add_sub_cancel, Int.pow_succ, ← Int.mul_assoc, Int.mul_ediv_cancel _ (by omega)]
  · refine Nat.le_trans ?_ h.dl
    have b := val_bounds ds h.d.dig
    exact trimmed_len d2.dig td (by omega)
  · rcases hc with hc | hc
    · exact Nat.le_trans hc.2.2.2.2 h.rl
    · rw [hc.2.1]; exact h.rl
theorem dv_end {w wr : World} {xs ys rs ds qs : List Int} {rA dA : Option Addr} {rc dc n m g cap : Nat} (hy : 0 < val ys) (hx : ∀ x ∈ xs, 0 ≤ x ∧ x ≤ 4294967295) (hyd : ∀ x ∈ ys, 0 ≤ x ∧ x ≤ 4294967295) (h : DvI w wr xs ys n m 0 rA rc rs dA dc ds g cap qs) :
    QuoT (.returned (.tuple #[.slice (some ⟨g, 0, none⟩) (trimL qs).length cap, .slice rA rs.length rc])) w wr (val xs) (val ys) xs.length ys.length := by
  have hlt := h.lt
  have b := val_bounds rs h.r.dig
  have e := (Int.ediv_emod_unique (a := val xs) (b := val ys) (r := val rs) (q := val qs) hy).2 ⟨h.sum.symm, b.1, by simpa using hlt⟩
  have hq := val_bounds qs h.q.dig
  refine ⟨_, _, trimL qs, _, _, rs, rfl, h.q.trim.rd'.2, h.r, by rw [val_trim, e.1], by rw [e.2], ?_, ?_, h.tr, h.be⟩
  · refine trimmed_len h.q.trim.dig (trimL_trimL _) ?_
    rw [val_trim]
    have b2 := val_bounds xs hx
    have : val qs * 1 ≤ val qs * val ys := Int.mul_le_mul_of_nonneg_left (by omega) hq.1
    have h2 := h.sum
    rw [Int.mul_comm (val ys)] at h2
    omega
  · refine trimmed_len h.r.dig h.tr ?_
    have b3 := val_bounds ys hyd
    simp at hlt
    omega
set_option maxHeartbeats 1000000 in
set_option maxRecDepth 100000 in
theorem divDigits_more (A0 A1 : Option Addr) (c0 c1 : Nat) (xs ys : List Int) (w : World) (h0 : Rd w A0 c0 xs) (h1 : Rd w A1 c1 ys) (hl0 : xs.length ≤ 274877906944) (hl1 : ys.length ≤ 274877906944) (hy : val ys ≠ 0) (hle : bl (val ys) ≤ bl (val xs)) :
    Calls Tryd.prog 52 #[.slice A0 xs.length c0, .slice A1 ys.length c1] w fun e w' => QuoT e w w' (val xs) (val ys) xs.length ys.length := by
  have L0 := trimL_len xs
  have hyp : 0 < val ys := by have := (val_bounds ys h1.dig).1; omega
  have b0 : bl (val xs) ≤ 32 * xs.length := bl_le (v := val xs) (k := 32 * xs.length) (by rw [← pw_two]; exact (val_bounds xs h0.dig).2)
  have hpos : 0 < (trimL xs).length := by
    rcases Nat.eq_zero_or_pos (trimL xs).length with h | h
    · exfalso
      have h2 := val_trim xs
      rw [List.eq_nil_of_length_eq_zero h] at h2
      rw [← h2] at hle
      have h3 := bl_pos hyp
      have h4 : bl (val []) = 0 := rfl
      omega
    · exact h
  have HP := Aside0.mk hpos
  clear hpos
  obtain ⟨n, hn⟩ : ∃ n, n + bl (val ys) = bl (val xs) := ⟨bl (val xs) - bl (val ys), by omega⟩
  obtain ⟨m, hm⟩ : ∃ m, n / 32 = m := ⟨_, rfl⟩
  obtain ⟨s, hs⟩ : ∃ s, n % 32 = s := ⟨_, rfl⟩
  have e1 : Int.tdiv (n : Int) 32 = (m : Int) := by rw [Int.tdiv_eq_ediv_of_nonneg (by omega)]; omega
  have H := Aside0.mk (And.intro h0 h1)
  have HM := Aside0.mk (show n < 32 * (m + 1) by omega)
  have HN := Aside0.mk (And.intro hn (And.intro (show n = 32 * m + s by omega) (show s < 32 by omega)))
  have HY := Aside0.mk hyp
  have hn2 : n ≤ 8796093022208 := by omega
  have hm2 : m ≤ 274877906944 := by omega
  have k0 := fun w1 (hb : Below w.heap.size w w1) => bitLen_ref A0 c0 xs w1 (h0.below hb) (by omega)
  have k1 := fun w1 (hb : Below w.heap.size w w1) => bitLen_ref A1 c1 ys w1 (h1.below hb) (by omega)
  obtain ⟨q, hq⟩ : ∃ q, bl (val ys) = q := ⟨_, rfl⟩
  obtain ⟨p, hp⟩ : ∃ p, bl (val xs) = p := ⟨_, rfl⟩
  rw [hp] at b0 k0 hle
  rw [hq] at k1 hle
  have e2 : (p : Int) - q = n := by omega
  have hp2 : p ≤ 8796093022208 := by omega
  have K0 := Aside0.mk k0
  have K1 := Aside0.mk k1
  clear k0 k1 hn hs hm h0 h1 hyp hp hq hy
  go_enter Tryd.func52, Tryd.ntmps52
  go_wp2_with (first
    | (go_at_call 63; (with_reducible refine (trim_any A0 c0 xs _ H.out.1 (by omega)).mono ?_); rintro e w1 ⟨rfl, rfl⟩)
    | (at_builtin; refine app_u32 (w0 := w1) (base := w1.heap.size) rfl _ _ rfl (.slice none 0 0) [] (trimL xs) A0 c0 rfl rfl (Ow.nil _ _) H.out.1.trim (Below.refl _ _) (Nat.le_refl _) (by simp; omega) ?_; intro v1 w2 ho hb; rw [List.nil_append] at ho; obtain ⟨A2, c2, rfl, hR⟩ := ho.rd; have HRB := Aside0.mk (And.intro ho hb); clear ho hb hR)
    | (go_at_call 71; (with_reducible refine (K0.out _ HRB.out.2).mono ?_); rintro e w3 ⟨rfl, rfl⟩)
    | (go_at_call 71; (with_reducible refine (K1.out _ HRB.out.2).mono ?_); rintro e w4 ⟨rfl, rfl⟩)
    | ((with_reducible refine gate_dst (N := 25) rfl ?_); refine make_u32 rfl rfl _ _ rfl (m + 1) (by rfl) (by rfl) (by omega) ?_; intro v8 w5 ho hb; obtain ⟨g, cap, rfl, -⟩ := ho.form (by simp); rw [List.length_replicate] at ho; have HO := Aside0.mk (Own.mk ho hb); clear ho hb)
    | (go_at_call 72; (with_reducible refine (shift_ref A1 c1 n m s ys _ (H.out.2.below (HRB.out.2.trans (HO.out.be.mono HRB.out.2.size))) HN.out.2.1 HN.out.2.2 (by omega) (by omega)).mono ?_); rintro e w6 ⟨dA, dc, ds, rfl, ho, hv, ht⟩; have HS := Aside0.mk (And.intro ho (And.intro hv ht)); clear ho hv ht))
  have hg : g < w5.heap.size := by obtain ⟨g', c', e, -, h⟩ := HO.out.ow.form (by simp); simp only [Value.slice.injEq, Option.some.injEq, Addr.mk.injEq] at e; obtain ⟨⟨rfl, -⟩, -⟩ := e; exact h
  have hg2 : w4.heap.size ≤ g := HO.out.ow.from_ g rfl
  have HD := Aside0.mk (dv_start (w := w1) (xs := xs) (ys := ys) HN.out.1 H.out.1.dig HY.out ((HRB.out.1.rd'.2.below HO.out.be).below HS.out.1.be) HS.out.1.ow.rd'.2 ((HO.out.ow.lower HRB.out.2.size).below HS.out.1.be)
    (fun ad e => by
      subst e
      obtain ⟨ad', e, h2⟩ := HRB.out.1.rd'.2.at_ 0 HP.out
      injection e with e
      subst e
      have h3 := World.block_lt_of_cell? _ _ h2
      have h4 : (ad.add 0).block = ad.block := by unfold Addr.add; split <;> rfl
      omega) (RowFr.neq (fun ad e => by subst e; exact HS.out.1.ow.from_ _ rfl) hg) rfl HS.out.2.1 HS.out.2.2 (HRB.out.2.trans ((HO.out.be.mono HRB.out.2.size).trans (HS.out.1.be.mono (by have := HO.out.be.size; have := HRB.out.2.size; omega)))))
  clear hg hg2 HS HO HRB e1 e2 HN HP K0 K1
  go_loopg [6, 9, 10] (n + 1) (fun kq v6 v9 v10 w' => ∃ (j : Nat) (rA : Option Addr) (rc : Nat) (rs : List Int) (dA : Option Addr) (dc : Nat) (ds qs : List Int), v6 = .slice rA rs.length rc ∧ v9 = .slice dA ds.length dc ∧ v10 = .int .i64 ((j : Int) - 1) ∧ Aside0 (j = kq) ∧ Aside0 (DvI w1 w' xs ys n m j rA rc rs dA dc ds g cap qs))
  case atStart => exact ⟨n + 1, A2, c2, trimL xs, dA, dc, ds, _, rfl, rfl, by go_num, ⟨rfl⟩, HD⟩
  case round =>
    clear HD
    obtain ⟨j, rA, rc, rs, dA, dc, ds, qs, rfl, rfl, rfl, HJ, HD⟩ := hrel
    cases j with
    | zero =>
      have HE := Aside0.mk (dv_end HY.out H.out.1.dig H.out.2.dig HD.out)
      have ht : Calls Tryd.prog 63 #[.slice (some ⟨g, 0, none⟩) (m + 1) cap] wr fun e w' => e = .returned (.slice (some ⟨g, 0, none⟩) (trimL qs).length cap) ∧ w' = wr := by
        have h := trim_any (some ⟨g, 0, none⟩) cap qs wr HD.out.q.rd'.2 (by rw [HD.out.ql]; omega)
        rw [HD.out.ql] at h
        exact h
      have HT := Aside0.mk ht
      clear ht
      go_wp2_with (first | (go_at_call 63; (with_reducible refine HT.out.mono ?_); rintro e w9 ⟨rfl, rfl⟩))
      go_ret2
      exact HE.out
    | succ j =>
      obtain ⟨k, hk⟩ : ∃ k, j / 32 = k := ⟨_, rfl⟩
      obtain ⟨s2, hs2⟩ : ∃ s, j % 32 = s := ⟨_, rfl⟩
      have e1 : Int.tdiv (j : Int) 32 = (k : Int) := by rw [Int.tdiv_eq_ediv_of_nonneg (by omega)]; omega
      have e2 : Int.tmod (j : Int) 32 = (s2 : Int) := by rw [Int.tmod_eq_emod_of_nonneg (by omega)]; omega
      have hj : j ≤ 8796093022208 := by have := HD.out.jn; omega
      have hkm : k < m + 1 := by have := HD.out.jn; have := HM.out; omega
      have HJK := Aside0.mk (show j = 32 * k + s2 ∧ s2 < 32 by omega)
      clear hk hs2
      have rl := HD.out.rl
      have dl := HD.out.dl
      obtain ⟨r, hr⟩ : ∃ r, cmpZ (val rs) (val ds) = r := ⟨_, rfl⟩
      have HR := Aside0.mk hr
      by_cases hle2 : val ds ≤ val rs
      · have hr0 : 0 ≤ r := by rw [← hr]; exact (cmpZ_nonneg _ _).2 hle2
        have HL := Aside0.mk hle2
        clear hr hle2
        have hq2 : ∃ Q, val qs = Q * 2 ^ (32 * k + s2 + 1) := by obtain ⟨Q, hQ⟩ := HD.out.low; exact ⟨Q, by rw [hQ, HJK.out.1]⟩
        obtain ⟨Q, hQ⟩ := hq2
        obtain ⟨or1, or2⟩ := bit_or HD.out.q.dig HJK.out.2 hQ
        have hp2 := pow_bounds HJK.out.2
        rw [← Int.emod_eq_of_lt (show 0 ≤ (2 : Int) ^ s2 by omega) (show (2 : Int) ^ s2 < 4294967296 by omega)] at or1
        have HO2 := Aside0.mk or2
        have HV2 := Aside0.mk (show val (qs.set k (dg qs k + 2 ^ s2 % 4294967296)) = val qs + 2 ^ j by
          rw [val_set _ _ _ (by rw [HD.out.ql]; exact hkm), Int.emod_eq_of_lt (by omega) (by omega), pw_two, HJK.out.1, Int.pow_add]; grind)
        have HW2 := Aside0.mk (show 0 ≤ dg qs k + 2 ^ s2 % 4294967296 ∧ dg qs k + 2 ^ s2 % 4294967296 ≤ 4294967295 by
          rw [Int.emod_eq_of_lt (by omega) (by omega)]; have := (dg_dig HD.out.q.dig k).1; omega)
        clear or2 hp2
        have hs3 := HJK.out.2
        have D := Aside0.mk (dg_dig HD.out.q.dig k)
        have d0 := D.out.1
        have d1 := D.out.2
        have HQ := Aside0.mk hQ
        have hql := HD.out.ql
        clear hQ
        go_wp2_with (first
          | (go_at_call 60; (with_reducible refine (compareDigits_any rA dA rc dc rs ds _ HD.out.r HD.out.d (by omega) (by omega) r HR.out).mono ?_); rintro e w3 ⟨rfl, hd⟩; have HB := Aside0.mk hd.below; clear hd)
          | (go_at_call 62; (with_reducible refine (subDigits_fr rA dA rc dc rs ds _ (HD.out.r.below HB.out) (HD.out.d.below HB.out) (by omega) (len_of_val_le HD.out.r.dig HD.out.d.dig HD.out.td HL.out) HL.out).mono ?_); rintro e w4 ⟨rA2, rc2, rs2, rfl, hR, hv, ht, hl, hb, hf⟩; have HS := Aside0.mk (And.intro hR (And.intro hv (And.intro ht (And.intro hl (And.intro hb hf))))); clear hR hv ht hl hb hf; obtain ⟨y0, y1⟩ := ((HD.out.q.below HB.out).below HS.out.2.2.2.2.1).cell k hkm)
          | (go_at_call 79; (with_reducible refine (half_ref dA dc ds _ (((HD.out.d.below HB.out).below HS.out.2.2.2.2.1).apart HD.out.ad k _) (by omega)).mono ?_); rintro e w5 ⟨dA2, dc2, ds2, rfl, ho, hv, ht⟩; have HF := Aside0.mk (And.intro ho (And.intro hv ht)); clear ho hv ht))
        go_roundg (gk - 1)
        case measure => have := HJ.out; omega
        case rel => exact ⟨j, rA2, rc2, rs2, dA2, dc2, ds2, qs.set k (dg qs k + 2 ^ s2 % 4294967296), rfl, rfl, by go_num, ⟨by have := HJ.out; omega⟩, ⟨by
          have hg := HD.out.qlt
          have hs1 := HB.out.size
          have hs2 := HS.out.2.2.2.2.1.size
          have h1 := HD.out.be.size
          have hgw : w1.heap.size ≤ g := HD.out.q.from_ g rfl
          have ar2 := RowFr.neq HS.out.2.2.2.2.2 (show g < w3.heap.size by omega)
          have hq5 := ((HD.out.q.below HB.out).below HS.out.2.2.2.2.1).put k _ HW2.out
          have hbe := (HD.out.be.trans ((HB.out.mono h1).trans (HS.out.2.2.2.2.1.mono (by omega)))).setCell (p := ⟨g, k, none⟩) hgw (.int .u32 (dg qs k + 2 ^ s2 % 4294967296))
          have hsz : (w4.setCell ⟨g, k, none⟩ (.int .u32 (dg qs k + 2 ^ s2 % 4294967296))).heap.size = w4.heap.size := by simp [World.setCell]
          refine dv_next HD.out ((HS.out.1.apart ar2 k _).below HF.out.1.be) HF.out.1.ow.rd'.2 (hq5.below HF.out.1.be) ar2 (RowFr.neq (fun ad e => by subst e; exact HF.out.1.ow.from_ _ rfl) (by rw [hsz]; omega)) HS.out.2.2.1 HF.out.2.2 HF.out.2.1 (hbe.trans (HF.out.1.be.mono (by rw [hsz]; omega))) (Or.inl ⟨HL.out, HS.out.2.1, HV2.out, by rw [List.length_set]; exact HD.out.ql, HS.out.2.2.2.1⟩)⟩⟩
      · have hr0 : r < 0 := by rw [← hr, cmpZ_lt (by omega)]; decide
        have HL := Aside0.mk (show val rs < val ds by omega)
        clear hr hle2
        go_wp2_with (first
          | (go_at_call 60; (with_reducible refine (compareDigits_any rA dA rc dc rs ds _ HD.out.r HD.out.d (by omega) (by omega) r HR.out).mono ?_); rintro e w3 ⟨rfl, hd⟩; have HB := Aside0.mk hd.below; clear hd)
          | (go_at_call 79; (with_reducible refine (half_ref dA dc ds _ (HD.out.d.below HB.out) (by omega)).mono ?_); rintro e w4 ⟨dA2, dc2, ds2, rfl, ho, hv, ht⟩; have HS := Aside0.mk (And.intro ho (And.intro hv ht)); clear ho hv ht))
        go_roundg (gk - 1)
        case measure => have := HJ.out; omega
        case rel => exact ⟨j, rA, rc, rs, dA2, dc2, ds2, qs, rfl, rfl, by go_num, ⟨by have := HJ.out; omega⟩, ⟨dv_next HD.out ((HD.out.r.below HB.out).below HS.out.1.be) HS.out.1.ow.rd'.2 ((HD.out.q.below HB.out).below HS.out.1.be) HD.out.ar (RowFr.neq (fun ad e => by subst e; exact HS.out.1.ow.from_ _ rfl) (by have := HB.out.size; have := HD.out.qlt; omega)) HD.out.tr HS.out.2.2 HS.out.2.1 (HD.out.be.trans ((HB.out.mono HD.out.be.size).trans (HS.out.1.be.mono (by have := HB.out.size; have := HD.out.be.size; omega)))) (Or.inr ⟨HL.out, rfl, rfl⟩)⟩⟩
theorem divDigits_any (A0 A1 : Option Addr) (c0 c1 : Nat) (xs ys : List Int) (w : World) (h0 : Rd w A0 c0 xs) (h1 : Rd w A1 c1 ys) (hl0 : xs.length ≤ 274877906944) (hl1 : ys.length ≤ 274877906944) (hy : val ys ≠ 0) :
    Calls Tryd.prog 52 #[.slice A0 xs.length c0, .slice A1 ys.length c1] w fun e w' => QuoT e w w' (val xs) (val ys) xs.length ys.length := by
  rcases (show bl (val xs) < bl (val ys) ∨ bl (val ys) ≤ bl (val xs) by omega) with h | h
  · exact divDigits_less A0 A1 c0 c1 xs ys w h0 h1 hl0 hl1 h
  · exact divDigits_more A0 A1 c0 c1 xs ys w h0 h1 hl0 hl1 hy h
end Go.Proofs.YtegnnghoiffmhaaDoor.Big
