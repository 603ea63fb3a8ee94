/- Rows of digits named by their numbers: magnitude, clone, canonical, divide; the reference's trim, divDigits. -/
import Derived.Test.YtegnnghoiffmhaaDoorGKeep
import Derived.Test.YtegnnghoiffmhaaDoorKDiv
import Derived.Test.YtegnnghoiffmhaaDoorMC
import Derived.Test.YtegnnghoiffmhaaDoorMB
namespace Go.Proofs.YtegnnghoiffmhaaDoor.Big
open Go.RowKit Go.Proofs.YtegnnghoiffmhaaDoorW.PrintWords Go.Proofs.YtegnnghoiffmhaaDoorW.PrintLast
set_option linter.unusedVariables false
set_option linter.unusedSimpArgs false
theorem trim_mg (n : Bool) {xs : List Int} (h : ∀ x ∈ xs, 0 ≤ x ∧ x ≤ 4294967295) {x : Int} (hx : iv n xs = x) : trimL xs = mg x := by rw [(canon_row (n := n) h).1, hx]
theorem mg_nat (x : Int) : mg (x.natAbs : Int) = mg x := by unfold mg; rw [Int.natAbs_natCast]
theorem magnitude_v (n : Bool) (A : Option Addr) (c : Nat) (xs : List Int) (w : World) (h : Rd w A c xs) (hl : xs.length ≤ 274877906944) (x z : Int) (hx : iv n xs = x) (hz : (x.natAbs : Int) = z) :
    Calls Tryd.prog 50 #[.agg #[.bool n, .slice A xs.length c]] w fun e w' => e = .returned (.slice A (mg z).length c) ∧ Rd w' A c (mg z) ∧ Below w.heap.size w w' := by
  have e := trim_mg n h.dig hx
  rw [← mg_nat, hz] at e
  refine (magnitude_any n A c xs w h (by omega)).mono ?_
  rintro e w' ⟨rfl, hb⟩
  have h2 := h.trim.below hb
  rw [e] at h2 ⊢
  exact ⟨rfl, h2, hb⟩
theorem trim_v (n : Bool) (A : Option Addr) (c : Nat) (xs : List Int) (w : World) (h : Rd w A c xs) (hl : xs.length ≤ 274877906944) (x z : Int) (hx : iv n xs = x) (hz : (x.natAbs : Int) = z) :
    Calls Tryd.prog 63 #[.slice A xs.length c] w fun e w' => e = .returned (.slice A (mg z).length c) ∧ Rd w' A c (mg z) ∧ Below w.heap.size w w' := by
  have e := trim_mg n h.dig hx
  rw [← mg_nat, hz] at e
  refine (trim_any A c xs w h (by omega)).mono ?_
  rintro e w' ⟨rfl, rfl⟩
  have h2 := h.trim
  rw [e] at h2 ⊢
  exact ⟨rfl, h2, Below.refl _ _⟩
theorem clone_v (A : Option Addr) (c : Nat) (xs : List Int) (w : World) (h : Rd w A c xs) (hl : xs.length ≤ 274877906944) :
    Calls Tryd.prog 59 #[.slice A xs.length c] w fun e w' => ∃ A' c', e = .returned (.slice A' xs.length c') ∧ Rd w' A' c' xs ∧ Below w.heap.size w w' := by
  refine (clone_any A c xs w h (by omega)).mono ?_
  rintro e w' ⟨v, rfl, ho, hb⟩
  obtain ⟨A', c', rfl, hR⟩ := ho.rd
  exact ⟨A', c', rfl, hR, hb⟩
theorem canonical_v (n : Bool) (A : Option Addr) (c : Nat) (xs : List Int) (w : World) (h : Rd w A c xs) (hl : xs.length ≤ 274877906944) (z : Int) (hz : iv n xs = z) :
    Calls Tryd.prog 51 #[.bool n, .slice A xs.length c] w fun e w' => Res e w w' z := by subst hz; exact canonical_res n A c xs w h (by omega)
theorem mgv {x : Int} (h : 0 ≤ x) : val (mg x) = x := by rw [mg_val]; omega
theorem iv_mg {x : Int} (h : 0 ≤ x) : iv false (mg x) = x := by unfold iv; rw [mgv h]; simp
theorem divide_v (A0 A1 : Option Addr) (c0 c1 : Nat) (x y q r : Int) (w : World) (h0 : Rd w A0 c0 (mg x)) (h1 : Rd w A1 c1 (mg y)) (hl0 : (mg x).length ≤ 274877906944) (hl1 : (mg y).length ≤ 274877906944) (hx : 0 ≤ x) (hy : 0 < y) (hq : x / y = q) (hr : x % y = r) :
    Calls Tryd.prog 49 #[.slice A0 (mg x).length c0, .slice A1 (mg y).length c1] w fun e w' => ∃ (qA : Option Addr) (qc : Nat) (rA : Option Addr) (rc : Nat) (qs rs : List Int), e = .returned (.tuple #[.slice qA qs.length qc, .slice rA rs.length rc]) ∧ Rd w' qA qc qs ∧ Rd w' rA rc rs ∧ (iv false qs = q ∧ iv false rs = r ∧ qs.length ≤ (mg x).length ∧ rs.length ≤ (mg y).length) ∧ Below w.heap.size w w' := by
  refine (divide_any A0 A1 c0 c1 (mg x) (mg y) w h0 h1 (mg_trim x) (mg_trim y) hl0 hl1 (by rw [mgv (by omega)]; omega)).mono ?_
  rintro e w' ⟨qA, qc, qs, rA, rc, rs, rfl, hQ, hR, h1, h2, h3, h4, hb⟩
  rw [mgv hx, mgv (by omega)] at h1 h2
  exact ⟨qA, qc, rA, rc, qs, rs, rfl, hQ, hR, ⟨by simp [iv, h1, hq], by simp [iv, h2, hr], h3, h4⟩, hb⟩
theorem divDigits_v (A0 A1 : Option Addr) (c0 c1 : Nat) (x y q r : Int) (w : World) (h0 : Rd w A0 c0 (mg x)) (h1 : Rd w A1 c1 (mg y)) (hl0 : (mg x).length ≤ 274877906944) (hl1 : (mg y).length ≤ 274877906944) (hx : 0 ≤ x) (hy : 0 < y) (hq : x / y = q) (hr : x % y = r) :
    Calls Tryd.prog 52 #[.slice A0 (mg x).length c0, .slice A1 (mg y).length c1] w fun e w' => ∃ (qA : Option Addr) (qc : Nat) (rA : Option Addr) (rc : Nat) (qs : List Int), e = .returned (.tuple #[.slice qA qs.length qc, .slice rA (mg r).length rc]) ∧ Rd w' qA qc qs ∧ Rd w' rA rc (mg r) ∧ (iv false qs = q ∧ qs.length ≤ (mg x).length) ∧ Below w.heap.size w w' := by
  refine (divDigits_any A0 A1 c0 c1 (mg x) (mg y) w h0 h1 hl0 hl1 (by rw [mgv (by omega)]; omega)).mono ?_
  rintro e w' ⟨qA, qc, qs, rA, rc, rs, rfl, hQ, hR, h1, h2, h3, h4, ht, hb⟩
  rw [mgv hx, mgv (by omega)] at h1 h2
  have er : rs = mg r := by rw [← ht]; exact trim_mg false hR.dig (by simp [iv, h2, hr])
  subst er
  exact ⟨qA, qc, rA, rc, qs, rfl, hQ, hR, ⟨by simp [iv, h1, hq], h3⟩, hb⟩
section
variable {P : Program} {ops : Array Oper} {o : Oper} {a : Act} {Q : Exit → Act → World → Prop} {Kc : Act → World → Prop} {W : World}
/-- append([]uint32(nil), ys...) in a region that draws. -/
theorem copy_step {N : Option Tmp} (hw : Region.wanted o (yielded ops a.tmps) = true) (hN : o.dst = N) (s x : Operand) (ho : o.op = .call { callee := .builtin .append, args := #[s, x], argTypes := #[22, 22] }) (ys : List Int) (A : Option Addr) (c : Nat)
    (hs : a.eval s = .slice none 0 0) (hx : a.eval x = .slice A ys.length c) (HR : Rd W A c ys) (hl : ys.length ≤ 2199023255552)
    (h : ∀ A' c' w1, Rd w1 A' c' ys → Below W.heap.size W w1 → Kc (a.put N (.slice A' ys.length c')) w1) : if Region.wanted o (yielded ops a.tmps) = true then Oper.wp Tryd.prog o a W Kc Q else Kc (a.put N undef) W := by
  subst hN
  refine Kd.R_append_rows_step (Kd.int .u32) (w0 := W) W.heap.size hw s x 22 57 (.int .u32 0) 4 ho Tryd.underlying22 info_u32 rfl (by decide) (by omega) (.slice none 0 0) [] ys A ys.length c (fun _ => True) (fun _ => False) hs hx (Ow.nil W W.heap.size).own HR.reads (fun _ _ h => h) (fun _ h => h.elim) (fun _ _ => trivial) (Below.refl _ _) (Nat.le_refl _) (by simp; omega) ?_
  intro v1 w1 h1 h2 _ _
  rw [List.nil_append] at h1
  obtain ⟨A', c', rfl, hR⟩ := (Ow.mk h1 HR.dig : Ow w1 W.heap.size v1 ys).rd
  exact h A' c' w1 hR h2
end
theorem gcd_step (x y : Int) (h : 0 < y) : Int.gcd y (x % y) = Int.gcd x y := by
  have e : Int.gcd y (y * (x / y) + x % y) = Int.gcd y (x % y) := Int.gcd_mul_left_add_right _ _ _
  rw [← e, Int.mul_ediv_add_emod, Int.gcd_comm]
theorem mg_mono {x y : Int} (h0 : 0 ≤ x) (h : x ≤ y) {k : Nat} (hk : (mg y).length ≤ k) : (mg x).length ≤ k := by
  have h1 := mg_bound hk
  exact mg_len (by omega) (by omega)
end Go.Proofs.YtegnnghoiffmhaaDoor.Big
