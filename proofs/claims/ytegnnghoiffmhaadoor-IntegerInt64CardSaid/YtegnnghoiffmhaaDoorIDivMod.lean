/- integer.DivMod: the floor quotient and its remainder. -/
import Derived.Test.YtegnnghoiffmhaaDoorIDivide
import Derived.Test.YtegnnghoiffmhaaDoorIOps2
namespace Go.Proofs.YtegnnghoiffmhaaDoor.Big
open Go.RowKit Go.Proofs.YtegnnghoiffmhaaDoorW.PrintWords Go.Proofs.YtegnnghoiffmhaaDoorW.PrintLast
set_option linter.unusedVariables false
set_option linter.unusedSimpArgs false
attribute [local go_sem ↓] Go.wp_at_zero Go.wp_at_succ
/-- Rows of any lengths. -/
theorem divide_any (A0 A1 : Option Addr) (c0 c1 : Nat) (xs ys : List Int) (w : World) (h0 : Rd w A0 c0 xs) (h1 : Rd w A1 c1 ys) (t0 : trimL xs = xs) (t1 : trimL ys = ys) (hl0 : xs.length ≤ 274877906944) (hl1 : ys.length ≤ 274877906944) (hy : val ys ≠ 0) :
    Calls Tryd.prog 49 #[.slice A0 xs.length c0, .slice A1 ys.length c1] w fun e w' => Quo e w w' (val xs) (val ys) xs.length ys.length := by
  rcases (show val xs < val ys ∨ val ys ≤ val xs by omega) with hlt | hle
  · exact divide_small A0 A1 c0 c1 xs ys w h0 h1 t0 t1 hl0 hl1 hlt
  · match ys, hy with
    | [], hy => simp [val] at hy
    | [y], _ => exact divide_one A0 A1 c0 c1 xs y w h0 h1 t0 t1 hl0 (by simpa [val] using hle)
    | y :: y2 :: ys', _ =>
      have hlen := len_of_val_le h0.dig h1.dig t1 hle
      simp only [List.length_cons] at hlen
      exact divide_many A0 A1 c0 c1 (xs.length - (ys'.length + 2)) ys'.length xs (y :: y2 :: ys') w h0 h1 t0 t1 hl0 (by simp) (by omega) hle
theorem dm_same (n : Bool) (xs ys qs rs : List Int) (hy : 0 < val ys) (hq : val qs = val xs / val ys) (hr : val rs = val xs % val ys) : iv false qs = (iv n xs).fdiv (iv n ys) ∧ iv n rs = (iv n xs).fmod (iv n ys) := by
  have e := Int.mul_ediv_add_emod (val xs) (val ys)
  have r0 := Int.emod_nonneg (val xs) (show val ys ≠ 0 by omega)
  have r1 := Int.emod_lt_of_pos (val xs) hy
  rw [← hq, ← hr] at e
  rw [← hr] at r0 r1
  cases n
  · have h := (Int.fdiv_fmod_unique (a := val xs) (b := val ys) (r := val rs) (q := val qs) hy).2 ⟨by omega, r0, r1⟩
    simp only [iv, if_false, Bool.false_eq_true]
    exact ⟨h.1.symm, h.2.symm⟩
  · have h := (Int.fdiv_fmod_unique' (a := -val xs) (b := -val ys) (r := -val rs) (q := val qs) (by omega)).2 ⟨by grind, by omega, by omega⟩
    simp only [iv, if_false, if_true, Bool.false_eq_true]
    exact ⟨h.1.symm, h.2.symm⟩
theorem dm_diff0 (n : Bool) (xs ys qs rs : List Int) (hy : 0 < val ys) (hq : val qs = val xs / val ys) (hr : val rs = val xs % val ys) (h0 : iv n rs = 0) : iv true qs = (iv n xs).fdiv (iv (!n) ys) ∧ iv n rs = (iv n xs).fmod (iv (!n) ys) := by
  have e := Int.mul_ediv_add_emod (val xs) (val ys)
  rw [← hq, ← hr] at e
  have z : val rs = 0 := by unfold iv at h0; split at h0 <;> omega
  rw [h0]
  rw [z] at e
  cases n
  · have h := (Int.fdiv_fmod_unique' (a := val xs) (b := -val ys) (r := 0) (q := -val qs) (by omega)).2 ⟨by grind, by omega, by omega⟩
    simp only [iv, if_false, if_true, Bool.false_eq_true, Bool.not_false]
    exact ⟨h.1.symm, h.2.symm⟩
  · have h := (Int.fdiv_fmod_unique (a := -val xs) (b := val ys) (r := 0) (q := -val qs) (by omega)).2 ⟨by grind, by omega, by omega⟩
    simp only [iv, if_false, if_true, Bool.false_eq_true, Bool.not_true]
    exact ⟨h.1.symm, h.2.symm⟩
theorem dm_diff1 (n : Bool) (xs ys qs rs : List Int) (hy : 0 < val ys) (hq : val qs = val xs / val ys) (hr : val rs = val xs % val ys) (h0 : iv n rs ≠ 0) : iv true qs - 1 = (iv n xs).fdiv (iv (!n) ys) ∧ iv n rs + iv (!n) ys = (iv n xs).fmod (iv (!n) ys) := by
  have e := Int.mul_ediv_add_emod (val xs) (val ys)
  have r0 := Int.emod_nonneg (val xs) (show val ys ≠ 0 by omega)
  have r1 := Int.emod_lt_of_pos (val xs) hy
  rw [← hq, ← hr] at e
  rw [← hr] at r0 r1
  have z : val rs ≠ 0 := by intro z; apply h0; unfold iv; rw [z]; split <;> rfl
  cases n
  · have h := (Int.fdiv_fmod_unique' (a := val xs) (b := -val ys) (r := val rs - val ys) (q := -val qs - 1) (by omega)).2 ⟨by grind, by omega, by omega⟩
    simp only [iv, if_false, if_true, Bool.false_eq_true, Bool.not_false]
    exact ⟨h.1.symm, by rw [h.2]; omega⟩
  · have h := (Int.fdiv_fmod_unique (a := -val xs) (b := val ys) (r := -val rs + val ys) (q := -val qs - 1) (by omega)).2 ⟨by grind, by omega, by omega⟩
    simp only [iv, if_false, if_true, Bool.false_eq_true, Bool.not_true]
    exact ⟨h.1.symm, h.2.symm⟩
theorem mg_iv_len (n : Bool) {xs : List Int} (h : ∀ x ∈ xs, 0 ≤ x ∧ x ≤ 4294967295) : (mg (iv n xs)).length ≤ xs.length := by
  have b := val_bounds xs h
  have p := pw_pos xs.length
  apply mg_len <;> unfold iv <;> split <;> omega
/-- Two integers and an error handed back. -/
def Res2 (e : Ending) (w w' : World) (q r err : Int) : Prop := ∃ (A : Option Addr) (c : Nat) (A' : Option Addr) (c' : Nat), e = .returned (.tuple #[.agg #[.bool (ng q), .slice A (mg q).length c], .agg #[.bool (ng r), .slice A' (mg r).length c'], .int .i64 err]) ∧ Rd w' A c (mg q) ∧ Rd w' A' c' (mg r) ∧ Below w.heap.size w w'
theorem Box.set {w : World} {g : Nat} {a b : Value} {t : TypeId} (h : Box w g a b t) (u v : Value) : Box ((w.setCell ⟨g, 0, none⟩ u).setCell ⟨g, 1, none⟩ v) g u v t :=
  ⟨by simpa using heap_set1 (i := 1) (heap_set1 (i := 0) h.blk u) v⟩
theorem Box.put {w : World} {g k i : Nat} {a b : Value} {t : TypeId} (h : Box w g a b t) (hne : g ≠ k) (u : Value) : Box (w.setCell ⟨k, i, none⟩ u) g a b t := ⟨(Below.heap_setCell w ⟨k, i, none⟩ u g hne).trans h.blk⟩
structure Four (w w' : World) (a0 b0 a1 b1 a2 b2 a3 b3 : Value) : Prop where
  be : Below w.heap.size w w'
  x : Box w' w.heap.size a0 b0 24
  y : Box w' (w.heap.size + 1) a1 b1 24
  q : Box w' (w.heap.size + 1 + 1) a2 b2 24
  r : Box w' (w.heap.size + 1 + 1 + 1) a3 b3 24
section
variable {w w' w1 : World} {a0 b0 a1 b1 a2 b2 a3 b3 : Value}
theorem Four.start (w : World) (a0 b0 a1 b1 a2 b2 a3 b3 : Value) {wb : World} (h : (((w.alloc (.cells #[a0, b0] 24)).alloc (.cells #[a1, b1] 24)).alloc (.cells #[a2, b2] 24)).alloc (.cells #[a3, b3] 24) = wb) : Four w wb a0 b0 a1 b1 a2 b2 a3 b3 := by
  subst h
  obtain ⟨h1, h2, h3, h4⟩ := boxes3 w a0 b0 a1 b1 a2 b2 24 24 24 rfl
  refine ⟨below_alloc h1 _, h2.alloc _, h3.alloc _, h4.alloc _, ?_⟩
  have h := Box.new (((w.alloc (.cells #[a0, b0] 24)).alloc (.cells #[a1, b1] 24)).alloc (.cells #[a2, b2] 24)) a3 b3 24
  simpa using h
theorem Four.drew (h : Four w w' a0 b0 a1 b1 a2 b2 a3 b3) : Four w w'.drew a0 b0 a1 b1 a2 b2 a3 b3 := ⟨below_drew h.be, h.x.drew, h.y.drew, h.q.drew, h.r.drew⟩
theorem Four.below (h : Four w w' a0 b0 a1 b1 a2 b2 a3 b3) (hb : Below w'.heap.size w' w1) : Four w w1 a0 b0 a1 b1 a2 b2 a3 b3 := ⟨keep_below hb h.be, h.x.below hb, h.y.below hb, h.q.below hb, h.r.below hb⟩
theorem Four.setq (h : Four w w' a0 b0 a1 b1 a2 b2 a3 b3) (u v : Value) : Four w ((w'.setCell ⟨w.heap.size + 1 + 1, 0, none⟩ u).setCell ⟨w.heap.size + 1 + 1, 1, none⟩ v) a0 b0 a1 b1 u v a3 b3 :=
  ⟨(h.be.setCell (by simp; omega) _).setCell (by simp; omega) _, (h.x.put (by omega) _).put (by omega) _, (h.y.put (by omega) _).put (by omega) _, h.q.set u v, (h.r.put (by omega) _).put (by omega) _⟩
theorem Four.setr (h : Four w w' a0 b0 a1 b1 a2 b2 a3 b3) (u v : Value) : Four w ((w'.setCell ⟨w.heap.size + 1 + 1 + 1, 0, none⟩ u).setCell ⟨w.heap.size + 1 + 1 + 1, 1, none⟩ v) a0 b0 a1 b1 a2 b2 u v :=
  ⟨(h.be.setCell (by simp; omega) _).setCell (by simp; omega) _, (h.x.put (by omega) _).put (by omega) _, (h.y.put (by omega) _).put (by omega) _, (h.q.put (by omega) _).put (by omega) _, h.r.set u v⟩
theorem Four.cells (h : Four w w' a0 b0 a1 b1 a2 b2 a3 b3) : w'.cell? ⟨w.heap.size, 0, none⟩ = some a0 ∧ w'.cell? ⟨w.heap.size, 1, none⟩ = some b0 ∧ w'.cell? ⟨w.heap.size + 1, 0, none⟩ = some a1 ∧ w'.cell? ⟨w.heap.size + 1, 1, none⟩ = some b1 := ⟨h.x.at0, h.x.at1, h.y.at0, h.y.at1⟩
theorem Four.room (h : Four w w' a0 b0 a1 b1 a2 b2 a3 b3) : (w'.cell? ⟨w.heap.size + 1 + 1, 0, none⟩ = some a2 ∧ w'.cell? ⟨w.heap.size + 1 + 1, 1, none⟩ = some b2 ∧ w'.frozen? ⟨w.heap.size + 1 + 1, 0, none⟩ = false ∧ w'.frozen? ⟨w.heap.size + 1 + 1, 1, none⟩ = false) ∧
    w'.cell? ⟨w.heap.size + 1 + 1 + 1, 0, none⟩ = some a3 ∧ w'.cell? ⟨w.heap.size + 1 + 1 + 1, 1, none⟩ = some b3 ∧ w'.frozen? ⟨w.heap.size + 1 + 1 + 1, 0, none⟩ = false ∧ w'.frozen? ⟨w.heap.size + 1 + 1 + 1, 1, none⟩ = false := ⟨⟨h.q.at0, h.q.at1, h.q.free 0, h.q.free 1⟩, h.r.at0, h.r.at1, h.r.free 0, h.r.free 1⟩
end
/-- A row stays behind the two stores into a variable. -/
theorem Rd.boxed2 {w : World} {A : Option Addr} {c : Nat} {xs : List Int} (h : Rd w A c xs) {g : Nat} {n0 n : Bool} {A0 A1 : Option Addr} {l0 c0 l1 c1 : Nat} {t : TypeId} (hg : Box w g (.bool n0) (.slice A0 l0 c0) t) :
    Rd ((w.setCell ⟨g, 0, none⟩ (.bool n)).setCell ⟨g, 1, none⟩ (.slice A1 l1 c1)) A c xs := h.boxed hg.blk
theorem sub_z (p q : Int) (A0 A1 : Option Addr) (c0 c1 : Nat) (w : World) (h0 : Rd w A0 c0 (mg p)) (h1 : Rd w A1 c1 (mg q)) (hl0 : (mg p).length ≤ 274877906944) (hl1 : (mg q).length ≤ 274877906944) :
    Calls Tryd.prog 20 #[.agg #[.bool (ng p), .slice A0 (mg p).length c0], .agg #[.bool (ng q), .slice A1 (mg q).length c1]] w fun e w' => Res e w w' (p - q) := by
  have h := sub_any (ng p) (ng q) A0 A1 c0 c1 _ _ w h0 h1 hl0 hl1
  rw [iv_canon, iv_canon] at h
  exact h
theorem add_r (p : Int) (n : Bool) (ys : List Int) (A0 A1 : Option Addr) (c0 c1 : Nat) (w : World) (h0 : Rd w A0 c0 (mg p)) (h1 : Rd w A1 c1 ys) (hl0 : (mg p).length ≤ 274877906944) (hl1 : ys.length ≤ 274877906944) :
    Calls Tryd.prog 17 #[.agg #[.bool (ng p), .slice A0 (mg p).length c0], .agg #[.bool n, .slice A1 ys.length c1]] w fun e w' => Res e w w' (p + iv n ys) := by
  have h := add_any (ng p) n A0 A1 c0 c1 _ _ w h0 h1 hl0 hl1
  rw [iv_canon] at h
  exact h
theorem one_len : (mg 1).length ≤ 274877906944 := by
  have : (mg 1).length ≤ 1 := mg_len (by decide) (by decide)
  omega
set_option maxRecDepth 100000 in
theorem DivMod_same (n : Bool) (A0 A1 : Option Addr) (c0 c1 : Nat) (xs ys : List Int) (w : World) (h0 : Rd w A0 c0 xs) (h1 : Rd w A1 c1 ys) (hl0 : xs.length ≤ 274877906944) (hl1 : ys.length ≤ 274877906944) (hy : iv n ys ≠ 0) :
    Calls Tryd.prog 14 #[.agg #[.bool n, .slice A0 xs.length c0], .agg #[.bool n, .slice A1 ys.length c1]] w fun e w' => Res2 e w w' ((iv n xs).fdiv (iv n ys)) ((iv n xs).fmod (iv n ys)) 0 := by
  have L0 := trimL_len xs
  have L1 := trimL_len ys
  have hvy : val (trimL ys) ≠ 0 := by rw [val_trim]; intro z; apply hy; unfold iv; rw [z]; split <;> rfl
  have hvp : 0 < val ys := by have := (val_bounds ys h1.dig).1; rw [val_trim] at hvy; omega
  obtain ⟨r, hr⟩ : ∃ r, cmpZ (iv n ys) 0 = r := ⟨_, rfl⟩
  have hr0 : (r == 0) = false := by rw [← hr]; simp [cmpZ]; split <;> (try split) <;> omega
  have HR := Aside0.mk hr
  have HY := Aside0.mk (And.intro hy (And.intro hvy hvp))
  clear hr hy hvy hvp
  go_enter Tryd.func14, Tryd.ntmps14
  go_wp2_with (first | (go_at_call 19; generalize hwb : World.alloc (World.alloc _ _) _ = wb; have hT := Four.start w _ _ _ _ _ _ _ _ hwb; clear hwb; (with_reducible refine (sign_any n A1 c1 ys _ (h1.below hT.be) (by omega) r HR.out).mono ?_); rintro e w1 ⟨rfl, hb⟩; replace hT := hT.below hb; clear hb))
  replace hT := hT.drew
  go_region_held3 (fun w' => w'.cell? ⟨w.heap.size, 0, none⟩ = some (.bool n) ∧ w'.cell? ⟨w.heap.size, 1, none⟩ = some (.slice A0 xs.length c0) ∧ w'.cell? ⟨w.heap.size + 1, 0, none⟩ = some (.bool n) ∧ w'.cell? ⟨w.heap.size + 1, 1, none⟩ = some (.slice A1 ys.length c1))
    (exact hT.cells)
    (first | (go_simp; go_at_call 50; (with_reducible refine (magnitude_any n A0 c0 xs _ (h0.below hT.be) (by omega)).mono ?_); rintro e w1 ⟨rfl, hb⟩; replace hT := hT.below hb; clear hb) | (go_simp; go_at_call 50; (with_reducible refine (magnitude_any n A1 c1 ys _ (h1.below hT.be) (by omega)).mono ?_); rintro e w1 ⟨rfl, hb⟩; replace hT := hT.below hb; clear hb) | (go_simp; go_at_call 49; (with_reducible refine (divide_any A0 A1 c0 c1 (trimL xs) (trimL ys) _ (h0.trim.below hT.be) (h1.trim.below hT.be) (trimL_trimL _) (trimL_trimL _) (by omega) (by omega) HY.out.2.1).mono ?_); rintro e w2 ⟨qA, qc, qs, rA, rc, rs, rfl, hQ, hR, hq1, hr1, hq2, hr2, hb⟩; replace hT := hT.below hb; have HV := Aside0.mk (And.intro hq1 hr1); clear hb hq1 hr1))
  obtain ⟨x0, x1, y0, y1⟩ := hT.cells
  go_wp2
  replace hT := hT.drew
  replace hQ := hQ.below (below_drew (Below.refl _ _))
  replace hR := hR.below (below_drew (Below.refl _ _))
  have D := Aside0.mk (dm_same n xs ys qs rs HY.out.2.2 (by rw [HV.out.1, val_trim, val_trim]) (by rw [HV.out.2, val_trim, val_trim]))
  go_region_held3 (fun w' => w'.cell? ⟨w.heap.size + 1, 0, none⟩ = some (.bool n))
    (first | with_reducible exact hT.cells.2.2.1 | with_reducible exact (hT.setq _ _).cells.2.2.1 | with_reducible exact ((hT.setq _ _).setr _ _).cells.2.2.1)
    (first | (go_simp; go_at_call 51; (with_reducible refine (canonical_res false qA qc qs _ hQ (by omega)).mono ?_); rintro e w3 ⟨A3, c3, rfl, hQ', hb⟩; replace hT := hT.below hb; replace hR := hR.below hb; clear hb) | (go_simp; go_at_call 51; (with_reducible refine (canonical_res n rA rc rs _ hR (by omega)).mono ?_); rintro e w4 ⟨A4, c4, rfl, hR', hb⟩; replace hT := hT.below hb; replace hQ' := hQ'.below hb; clear hb; have hroom := hT.room; have hcells := hT.cells))
  have hQ2 := (hQ'.boxed2 (n := ng (iv false qs)) (A1 := A3) (l1 := (mg (iv false qs)).length) (c1 := c3) hT.q).boxed2 (n := ng (iv n rs)) (A1 := A4) (l1 := (mg (iv n rs)).length) (c1 := c4) (hT.setq _ _).r
  have hR2 := (hR'.boxed2 (n := ng (iv false qs)) (A1 := A3) (l1 := (mg (iv false qs)).length) (c1 := c3) hT.q).boxed2 (n := ng (iv n rs)) (A1 := A4) (l1 := (mg (iv n rs)).length) (c1 := c4) (hT.setq _ _).r
  replace hT := (hT.setq (.bool (ng (iv false qs))) (.slice A3 (mg (iv false qs)).length c3)).setr (.bool (ng (iv n rs))) (.slice A4 (mg (iv n rs)).length c4)
  clear hroom hcells
  generalize World.setCell _ _ _ = wz at hT hQ2 hR2 ⊢
  go_wp2
  obtain ⟨⟨q0, q1, q2, q3⟩, r0, r1, r2, r3⟩ := hT.room
  rw [D.out.1] at q0 q1 hQ2
  rw [D.out.2] at r0 r1 hR2
  exact bodyPost_ret (v := .tuple #[.agg #[.bool (ng ((iv n xs).fdiv (iv n ys))), .slice A3 (mg ((iv n xs).fdiv (iv n ys))).length c3], .agg #[.bool (ng ((iv n xs).fmod (iv n ys))), .slice A4 (mg ((iv n xs).fmod (iv n ys))).length c4], .int .i64 0]) (by simp [results, Tryd.results14, go_sem, q0, q1, r0, r1]) rfl ⟨A3, c3, A4, c4, rfl, hQ2, hR2, hT.be⟩
set_option maxRecDepth 100000 in
theorem DivMod_diff (n : Bool) (A0 A1 : Option Addr) (c0 c1 : Nat) (xs ys : List Int) (w : World) (h0 : Rd w A0 c0 xs) (h1 : Rd w A1 c1 ys) (hl0 : xs.length ≤ 274877906944) (hl1 : ys.length ≤ 274877906944) (hy : iv (!n) ys ≠ 0) :
    Calls Tryd.prog 14 #[.agg #[.bool n, .slice A0 xs.length c0], .agg #[.bool (!n), .slice A1 ys.length c1]] w fun e w' => Res2 e w w' ((iv n xs).fdiv (iv (!n) ys)) ((iv n xs).fmod (iv (!n) ys)) 0 := by
  have L0 := trimL_len xs
  have L1 := trimL_len ys
  have hvy : val (trimL ys) ≠ 0 := by rw [val_trim]; intro z; apply hy; unfold iv; rw [z]; split <;> rfl
  have hvp : 0 < val ys := by have := (val_bounds ys h1.dig).1; rw [val_trim] at hvy; omega
  obtain ⟨r, hr⟩ : ∃ r, cmpZ (iv (!n) ys) 0 = r := ⟨_, rfl⟩
  have hr0 : (r == 0) = false := by rw [← hr]; simp [cmpZ]; split <;> (try split) <;> omega
  have HR := Aside0.mk hr
  have HY := Aside0.mk (And.intro hy (And.intro hvy hvp))
  clear hr hy hvy hvp
  have hnn : (n == !n) = false := by cases n <;> rfl
  go_enter Tryd.func14, Tryd.ntmps14
  go_wp2_with (first | (go_at_call 19; generalize hwb : World.alloc (World.alloc _ _) _ = wb; have hT := Four.start w _ _ _ _ _ _ _ _ hwb; clear hwb; (with_reducible refine (sign_any (!n) A1 c1 ys _ (h1.below hT.be) (by omega) r HR.out).mono ?_); rintro e w1 ⟨rfl, hb⟩; replace hT := hT.below hb; clear hb))
  replace hT := hT.drew
  go_region_held3 (fun w' => w'.cell? ⟨w.heap.size, 0, none⟩ = some (.bool n) ∧ w'.cell? ⟨w.heap.size, 1, none⟩ = some (.slice A0 xs.length c0) ∧ w'.cell? ⟨w.heap.size + 1, 0, none⟩ = some (.bool (!n)) ∧ w'.cell? ⟨w.heap.size + 1, 1, none⟩ = some (.slice A1 ys.length c1))
    (exact hT.cells)
    (first | (go_simp; go_at_call 50; (with_reducible refine (magnitude_any n A0 c0 xs _ (h0.below hT.be) (by omega)).mono ?_); rintro e w1 ⟨rfl, hb⟩; replace hT := hT.below hb; clear hb) | (go_simp; go_at_call 50; (with_reducible refine (magnitude_any (!n) A1 c1 ys _ (h1.below hT.be) (by omega)).mono ?_); rintro e w1 ⟨rfl, hb⟩; replace hT := hT.below hb; clear hb) | (go_simp; go_at_call 49; (with_reducible refine (divide_any A0 A1 c0 c1 (trimL xs) (trimL ys) _ (h0.trim.below hT.be) (h1.trim.below hT.be) (trimL_trimL _) (trimL_trimL _) (by omega) (by omega) HY.out.2.1).mono ?_); rintro e w2 ⟨qA, qc, qs, rA, rc, rs, rfl, hQ, hR, hq1, hr1, hq2, hr2, hb⟩; replace hT := hT.below hb; have HV := Aside0.mk (And.intro hq1 hr1); clear hb hq1 hr1))
  obtain ⟨x0, x1, y0, y1⟩ := hT.cells
  go_wp2
  have dq := hQ.dig
  have dr := hR.dig
  replace hT := hT.drew
  replace hQ := hQ.below (below_drew (Below.refl _ _))
  replace hR := hR.below (below_drew (Below.refl _ _))
  go_region_held3 (fun w' => w'.cell? ⟨w.heap.size, 0, none⟩ = some (.bool n))
    (first | with_reducible exact hT.cells.1 | with_reducible exact (hT.setq _ _).cells.1 | with_reducible exact ((hT.setq _ _).setr _ _).cells.1)
    (first | (go_simp; go_at_call 51; (with_reducible refine (canonical_res true qA qc qs _ hQ (by omega)).mono ?_); rintro e w3 ⟨A3, c3, rfl, hQ', hb⟩; replace hT := hT.below hb; replace hR := hR.below hb; clear hb) | (go_simp; go_at_call 51; (with_reducible refine (canonical_res n rA rc rs _ hR (by omega)).mono ?_); rintro e w4 ⟨A4, c4, rfl, hR', hb⟩; replace hT := hT.below hb; replace hQ' := hQ'.below hb; clear hb; have hroom := hT.room; have hcells := hT.cells))
  have hQ2 := (hQ'.boxed2 (n := ng (iv true qs)) (A1 := A3) (l1 := (mg (iv true qs)).length) (c1 := c3) hT.q).boxed2 (n := ng (iv n rs)) (A1 := A4) (l1 := (mg (iv n rs)).length) (c1 := c4) (hT.setq _ _).r
  have hR2 := (hR'.boxed2 (n := ng (iv true qs)) (A1 := A3) (l1 := (mg (iv true qs)).length) (c1 := c3) hT.q).boxed2 (n := ng (iv n rs)) (A1 := A4) (l1 := (mg (iv n rs)).length) (c1 := c4) (hT.setq _ _).r
  replace hT := (hT.setq (.bool (ng (iv true qs))) (.slice A3 (mg (iv true qs)).length c3)).setr (.bool (ng (iv n rs))) (.slice A4 (mg (iv n rs)).length c4)
  clear hroom hcells
  generalize World.setCell _ _ _ = wz at hT hQ2 hR2 ⊢
  have hroom := hT.room
  have ML := Aside0.mk (And.intro (mg_iv_len true dq) (And.intro (mg_iv_len n dr) (And.intro (iv_canon (iv true qs)) (iv_canon (iv n rs)))))
  have l1 : (mg (iv true qs)).length ≤ 274877906944 := by have := ML.out.1; omega
  have l2 : (mg (iv n rs)).length ≤ 274877906944 := by have := ML.out.2.1; omega
  obtain ⟨sg, hsg⟩ : ∃ sg, cmpZ (iv n rs) 0 = sg := ⟨_, rfl⟩
  have HS := Aside0.mk hsg
  clear hsg
  by_cases hz : iv n rs = 0
  · have hs0 : (sg == 0) = true := by rw [← HS.out, hz]; rfl
    have D := Aside0.mk (dm_diff0 n xs ys qs rs HY.out.2.2 (by rw [HV.out.1, val_trim, val_trim]) (by rw [HV.out.2, val_trim, val_trim]) hz)
    clear hz
    go_wp2_with (first | (go_at_call 19; (with_reducible refine (sign_any (ng (iv n rs)) A4 c4 (mg (iv n rs)) _ hR2 (by omega) sg (by rw [ML.out.2.2.2]; exact HS.out)).mono ?_); rintro e w5 ⟨rfl, hb⟩; replace hT := hT.below hb; replace hQ2 := hQ2.below hb; replace hR2 := hR2.below hb; clear hb hroom; have hroom := hT.room))
    go_region
    have hQ3 := (hQ2.boxed2 (n := ng (iv true qs)) (A1 := A3) (l1 := (mg (iv true qs)).length) (c1 := c3) hT.q).boxed2 (n := ng (iv n rs)) (A1 := A4) (l1 := (mg (iv n rs)).length) (c1 := c4) (hT.setq _ _).r
    have hR3 := (hR2.boxed2 (n := ng (iv true qs)) (A1 := A3) (l1 := (mg (iv true qs)).length) (c1 := c3) hT.q).boxed2 (n := ng (iv n rs)) (A1 := A4) (l1 := (mg (iv n rs)).length) (c1 := c4) (hT.setq _ _).r
    replace hT := (hT.setq (.bool (ng (iv true qs))) (.slice A3 (mg (iv true qs)).length c3)).setr (.bool (ng (iv n rs))) (.slice A4 (mg (iv n rs)).length c4)
    clear hroom
    generalize World.setCell _ _ _ = wy at hT hQ3 hR3 ⊢
    replace hT := hT.drew
    replace hQ3 := hQ3.below (below_drew (Below.refl _ _))
    replace hR3 := hR3.below (below_drew (Below.refl _ _))
    go_wp2
    obtain ⟨⟨q0, q1, q2, q3⟩, r0, r1, r2, r3⟩ := hT.room
    rw [D.out.1] at q0 q1 hQ3
    rw [D.out.2] at r0 r1 hR3
    exact bodyPost_ret (v := .tuple #[.agg #[.bool (ng ((iv n xs).fdiv (iv (!n) ys))), .slice A3 (mg ((iv n xs).fdiv (iv (!n) ys))).length c3], .agg #[.bool (ng ((iv n xs).fmod (iv (!n) ys))), .slice A4 (mg ((iv n xs).fmod (iv (!n) ys))).length c4], .int .i64 0]) (by simp [results, Tryd.results14, go_sem, q0, q1, r0, r1]) rfl ⟨A3, c3, A4, c4, rfl, hQ3, hR3, hT.be⟩
  · have hs0 : (sg == 0) = false := by rw [← HS.out]; simp [cmpZ]; split <;> (try split) <;> omega
    have D := Aside0.mk (dm_diff1 n xs ys qs rs HY.out.2.2 (by rw [HV.out.1, val_trim, val_trim]) (by rw [HV.out.2, val_trim, val_trim]) hz)
    clear hz
    go_wp2_with (first | (go_at_call 19; (with_reducible refine (sign_any (ng (iv n rs)) A4 c4 (mg (iv n rs)) _ hR2 (by omega) sg (by rw [ML.out.2.2.2]; exact HS.out)).mono ?_); rintro e w5 ⟨rfl, hb⟩; replace hT := hT.below hb; replace hQ2 := hQ2.below hb; replace hR2 := hR2.below hb; clear hb hroom; have hroom := hT.room))
    replace hT := hT.drew
    replace hQ2 := hQ2.below (below_drew (Below.refl _ _))
    replace hR2 := hR2.below (below_drew (Below.refl _ _))
    clear hroom
    refine start_ (n := 8) (S := (fun W => W.cell? ⟨w.heap.size + 1 + 1, 0, none⟩ = some (.bool (ng (iv true qs))) ∧ W.cell? ⟨w.heap.size + 1 + 1, 1, none⟩ = some (.slice A3 (mg (iv true qs)).length c3) ∧ W.cell? ⟨w.heap.size + 1 + 1 + 1, 0, none⟩ = some (.bool (ng (iv n rs))) ∧ W.cell? ⟨w.heap.size + 1 + 1 + 1, 1, none⟩ = some (.slice A4 (mg (iv n rs)).length c4) ∧ W.cell? ⟨w.heap.size + 1, 0, none⟩ = some (.bool (!n)) ∧ W.cell? ⟨w.heap.size + 1, 1, none⟩ = some (.slice A1 ys.length c1))) (ds := [6, 7]) #[false, false, false, false, false, false, false, false] (by kernel_rfl) rfl rfl (⟨hT.q.at0, hT.q.at1, hT.r.at0, hT.r.at1, hT.y.at0, hT.y.at1⟩) (fun hHeld => ?_)
    refine take_ (i := 0) (N := some 42) (v := ?_) (a' := ?_) #[true, false, false, false, false, false, false, false] rfl rfl (by kernel_rfl) (fun _ _ _ h => h) (Or.inl ⟨by rfl, ?_⟩) hHeld ?_ ?_
    rotate_left
    · rintro w' ⟨s0, s1, s2, s3, s4, s5⟩
      go_simp
      with_reducible rfl
    rotate_left
    · simp only [Act.put, List.setIfInBounds_toArray, List.set_cons_zero, List.set_cons_succ, i64_w, i32_w]
      rfl
    refine take_ (i := 3) (N := some 45) (v := ?_) (a' := ?_) #[true, false, false, true, false, false, false, false] rfl rfl (by kernel_rfl) (fun _ _ _ h => h) (Or.inl ⟨by rfl, ?_⟩) hHeld ?_ ?_
    rotate_left
    · rintro w' ⟨s0, s1, s2, s3, s4, s5⟩
      go_simp
      with_reducible rfl
    rotate_left
    · simp only [Act.put, List.setIfInBounds_toArray, List.set_cons_zero, List.set_cons_succ, i64_w, i32_w]
      rfl
    refine take_ (i := 4) (N := some 46) (v := ?_) (a' := ?_) #[true, false, false, true, true, false, false, false] rfl rfl (by kernel_rfl) (fun _ _ _ h => h) (Or.inl ⟨by rfl, ?_⟩) hHeld ?_ ?_
    rotate_left
    · rintro w' ⟨s0, s1, s2, s3, s4, s5⟩
      go_simp
      with_reducible rfl
    rotate_left
    · simp only [Act.put, List.setIfInBounds_toArray, List.set_cons_zero, List.set_cons_succ, i64_w, i32_w]
      rfl
    refine one_ (i := 1) (N := some 43) #[true, true, false, true, true, false, false, false] rfl rfl (by kernel_rfl) (by decide) (fun K hK => ?_)
    refine goes_ Tryd.func21 (by kernel_rfl) rfl #[.int .i64 1] (by rfl) rfl rfl (by (try simp only [List.map_toArray, List.map_cons, List.map_nil]); first | done | rfl) ?_
    refine (FromInt64_any 1 _ (by omega) (by omega)).mono ?_
    rintro e w6 ⟨A5, c5, rfl, hO, hb⟩
    refine ⟨_, rfl, ?_⟩
    replace hT := hT.below hb
    replace hQ2 := hQ2.below hb
    replace hR2 := hR2.below hb
    clear hb
    refine hK.out _ _ ⟨hT.q.at0, hT.q.at1, hT.r.at0, hT.r.at1, hT.y.at0, hT.y.at1⟩ (fun hHeld => ?_)
    refine norm_ (a' := ?_) ?_ ?_
    rotate_left
    · show Act.put _ (some 43) _ = _
      simp only [Act.put, List.setIfInBounds_toArray, List.set_cons_zero, List.set_cons_succ, i64_w, i32_w]
      rfl
    refine one_ (i := 2) (N := some 44) #[true, true, true, true, true, false, false, false] rfl rfl (by kernel_rfl) (by decide) (fun K hK => ?_)
    refine goes_ Tryd.func20 (by kernel_rfl) rfl #[.agg #[.bool (ng (iv true qs)), .slice A3 (mg (iv true qs)).length c3], .agg #[.bool (ng 1), .slice A5 (mg 1).length c5]] (by rfl) rfl rfl (by (try simp only [List.map_toArray, List.map_cons, List.map_nil]); first | done | rfl) ?_
    refine (sub_z (iv true qs) 1 A3 A5 c3 c5 _ hQ2 hO l1 one_len).mono ?_
    rintro e w7 ⟨A6, c6, rfl, hQ4, hb⟩
    refine ⟨_, rfl, ?_⟩
    replace hT := hT.below hb
    replace hR2 := hR2.below hb
    clear hb hO
    refine hK.out _ _ ⟨hT.q.at0, hT.q.at1, hT.r.at0, hT.r.at1, hT.y.at0, hT.y.at1⟩ (fun hHeld => ?_)
    refine norm_ (a' := ?_) ?_ ?_
    rotate_left
    · show Act.put _ (some 44) _ = _
      simp only [Act.put, List.setIfInBounds_toArray, List.set_cons_zero, List.set_cons_succ, i64_w, i32_w]
      rfl
    refine one_ (i := 5) (N := some 47) #[true, true, true, true, true, true, false, false] rfl rfl (by kernel_rfl) (by decide) (fun K hK => ?_)
    refine goes_ Tryd.func17 (by kernel_rfl) rfl #[.agg #[.bool (ng (iv n rs)), .slice A4 (mg (iv n rs)).length c4], .agg #[.bool (!n), .slice A1 ys.length c1]] (by rfl) rfl rfl (by (try simp only [List.map_toArray, List.map_cons, List.map_nil]); first | done | rfl) ?_
    refine (add_r (iv n rs) (!n) ys A4 A1 c4 c1 _ hR2 (h1.below hT.be) l2 hl1).mono ?_
    rintro e w8 ⟨A7, c7, rfl, hR4, hb⟩
    refine ⟨_, rfl, ?_⟩
    replace hT := hT.below hb
    replace hQ4 := hQ4.below hb
    clear hb hR2 hQ2
    refine hK.out _ _ ⟨hT.q.at0, hT.q.at1, hT.r.at0, hT.r.at1, hT.y.at0, hT.y.at1⟩ (fun hHeld => ?_)
    refine norm_ (a' := ?_) ?_ ?_
    rotate_left
    · show Act.put _ (some 47) _ = _
      simp only [Act.put, List.setIfInBounds_toArray, List.set_cons_zero, List.set_cons_succ, i64_w, i32_w]
      rfl
    have hroom := hT.room
    refine last_ (i := 6) (N := none) #[true, true, true, true, true, true, true, false] rfl rfl (by kernel_rfl) (by decide) (fun K hK => ?_)
    refine skip_ (w1 := ?_) (by rfl) rfl ?_ ?_
    rotate_left
    · go_simp
      rfl
    refine hK.out _ _ ?_
    refine last_ (i := 7) (N := none) #[true, true, true, true, true, true, true, true] rfl rfl (by kernel_rfl) (by decide) (fun K hK => ?_)
    refine skip_ (w1 := ?_) (by rfl) rfl ?_ ?_
    rotate_left
    · go_simp
      rfl
    refine hK.out _ _ ?_
    refine done_ (by kernel_rfl) ?_
    have hQ2 := (hQ4.boxed2 (n := ng (iv true qs - 1)) (A1 := A6) (l1 := (mg (iv true qs - 1)).length) (c1 := c6) hT.q).boxed2 (n := ng (iv n rs + iv (!n) ys)) (A1 := A7) (l1 := (mg (iv n rs + iv (!n) ys)).length) (c1 := c7) (hT.setq _ _).r
    have hR2 := (hR4.boxed2 (n := ng (iv true qs - 1)) (A1 := A6) (l1 := (mg (iv true qs - 1)).length) (c1 := c6) hT.q).boxed2 (n := ng (iv n rs + iv (!n) ys)) (A1 := A7) (l1 := (mg (iv n rs + iv (!n) ys)).length) (c1 := c7) (hT.setq _ _).r
    replace hT := (hT.setq (.bool (ng (iv true qs - 1))) (.slice A6 (mg (iv true qs - 1)).length c6)).setr (.bool (ng (iv n rs + iv (!n) ys))) (.slice A7 (mg (iv n rs + iv (!n) ys)).length c7)
    clear hroom
    generalize World.setCell _ _ _ = wz at hT hQ2 hR2 ⊢
    have hroom := hT.room
    go_wp2
    go_region
    have hQ3 := (hQ2.boxed2 (n := ng (iv true qs - 1)) (A1 := A6) (l1 := (mg (iv true qs - 1)).length) (c1 := c6) hT.q).boxed2 (n := ng (iv n rs + iv (!n) ys)) (A1 := A7) (l1 := (mg (iv n rs + iv (!n) ys)).length) (c1 := c7) (hT.setq _ _).r
    have hR3 := (hR2.boxed2 (n := ng (iv true qs - 1)) (A1 := A6) (l1 := (mg (iv true qs - 1)).length) (c1 := c6) hT.q).boxed2 (n := ng (iv n rs + iv (!n) ys)) (A1 := A7) (l1 := (mg (iv n rs + iv (!n) ys)).length) (c1 := c7) (hT.setq _ _).r
    replace hT := (hT.setq (.bool (ng (iv true qs - 1))) (.slice A6 (mg (iv true qs - 1)).length c6)).setr (.bool (ng (iv n rs + iv (!n) ys))) (.slice A7 (mg (iv n rs + iv (!n) ys)).length c7)
    clear hroom
    generalize World.setCell _ _ _ = wy at hT hQ3 hR3 ⊢
    replace hT := hT.drew
    replace hQ3 := hQ3.below (below_drew (Below.refl _ _))
    replace hR3 := hR3.below (below_drew (Below.refl _ _))
    go_wp2
    obtain ⟨⟨q0, q1, q2, q3⟩, r0, r1, r2, r3⟩ := hT.room
    rw [D.out.1] at q0 q1 hQ3
    rw [D.out.2] at r0 r1 hR3
    exact bodyPost_ret (v := .tuple #[.agg #[.bool (ng ((iv n xs).fdiv (iv (!n) ys))), .slice A6 (mg ((iv n xs).fdiv (iv (!n) ys))).length c6], .agg #[.bool (ng ((iv n xs).fmod (iv (!n) ys))), .slice A7 (mg ((iv n xs).fmod (iv (!n) ys))).length c7], .int .i64 0]) (by simp [results, Tryd.results14, go_sem, q0, q1, r0, r1]) rfl ⟨A6, c6, A7, c7, rfl, hQ3, hR3, hT.be⟩
theorem DivMod_any (n0 n1 : Bool) (A0 A1 : Option Addr) (c0 c1 : Nat) (xs ys : List Int) (w : World) (h0 : Rd w A0 c0 xs) (h1 : Rd w A1 c1 ys) (hl0 : xs.length ≤ 274877906944) (hl1 : ys.length ≤ 274877906944) (hy : iv n1 ys ≠ 0) :
    Calls Tryd.prog 14 #[.agg #[.bool n0, .slice A0 xs.length c0], .agg #[.bool n1, .slice A1 ys.length c1]] w fun e w' => Res2 e w w' ((iv n0 xs).fdiv (iv n1 ys)) ((iv n0 xs).fmod (iv n1 ys)) 0 := by
  by_cases h : n1 = n0
  · subst h; exact DivMod_same n1 A0 A1 c0 c1 xs ys w h0 h1 hl0 hl1 hy
  · have e : n1 = !n0 := by cases n0 <;> cases n1 <;> simp_all
    subst e; exact DivMod_diff n0 A0 A1 c0 c1 xs ys w h0 h1 hl0 hl1 hy
theorem ng_zero : ng 0 = false := rfl
theorem mg_zero : mg 0 = [] := (mg_nil 0).2 rfl
set_option maxRecDepth 100000 in
theorem DivMod_zero (n0 n1 : Bool) (A0 A1 : Option Addr) (c0 c1 : Nat) (xs ys : List Int) (w : World) (h0 : Rd w A0 c0 xs) (h1 : Rd w A1 c1 ys) (hl0 : xs.length ≤ 274877906944) (hl1 : ys.length ≤ 274877906944) (hy : iv n1 ys = 0) :
    Calls Tryd.prog 14 #[.agg #[.bool n0, .slice A0 xs.length c0], .agg #[.bool n1, .slice A1 ys.length c1]] w fun e w' => Res2 e w w' 0 0 11 := by
  have HR := Aside0.mk (show cmpZ (iv n1 ys) 0 = 0 by rw [hy]; rfl)
  clear hy
  go_enter Tryd.func14, Tryd.ntmps14
  go_wp2_with (first | (go_at_call 19; generalize hwb : World.alloc (World.alloc _ _) _ = wb; have hT := Four.start w _ _ _ _ _ _ _ _ hwb; clear hwb; (with_reducible refine (sign_any n1 A1 c1 ys _ (h1.below hT.be) (by omega) 0 HR.out).mono ?_); rintro e w1 ⟨rfl, hb⟩; replace hT := hT.below hb; clear hb; have hroom := hT.room))
  replace hT := (hT.setq (.bool false) (.slice none 0 0)).setr (.bool false) (.slice none 0 0)
  clear hroom
  generalize World.setCell _ _ _ = wy at hT ⊢
  obtain ⟨⟨q0, q1, q2, q3⟩, r0, r1, r2, r3⟩ := hT.room
  exact bodyPost_ret (v := .tuple #[.agg #[.bool (ng 0), .slice none (mg 0).length 0], .agg #[.bool (ng 0), .slice none (mg 0).length 0], .int .i64 11]) (by simp [results, Tryd.results14, go_sem, q0, q1, r0, r1, mg_zero, ng_zero]) rfl ⟨none, 0, none, 0, rfl, by rw [mg_zero]; exact Rd.nil _, by rw [mg_zero]; exact Rd.nil _, hT.be⟩
end Go.Proofs.YtegnnghoiffmhaaDoor.Big
