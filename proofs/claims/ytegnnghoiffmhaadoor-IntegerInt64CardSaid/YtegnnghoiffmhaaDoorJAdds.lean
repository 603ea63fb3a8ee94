/- The reference: Add, Sub, Mul. -/
import Derived.Test.YtegnnghoiffmhaaDoorJOps
namespace Go.Proofs.YtegnnghoiffmhaaDoor.Big
open Go.RowKit Go.Proofs.YtegnnghoiffmhaaDoorW.PrintWords Go.Proofs.YtegnnghoiffmhaaDoorW.PrintLast
set_option linter.unusedVariables false
set_option linter.unusedSimpArgs false
attribute [local go_sem ↓] Go.wp_at_zero Go.wp_at_succ
set_option maxRecDepth 100000 in
theorem Mul_ref (n0 n1 : Bool) (A0 A1 : Option Addr) (c0 c1 : Nat) (xs ys : List Int) (w : World) (h0 : Rd w A0 c0 xs) (h1 : Rd w A1 c1 ys) (hl0 : xs.length ≤ 274877906943) (hl1 : ys.length ≤ 274877906943) (x y z : Int) (hx : iv n0 xs = x) (hy : iv n1 ys = y) (hz : x * y = z) :
    Calls Tryd.prog 34 #[.agg #[.bool n0, .slice A0 xs.length c0], .agg #[.bool n1, .slice A1 ys.length c1]] w fun e w' => Res e w w' z := by
  have E : ∀ zs : List Int, val zs = val xs * val ys → iv (!(n0 == n1)) zs = z := fun zs h => by rw [← hz, ← hx, ← hy]; exact iv_mul n0 n1 xs ys zs h
  have EE := Aside0.mk E
  clear hx hy hz E
  go_enter Tryd.func34, Tryd.ntmps34
  go_wp2
  generalize hwb : World.alloc _ _ = wb
  have hT := (Two.start w _ _ _ _ hwb).drew
  clear hwb
  go_region_held3 (fun w' => w'.cell? ⟨w.heap.size, 0, none⟩ = some (.bool n0) ∧ w'.cell? ⟨w.heap.size, 1, none⟩ = some (.slice A0 xs.length c0) ∧ w'.cell? ⟨w.heap.size + 1, 0, none⟩ = some (.bool n1) ∧ w'.cell? ⟨w.heap.size + 1, 1, none⟩ = some (.slice A1 ys.length c1))
      (first | with_reducible exact hT.cells | with_reducible exact ⟨hT.after _ _ _ _ (.inl rfl) hT.x.at0, hT.after _ _ _ _ (.inl rfl) hT.x.at1, hT.after _ _ _ _ (.inr rfl) hT.y.at0, hT.after _ _ _ _ (.inr rfl) hT.y.at1⟩)
      (first | (go_simp; go_at_call 64; (with_reducible refine (mulDigits_any A0 A1 c0 c1 xs ys _ (h0.below hT.be) (h1.below hT.be) (by omega) (by omega)).mono ?_); rintro e w1 ⟨A, c, zs, rfl, hR, hv, ht, hl, hb⟩; replace hT := hT.below hb; have HV := Aside0.mk (And.intro hv hl); clear hv hl ht hb) | (go_simp; go_at_call 53; (with_reducible refine (Make_v (!(n0 == n1)) A c zs _ hR (by have := HV.out.2; omega) z (EE.out zs HV.out.1)).mono ?_); rintro e w3 ⟨A', c', rfl, hR', hb⟩; replace hT := hT.below hb; have hroom := hT.room))
  go_wp2
  exact bodyPost_ret (v := .agg #[.bool (ng z), .slice A' (mg z).length c']) (by simp [results, Tryd.results34, go_sem, hroom]) rfl (hT.res hR')
set_option maxHeartbeats 4000000 in
set_option maxRecDepth 100000 in
theorem Add_ref (n0 n1 : Bool) (A0 A1 : Option Addr) (c0 c1 : Nat) (xs ys : List Int) (w : World) (h0 : Rd w A0 c0 xs) (h1 : Rd w A1 c1 ys) (hl0 : xs.length ≤ 274877906943) (hl1 : ys.length ≤ 274877906943) (x y z : Int) (hx : iv n0 xs = x) (hy : iv n1 ys = y) (hz : x + y = z) :
    Calls Tryd.prog 32 #[.agg #[.bool n0, .slice A0 xs.length c0], .agg #[.bool n1, .slice A1 ys.length c1]] w fun e w' => Res e w w' z := by
  go_enter Tryd.func32, Tryd.ntmps32
  by_cases hn : n0 = n1
  · subst hn
    have E : ∀ zs : List Int, val zs = val xs + val ys → iv n0 zs = z := fun zs h => by rw [← hz, ← hx, ← hy]; unfold iv; rw [h]; split <;> omega
    have EE := Aside0.mk E
    have hnn : (n0 == n0) = true := by simp
    clear hx hy hz E
    go_wp2
    generalize hwb : World.alloc _ _ = wb
    have hT := (Two.start w _ _ _ _ hwb).drew
    clear hwb
    go_region_held3 (fun w' => w'.cell? ⟨w.heap.size, 0, none⟩ = some (.bool n0) ∧ w'.cell? ⟨w.heap.size, 1, none⟩ = some (.slice A0 xs.length c0) ∧ w'.cell? ⟨w.heap.size + 1, 0, none⟩ = some (.bool n0) ∧ w'.cell? ⟨w.heap.size + 1, 1, none⟩ = some (.slice A1 ys.length c1))
      (first | with_reducible exact hT.cells | with_reducible exact ⟨hT.after _ _ _ _ (.inl rfl) hT.x.at0, hT.after _ _ _ _ (.inl rfl) hT.x.at1, hT.after _ _ _ _ (.inr rfl) hT.y.at0, hT.after _ _ _ _ (.inr rfl) hT.y.at1⟩)
      (first | (go_simp; go_at_call 61; (with_reducible refine (addDigits_any A0 A1 c0 c1 xs ys _ (h0.below hT.be) (h1.below hT.be) (by omega) (by omega)).mono ?_); rintro e w1 ⟨A, c, zs, rfl, hR, hv, ht, hl, hb⟩; replace hT := hT.below hb; have HV := Aside0.mk (And.intro hv hl); clear hv hl ht hb) | (go_simp; go_at_call 53; (with_reducible refine (Make_v n0 A c zs _ hR (by have := HV.out.2; omega) z (EE.out zs HV.out.1)).mono ?_); rintro e w3 ⟨A', c', rfl, hR', hb⟩; replace hT := hT.below hb; have hroom := hT.room))
    go_wp2
    exact bodyPost_ret (v := .agg #[.bool (ng z), .slice A' (mg z).length c']) (by simp [results, Tryd.results32, go_sem, hroom]) rfl (hT.res hR')
  · have hnn : (n0 == n1) = false := by rw [beq_eq_false_iff_ne]; exact hn
    have e := iv_ne hn xs ys
    rw [hx, hy, hz] at e
    have hn1 := Aside0.mk (show n1 = !n0 by cases n0 <;> cases n1 <;> simp_all)
    have L0 := trimL_len xs
    have L1 := trimL_len ys
    obtain ⟨r, hr⟩ : ∃ r, cmpZ (val xs) (val ys) = r := ⟨_, rfl⟩
    have HR := Aside0.mk hr
    by_cases hle : val ys ≤ val xs
    · have E : ∀ zs : List Int, val zs = val xs - val ys → iv n0 zs = z := fun zs h => by rw [e]; unfold iv; rw [h]; split <;> omega
      have EE := Aside0.mk E
      have hr0 : (0 : Int) ≤ r := by rw [← hr]; exact (cmpZ_nonneg _ _).2 hle
      have HL := Aside0.mk (And.intro (show (trimL ys).length ≤ xs.length by
        have h2 := len_of_val_le (xs := xs) (ys := trimL ys) h0.dig h1.trim.dig (trimL_trimL _) (by rw [val_trim]; exact hle)
        exact h2) (show val (trimL ys) ≤ val xs by rw [val_trim]; exact hle))
      clear hx hy hz E e hn hle hr
      go_wp2_with (first | (go_at_call 60; generalize hwb : World.alloc _ _ = wb; have hT := Two.start w _ _ _ _ hwb; clear hwb; (with_reducible refine (compareDigits_any A0 A1 c0 c1 xs ys _ (h0.below hT.be) (h1.below hT.be) (by omega) (by omega) r HR.out).mono ?_); rintro e w0 ⟨rfl, hd⟩; replace hT := hT.below hd.below; clear hd))
      replace hT := hT.drew
      go_region_held3 (fun w' => w'.cell? ⟨w.heap.size, 0, none⟩ = some (.bool n0) ∧ w'.cell? ⟨w.heap.size, 1, none⟩ = some (.slice A0 xs.length c0) ∧ w'.cell? ⟨w.heap.size + 1, 0, none⟩ = some (.bool n1) ∧ w'.cell? ⟨w.heap.size + 1, 1, none⟩ = some (.slice A1 ys.length c1))
      (first | with_reducible exact hT.cells | with_reducible exact ⟨hT.after _ _ _ _ (.inl rfl) hT.x.at0, hT.after _ _ _ _ (.inl rfl) hT.x.at1, hT.after _ _ _ _ (.inr rfl) hT.y.at0, hT.after _ _ _ _ (.inr rfl) hT.y.at1⟩)
      (first | (go_simp; go_at_call 63; (with_reducible refine (trim_any A1 c1 ys _ (h1.below hT.be) (by omega)).mono ?_); rintro e w0 ⟨rfl, rfl⟩) | (go_simp; go_at_call 62; (with_reducible refine (subDigits_any A0 A1 c0 c1 xs (trimL ys) _ (h0.below hT.be) (h1.trim.below hT.be) (by omega) HL.out.1 HL.out.2).mono ?_); rintro e w1 ⟨A, c, zs, rfl, hR, hv, ht, hl, hb⟩; replace hT := hT.below hb; have HV := Aside0.mk (And.intro hv hl); clear hv hl ht hb) | (go_simp; go_at_call 53; (with_reducible refine (Make_v n0 A c zs _ hR (by have := HV.out.2; omega) z (EE.out zs (by rw [HV.out.1, val_trim]))).mono ?_); rintro e w3 ⟨A', c', rfl, hR', hb⟩; replace hT := hT.below hb; have hroom := hT.room))
      go_wp2
      exact bodyPost_ret (v := .agg #[.bool (ng z), .slice A' (mg z).length c']) (by simp [results, Tryd.results32, go_sem, hroom]) rfl (hT.res hR')
    · have E : ∀ zs : List Int, val zs = val ys - val xs → iv n1 zs = z := fun zs h => by rw [e, hn1.out]; unfold iv; rw [h]; cases n0 <;> simp <;> omega
      have EE := Aside0.mk E
      have hr0 : ¬ (0 : Int) ≤ r := by rw [← hr]; intro h; exact hle ((cmpZ_nonneg _ _).1 h)
      have HL := Aside0.mk (And.intro (show (trimL xs).length ≤ ys.length by
        have h2 := len_of_val_le (xs := ys) (ys := trimL xs) h1.dig h0.trim.dig (trimL_trimL _) (by rw [val_trim]; omega)
        exact h2) (show val (trimL xs) ≤ val ys by rw [val_trim]; omega))
      clear hx hy hz E e hn hle hr
      go_wp2_with (first | (go_at_call 60; generalize hwb : World.alloc _ _ = wb; have hT := Two.start w _ _ _ _ hwb; clear hwb; (with_reducible refine (compareDigits_any A0 A1 c0 c1 xs ys _ (h0.below hT.be) (h1.below hT.be) (by omega) (by omega) r HR.out).mono ?_); rintro e w0 ⟨rfl, hd⟩; replace hT := hT.below hd.below; clear hd))
      replace hT := hT.drew
      go_region_held3 (fun w' => w'.cell? ⟨w.heap.size, 0, none⟩ = some (.bool n0) ∧ w'.cell? ⟨w.heap.size, 1, none⟩ = some (.slice A0 xs.length c0) ∧ w'.cell? ⟨w.heap.size + 1, 0, none⟩ = some (.bool n1) ∧ w'.cell? ⟨w.heap.size + 1, 1, none⟩ = some (.slice A1 ys.length c1))
      (first | with_reducible exact hT.cells | with_reducible exact ⟨hT.after _ _ _ _ (.inl rfl) hT.x.at0, hT.after _ _ _ _ (.inl rfl) hT.x.at1, hT.after _ _ _ _ (.inr rfl) hT.y.at0, hT.after _ _ _ _ (.inr rfl) hT.y.at1⟩)
      (first | (go_simp; go_at_call 63; (with_reducible refine (trim_any A0 c0 xs _ (h0.below hT.be) (by omega)).mono ?_); rintro e w0 ⟨rfl, rfl⟩) | (go_simp; go_at_call 62; (with_reducible refine (subDigits_any A1 A0 c1 c0 ys (trimL xs) _ (h1.below hT.be) (h0.trim.below hT.be) (by omega) HL.out.1 HL.out.2).mono ?_); rintro e w1 ⟨A, c, zs, rfl, hR, hv, ht, hl, hb⟩; replace hT := hT.below hb; have HV := Aside0.mk (And.intro hv hl); clear hv hl ht hb) | (go_simp; go_at_call 53; (with_reducible refine (Make_v n1 A c zs _ hR (by have := HV.out.2; omega) z (EE.out zs (by rw [HV.out.1, val_trim]))).mono ?_); rintro e w3 ⟨A', c', rfl, hR', hb⟩; replace hT := hT.below hb; have hroom := hT.room))
      go_wp2
      exact bodyPost_ret (v := .agg #[.bool (ng z), .slice A' (mg z).length c']) (by simp [results, Tryd.results32, go_sem, hroom]) rfl (hT.res hR')
set_option maxRecDepth 100000 in
theorem Sub_ref (n0 n1 : Bool) (A0 A1 : Option Addr) (c0 c1 : Nat) (xs ys : List Int) (w : World) (h0 : Rd w A0 c0 xs) (h1 : Rd w A1 c1 ys) (hl0 : xs.length ≤ 274877906943) (hl1 : ys.length ≤ 274877906943) (x y z : Int) (hx : iv n0 xs = x) (hy : iv n1 ys = y) (hz : x - y = z) :
    Calls Tryd.prog 33 #[.agg #[.bool n0, .slice A0 xs.length c0], .agg #[.bool n1, .slice A1 ys.length c1]] w fun e w' => Res e w w' z := by
  obtain ⟨my, hmy⟩ : ∃ m, -y = m := ⟨_, rfl⟩
  have EX := Aside0.mk (And.intro hx (And.intro hy (And.intro hmy (show x + my = z by omega))))
  have lm : (mg my).length ≤ 274877906943 := by rw [← hmy, mg_neg, ← hy]; exact Nat.le_trans (mg_iv_len n1 h1.dig) hl1
  clear hx hy hz hmy
  go_enter Tryd.func33, Tryd.ntmps33
  go_wp2
  generalize hwb : World.alloc _ _ = wb
  have hT := (Two.start w _ _ _ _ hwb).drew
  clear hwb
  go_region_held3 (fun w' => w'.cell? ⟨w.heap.size, 0, none⟩ = some (.bool n0) ∧ w'.cell? ⟨w.heap.size, 1, none⟩ = some (.slice A0 xs.length c0) ∧ w'.cell? ⟨w.heap.size + 1, 0, none⟩ = some (.bool n1) ∧ w'.cell? ⟨w.heap.size + 1, 1, none⟩ = some (.slice A1 ys.length c1))
      (first | with_reducible exact hT.cells | with_reducible exact ⟨hT.after _ _ _ _ (.inl rfl) hT.x.at0, hT.after _ _ _ _ (.inl rfl) hT.x.at1, hT.after _ _ _ _ (.inr rfl) hT.y.at0, hT.after _ _ _ _ (.inr rfl) hT.y.at1⟩)
      (first | (go_simp; go_at_call 30; (with_reducible refine (Negate_ref n1 A1 c1 ys _ (h1.below hT.be) (by omega) y my EX.out.2.1 EX.out.2.2.1).mono ?_); rintro e w1 ⟨A, c, rfl, hR, hb⟩; replace hT := hT.below hb; clear hb) | (go_simp; go_at_call 32; (with_reducible refine (Add_ref n0 (ng my) A0 A c0 c xs (mg my) _ (h0.below hT.be) hR (by omega) (by omega) x my z EX.out.1 (iv_canon _) EX.out.2.2.2).mono ?_); rintro e w3 ⟨A', c', rfl, hR', hb⟩; replace hT := hT.below hb; have hroom := hT.room))
  go_wp2
  exact bodyPost_ret (v := .agg #[.bool (ng z), .slice A' (mg z).length c']) (by simp [results, Tryd.results33, go_sem, hroom]) rfl (hT.res hR')
end Go.Proofs.YtegnnghoiffmhaaDoor.Big
