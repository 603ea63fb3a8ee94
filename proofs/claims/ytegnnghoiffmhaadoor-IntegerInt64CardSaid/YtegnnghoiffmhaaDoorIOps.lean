/- integer.Sub, Mul, Sign, Negate, Abs, Compare, of numbers. -/
import Derived.Test.YtegnnghoiffmhaaDoorISum
import Derived.Test.YtegnnghoiffmhaaDoorITimes
namespace Go.Proofs.YtegnnghoiffmhaaDoor.Big
open Go.RowKit Go.Proofs.YtegnnghoiffmhaaDoorW.PrintWords
set_option linter.unusedVariables false
set_option linter.unusedSimpArgs false
attribute [local go_sem ↓] Go.wp_at_zero Go.wp_at_succ
set_option maxRecDepth 100000 in
theorem sub_any (n0 n1 : Bool) (A0 A1 : Option Addr) (c0 c1 : Nat) (xs ys : List Int) (w : World) (h0 : Rd w A0 c0 xs) (h1 : Rd w A1 c1 ys) (hl0 : xs.length ≤ 274877906944) (hl1 : ys.length ≤ 274877906944) :
    Calls Tryd.prog 20 #[.agg #[.bool n0, .slice A0 xs.length c0], .agg #[.bool n1, .slice A1 ys.length c1]] w fun e w' => Res e w w' (iv n0 xs - iv n1 ys) := by
  have E : iv n0 xs - iv n1 ys = iv n0 xs + iv (!n1) ys := by rw [iv_neg]; omega
  rw [E]
  clear E
  go_enter Tryd.func20, Tryd.ntmps20
  go_wp2_with (first | (go_at_call 55; generalize hwb : World.alloc _ _ = wb; have hT := Two.start w _ _ _ _ hwb; clear hwb; (with_reducible refine (sum_any n0 n1 (!n1) A0 A1 c0 c1 xs ys _ (h0.below hT.be) (h1.below hT.be) hl0 hl1).mono ?_); rintro e w1 ⟨A, c, rfl, hr, hb⟩; replace hT := hT.below hb; have hroom := hT.room; have HR := Aside0.mk hr; clear hr hb))
  exact bodyPost_ret (v := .agg #[.bool (ng (iv n0 xs + iv (!n1) ys)), .slice A (mg (iv n0 xs + iv (!n1) ys)).length c]) (by simp [results, Tryd.results20, go_sem, hroom]) rfl (hT.res HR.out)
set_option maxRecDepth 100000 in
theorem abs_any (n0 : Bool) (A0 : Option Addr) (c0 : Nat) (xs : List Int) (w : World) (h0 : Rd w A0 c0 xs) (hl0 : xs.length ≤ 274877906944) :
    Calls Tryd.prog 26 #[.agg #[.bool n0, .slice A0 xs.length c0]] w fun e w' => Res e w w' (iv n0 xs).natAbs := by
  rw [← iv_abs n0 h0.dig, ← iv_trim]
  have L0 := trimL_len xs
  go_enter Tryd.func26, Tryd.ntmps26
  go_wp2_with (first | (go_at_call 50; generalize hwb : World.alloc _ _ = wb; have hT := One.start w _ _ hwb; clear hwb; (with_reducible refine (magnitude_any n0 A0 c0 xs _ (h0.below hT.be) (by omega)).mono ?_); rintro e w1 ⟨rfl, hb⟩; replace hT := hT.below hb; clear hb) | (go_at_call 59; (with_reducible refine (clone_any A0 c0 (trimL xs) _ (h0.trim.below hT.be) (by omega)).mono ?_); rintro e w1 ⟨v, rfl, ho, hb⟩; obtain ⟨A, c, rfl, hR⟩ := ho.rd; replace hT := hT.below hb; clear hb ho) | (go_at_call 51; (with_reducible refine (canonical_res false A c (trimL xs) _ hR (by omega)).mono ?_); rintro e w3 ⟨A', c', rfl, hR', hb⟩; replace hT := hT.below hb; have hroom := hT.room))
  exact bodyPost_ret (v := .agg #[.bool (ng (iv false (trimL xs))), .slice A' (mg (iv false (trimL xs))).length c']) (by simp [results, Tryd.results26, go_sem, hroom]) rfl (hT.res hR')
set_option maxRecDepth 100000 in
theorem negate_any (n0 : Bool) (A0 : Option Addr) (c0 : Nat) (xs : List Int) (w : World) (h0 : Rd w A0 c0 xs) (hl0 : xs.length ≤ 274877906944) :
    Calls Tryd.prog 29 #[.agg #[.bool n0, .slice A0 xs.length c0]] w fun e w' => Res e w w' (-iv n0 xs) := by
  rw [← iv_neg, ← iv_trim]
  have L0 := trimL_len xs
  go_enter Tryd.func29, Tryd.ntmps29
  go_wp2
  generalize hwb : World.alloc _ _ = wb
  have hT := (One.start w _ _ hwb).drew
  clear hwb
  go_region_held3 (fun w' => w'.cell? ⟨w.heap.size, 0, none⟩ = some (.bool n0) ∧ w'.cell? ⟨w.heap.size, 1, none⟩ = some (.slice A0 xs.length c0))
    (first | exact hT.cells | exact ⟨hT.after _ _ _ _ rfl hT.x.at0, hT.after _ _ _ _ rfl hT.x.at1⟩)
    (first | (go_simp; go_at_call 50; (with_reducible refine (magnitude_any n0 A0 c0 xs _ (h0.below hT.be) (by omega)).mono ?_); rintro e w1 ⟨rfl, hb⟩; replace hT := hT.below hb; clear hb) | (go_simp; go_at_call 59; (with_reducible refine (clone_any A0 c0 (trimL xs) _ (h0.trim.below hT.be) (by omega)).mono ?_); rintro e w1 ⟨v, rfl, ho, hb⟩; obtain ⟨A, c, rfl, hR⟩ := ho.rd; replace hT := hT.below hb; clear hb ho) | (go_simp; go_at_call 51; (with_reducible refine (canonical_res (!n0) A c (trimL xs) _ hR (by omega)).mono ?_); rintro e w3 ⟨A', c', rfl, hR', hb⟩; replace hT := hT.below hb; have hroom := hT.room))
  go_wp2
  exact bodyPost_ret (v := .agg #[.bool (ng (iv (!n0) (trimL xs))), .slice A' (mg (iv (!n0) (trimL xs))).length c']) (by simp [results, Tryd.results29, go_sem, hroom]) rfl (hT.res hR')
set_option maxRecDepth 100000 in
theorem mul_any (n0 n1 : Bool) (A0 A1 : Option Addr) (c0 c1 : Nat) (xs ys : List Int) (w : World) (h0 : Rd w A0 c0 xs) (h1 : Rd w A1 c1 ys) (hl0 : xs.length ≤ 274877906944) (hl1 : ys.length ≤ 274877906944) :
    Calls Tryd.prog 18 #[.agg #[.bool n0, .slice A0 xs.length c0], .agg #[.bool n1, .slice A1 ys.length c1]] w fun e w' => Res e w w' (iv n0 xs * iv n1 ys) := by
  have L0 := trimL_len xs
  have L1 := trimL_len ys
  go_enter Tryd.func18, Tryd.ntmps18
  go_wp2
  generalize hwb : World.alloc _ _ = wb
  have hT := (Two.start w _ _ _ _ hwb).drew
  clear hwb
  go_region_held3 (fun w' => w'.cell? ⟨w.heap.size, 0, none⟩ = some (.bool n0) ∧ w'.cell? ⟨w.heap.size, 1, none⟩ = some (.slice A0 xs.length c0) ∧ w'.cell? ⟨w.heap.size + 1, 0, none⟩ = some (.bool n1) ∧ w'.cell? ⟨w.heap.size + 1, 1, none⟩ = some (.slice A1 ys.length c1))
    (first | exact hT.cells | exact ⟨hT.after _ _ _ _ (.inl rfl) hT.x.at0, hT.after _ _ _ _ (.inl rfl) hT.x.at1, hT.after _ _ _ _ (.inr rfl) hT.y.at0, hT.after _ _ _ _ (.inr rfl) hT.y.at1⟩)
    (first | (go_simp; go_at_call 50; (with_reducible refine (magnitude_any n0 A0 c0 xs _ (h0.below hT.be) (by omega)).mono ?_); rintro e w1 ⟨rfl, hb⟩; replace hT := hT.below hb; clear hb) | (go_simp; go_at_call 50; (with_reducible refine (magnitude_any n1 A1 c1 ys _ (h1.below hT.be) (by omega)).mono ?_); rintro e w1 ⟨rfl, hb⟩; replace hT := hT.below hb; clear hb) | (go_simp; go_at_call 56; (with_reducible refine (times_any A0 A1 c0 c1 (trimL xs) (trimL ys) _ (h0.trim.below hT.be) (h1.trim.below hT.be) (by omega) (by omega)).mono ?_); rintro e w1 ⟨v, cs, rfl, hO, hv, hl⟩; obtain ⟨A, c, rfl, hR⟩ := hO.ow.rd; replace hT := hT.below hO.be; have HV := Aside0.mk hv; have HL := Aside0.mk hl; clear hO hv hl) | (go_simp; go_at_call 51; (with_reducible refine (canonical_res (!(n0 == n1)) A c cs _ hR (by have := HL.out; omega)).mono ?_); rintro e w3 ⟨A', c', rfl, hR', hb⟩; replace hT := hT.below hb; have hroom := hT.room))
  go_wp2
  have E : iv (!(n0 == n1)) cs = iv n0 xs * iv n1 ys := iv_mul n0 n1 xs ys cs (by rw [HV.out, val_trim, val_trim])
  rw [← E]
  exact bodyPost_ret (v := .agg #[.bool (ng (iv (!(n0 == n1)) cs)), .slice A' (mg (iv (!(n0 == n1)) cs)).length c']) (by simp [results, Tryd.results18, go_sem, hroom]) rfl (hT.res hR')
set_option maxRecDepth 100000 in
theorem sign_any (n0 : Bool) (A0 : Option Addr) (c0 : Nat) (xs : List Int) (w : World) (h0 : Rd w A0 c0 xs) (hl0 : xs.length ≤ 274877906944) (r : Int) (hr : cmpZ (iv n0 xs) 0 = r) :
    Calls Tryd.prog 19 #[.agg #[.bool n0, .slice A0 xs.length c0]] w fun e w' => e = .returned (.int .i64 r) ∧ Below w.heap.size w w' := by
  have H0 := Aside0.mk h0
  by_cases ht : trimL xs = []
  · rw [iv_nil ht, cmpZ_eq rfl] at hr
    subst hr
    clear h0
    have hl : (trimL xs).length = 0 := by rw [ht]; rfl
    clear ht
    go_enter Tryd.func19, Tryd.ntmps19
    go_wp2_with (first | (go_at_call 50; generalize hwb : World.alloc _ _ = wb; have hT := Arg1.start w _ _ hwb; clear hwb; (with_reducible refine (magnitude_any n0 A0 c0 xs _ (H0.out.below hT.be) (by omega)).mono ?_); rintro e w1 ⟨rfl, hb⟩; replace hT := hT.below hb; clear hb; have hcl := hT.cells))
    go_ret
    exact ⟨rfl, hT.be⟩
  · rw [iv_pos h0.dig ht] at hr
    clear h0
    have hl : 0 < (trimL xs).length := List.length_pos_iff.mpr ht
    have hl2 : ((trimL xs).length == 0) = false := by simpa using ht
    have L0 := trimL_len xs
    clear ht
    cases n0
    · have hr' : r = 1 := hr.symm
      subst hr'
      go_enter Tryd.func19, Tryd.ntmps19
      go_wp2_with (first | (go_at_call 50; generalize hwb : World.alloc _ _ = wb; have hT := Arg1.start w _ _ hwb; clear hwb; (with_reducible refine (magnitude_any _ A0 c0 xs _ (H0.out.below hT.be) (by omega)).mono ?_); rintro e w1 ⟨rfl, hb⟩; replace hT := hT.below hb; clear hb; have hcl := hT.cells))
      go_ret
      exact ⟨rfl, hT.be⟩
    · have hr' : r = -1 := hr.symm
      subst hr'
      go_enter Tryd.func19, Tryd.ntmps19
      go_wp2_with (first | (go_at_call 50; generalize hwb : World.alloc _ _ = wb; have hT := Arg1.start w _ _ hwb; clear hwb; (with_reducible refine (magnitude_any _ A0 c0 xs _ (H0.out.below hT.be) (by omega)).mono ?_); rintro e w1 ⟨rfl, hb⟩; replace hT := hT.below hb; clear hb; have hcl := hT.cells))
      go_ret
      exact ⟨rfl, hT.be⟩
end Go.Proofs.YtegnnghoiffmhaaDoor.Big
