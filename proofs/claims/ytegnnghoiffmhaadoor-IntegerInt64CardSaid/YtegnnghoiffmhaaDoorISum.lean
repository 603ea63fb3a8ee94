/- integer.sum, Add, Sub. -/
import Derived.Test.YtegnnghoiffmhaaDoorIMag
import Derived.Deep.RegionHeld3
import Derived.Deep.DrawnRows
import Derived.Test.YtegnnghoiffmhaaDoorICmp
import Derived.Test.YtegnnghoiffmhaaDoorIPlus
import Derived.Test.YtegnnghoiffmhaaDoorIMinus
namespace Go.Proofs.YtegnnghoiffmhaaDoor.Big
open Go.RowKit Go.Proofs.YtegnnghoiffmhaaDoorW.PrintWords
set_option linter.unusedVariables false
set_option linter.unusedSimpArgs false
attribute [local go_sem ↓] Go.wp_at_zero Go.wp_at_succ
set_option maxRecDepth 100000 in
theorem sum_any (n0 n1 n2 : Bool) (A0 A1 : Option Addr) (c0 c1 : Nat) (xs ys : List Int) (w : World) (h0 : Rd w A0 c0 xs) (h1 : Rd w A1 c1 ys) (hl0 : xs.length ≤ 274877906944) (hl1 : ys.length ≤ 274877906944) :
    Calls Tryd.prog 55 #[.agg #[.bool n0, .slice A0 xs.length c0], .agg #[.bool n1, .slice A1 ys.length c1], .bool n2] w fun e w' => Res e w w' (iv n0 xs + iv n2 ys) := by
  have H := Aside0.mk (And.intro h0 h1)
  clear h0 h1
  go_enter Tryd.func55, Tryd.ntmps55
  go_wp2
  generalize hwb : World.alloc _ _ = wb
  have hT := (Two.start w _ _ _ _ hwb).drew
  clear hwb
  go_region_held3 (fun w' => w'.cell? ⟨w.heap.size, 0, none⟩ = some (.bool n0) ∧ w'.cell? ⟨w.heap.size, 1, none⟩ = some (.slice A0 xs.length c0) ∧ w'.cell? ⟨w.heap.size + 1, 0, none⟩ = some (.bool n1) ∧ w'.cell? ⟨w.heap.size + 1, 1, none⟩ = some (.slice A1 ys.length c1))
    (exact hT.cells)
    (first | (go_simp; go_at_call 50; (with_reducible refine (magnitude_any n0 A0 c0 xs _ ?_ ?_).mono ?_); (exact H.out.1.below hT.be); (omega); rintro e w1 ⟨rfl, hb⟩; replace hT := hT.below hb; clear hb) | (go_simp; go_at_call 50; (with_reducible refine (magnitude_any n1 A1 c1 ys _ ?_ ?_).mono ?_); (exact H.out.2.below hT.be); (omega); rintro e w1 ⟨rfl, hb⟩; replace hT := hT.below hb; clear hb))
  by_cases hn : n0 = n2
  · subst hn
    go_wp2_with (first | (go_at_call 80; (with_reducible refine (plus_any A0 A1 c0 c1 (trimL xs) (trimL ys) _ (H.out.1.trim.below hT.be) (H.out.2.trim.below hT.be) (by have := trimL_len xs; omega) (by have := trimL_len ys; omega)).mono ?_); rintro e w2 ⟨v, cs, rfl, hO, hv, hl⟩; obtain ⟨A, c, rfl, hR⟩ := hO.ow.rd; replace hT := hT.below hO.be; have HV := Aside0.mk hv; have HL := Aside0.mk hl; clear hv hl hO) | (go_at_call 51; (with_reducible refine (canonical_res n0 A c cs _ hR (by have := HL.out; have := trimL_len xs; have := trimL_len ys; omega)).mono ?_); rintro e w3 ⟨A', c', rfl, hR', hb⟩; replace hT := hT.below hb; have hroom := hT.room))
    have E : iv n0 cs = iv n0 xs + iv n0 ys := by have h := HV.out; rw [val_trim, val_trim] at h; unfold iv; split <;> omega
    rw [← E]
    exact bodyPost_ret (v := .agg #[.bool (ng (iv n0 cs)), .slice A' (mg (iv n0 cs)).length c']) (by simp [results, Tryd.results55, go_sem, hroom]) rfl (hT.res hR')
  · have hnb : (n0 == n2) = false := by simpa using hn
    have hv0 := val_trim xs
    have hv1 := val_trim ys
    obtain ⟨r, hr⟩ : ∃ r, cmpZ (val (trimL xs)) (val (trimL ys)) = r := ⟨_, rfl⟩
    have HN := Aside0.mk (And.intro hn (And.intro hr (And.intro hv0 hv1)))
    have L0 := trimL_len xs
    have L1 := trimL_len ys
    by_cases hge : val ys ≤ val xs
    · have hr0 : 0 ≤ r := by have := cmpZ_nonneg (val (trimL xs)) (val (trimL ys)); rw [hr, hv0, hv1] at this; omega
      have HG := Aside0.mk (show val ys ≤ val xs by omega)
      clear hn hr hv0 hv1 hge
      go_wp2_with (first | (go_at_call 58; (with_reducible refine (compare_r A0 A1 c0 c1 (trimL xs) (trimL ys) _ (H.out.1.trim.below hT.be) (H.out.2.trim.below hT.be) (trimL_trimL _) (trimL_trimL _) (by omega) (by omega) r HN.out.2.1).mono ?_); rintro e w2 ⟨rfl, hd⟩; replace hT := hT.below hd.below; clear hd; have hcl := hT.cells))
      replace hT := hT.drew
      go_region_held3 (fun w' => w'.cell? ⟨w.heap.size, 0, none⟩ = some (.bool n0))
        (first | exact hT.x.at0 | exact hT.after _ _ _ _ (.inl rfl) hT.x.at0)
        (first | (go_simp; go_at_call 81; (with_reducible refine (minus_val A0 A1 c0 c1 (trimL xs) (trimL ys) _ (H.out.1.trim.below hT.be) (H.out.2.trim.below hT.be) (by omega) (len_of_val_le (trim_dig H.out.1.dig) (trim_dig H.out.2.dig) (trimL_trimL _) (by rw [HN.out.2.2.1, HN.out.2.2.2]; exact HG.out)) (by rw [HN.out.2.2.1, HN.out.2.2.2]; exact HG.out)).mono ?_); rintro e w2 ⟨v, cs, rfl, hO, hv, hl⟩; obtain ⟨A, c, rfl, hR⟩ := hO.ow.rd; replace hT := hT.below hO.be; have HV := Aside0.mk hv; have HL := Aside0.mk hl; clear hv hl hO; have hcl := hT.cells) | (go_simp; go_at_call 51; (with_reducible refine (canonical_res n0 A c cs _ hR (by have := HL.out; omega)).mono ?_); rintro e w3 ⟨A', c', rfl, hR', hb⟩; replace hT := hT.below hb; have hroom := hT.room))
      have E : iv n0 cs = iv n0 xs + iv n2 ys := by have h := HV.out; rw [val_trim, val_trim] at h; rw [iv_ne HN.out.1]; have hne := HN.out.1; unfold iv; cases n0 <;> cases n2 <;> simp at hne ⊢ <;> omega
      go_wp2
      rw [← E]
      exact bodyPost_ret (v := .agg #[.bool (ng (iv n0 cs)), .slice A' (mg (iv n0 cs)).length c']) (by simp [results, Tryd.results55, go_sem, hroom]) rfl (hT.res hR')
    · have hr0 : r < 0 := by have := cmpZ_nonneg (val (trimL xs)) (val (trimL ys)); rw [hr, hv0, hv1] at this; omega
      have HG := Aside0.mk (show val xs ≤ val ys by omega)
      clear hn hr hv0 hv1 hge
      go_wp2_with (first | (go_at_call 58; (with_reducible refine (compare_r A0 A1 c0 c1 (trimL xs) (trimL ys) _ (H.out.1.trim.below hT.be) (H.out.2.trim.below hT.be) (trimL_trimL _) (trimL_trimL _) (by omega) (by omega) r HN.out.2.1).mono ?_); rintro e w2 ⟨rfl, hd⟩; replace hT := hT.below hd.below; clear hd; have hcl := hT.cells) | (go_at_call 81; (with_reducible refine (minus_val A1 A0 c1 c0 (trimL ys) (trimL xs) _ (H.out.2.trim.below hT.be) (H.out.1.trim.below hT.be) (by omega) (len_of_val_le (trim_dig H.out.2.dig) (trim_dig H.out.1.dig) (trimL_trimL _) (by rw [HN.out.2.2.1, HN.out.2.2.2]; exact HG.out)) (by rw [HN.out.2.2.1, HN.out.2.2.2]; exact HG.out)).mono ?_); rintro e w2 ⟨v, cs, rfl, hO, hv, hl⟩; obtain ⟨A, c, rfl, hR⟩ := hO.ow.rd; replace hT := hT.below hO.be; have HV := Aside0.mk hv; have HL := Aside0.mk hl; clear hv hl hO; have hcl := hT.cells) | (go_at_call 51; (with_reducible refine (canonical_res n2 A c cs _ hR (by have := HL.out; omega)).mono ?_); rintro e w3 ⟨A', c', rfl, hR', hb⟩; replace hT := hT.below hb; have hroom := hT.room))
      have E : iv n2 cs = iv n0 xs + iv n2 ys := by have h := HV.out; rw [val_trim, val_trim] at h; rw [iv_ne HN.out.1]; have hne := HN.out.1; unfold iv; cases n0 <;> cases n2 <;> simp at hne ⊢ <;> omega
      rw [← E]
      exact bodyPost_ret (v := .agg #[.bool (ng (iv n2 cs)), .slice A' (mg (iv n2 cs)).length c']) (by simp [results, Tryd.results55, go_sem, hroom]) rfl (hT.res hR')
set_option maxRecDepth 100000 in
theorem add_any (n0 n1 : Bool) (A0 A1 : Option Addr) (c0 c1 : Nat) (xs ys : List Int) (w : World) (h0 : Rd w A0 c0 xs) (h1 : Rd w A1 c1 ys) (hl0 : xs.length ≤ 274877906944) (hl1 : ys.length ≤ 274877906944) :
    Calls Tryd.prog 17 #[.agg #[.bool n0, .slice A0 xs.length c0], .agg #[.bool n1, .slice A1 ys.length c1]] w fun e w' => Res e w w' (iv n0 xs + iv n1 ys) := by
  go_enter Tryd.func17, Tryd.ntmps17
  go_wp2_with (first | (go_at_call 55; refine (sum_any n0 n1 n1 A0 A1 c0 c1 xs ys _ (h0.below (by repeat (first | exact Below.refl _ _ | apply below_alloc))) (h1.below (by repeat (first | exact Below.refl _ _ | apply below_alloc))) hl0 hl1).mono ?_; rintro e w1 ⟨A, c, rfl, hr, hb⟩; obtain ⟨hc, hf⟩ := bcell hb; have HR := Aside0.mk hr; have HB := Aside0.mk hb; clear hr hb))
  exact bodyPost_ret (v := .agg #[.bool (ng (iv n0 xs + iv n1 ys)), .slice A (mg (iv n0 xs + iv n1 ys)).length c]) (by simp [results, Tryd.results17, go_sem, hc, hf]) rfl (Res.boxed HR.out HB.out (by repeat (first | exact Below.refl _ _ | apply below_alloc)) (by simp))
end Go.Proofs.YtegnnghoiffmhaaDoor.Big
