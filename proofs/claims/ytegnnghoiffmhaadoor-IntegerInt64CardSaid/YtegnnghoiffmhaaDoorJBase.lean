/- The reference: trim, Make, Canon, compareDigits, digit. -/
import Derived.Test.YtegnnghoiffmhaaDoorIKeep
import Derived.Test.YtegnnghoiffmhaaDoorIMag
import Derived.Test.YtegnnghoiffmhaaDoorICmp
namespace Go.Proofs.YtegnnghoiffmhaaDoor.Big
open Go.RowKit Go.Proofs.YtegnnghoiffmhaaDoorW.PrintWords Go.Proofs.YtegnnghoiffmhaaDoorW.PrintLast
set_option linter.unusedVariables false
set_option linter.unusedSimpArgs false
attribute [local go_sem ↓] Go.wp_at_zero Go.wp_at_succ
set_option maxRecDepth 100000 in
theorem trim_any (A : Option Addr) (c : Nat) (xs : List Int) (w : World) (h : Rd w A c xs) (hl : xs.length ≤ 1099511627776) :
    Calls Tryd.prog 63 #[.slice A xs.length c] w fun e w' => e = .returned (.slice A (trimL xs).length c) ∧ w' = w := by
  have H := Aside0.mk h
  have hcap := h.le
  clear h
  go_enter Tryd.func63, Tryd.ntmps63
  go_wp2
  go_loopg [3] xs.length (fun kq v3 w' => ∃ m : Nat, v3 = .int .i64 (m : Int) ∧ Aside0 (m = kq ∧ m ≤ xs.length ∧ trimL (xs.take m) = trimL xs) ∧ w' = w)
  case atStart => exact ⟨xs.length, rfl, ⟨rfl, Nat.le_refl _, by simp⟩, rfl⟩
  case round =>
    obtain ⟨m, rfl, HA, rfl⟩ := hrel
    cases m with
    | zero =>
      go_wp2
      go_ret
      exact ⟨by rw [← HA.out.2.2]; rfl, rfl⟩
    | succ m =>
      obtain ⟨ad, rfl, x0⟩ := H.out.at_ m (by have := HA.out; omega)
      have hm : m < 1099511627776 := by have := HA.out; omega
      have hm2 : m < xs.length := by have := HA.out; omega
      have hmc : m + 1 ≤ c := by omega
      by_cases hz : dg xs m = 0
      · have hz' : (dg xs m == 0) = true := by rw [hz]; rfl
        have Z := Aside0.mk hz
        clear hz
        go_wp2
        go_roundg (gk - 1)
        case measure => have := HA.out; omega
        case rel => exact ⟨m, by go_num, mag_next xs m gk Z.out HA.out, rfl⟩
      · have hz' : (dg xs m == 0) = false := beq_eq_false_iff_ne.mpr hz
        have Z := Aside0.mk hz
        clear hz
        go_wp2
        go_ret
        exact ⟨by rw [mag_end xs m gk Z.out HA.out]; rfl, rfl⟩
set_option maxRecDepth 100000 in
theorem Make_any (n : Bool) (A : Option Addr) (c : Nat) (xs : List Int) (w : World) (h : Rd w A c xs) (hl : xs.length ≤ 1099511627776) :
    Calls Tryd.prog 53 #[.bool n, .slice A xs.length c] w fun e w' => Res e w w' (iv n xs) := by
  have L0 := trimL_len xs
  obtain ⟨e1, e2⟩ := canon_row (n := n) h.dig
  have E := Aside0.mk (And.intro e1 e2)
  have HI := Aside0.mk (iv_nil (n := n) (xs := xs))
  clear e1 e2
  go_enter Tryd.func53, Tryd.ntmps53
  by_cases hz : trimL xs = []
  · have hz0 : (((trimL xs).length : Int) == 0) = true := by rw [hz]; rfl
    have HZ := Aside0.mk hz
    clear hz
    go_wp2_with (first | (go_at_call 63; generalize hwb : World.alloc _ _ = wb; have hK := Arg1.start w _ _ hwb; clear hwb; (with_reducible refine (trim_any A c xs _ (h.below hK.be) (by omega)).mono ?_); rintro e w1 ⟨rfl, rfl⟩; have r0 := hK.x.at0; have r1 := hK.x.at1; have f0 := hK.x.free 0; have f1 := hK.x.free 1))
    have hK2 : Arg1 w _ (.bool false) (.slice none 0 0) := ⟨(hK.be.setCell (by simp) (.bool false)).setCell (by simp) (.slice none 0 0), hK.x.set (.bool false) (.slice none 0 0)⟩
    clear r0 r1 f0 f1
    generalize World.setCell _ _ _ = wz at hK2 ⊢
    have r0 := hK2.x.at0
    have r1 := hK2.x.at1
    have hi := HI.out HZ.out
    rw [hi]
    exact bodyPost_ret (v := .agg #[.bool (ng 0), .slice none (mg 0).length 0]) (by simp [results, Tryd.results53, go_sem, r0, r1, mg_zero, ng_zero]) rfl ⟨none, 0, rfl, by rw [mg_zero]; exact Rd.nil _, hK2.be⟩
  · have hz0 : (((trimL xs).length : Int) == 0) = false := by rw [beq_eq_false_iff_ne]; intro h; exact hz (List.eq_nil_of_length_eq_zero (by omega))
    have hz1 : (trimL xs).isEmpty = false := by cases h : trimL xs <;> simp_all
    have HZ := Aside0.mk hz
    clear hz
    go_wp2_with (first | (go_at_call 63; generalize hwb : World.alloc _ _ = wb; have hK := Arg1.start w _ _ hwb; clear hwb; (with_reducible refine (trim_any A c xs _ (h.below hK.be) (by omega)).mono ?_); rintro e w1 ⟨rfl, rfl⟩; have r0 := hK.x.at0; have r1 := hK.x.at1; have f0 := hK.x.free 0; have f1 := hK.x.free 1) | (at_builtin; refine app_u32 (w0 := w1) (base := w1.heap.size) rfl _ _ rfl (.slice none 0 0) [] (trimL xs) A c rfl rfl (Ow.nil _ _) (h.trim.below hK.be) (Below.refl _ _) (Nat.le_refl _) (by simp; omega) ?_; intro v1 w2 ho hb; rw [List.nil_append] at ho; obtain ⟨A2, c2, rfl, hR⟩ := ho.rd; replace hK := hK.below hb; clear ho hb r0 r1 f0 f1; have r0 := hK.x.at0; have r1 := hK.x.at1; have f0 := hK.x.free 0; have f1 := hK.x.free 1))
    have hR2 := hR.boxed2 (n := n) (A1 := A2) (l1 := (trimL xs).length) (c1 := c2) hK.x
    have hK2 : Arg1 w _ (.bool n) (.slice A2 (trimL xs).length c2) := ⟨(hK.be.setCell (by simp) (.bool n)).setCell (by simp) (.slice A2 (trimL xs).length c2), hK.x.set (.bool n) (.slice A2 (trimL xs).length c2)⟩
    clear r0 r1 f0 f1
    generalize World.setCell _ _ _ = wz at hK2 hR2 ⊢
    have r0 := hK2.x.at0
    have r1 := hK2.x.at1
    have e2 : n = ng (iv n xs) := by have h2 := E.out.2; rw [hz1] at h2; simpa using h2
    have e1 := E.out.1
    exact bodyPost_ret (v := .agg #[.bool n, .slice A2 (trimL xs).length c2]) (by simp [results, Tryd.results53, go_sem, r0, r1]) rfl ⟨A2, c2, by rw [← e2, ← e1], by rw [← e1]; exact hR2, hK2.be⟩
theorem Make_v (n : Bool) (A : Option Addr) (c : Nat) (xs : List Int) (w : World) (h : Rd w A c xs) (hl : xs.length ≤ 1099511627776) (z : Int) (hz : iv n xs = z) :
    Calls Tryd.prog 53 #[.bool n, .slice A xs.length c] w fun e w' => Res e w w' z := by subst hz; exact Make_any n A c xs w h hl
set_option maxRecDepth 100000 in
theorem Canon_any (n : Bool) (A : Option Addr) (c : Nat) (xs : List Int) (w : World) (h : Rd w A c xs) (hl : xs.length ≤ 1099511627776) :
    Calls Tryd.prog 39 #[.agg #[.bool n, .slice A xs.length c]] w fun e w' => Res e w w' (iv n xs) := by
  go_enter Tryd.func39, Tryd.ntmps39
  go_wp2_with (first | (go_at_call 53; generalize hwb : World.alloc _ _ = wb; have hT := One.start w _ _ hwb; clear hwb; (with_reducible refine (Make_any n A c xs _ (h.below hT.be) (by omega)).mono ?_); rintro e w1 ⟨A1, c1, rfl, hR, hb⟩; replace hT := hT.below hb; clear hb; have hroom := hT.room))
  exact bodyPost_ret (v := .agg #[.bool (ng (iv n xs)), .slice A1 (mg (iv n xs)).length c1]) (by simp [results, Tryd.results39, go_sem, hroom]) rfl (hT.res hR)
theorem Canon_v (n : Bool) (A : Option Addr) (c : Nat) (xs : List Int) (w : World) (h : Rd w A c xs) (hl : xs.length ≤ 1099511627776) (z : Int) (hz : iv n xs = z) :
    Calls Tryd.prog 39 #[.agg #[.bool n, .slice A xs.length c]] w fun e w' => Res e w w' z := by subst hz; exact Canon_any n A c xs w h hl
set_option maxRecDepth 100000 in
theorem digit_ref (A : Option Addr) (c : Nat) (xs : List Int) (i : Nat) (w : World) (h : Rd w A c xs) (hi : i ≤ 1099511627776) (hl : xs.length ≤ 1099511627776) :
    Calls Tryd.prog 57 #[.slice A xs.length c, .int .i64 (i : Int)] w fun e w' => e = .returned (.int .u64 (dg xs i)) ∧ w' = w := by
  by_cases hx : i < xs.length
  · obtain ⟨ad, rfl, x0⟩ := h.at_ i hx
    obtain ⟨d0, d1⟩ := dg_dig h.dig i
    go_enter Tryd.func57, Tryd.ntmps57
    go_wp2
    go_ret
    exact ⟨rfl, rfl⟩
  · have e : dg xs i = 0 := by simp [dg, List.getD_eq_getElem?_getD, List.getElem?_eq_none (show xs.length ≤ i by omega)]
    rw [e]
    go_enter Tryd.func57, Tryd.ntmps57
    go_wp2
    go_ret
    exact ⟨rfl, rfl⟩
set_option maxRecDepth 100000 in
theorem compareDigits_any (A0 A1 : Option Addr) (c0 c1 : Nat) (xs ys : List Int) (w : World) (h0 : Rd w A0 c0 xs) (h1 : Rd w A1 c1 ys) (hl0 : xs.length ≤ 1099511627776) (hl1 : ys.length ≤ 1099511627776) (r : Int) (hr : cmpZ (val xs) (val ys) = r) :
    Calls Tryd.prog 60 #[.slice A0 xs.length c0, .slice A1 ys.length c1] w fun e w' => e = .returned (.int .i64 r) ∧ Drawn0 w w' := by
  have HT := Aside0.mk (And.intro h0 h1)
  have htr : ∀ (A : Option Addr) (c : Nat) (zs : List Int), Rd w A c zs → zs.length ≤ 1099511627776 → Calls Tryd.prog 63 #[.slice A zs.length c] w fun e w' => e = .returned (.slice A (trimL zs).length c) ∧ w' = w := fun A c zs h hl => trim_any A c zs w h hl
  have TR := Aside0.mk htr
  clear htr
  have L0 := trimL_len xs
  have L1 := trimL_len ys
  rw [← val_trim xs, ← val_trim ys] at hr
  obtain ⟨ts, hts⟩ : ∃ t, trimL xs = t := ⟨_, rfl⟩
  obtain ⟨us, hus⟩ : ∃ t, trimL ys = t := ⟨_, rfl⟩
  have H := Aside0.mk (And.intro (hts ▸ h0.trim) (And.intro (hus ▸ h1.trim) (And.intro (show trimL ts = ts by rw [← hts]; exact trimL_trimL _) (show trimL us = us by rw [← hus]; exact trimL_trimL _))))
  rw [hts] at L0 hr
  rw [hus] at L1 hr
  have HX := Aside0.mk hts
  have HY := Aside0.mk hus
  have HR := Aside0.mk hr
  have k0 : Calls Tryd.prog 63 #[.slice A0 xs.length c0] w fun e w' => e = .returned (.slice A0 ts.length c0) ∧ w' = w := by rw [← hts]; exact TR.out A0 c0 xs h0 hl0
  have k1 : Calls Tryd.prog 63 #[.slice A1 ys.length c1] w fun e w' => e = .returned (.slice A1 us.length c1) ∧ w' = w := by rw [← hus]; exact TR.out A1 c1 ys h1 hl1
  have K0 := Aside0.mk k0
  have K1 := Aside0.mk k1
  clear h0 h1 hts hus hr k0 k1 TR
  by_cases he : ts.length = us.length
  · have HE := Aside0.mk he
    have hb : ((ts.length : Int) == (us.length : Int)) = true := by simp [he]
    have hb' : ((ts.length : Int) != (us.length : Int)) = false := by simp [he]
    clear he
    go_enter Tryd.func60, Tryd.ntmps60
    go_wp2_with (first | (go_at_call 63; (with_reducible refine K0.out.mono ?_); rintro e w1 ⟨rfl, rfl⟩) | (go_at_call 63; (with_reducible refine K1.out.mono ?_); rintro e w1 ⟨rfl, rfl⟩))
    go_loopg [5] ts.length (fun kq v5 w' => ∃ k : Nat, v5 = .int .i64 ((k : Int) - 1) ∧ Aside0 (k = kq ∧ k ≤ ts.length ∧ val ts - val us = val (ts.take k) - val (us.take k)) ∧ Aside0 (Drawn0 w1 w'))
    case atStart => exact ⟨ts.length, rfl, ⟨rfl, Nat.le_refl _, by rw [List.take_of_length_le (Nat.le_refl _), List.take_of_length_le (by have := HE.out; omega)]⟩, ⟨Drawn0.refl _⟩⟩
    case round =>
      obtain ⟨k, rfl, HA, HD⟩ := hrel
      cases k with
      | zero =>
        go_wp2
        go_ret
        exact ⟨by rw [← HR.out, cmpZ_eq (by have := HA.out.2.2; simp [val] at this; omega)]; rfl, HD.out⟩
      | succ k =>
        have hk : k < ts.length := by have := HA.out; omega
        have hk' : k < us.length := by have := HE.out; omega
        have hk2 : k < 1099511627776 := by omega
        obtain ⟨ad0, rfl, x0⟩ := H.out.1.at_ k hk
        replace x0 := (HD.out.below.cell (World.block_lt_of_cell? _ _ x0)).trans x0
        obtain ⟨ad1, rfl, x1⟩ := H.out.2.1.at_ k hk'
        replace x1 := (HD.out.below.cell (World.block_lt_of_cell? _ _ x1)).trans x1
        by_cases hz : dg ts k = dg us k
        · have Z := Aside0.mk hz
          have z1 : decide (dg ts k < dg us k) = false := decide_eq_false (by omega)
          have z2 : decide (dg us k < dg ts k) = false := decide_eq_false (by omega)
          clear hz
          go_wp2
          go_quiet (fail)
          go_wp2
          go_quiet (fail)
          go_wp2
          go_roundg (gk - 1)
          case measure => have := HA.out; omega
          case rel => exact ⟨k, by go_num, cmp_next ts us k gk Z.out HA.out, (by first | exact ⟨HD.out.step _⟩ | exact ⟨(HD.out.step _).step _⟩)⟩
        · by_cases hlt : dg ts k < dg us k
          · have z2 : decide (dg ts k < dg us k) = true := decide_eq_true hlt
            have Z := Aside0.mk hlt
            clear hz hlt
            go_wp2
            go_quiet (fail)
            go_wp2
            go_ret
            exact ⟨by rw [← HR.out, cmp_end ts us k gk H.out.1.dig H.out.2.1.dig Z.out HA.out]; rfl, HD.out.step _⟩
          · have z2 : decide (dg ts k < dg us k) = false := decide_eq_false hlt
            have z3 : decide (dg us k < dg ts k) = true := decide_eq_true (by omega)
            have Z := Aside0.mk (show dg us k < dg ts k by omega)
            clear hz hlt
            go_wp2
            go_quiet (fail)
            go_wp2
            go_quiet (fail)
            go_wp2
            go_ret
            exact ⟨by rw [← HR.out, cmp_end' ts us k gk H.out.1.dig H.out.2.1.dig Z.out HA.out]; rfl, (by first | exact HD.out.step _ | exact (HD.out.step _).step _)⟩
  · have hb : ((ts.length : Int) == (us.length : Int)) = false := by rw [beq_eq_false_iff_ne]; omega
    have hb' : ((ts.length : Int) != (us.length : Int)) = true := by rw [bne_iff_ne]; omega
    by_cases hlt : ts.length < us.length
    · have Z := Aside0.mk (cmpZ_lt (val_lt_len H.out.1.dig H.out.2.1.dig H.out.2.2.2 hlt))
      clear he
      go_enter Tryd.func60, Tryd.ntmps60
      go_wp2_with (first | (go_at_call 63; (with_reducible refine K0.out.mono ?_); rintro e w1 ⟨rfl, rfl⟩) | (go_at_call 63; (with_reducible refine K1.out.mono ?_); rintro e w1 ⟨rfl, rfl⟩))
      go_ret
      exact ⟨by rw [← HR.out, Z.out]; rfl, Drawn0.refl _⟩
    · have Z := Aside0.mk (cmpZ_gt (val_lt_len H.out.2.1.dig H.out.1.dig H.out.2.2.1 (show us.length < ts.length by omega)))
      clear he
      go_enter Tryd.func60, Tryd.ntmps60
      go_wp2_with (first | (go_at_call 63; (with_reducible refine K0.out.mono ?_); rintro e w1 ⟨rfl, rfl⟩) | (go_at_call 63; (with_reducible refine K1.out.mono ?_); rintro e w1 ⟨rfl, rfl⟩))
      go_ret
      exact ⟨by rw [← HR.out, Z.out]; rfl, Drawn0.refl _⟩
end Go.Proofs.YtegnnghoiffmhaaDoor.Big
