/- integer.ToInt64. The reference: trim, Make, Canon, compareDigits, digit. The reference: addDigits, subDigits. The reference: mulDigits. The reference: FromInt64, Compare, Sign, Negate, Abs, Add, Sub, Mul. The reference: Add, Sub, Mul. The reference's ToInt64. -/
import Derived.Test.YtegnnghoiffmhaaDoorMB
import Derived.Test.YtegnnghoiffmhaaDoorMA
import Derived.Test.YtegnnghoiffmhaaDoorWLast
import Derived.Deep.RegionHeld3
import Derived.Deep.DrawnRows
namespace Go.Proofs.YtegnnghoiffmhaaDoor.Big
open Go.RowKit Go.Proofs.YtegnnghoiffmhaaDoorW.PrintWords Go.Proofs.YtegnnghoiffmhaaDoorW.PrintLast
set_option linter.unusedVariables false
set_option linter.unusedSimpArgs false
attribute [local go_sem ↓] Go.wp_at_zero Go.wp_at_succ
/-- What ToInt64 hands back: the number and 0, or 0 and ErrRange. -/
def tiv (z : Int) : Int := if -9223372036854775808 ≤ z ∧ z ≤ 9223372036854775807 then z else 0
def tie (z : Int) : Int := if -9223372036854775808 ≤ z ∧ z ≤ 9223372036854775807 then 0 else 5
set_option maxRecDepth 100000 in
theorem ToInt64_long (n : Bool) (A : Option Addr) (c : Nat) (xs : List Int) (w : World) (h : Rd w A c xs) (hl : xs.length ≤ 274877906944) (h2 : 2 < (trimL xs).length) :
    Calls Tryd.prog 22 #[.agg #[.bool n, .slice A xs.length c]] w fun e w' => e = .returned (.tuple #[.int .i64 (tiv (iv n xs)), .int .i64 (tie (iv n xs))]) ∧ Below w.heap.size w w' := by
  have hv : 18446744073709551616 ≤ val xs := by
    have h3 := val_ge (trimL xs) h.trim.dig (trimL_trimL _) (by omega)
    rw [val_trim] at h3
    have h4 := pw_le (show 2 ≤ (trimL xs).length - 1 by omega)
    simp only [pw] at h4
    omega
  have E := Aside0.mk (show tiv (iv n xs) = 0 ∧ tie (iv n xs) = 5 by unfold tiv tie iv; cases n <;> simp <;> omega)
  clear hv
  go_enter Tryd.func22, Tryd.ntmps22
  go_wp2_with (first | (go_at_call 50; generalize hwb : World.alloc _ _ = wb; have hT := Arg1.start w _ _ hwb; clear hwb; (with_reducible refine (magnitude_any n A c xs _ (h.below hT.be) (by omega)).mono ?_); rintro e w1 ⟨rfl, hb⟩; replace hT := hT.below hb; clear hb))
  go_ret2
  exact ⟨by rw [E.out.1, E.out.2]; rfl, hT.be⟩
theorem neg_wrap (V : Int) (h0 : 0 ≤ V) (h1 : V ≤ 9223372036854775808) : wrap64 (IntKind.u64.wrap (-V)) = -V := by rw [IntKind.wrap_u64]; unfold wrap64; omega
theorem or64_zero (x : Int) (hx : 0 ≤ x ∧ x ≤ 4294967295) : bits .or .u64 0 x = x := by
  have h := or64_hi 0 x (by omega) hx
  simpa using h
set_option maxHeartbeats 1000000 in
set_option maxRecDepth 100000 in
theorem ToInt64_short (n : Bool) (A : Option Addr) (c : Nat) (xs : List Int) (w : World) (h : Rd w A c xs) (hl : xs.length ≤ 274877906944) (h2 : (trimL xs).length ≤ 2) :
    Calls Tryd.prog 22 #[.agg #[.bool n, .slice A xs.length c]] w fun e w' => e = .returned (.tuple #[.int .i64 (tiv (iv n xs)), .int .i64 (tie (iv n xs))]) ∧ Below w.heap.size w w' := by
  obtain ⟨ts, hts⟩ : ∃ t, trimL xs = t := ⟨_, rfl⟩
  have hmag : ∀ w1, Below w.heap.size w w1 → Calls Tryd.prog 50 #[.agg #[.bool n, .slice A xs.length c]] w1 fun e w' => e = .returned (.slice A ts.length c) ∧ Below w1.heap.size w1 w' := by
    intro w1 hb
    have h := magnitude_any n A c xs w1 (h.below hb) (by omega)
    rw [hts] at h
    exact h
  have HM := Aside0.mk hmag
  have hR : Rd w A c ts := hts ▸ h.trim
  have hvt : val ts = val xs := by rw [← hts, val_trim]
  have HR := Aside0.mk (And.intro hR hvt)
  rw [hts] at h2
  clear hmag hts hvt hR
  go_enter Tryd.func22, Tryd.ntmps22
  go_wp2_with (first | (go_at_call 50; generalize hwb : World.alloc _ _ = wb; have hT := Arg1.start w _ _ hwb; clear hwb; (with_reducible refine (HM.out _ hT.be).mono ?_); rintro e w1 ⟨rfl, hb⟩; replace hT := hT.below hb; clear hb))
  have BX := Aside0.mk hT
  obtain ⟨b0, b1⟩ := hT.cells
  clear hT
  go_loopg [5, 6, 7, 15] ts.length (fun kq v5 v6 v7 v15 w' => ∃ i : Nat, v5 = .int .u64 (val (ts.take i)) ∧ v15 = .int .i64 i ∧ Aside0 (i + kq = ts.length) ∧ w' = w1)
  case atStart => exact ⟨0, by simp [val], rfl, ⟨by omega⟩, rfl⟩
  case round =>
    obtain ⟨i, rfl, rfl, HI, rfl⟩ := hrel
    by_cases hi : i < ts.length
    · obtain ⟨ad, rfl, x0⟩ := (HR.out.1.below BX.out.be).at_ i hi
      obtain ⟨d0, d1⟩ := dg_dig HR.out.1.dig i
      have hcap : ts.length ≤ c := HR.out.1.le
      rcases (show i = 0 ∨ i = 1 by omega) with rfl | rfl
      · have x1 : wr.cell? ad = some (.int .u32 (dg ts 0)) := x0
        have hu : val (ts.take 0) = 0 := by simp [val]
        have ho := or64_zero (dg ts 0) ⟨d0, d1⟩
        rw [hu]
        go_wp2
        go_roundg (gk - 1)
        case measure => have := HI.out; omega
        case rel => exact ⟨1, by rw [val_take ts 0]; simp [val, pw], rfl, ⟨by have := HI.out; omega⟩, rfl⟩
      · have x1 : wr.cell? ⟨ad.block, ad.off + 1, none⟩ = some (.int .u32 (dg ts 1)) := x0
        have hu : val (ts.take 1) = dg ts 0 := by rw [val_take ts 0]; simp [val, pw]
        obtain ⟨f0, f1⟩ := dg_dig HR.out.1.dig 0
        have ho := or64_lo (dg ts 1) (dg ts 0) ⟨d0, d1⟩ ⟨f0, f1⟩
        rw [hu]
        go_wp2
        go_roundg (gk - 1)
        case measure => have := HI.out; omega
        case rel => exact ⟨2, by rw [val_take ts 1, hu]; simp only [pw]; go_num, rfl, ⟨by have := HI.out; omega⟩, rfl⟩
    · have hv : val (ts.take i) = val xs := by rw [List.take_of_length_le (by omega)]; exact HR.out.2
      have hb := val_bounds ts HR.out.1.dig
      have hp := pw_le (show ts.length ≤ 2 by omega)
      simp only [pw] at hp
      rw [HR.out.2] at hb
      rw [hv]
      obtain ⟨V, hV⟩ : ∃ V, val xs = V := ⟨_, rfl⟩
      rw [hV] at hb ⊢
      obtain ⟨hb0, hb1⟩ := hb
      have hb2 : V < 18446744073709551616 := by omega
      have EV := Aside0.mk hV
      have BE := Aside0.mk BX.out.be
      clear hV hv hp hb1
      cases n
      · by_cases hs : V < 9223372036854775808
        · have E := Aside0.mk (show tiv (iv false xs) = V ∧ tie (iv false xs) = 0 by unfold tiv tie iv; rw [EV.out]; simp; omega)
          go_wp2
          go_ret2
          exact ⟨by rw [E.out.1, E.out.2]; rfl, BE.out⟩
        · have E := Aside0.mk (show tiv (iv false xs) = 0 ∧ tie (iv false xs) = 5 by unfold tiv tie iv; rw [EV.out]; simp; omega)
          go_wp2
          go_ret2
          exact ⟨by rw [E.out.1, E.out.2]; rfl, BE.out⟩
      · by_cases hs : V ≤ 9223372036854775808
        · have E := Aside0.mk (show tiv (iv true xs) = -V ∧ tie (iv true xs) = 0 by unfold tiv tie iv; rw [EV.out]; simp; omega)
          go_wp2
          go_ret2
          have hw := neg_wrap V hb0 hs
          refine ⟨?_, BE.out⟩
          show Ending.returned (.tuple #[.int .i64 (wrap64 (IntKind.u64.wrap (-V))), .int .i64 0]) = _
          rw [hw, E.out.1, E.out.2]
        · have E := Aside0.mk (show tiv (iv true xs) = 0 ∧ tie (iv true xs) = 5 by unfold tiv tie iv; rw [EV.out]; simp; omega)
          go_wp2
          go_ret2
          exact ⟨by rw [E.out.1, E.out.2]; rfl, BE.out⟩
theorem ToInt64_any (n : Bool) (A : Option Addr) (c : Nat) (xs : List Int) (w : World) (h : Rd w A c xs) (hl : xs.length ≤ 274877906944) :
    Calls Tryd.prog 22 #[.agg #[.bool n, .slice A xs.length c]] w fun e w' => e = .returned (.tuple #[.int .i64 (tiv (iv n xs)), .int .i64 (tie (iv n xs))]) ∧ Below w.heap.size w w' := by
  rcases (show 2 < (trimL xs).length ∨ (trimL xs).length ≤ 2 by omega) with h2 | h2
  · exact ToInt64_long n A c xs w h hl h2
  · exact ToInt64_short n A c xs w h hl h2
end Go.Proofs.YtegnnghoiffmhaaDoor.Big
namespace Go.Proofs.YtegnnghoiffmhaaDoor.Big
open Go.RowKit Go.Proofs.YtegnnghoiffmhaaDoorW.PrintWords Go.Proofs.YtegnnghoiffmhaaDoorW.PrintLast
set_option linter.unusedVariables false
set_option linter.unusedSimpArgs false
attribute [local go_sem ↓] Go.wp_at_zero Go.wp_at_succ
set_option maxRecDepth 100000 in
theorem trim_any (A : Option Addr) (c : Nat) (xs : List Int) (w : World) (h : Rd w A c xs) (hl : xs.length ≤ 1099511627776) :
    Calls Tryd.prog 63 #[.slice A xs.length c] w fun e w' => e = .returned (.slice A (trimL xs).length c) ∧ w' = w := by
  have H := Aside0.mk h
  have hcap := h.le
  clear h
  go_enter Tryd.func63, Tryd.ntmps63
  go_wp2
  go_loopg [3] xs.length (fun kq v3 w' => ∃ m : Nat, v3 = .int .i64 (m : Int) ∧ Aside0 (m = kq ∧ m ≤ xs.length ∧ trimL (xs.take m) = trimL xs) ∧ w' = w)
  case atStart => exact ⟨xs.length, rfl, ⟨rfl, Nat.le_refl _, by simp⟩, rfl⟩
  case round =>
    obtain ⟨m, rfl, HA, rfl⟩ := hrel
    cases m with
    | zero =>
      go_wp2
      go_ret
      exact ⟨by rw [← HA.out.2.2]; rfl, rfl⟩
    | succ m =>
      obtain ⟨ad, rfl, x0⟩ := H.out.at_ m (by have := HA.out; omega)
      have hm : m < 1099511627776 := by have := HA.out; omega
      have hm2 : m < xs.length := by have := HA.out; omega
      have hmc : m + 1 ≤ c := by omega
      by_cases hz : dg xs m = 0
      · have hz' : (dg xs m == 0) = true := by rw [hz]; rfl
        have Z := Aside0.mk hz
        clear hz
        go_wp2
        go_roundg (gk - 1)
        case measure => have := HA.out; omega
        case rel => exact ⟨m, by go_num, mag_next xs m gk Z.out HA.out, rfl⟩
      · have hz' : (dg xs m == 0) = false := beq_eq_false_iff_ne.mpr hz
        have Z := Aside0.mk hz
        clear hz
        go_wp2
        go_ret
        exact ⟨by rw [mag_end xs m gk Z.out HA.out]; rfl, rfl⟩
set_option maxRecDepth 100000 in
theorem Make_any (n : Bool) (A : Option Addr) (c : Nat) (xs : List Int) (w : World) (h : Rd w A c xs) (hl : xs.length ≤ 1099511627776) :
    Calls Tryd.prog 53 #[.bool n, .slice A xs.length c] w fun e w' => Res e w w' (iv n xs) := by
  have L0 := trimL_len xs
  obtain ⟨e1, e2⟩ := canon_row (n := n) h.dig
  have E := Aside0.mk (And.intro e1 e2)
  have HI := Aside0.mk (iv_nil (n := n) (xs := xs))
  clear e1 e2
  go_enter Tryd.func53, Tryd.ntmps53
  by_cases hz : trimL xs = []
  · have hz0 : (((trimL xs).length : Int) == 0) = true := by rw [hz]; rfl
    have HZ := Aside0.mk hz
    clear hz
    go_wp2_with (first | (go_at_call 63; generalize hwb : World.alloc _ _ = wb; have hK := Arg1.start w _ _ hwb; clear hwb; (with_reducible refine (trim_any A c xs _ (h.below hK.be) (by omega)).mono ?_); rintro e w1 ⟨rfl, rfl⟩; have r0 := hK.x.at0; have r1 := hK.x.at1; have f0 := hK.x.free 0; have f1 := hK.x.free 1))
    have hK2 : Arg1 w _ (.bool false) (.slice none 0 0) := ⟨(hK.be.setCell (by simp) (.bool false)).setCell (by simp) (.slice none 0 0), hK.x.set (.bool false) (.slice none 0 0)⟩
    clear r0 r1 f0 f1
    generalize World.setCell _ _ _ = wz at hK2 ⊢
    have r0 := hK2.x.at0
    have r1 := hK2.x.at1
    have hi := HI.out HZ.out
    rw [hi]
    exact bodyPost_ret (v := .agg #[.bool (ng 0), .slice none (mg 0).length 0]) (by simp [results, Tryd.results53, go_sem, r0, r1, mg_zero, ng_zero]) rfl ⟨none, 0, rfl, by rw [mg_zero]; exact Rd.nil _, hK2.be⟩
  · have hz0 : (((trimL xs).length : Int) == 0) = false := by rw [beq_eq_false_iff_ne]; intro h; exact hz (List.eq_nil_of_length_eq_zero (by omega))
    have hz1 : (trimL xs).isEmpty = false := by cases h : trimL xs <;> simp_all
    have HZ := Aside0.mk hz
    clear hz
    go_wp2_with (first | (go_at_call 63; generalize hwb : World.alloc _ _ = wb; have hK := Arg1.start w _ _ hwb; clear hwb; (with_reducible refine (trim_any A c xs _ (h.below hK.be) (by omega)).mono ?_); rintro e w1 ⟨rfl, rfl⟩; have r0 := hK.x.at0; have r1 := hK.x.at1; have f0 := hK.x.free 0; have f1 := hK.x.free 1) | (at_builtin; refine app_u32 (w0 := w1) (base := w1.heap.size) rfl _ _ rfl (.slice none 0 0) [] (trimL xs) A c rfl rfl (Ow.nil _ _) (h.trim.below hK.be) (Below.refl _ _) (Nat.le_refl _) (by simp; omega) ?_; intro v1 w2 ho hb; rw [List.nil_append] at ho; obtain ⟨A2, c2, rfl, hR⟩ := ho.rd; replace hK := hK.below hb; clear ho hb r0 r1 f0 f1; have r0 := hK.x.at0; have r1 := hK.x.at1; have f0 := hK.x.free 0; have f1 := hK.x.free 1))
    have hR2 := hR.boxed2 (n := n) (A1 := A2) (l1 := (trimL xs).length) (c1 := c2) hK.x
    have hK2 : Arg1 w _ (.bool n) (.slice A2 (trimL xs).length c2) := ⟨(hK.be.setCell (by simp) (.bool n)).setCell (by simp) (.slice A2 (trimL xs).length c2), hK.x.set (.bool n) (.slice A2 (trimL xs).length c2)⟩
    clear r0 r1 f0 f1
    generalize World.setCell _ _ _ = wz at hK2 hR2 ⊢
    have r0 := hK2.x.at0
    have r1 := hK2.x.at1
    have e2 : n = ng (iv n xs) := by have h2 := E.out.2; rw [hz1] at h2; simpa using h2
    have e1 := E.out.1
    exact bodyPost_ret (v := .agg #[.bool n, .slice A2 (trimL xs).length c2]) (by simp [results, Tryd.results53, go_sem, r0, r1]) rfl ⟨A2, c2, by rw [← e2, ← e1], by rw [← e1]; exact hR2, hK2.be⟩
theorem Make_v (n : Bool) (A : Option Addr) (c : Nat) (xs : List Int) (w : World) (h : Rd w A c xs) (hl : xs.length ≤ 1099511627776) (z : Int) (hz : iv n xs = z) :
    Calls Tryd.prog 53 #[.bool n, .slice A xs.length c] w fun e w' => Res e w w' z := by subst hz; exact Make_any n A c xs w h hl
set_option maxRecDepth 100000 in
theorem Canon_any (n : Bool) (A : Option Addr) (c : Nat) (xs : List Int) (w : World) (h : Rd w A c xs) (hl : xs.length ≤ 1099511627776) :
    Calls Tryd.prog 39 #[.agg #[.bool n, .slice A xs.length c]] w fun e w' => Res e w w' (iv n xs) := by
  go_enter Tryd.func39, Tryd.ntmps39
  go_wp2_with (first | (go_at_call 53; generalize hwb : World.alloc _ _ = wb; have hT := One.start w _ _ hwb; clear hwb; (with_reducible refine (Make_any n A c xs _ (h.below hT.be) (by omega)).mono ?_); rintro e w1 ⟨A1, c1, rfl, hR, hb⟩; replace hT := hT.below hb; clear hb; have hroom := hT.room))
  exact bodyPost_ret (v := .agg #[.bool (ng (iv n xs)), .slice A1 (mg (iv n xs)).length c1]) (by simp [results, Tryd.results39, go_sem, hroom]) rfl (hT.res hR)
theorem Canon_v (n : Bool) (A : Option Addr) (c : Nat) (xs : List Int) (w : World) (h : Rd w A c xs) (hl : xs.length ≤ 1099511627776) (z : Int) (hz : iv n xs = z) :
    Calls Tryd.prog 39 #[.agg #[.bool n, .slice A xs.length c]] w fun e w' => Res e w w' z := by subst hz; exact Canon_any n A c xs w h hl
set_option maxRecDepth 100000 in
theorem digit_ref (A : Option Addr) (c : Nat) (xs : List Int) (i : Nat) (w : World) (h : Rd w A c xs) (hi : i ≤ 1099511627776) (hl : xs.length ≤ 1099511627776) :
    Calls Tryd.prog 57 #[.slice A xs.length c, .int .i64 (i : Int)] w fun e w' => e = .returned (.int .u64 (dg xs i)) ∧ w' = w := by
  by_cases hx : i < xs.length
  · obtain ⟨ad, rfl, x0⟩ := h.at_ i hx
    obtain ⟨d0, d1⟩ := dg_dig h.dig i
    go_enter Tryd.func57, Tryd.ntmps57
    go_wp2
    go_ret
    exact ⟨rfl, rfl⟩
  · have e : dg xs i = 0 := by simp [dg, List.getD_eq_getElem?_getD, List.getElem?_eq_none (show xs.length ≤ i by omega)]
    rw [e]
    go_enter Tryd.func57, Tryd.ntmps57
    go_wp2
    go_ret
    exact ⟨rfl, rfl⟩
set_option maxRecDepth 100000 in
theorem compareDigits_any (A0 A1 : Option Addr) (c0 c1 : Nat) (xs ys : List Int) (w : World) (h0 : Rd w A0 c0 xs) (h1 : Rd w A1 c1 ys) (hl0 : xs.length ≤ 1099511627776) (hl1 : ys.length ≤ 1099511627776) (r : Int) (hr : cmpZ (val xs) (val ys) = r) :
    Calls Tryd.prog 60 #[.slice A0 xs.length c0, .slice A1 ys.length c1] w fun e w' => e = .returned (.int .i64 r) ∧ Drawn0 w w' := by
  have HT := Aside0.mk (And.intro h0 h1)
  have htr : ∀ (A : Option Addr) (c : Nat) (zs : List Int), Rd w A c zs → zs.length ≤ 1099511627776 → Calls Tryd.prog 63 #[.slice A zs.length c] w fun e w' => e = .returned (.slice A (trimL zs).length c) ∧ w' = w := fun A c zs h hl => trim_any A c zs w h hl
  have TR := Aside0.mk htr
  clear htr
  have L0 := trimL_len xs
  have L1 := trimL_len ys
  rw [← val_trim xs, ← val_trim ys] at hr
  obtain ⟨ts, hts⟩ : ∃ t, trimL xs = t := ⟨_, rfl⟩
  obtain ⟨us, hus⟩ : ∃ t, trimL ys = t := ⟨_, rfl⟩
  have H := Aside0.mk (And.intro (hts ▸ h0.trim) (And.intro (hus ▸ h1.trim) (And.intro (show trimL ts = ts by rw [← hts]; exact trimL_trimL _) (show trimL us = us by rw [← hus]; exact trimL_trimL _))))
  rw [hts] at L0 hr
  rw [hus] at L1 hr
  have HX := Aside0.mk hts
  have HY := Aside0.mk hus
  have HR := Aside0.mk hr
  have k0 : Calls Tryd.prog 63 #[.slice A0 xs.length c0] w fun e w' => e = .returned (.slice A0 ts.length c0) ∧ w' = w := by rw [← hts]; exact TR.out A0 c0 xs h0 hl0
  have k1 : Calls Tryd.prog 63 #[.slice A1 ys.length c1] w fun e w' => e = .returned (.slice A1 us.length c1) ∧ w' = w := by rw [← hus]; exact TR.out A1 c1 ys h1 hl1
  have K0 := Aside0.mk k0
  have K1 := Aside0.mk k1
  clear h0 h1 hts hus hr k0 k1 TR
  by_cases he : ts.length = us.length
  · have HE := Aside0.mk he
    have hb : ((ts.length : Int) == (us.length : Int)) = true := by simp [he]
    have hb' : ((ts.length : Int) != (us.length : Int)) = false := by simp [he]
    clear he
    go_enter Tryd.func60, Tryd.ntmps60
    go_wp2_with (first | (go_at_call 63; (with_reducible refine K0.out.mono ?_); rintro e w1 ⟨rfl, rfl⟩) | (go_at_call 63; (with_reducible refine K1.out.mono ?_); rintro e w1 ⟨rfl, rfl⟩))
    go_loopg [5] ts.length (fun kq v5 w' => ∃ k : Nat, v5 = .int .i64 ((k : Int) - 1) ∧ Aside0 (k = kq ∧ k ≤ ts.length ∧ val ts - val us = val (ts.take k) - val (us.take k)) ∧ Aside0 (Drawn0 w1 w'))
    case atStart => exact ⟨ts.length, rfl, ⟨rfl, Nat.le_refl _, by rw [List.take_of_length_le (Nat.le_refl _), List.take_of_length_le (by have := HE.out; omega)]⟩, ⟨Drawn0.refl _⟩⟩
    case round =>
      obtain ⟨k, rfl, HA, HD⟩ := hrel
      cases k with
      | zero =>
        go_wp2
        go_ret
        exact ⟨by rw [← HR.out, cmpZ_eq (by have := HA.out.2.2; simp [val] at this; omega)]; rfl, HD.out⟩
      | succ k =>
        have hk : k < ts.length := by have := HA.out; omega
        have hk' : k < us.length := by have := HE.out; omega
        have hk2 : k < 1099511627776 := by omega
        obtain ⟨ad0, rfl, x0⟩ := H.out.1.at_ k hk
        replace x0 := (HD.out.below.cell (World.block_lt_of_cell? _ _ x0)).trans x0
        obtain ⟨ad1, rfl, x1⟩ := H.out.2.1.at_ k hk'
        replace x1 := (HD.out.below.cell (World.block_lt_of_cell? _ _ x1)).trans x1
        by_cases hz : dg ts k = dg us k
        · have Z := Aside0.mk hz
          have z1 : decide (dg ts k < dg us k) = false := decide_eq_false (by omega)
          have z2 : decide (dg us k < dg ts k) = false := decide_eq_false (by omega)
          clear hz
          go_wp2
          go_quiet (fail)
          go_wp2
          go_quiet (fail)
          go_wp2
          go_roundg (gk - 1)
          case measure => have := HA.out; omega
          case rel => exact ⟨k, by go_num, cmp_next ts us k gk Z.out HA.out, (by first | exact ⟨HD.out.step _⟩ | exact ⟨(HD.out.step _).step _⟩)⟩
        · by_cases hlt : dg ts k < dg us k
          · have z2 : decide (dg ts k < dg us k) = true := decide_eq_true hlt
            have Z := Aside0.mk hlt
            clear hz hlt
            go_wp2
            go_quiet (fail)
            go_wp2
            go_ret
            exact ⟨by rw [← HR.out, cmp_end ts us k gk H.out.1.dig H.out.2.1.dig Z.out HA.out]; rfl, HD.out.step _⟩
          · have z2 : decide (dg ts k < dg us k) = false := decide_eq_false hlt
            have z3 : decide (dg us k < dg ts k) = true := decide_eq_true (by omega)
            have Z := Aside0.mk (show dg us k < dg ts k by omega)
            clear hz hlt
            go_wp2
            go_quiet (fail)
            go_wp2
            go_quiet (fail)
            go_wp2
            go_ret
            exact ⟨by rw [← HR.out, cmp_end' ts us k gk H.out.1.dig H.out.2.1.dig Z.out HA.out]; rfl, (by first | exact HD.out.step _ | exact (HD.out.step _).step _)⟩
  · have hb : ((ts.length : Int) == (us.length : Int)) = false := by rw [beq_eq_false_iff_ne]; omega
    have hb' : ((ts.length : Int) != (us.length : Int)) = true := by rw [bne_iff_ne]; omega
    by_cases hlt : ts.length < us.length
    · have Z := Aside0.mk (cmpZ_lt (val_lt_len H.out.1.dig H.out.2.1.dig H.out.2.2.2 hlt))
      clear he
      go_enter Tryd.func60, Tryd.ntmps60
      go_wp2_with (first | (go_at_call 63; (with_reducible refine K0.out.mono ?_); rintro e w1 ⟨rfl, rfl⟩) | (go_at_call 63; (with_reducible refine K1.out.mono ?_); rintro e w1 ⟨rfl, rfl⟩))
      go_ret
      exact ⟨by rw [← HR.out, Z.out]; rfl, Drawn0.refl _⟩
    · have Z := Aside0.mk (cmpZ_gt (val_lt_len H.out.2.1.dig H.out.1.dig H.out.2.2.1 (show us.length < ts.length by omega)))
      clear he
      go_enter Tryd.func60, Tryd.ntmps60
      go_wp2_with (first | (go_at_call 63; (with_reducible refine K0.out.mono ?_); rintro e w1 ⟨rfl, rfl⟩) | (go_at_call 63; (with_reducible refine K1.out.mono ?_); rintro e w1 ⟨rfl, rfl⟩))
      go_ret
      exact ⟨by rw [← HR.out, Z.out]; rfl, Drawn0.refl _⟩
end Go.Proofs.YtegnnghoiffmhaaDoor.Big
namespace Go.Proofs.YtegnnghoiffmhaaDoor.Big
open Go.RowKit Go.Proofs.YtegnnghoiffmhaaDoorW.PrintWords Go.Proofs.YtegnnghoiffmhaaDoorW.PrintLast
set_option linter.unusedVariables false
set_option linter.unusedSimpArgs false
attribute [local go_sem ↓] Go.wp_at_zero Go.wp_at_succ
/-- A row handed back: its number, without leading zeros. -/
def RowRes (e : Ending) (w w' : World) (v : Int) (N : Nat) : Prop := ∃ (A : Option Addr) (c : Nat) (zs : List Int), e = .returned (.slice A zs.length c) ∧ Rd w' A c zs ∧ val zs = v ∧ trimL zs = zs ∧ zs.length ≤ N ∧ Below w.heap.size w w'
theorem RowRes.of {w w' : World} {A : Option Addr} {c : Nat} {cs : List Int} {v : Int} {N : Nat} (h : Rd w' A c cs) (hv : val cs = v) (hN : cs.length ≤ N) (hb : Below w.heap.size w w') : RowRes (.returned (.slice A (trimL cs).length c)) w w' v N :=
  ⟨A, c, trimL cs, rfl, h.trim, by rw [val_trim]; exact hv, trimL_trimL _, Nat.le_trans (trimL_len cs) hN, hb⟩
/-- A row of the call's own handed back. -/
def RowFr (e : Ending) (w w' : World) (v : Int) (N : Nat) : Prop := ∃ (A : Option Addr) (c : Nat) (zs : List Int), e = .returned (.slice A zs.length c) ∧ Rd w' A c zs ∧ val zs = v ∧ trimL zs = zs ∧ zs.length ≤ N ∧ Below w.heap.size w w' ∧ ∀ ad, A = some ad → w.heap.size ≤ ad.block
theorem RowFr.of {w w' : World} {A : Option Addr} {c : Nat} {cs : List Int} {v : Int} {N : Nat} (h : Rd w' A c cs) (hv : val cs = v) (hN : cs.length ≤ N) (hb : Below w.heap.size w w') (hf : ∀ ad, A = some ad → w.heap.size ≤ ad.block) : RowFr (.returned (.slice A (trimL cs).length c)) w w' v N :=
  ⟨A, c, trimL cs, rfl, h.trim, by rw [val_trim]; exact hv, trimL_trimL _, Nat.le_trans (trimL_len cs) hN, hb, hf⟩
theorem RowFr.res {e : Ending} {w w' : World} {v : Int} {N : Nat} (h : RowFr e w w' v N) : RowRes e w w' v N := by
  obtain ⟨A, c, zs, h1, h2, h3, h4, h5, h6, -⟩ := h
  exact ⟨A, c, zs, h1, h2, h3, h4, h5, h6⟩
def AddI (w w' : World) (xs ys : List Int) (n i : Nat) (c : Int) (V : Value) (cs : List Int) : Prop :=
  cs.length = n ∧ (0 ≤ c ∧ c ≤ 1) ∧ val (cs.take i) + c * pw i = val (xs.take i) + val (ys.take i) ∧ Own w w' V cs
theorem add_next (w wr : World) (xs ys : List Int) (g cap n i : Nat) (c : Int) (cs : List Int) (hi : i < n) (hx : ∀ x ∈ xs, 0 ≤ x ∧ x ≤ 4294967295) (hy : ∀ x ∈ ys, 0 ≤ x ∧ x ≤ 4294967295) (h : AddI w wr xs ys n i c (.slice (some ⟨g, 0, none⟩) n cap) cs) :
    AddI w (wr.setCell ⟨g, i, none⟩ (.int .u32 ((c + dg xs i + dg ys i) % 4294967296))) xs ys n (i + 1) ((c + dg xs i + dg ys i) / 4294967296) (.slice (some ⟨g, 0, none⟩) n cap) (cs.set i ((c + dg xs i + dg ys i) % 4294967296)) := by
  obtain ⟨h1, h2, h3, h4⟩ := h
  have d0 := dg_dig hx i
  have d1 := dg_dig hy i
  refine ⟨by simpa using h1, by omega, ?_, h4.put i _ (by omega) (by omega)⟩
  rw [List.take_set, val_take xs, val_take ys, val_set _ i _ (by rw [List.length_take]; omega), val_take cs]
  have e0 : dg (cs.take (i + 1)) i = dg cs i := by simp [dg, List.getD_eq_getElem?_getD, List.getElem?_take]
  rw [e0]
  have e := Int.mul_ediv_add_emod (c + dg xs i + dg ys i) 4294967296
  simp only [pw]
  grind
theorem add_end (w wr : World) (xs ys : List Int) (n : Nat) (c : Int) (V : Value) (cs : List Int) (hx : ∀ x ∈ xs, 0 ≤ x ∧ x ≤ 4294967295) (hy : ∀ x ∈ ys, 0 ≤ x ∧ x ≤ 4294967295) (hn : n = max xs.length ys.length + 1) (h : AddI w wr xs ys n n c V cs) : val cs = val xs + val ys := by
  obtain ⟨h1, h2, h3, h4⟩ := h
  rw [List.take_of_length_le (by omega), List.take_of_length_le (by omega), List.take_of_length_le (by omega)] at h3
  have b0 := val_bounds cs h4.ow.dig
  have b1 := val_bounds xs hx
  have b2 := val_bounds ys hy
  have p1 := pw_le (show xs.length ≤ max xs.length ys.length by omega)
  have p2 := pw_le (show ys.length ≤ max xs.length ys.length by omega)
  have p3 : pw n = pw (max xs.length ys.length) * 4294967296 := by rw [hn]; rfl
  have p4 := pw_pos (max xs.length ys.length)
  rcases (show c = 0 ∨ c = 1 by omega) with e | e
  · subst e; omega
  · subst e; omega
set_option maxRecDepth 100000 in
theorem addDigits_any (A0 A1 : Option Addr) (c0 c1 : Nat) (xs ys : List Int) (w : World) (h0 : Rd w A0 c0 xs) (h1 : Rd w A1 c1 ys) (hl0 : xs.length ≤ 274877906944) (hl1 : ys.length ≤ 274877906944) :
    Calls Tryd.prog 61 #[.slice A0 xs.length c0, .slice A1 ys.length c1] w fun e w' => RowRes e w w' (val xs + val ys) (max xs.length ys.length + 1) := by
  have H := Aside0.mk (And.intro h0 h1)
  clear h0 h1
  obtain ⟨n, hn⟩ : ∃ n, max xs.length ys.length + 1 = n := ⟨_, rfl⟩
  have hnl : n ≤ 274877906945 := by omega
  have en : max (xs.length : Int) (ys.length : Int) + 1 = (n : Int) := by omega
  have HN := Aside0.mk (And.intro hn en)
  rw [hn]
  clear hn
  go_enter Tryd.func61, Tryd.ntmps61
  go_wp2_with (first | ((with_reducible refine gate_dst (N := 16) rfl ?_); refine make_u32 rfl rfl _ _ rfl n rfl rfl (by omega) ?_; intro v5 w1 ho hb; obtain ⟨g, cap, rfl, -⟩ := ho.form (by simp; omega); rw [List.length_replicate] at ho; have HO := Aside0.mk (Own.mk ho hb); clear ho hb))
  go_loopg [7, 8] n (fun kq v7 v8 w' => ∃ (i : Nat) (c : Int) (cs : List Int), v7 = .int .u64 c ∧ v8 = .int .i64 i ∧ Aside0 (i + kq = n ∧ AddI w w' xs ys n i c (.slice (some ⟨g, 0, none⟩) n cap) cs))
  case atStart => exact ⟨0, 0, List.replicate n 0, rfl, rfl, ⟨by omega, by simp, by omega, by simp [val], HO.out⟩⟩
  case round =>
    clear HO
    obtain ⟨i, c, cs, rfl, rfl, HA⟩ := hrel
    have hA := HA.out.2
    have ecs := hA.1
    have HCL := Aside0.mk ecs
    have hc0 := hA.2.1.1
    have hc1 := hA.2.1.2
    by_cases hi : i < n
    · obtain ⟨y0, y1⟩ := hA.2.2.2.ow.cell i hi
      have B := Aside0.mk hA.2.2.2.be
      have hi2 : i ≤ 274877906945 := by omega
      obtain ⟨d0, d1⟩ := dg_dig H.out.1.dig i
      obtain ⟨f0, f1⟩ := dg_dig H.out.2.dig i
      have HH := Aside0.mk hA
      clear hA ecs
      go_wp2_with (first | (go_at_call 57; (with_reducible refine (digit_ref A0 c0 xs i _ (H.out.1.below B.out) (by omega) (by omega)).mono ?_); rintro e w2 ⟨rfl, rfl⟩) | (go_at_call 57; (with_reducible refine (digit_ref A1 c1 ys i _ (H.out.2.below B.out) (by omega) (by omega)).mono ?_); rintro e w3 ⟨rfl, rfl⟩))
      go_roundg (gk - 1)
      case measure => have := HA.out.1; omega
      case rel => exact ⟨i + 1, _, _, rfl, by go_num, ⟨by have := HA.out.1; omega, add_next w _ xs ys g cap n i c cs hi H.out.1.dig H.out.2.dig HH.out⟩⟩
    · have e : i = n := by have := HA.out.1; omega
      subst e
      have hv := add_end w wr xs ys i c _ cs H.out.1.dig H.out.2.dig HN.out.1.symm hA
      have HV := Aside0.mk (And.intro hv hA.2.2.2)
      have hR := Aside0.mk hA.2.2.2.ow.rd'.2
      have hcl := ecs
      have ht : ∀ w2 : World, Rd w2 (some ⟨g, 0, none⟩) cap cs → Calls Tryd.prog 63 #[.slice (some ⟨g, 0, none⟩) i cap] w2 fun e w' => e = .returned (.slice (some ⟨g, 0, none⟩) (trimL cs).length cap) ∧ w' = w2 := by
        intro w2 hr
        have h := trim_any (some ⟨g, 0, none⟩) cap cs w2 hr (by omega)
        rw [hcl] at h
        exact h
      have HT := Aside0.mk ht
      clear hA hv ht ecs hcl
      go_wp2_with (first | (go_at_call 63; (with_reducible refine (HT.out _ hR.out).mono ?_); rintro e w2 ⟨rfl, rfl⟩))
      go_ret
      exact RowRes.of hR.out HV.out.1 (by have := HCL.out; have := HN.out.1; omega) HV.out.2.be
def SubI (w w' : World) (xs ys : List Int) (n i : Nat) (c : Int) (V : Value) (cs : List Int) : Prop :=
  cs.length = n ∧ (0 ≤ c ∧ c ≤ 1) ∧ val (cs.take i) - c * pw i = val (xs.take i) - val (ys.take i) ∧ Own w w' V cs
theorem sub_next (w wr : World) (xs ys : List Int) (g cap n i : Nat) (c : Int) (cs : List Int) (hi : i < n) (hx : ∀ x ∈ xs, 0 ≤ x ∧ x ≤ 4294967295) (hy : ∀ x ∈ ys, 0 ≤ x ∧ x ≤ 4294967295) (h : SubI w wr xs ys n i c (.slice (some ⟨g, 0, none⟩) n cap) cs) :
    SubI w (wr.setCell ⟨g, i, none⟩ (.int .u32 ((dg xs i + 4294967296 - dg ys i - c) % 4294967296))) xs ys n (i + 1) (1 - (dg xs i + 4294967296 - dg ys i - c) / 4294967296) (.slice (some ⟨g, 0, none⟩) n cap) (cs.set i ((dg xs i + 4294967296 - dg ys i - c) % 4294967296)) := by
  obtain ⟨h1, h2, h3, h4⟩ := h
  have d0 := dg_dig hx i
  have d1 := dg_dig hy i
  refine ⟨by simpa using h1, by omega, ?_, h4.put i _ (by omega) (by omega)⟩
  rw [List.take_set, val_take xs, val_take ys, val_set _ i _ (by rw [List.length_take]; omega), val_take cs]
  have e0 : dg (cs.take (i + 1)) i = dg cs i := by simp [dg, List.getD_eq_getElem?_getD, List.getElem?_take]
  rw [e0]
  have e := Int.mul_ediv_add_emod (dg xs i + 4294967296 - dg ys i - c) 4294967296
  simp only [pw]
  grind
theorem sub_end (w wr : World) (xs ys : List Int) (n : Nat) (c : Int) (V : Value) (cs : List Int) (hx : ∀ x ∈ xs, 0 ≤ x ∧ x ≤ 4294967295) (hn : n = xs.length) (hyl : ys.length ≤ xs.length) (hle : val ys ≤ val xs) (h : SubI w wr xs ys n n c V cs) : val cs = val xs - val ys := by
  obtain ⟨h1, h2, h3, h4⟩ := h
  rw [List.take_of_length_le (by omega), List.take_of_length_le (by omega), List.take_of_length_le (by omega)] at h3
  have b0 := val_bounds cs h4.ow.dig
  rw [h1] at b0
  have p4 := pw_pos n
  rcases (show c = 0 ∨ c = 1 by omega) with e | e
  · subst e; omega
  · subst e; omega
set_option maxRecDepth 100000 in
theorem subDigits_fr (A0 A1 : Option Addr) (c0 c1 : Nat) (xs ys : List Int) (w : World) (h0 : Rd w A0 c0 xs) (h1 : Rd w A1 c1 ys) (hl0 : xs.length ≤ 274877906944) (hyl : ys.length ≤ xs.length) (hle : val ys ≤ val xs) :
    Calls Tryd.prog 62 #[.slice A0 xs.length c0, .slice A1 ys.length c1] w fun e w' => RowFr e w w' (val xs - val ys) xs.length := by
  have H := Aside0.mk (And.intro h0 h1)
  clear h0 h1
  have HN := Aside0.mk (And.intro hyl hle)
  clear hle
  obtain ⟨n, hn⟩ : ∃ n, xs.length = n := ⟨_, rfl⟩
  rcases Nat.eq_zero_or_pos n with h00 | hpos
  · subst h00
    obtain rfl := List.eq_nil_of_length_eq_zero hn
    obtain rfl := List.eq_nil_of_length_eq_zero (show ys.length = 0 by simp at hyl; simp [hyl])
    go_enter Tryd.func62, Tryd.ntmps62
    go_wp2_with (first | ((with_reducible refine gate_dst (N := 11) rfl ?_); refine make_u32 rfl rfl _ _ rfl 0 rfl rfl (by omega) ?_; intro v5 w1 ho hb; have hf := ho.from_; obtain ⟨A, c, rfl, hR⟩ := ho.rd; have HR := Aside0.mk (And.intro hR (And.intro hb (show ∀ ad, A = some ad → w.heap.size ≤ ad.block from fun ad e => by subst e; exact hf _ rfl))); clear hf; clear ho hb hR))
    go_loopg [6, 7, 8] 0 (fun kq v6 v7 v8 w' => v6 = .int .u64 0 ∧ v7 = .int .i64 0 ∧ w' = w1)
    case atStart => exact ⟨rfl, rfl, rfl⟩
    case round =>
      obtain ⟨rfl, rfl, rfl⟩ := hrel
      have h0 : Calls Tryd.prog 63 #[.slice A 0 c] wr fun e w' => e = .returned (.slice A 0 c) ∧ w' = wr := trim_any A c [] wr HR.out.1 (by simp)
      have T0 := Aside0.mk h0
      clear h0
      go_wp2_with (first | (go_at_call 63; (with_reducible refine T0.out.mono ?_); rintro e w2 ⟨rfl, rfl⟩))
      go_ret
      exact RowFr.of (cs := []) HR.out.1 (by simp [val]) (by simp) HR.out.2.1 HR.out.2.2
  have HX := Aside0.mk hn
  rw [hn]
  rw [hn] at hl0 hyl
  clear hn
  go_enter Tryd.func62, Tryd.ntmps62
  go_wp2_with (first | ((with_reducible refine gate_dst (N := 11) rfl ?_); refine make_u32 rfl rfl _ _ rfl n rfl rfl (by omega) ?_; intro v5 w1 ho hb; obtain ⟨g, cap, rfl, -⟩ := ho.form (by simp; omega); rw [List.length_replicate] at ho; have HO := Aside0.mk (Own.mk ho hb); clear ho hb))
  go_loopg [6, 7, 8] n (fun kq v6 v7 v8 w' => ∃ (i : Nat) (c : Int) (cs : List Int), v6 = .int .u64 c ∧ v7 = .int .i64 i ∧ Aside0 (i + kq = n ∧ SubI w w' xs ys n i c (.slice (some ⟨g, 0, none⟩) n cap) cs))
  case atStart => exact ⟨0, 0, List.replicate n 0, rfl, rfl, ⟨by omega, by simp, by omega, by simp [val], HO.out⟩⟩
  case round =>
    clear HO
    obtain ⟨i, c, cs, rfl, rfl, HA⟩ := hrel
    have hA := HA.out.2
    have ecs := hA.1
    have HCL := Aside0.mk ecs
    have hc0 := hA.2.1.1
    have hc1 := hA.2.1.2
    by_cases hi : i < n
    · obtain ⟨y0, y1⟩ := hA.2.2.2.ow.cell i hi
      have B := Aside0.mk hA.2.2.2.be
      have hi2 : i ≤ 274877906945 := by omega
      obtain ⟨d0, d1⟩ := dg_dig H.out.1.dig i
      obtain ⟨f0, f1⟩ := dg_dig H.out.2.dig i
      have HH := Aside0.mk hA
      clear hA ecs
      have k0 : ∀ w2, Below w.heap.size w w2 → Calls Tryd.prog 57 #[.slice A0 n c0, .int .i64 (i : Int)] w2 fun e w' => e = .returned (.int .u64 (dg xs i)) ∧ w' = w2 := by
        intro w2 hb
        have h := digit_ref A0 c0 xs i w2 (H.out.1.below hb) (by omega) (by have := HX.out; omega)
        rw [HX.out] at h
        exact h
      have K0 := Aside0.mk k0
      clear k0
      go_wp2_with (first | (go_at_call 57; (with_reducible refine (K0.out _ B.out).mono ?_); rintro e w2 ⟨rfl, rfl⟩) | (go_at_call 57; (with_reducible refine (digit_ref A1 c1 ys i _ (H.out.2.below B.out) (by omega) (by omega)).mono ?_); rintro e w3 ⟨rfl, rfl⟩))
      go_roundg (gk - 1)
      case measure => have := HA.out.1; omega
      case rel => exact ⟨i + 1, _, _, rfl, by go_num, ⟨by have := HA.out.1; omega, sub_next w _ xs ys g cap n i c cs hi H.out.1.dig H.out.2.dig HH.out⟩⟩
    · have e : i = n := by have := HA.out.1; omega
      subst e
      have hv := sub_end w wr xs ys i c _ cs H.out.1.dig HX.out.symm HN.out.1 HN.out.2 hA
      have HV := Aside0.mk (And.intro hv hA.2.2.2)
      have hR := Aside0.mk hA.2.2.2.ow.rd'.2
      have hcl := ecs
      have ht : ∀ w2 : World, Rd w2 (some ⟨g, 0, none⟩) cap cs → Calls Tryd.prog 63 #[.slice (some ⟨g, 0, none⟩) i cap] w2 fun e w' => e = .returned (.slice (some ⟨g, 0, none⟩) (trimL cs).length cap) ∧ w' = w2 := by
        intro w2 hr
        have h := trim_any (some ⟨g, 0, none⟩) cap cs w2 hr (by omega)
        rw [hcl] at h
        exact h
      have HT := Aside0.mk ht
      clear hA hv ht ecs hcl
      go_wp2_with (first | (go_at_call 63; (with_reducible refine (HT.out _ hR.out).mono ?_); rintro e w2 ⟨rfl, rfl⟩))
      go_ret
      exact RowFr.of hR.out HV.out.1 (by have := HCL.out; omega) HV.out.2.be (fun ad e => by injection e with e; subst e; exact HV.out.2.ow.from_ _ rfl)
theorem subDigits_any (A0 A1 : Option Addr) (c0 c1 : Nat) (xs ys : List Int) (w : World) (h0 : Rd w A0 c0 xs) (h1 : Rd w A1 c1 ys) (hl0 : xs.length ≤ 274877906944) (hyl : ys.length ≤ xs.length) (hle : val ys ≤ val xs) :
    Calls Tryd.prog 62 #[.slice A0 xs.length c0, .slice A1 ys.length c1] w fun e w' => RowRes e w w' (val xs - val ys) xs.length :=
  (subDigits_fr A0 A1 c0 c1 xs ys w h0 h1 hl0 hyl hle).mono fun e w' h => h.res
end Go.Proofs.YtegnnghoiffmhaaDoor.Big
namespace Go.Proofs.YtegnnghoiffmhaaDoor.Big
open Go.RowKit Go.Proofs.YtegnnghoiffmhaaDoorW.PrintWords Go.Proofs.YtegnnghoiffmhaaDoorW.PrintLast
set_option linter.unusedVariables false
set_option linter.unusedSimpArgs false
attribute [local go_sem ↓] Go.wp_at_zero Go.wp_at_succ
theorem Own.below {w0 w w1 : World} {v : Value} {xs : List Int} (h : Own w0 w v xs) (hb : Below w.heap.size w w1) : Own w0 w1 v xs := ⟨h.ow.below hb, keep_below hb h.be⟩
set_option maxHeartbeats 4000000 in
set_option maxRecDepth 100000 in
theorem mulDigits_any (A0 A1 : Option Addr) (c0 c1 : Nat) (xs ys : List Int) (w : World) (h0 : Rd w A0 c0 xs) (h1 : Rd w A1 c1 ys) (hl0 : xs.length ≤ 274877906944) (hl1 : ys.length ≤ 274877906944) :
    Calls Tryd.prog 64 #[.slice A0 xs.length c0, .slice A1 ys.length c1] w fun e w' => RowRes e w w' (val xs * val ys) (xs.length + ys.length) := by
  have H := Aside0.mk (And.intro h0 h1)
  clear h0 h1
  obtain ⟨n, hn⟩ : ∃ n, xs.length + ys.length = n := ⟨_, rfl⟩
  have ea : (xs.length : Int) + (ys.length : Int) = (n : Int) := by omega
  have EA := Aside0.mk (And.intro hn ea)
  rw [hn]
  have hnl : n ≤ 549755813888 := by omega
  clear hn
  go_enter Tryd.func64, Tryd.ntmps64
  go_wp2_with (first | ((with_reducible refine gate_dst (N := 14) rfl ?_); refine make_u32 rfl rfl _ _ rfl n rfl rfl (by omega) ?_; intro v5 w1 ho hb; obtain ⟨AV, cV, rfl, hRV⟩ := ho.rd; rw [List.length_replicate] at ho; have HO := Aside0.mk (Own.mk ho hb); clear ho hb hRV))
  go_loopg [6, 7, 8] xs.length (fun kq v6 v7 v8 w' => ∃ (i : Nat) (cs : List Int), v6 = .int .i64 i ∧ Aside0 (i + kq = xs.length ∧ cs.length = xs.length + ys.length ∧ val cs = val (xs.take i) * val ys ∧ (∀ j, i + ys.length ≤ j → dg cs j = 0) ∧ Own w w' (.slice AV n cV) cs))
  case atStart => exact ⟨0, List.replicate n 0, rfl, ⟨by omega, by simp; exact EA.out.1.symm, by simp [val_zeros, val], fun j _ => by simp [dg, List.getD_eq_getElem?_getD, List.getElem?_replicate]; split <;> rfl, HO.out⟩⟩
  case round =>
    clear HO
    obtain ⟨i, cs, rfl, HA⟩ := hrel
    by_cases hi : i < xs.length
    · obtain ⟨ad0, rfl, x0⟩ := H.out.1.at_ i hi
      have hnp : 0 < n := by have := EA.out.1; omega
      have hf := HA.out.2.2.2.2.ow.form (by have := HA.out; omega)
      obtain ⟨g, cap, ef, -⟩ := hf
      simp only [Value.slice.injEq] at ef
      obtain ⟨rfl, -, rfl⟩ := ef
      have hi2 : i < 274877906944 := by omega
      go_wp2
      obtain ⟨wo, rfl⟩ : ∃ wo : World, wo = wr := ⟨_, rfl⟩
      go_loopg [7, 8] ys.length (fun kq v7 v8 w' => ∃ (k : Nat) (c : Int) (ds : List Int), v7 = .int .u64 c ∧ v8 = .int .i64 k ∧ Aside0 (k + kq = ys.length ∧ (0 ≤ c ∧ c ≤ 4294967295) ∧ ds.length = xs.length + ys.length ∧ val ds + c * pw (i + k) = val (xs.take i) * val ys + dg xs i * pw i * val (ys.take k) ∧ (∀ j, i + ys.length ≤ j → dg ds j = 0) ∧ Own w w' (.slice (some ⟨g, 0, none⟩) n cV) ds))
      case atStart => exact ⟨0, 0, cs, rfl, rfl, ⟨by omega, by omega, HA.out.2.1, by rw [HA.out.2.2.1]; simp [val], HA.out.2.2.2.1, HA.out.2.2.2.2⟩⟩
      case round =>
        obtain ⟨k, c, ds, rfl, rfl, HB⟩ := hrel
        have DX := Aside0.mk (dg_dig H.out.1.dig i)
        have hc0 := HB.out.2.1.1
        have hc1 := HB.out.2.1.2
        by_cases hk : k < ys.length
        · obtain ⟨ad1, rfl, x1⟩ := H.out.2.at_ k hk
          replace x1 := (HB.out.2.2.2.2.2.be.cell (World.block_lt_of_cell? w _ x1)).trans x1
          replace x0 := (HB.out.2.2.2.2.2.be.cell (World.block_lt_of_cell? w _ x0)).trans x0
          have hik : i + k < n := by have := EA.out.1; omega
          have hk2 : k < 274877906944 := by omega
          obtain ⟨y0, y1⟩ := HB.out.2.2.2.2.2.ow.cell (i + k) hik
          have DY := Aside0.mk (dg_dig H.out.2.dig k)
          have DO := Aside0.mk (dg_dig HB.out.2.2.2.2.2.ow.dig (i + k))
          have hp0 : 0 ≤ dg xs i * dg ys k := Int.mul_nonneg DX.out.1 DY.out.1
          have hp1 : dg xs i * dg ys k ≤ 18446744065119617025 := Int.mul_le_mul DX.out.2 DY.out.2 DY.out.1 (by omega)
          have hx0 := DX.out.1
          have hx1 := DX.out.2
          have hy0 := DY.out.1
          have hy1 := DY.out.2
          have ho0 := DO.out.1
          have ho1 := DO.out.2
          have hiki : (i : Int) + (k : Int) < (n : Int) := by omega
          have hikn : ((i : Int) + (k : Int)).toNat = i + k := by omega
          have hii : (i : Int) < (xs.length : Int) := by omega
          have hki : (k : Int) < (ys.length : Int) := by omega
          have hi0 : (0 : Int) ≤ (i : Int) := by omega
          have hk0 : (0 : Int) ≤ (k : Int) := by omega
          have hik0 : (0 : Int) ≤ (i : Int) + (k : Int) := by omega
          go_wp2
          go_quiet (fail)
          rw [show c + dg ds (i + k) + dg xs i * dg ys k = c + (dg xs i * dg ys k + dg ds (i + k)) by omega]
          go_wp2
          go_roundg (gk - 1)
          case measure => have := HB.out; omega
          case rel => exact ⟨k + 1, _, _, rfl, by go_num, times_next w (wr.drewN nq) g _ cV gk i k c _ _ _ cs ds xs ys rfl rfl rfl DX.out DY.out hk hi ⟨HB.out.1, HB.out.2.1, HB.out.2.2.1, HB.out.2.2.2.1, HB.out.2.2.2.2.1, HB.out.2.2.2.2.2.below (pw_below_drewN (Below.refl _ _) _)⟩⟩
        · have hn : i + ys.length < n := by have := EA.out.1; omega
          obtain ⟨y0, y1⟩ := HB.out.2.2.2.2.2.ow.cell (i + ys.length) hn
          go_wp2
          go_roundg (xs.length - i - 1)
          case measure => have := HA.out; omega
          case rel => exact ⟨i + 1, _, by go_num, times_row w wr g _ cV _ i k c ds xs ys hi (by omega) HB.out⟩
    · have hA := HA.out
      have hcl : cs.length = n := by have := EA.out.1; omega
      have hv : val cs = val xs * val ys := by rw [hA.2.2.1, List.take_of_length_le (by omega)]
      have HV := Aside0.mk (And.intro hv (And.intro hA.2.2.2.2 hcl))
      have hR := Aside0.mk hA.2.2.2.2.ow.rd'.2
      have ht : ∀ w2 : World, Rd w2 AV cV cs → Calls Tryd.prog 63 #[.slice AV n cV] w2 fun e w' => e = .returned (.slice AV (trimL cs).length cV) ∧ w' = w2 := by
        intro w2 hr
        have h := trim_any AV cV cs w2 hr (by omega)
        rw [hcl] at h
        exact h
      have HT := Aside0.mk ht
      clear hA hv ht hcl
      go_wp2_with (first | (go_at_call 63; (with_reducible refine (HT.out _ hR.out).mono ?_); rintro e w2 ⟨rfl, rfl⟩))
      go_ret
      exact RowRes.of hR.out HV.out.1 (by have := HV.out.2.2; omega) HV.out.2.1.be
end Go.Proofs.YtegnnghoiffmhaaDoor.Big
namespace Go.Proofs.YtegnnghoiffmhaaDoor.Big
open Go.RowKit Go.Proofs.YtegnnghoiffmhaaDoorW.PrintWords Go.Proofs.YtegnnghoiffmhaaDoorW.PrintLast
set_option linter.unusedVariables false
set_option linter.unusedSimpArgs false
attribute [local go_sem ↓] Go.wp_at_zero Go.wp_at_succ
theorem make_two (n : Bool) (A : Option Addr) (c : Nat) (a b : Int) (w : World) (h : Rd w A c [a, b]) : Calls Tryd.prog 53 #[.bool n, .slice A 2 c] w fun e w' => Res e w w' (iv n [a, b]) := Make_any n A c [a, b] w h (by simp)
set_option maxRecDepth 100000 in
/-- A row that the call made: two digits. -/
theorem FromInt64_ref (n : Int) (w : World) (h0 : -9223372036854775808 ≤ n) (h1 : n ≤ 9223372036854775807) :
    Calls Tryd.prog 24 #[.int .i64 n] w fun e w' => Res e w w' n := by
  by_cases hn : n < 0
  · have e1 : IntKind.u64.wrap n = n + 18446744073709551616 := by rw [IntKind.wrap_u64]; omega
    have e2 : IntKind.u64.wrap (-(n + 18446744073709551616)) = -n := by rw [IntKind.wrap_u64]; omega
    have e3 : (-n) / 4294967296 % 4294967296 = (-n) / 4294967296 := by omega
    have EV := Aside0.mk (from_val n (-n) true (by omega) (by omega) (by simp))
    clear h0 h1
    go_enter Tryd.func24, Tryd.ntmps24
    go_wp2_with (first | (go_at_call 53; generalize hwb : World.alloc (World.alloc _ _) _ = wb; have hT := lit_start w _ _ EV.out.1 EV.out.2.1 hwb; clear hwb; obtain ⟨hbe, hbr, hR⟩ := hT; (with_reducible refine (make_two true _ 2 ((-n) % 4294967296) ((-n) / 4294967296) _ hR).mono ?_); rintro e w3 ⟨A', c', rfl, hR', hb⟩; have hB := keep_below hb hbe; replace hbr := hbr.below hb; have r0 := hbr.at0; have r1 := hbr.at1; have f0 := hbr.free 0; have f1 := hbr.free 1))
    rw [EV.out.2.2] at hR' ⊢
    exact bodyPost_ret (v := .agg #[.bool (ng n), .slice A' (mg n).length c']) (by simp [results, Tryd.results24, go_sem, r0, r1, f0, f1]) rfl ⟨A', c', rfl, hR'.boxed hbr.blk, (hB.setCell (by simp) _).setCell (by simp) _⟩
  · have e1 : IntKind.u64.wrap n = n := by rw [IntKind.wrap_u64]; omega
    have e3 : (n) / 4294967296 % 4294967296 = (n) / 4294967296 := by omega
    have EV := Aside0.mk (from_val n (n) false (by omega) (by omega) (by simp))
    clear h0 h1
    go_enter Tryd.func24, Tryd.ntmps24
    go_wp2_with (first | (go_at_call 53; generalize hwb : World.alloc (World.alloc _ _) _ = wb; have hT := lit_start w _ _ EV.out.1 EV.out.2.1 hwb; clear hwb; obtain ⟨hbe, hbr, hR⟩ := hT; (with_reducible refine (make_two false _ 2 ((n) % 4294967296) ((n) / 4294967296) _ hR).mono ?_); rintro e w3 ⟨A', c', rfl, hR', hb⟩; have hB := keep_below hb hbe; replace hbr := hbr.below hb; have r0 := hbr.at0; have r1 := hbr.at1; have f0 := hbr.free 0; have f1 := hbr.free 1))
    rw [EV.out.2.2] at hR' ⊢
    exact bodyPost_ret (v := .agg #[.bool (ng n), .slice A' (mg n).length c']) (by simp [results, Tryd.results24, go_sem, r0, r1, f0, f1]) rfl ⟨A', c', rfl, hR'.boxed hbr.blk, (hB.setCell (by simp) _).setCell (by simp) _⟩
theorem Arg2.setx {w w' : World} {a0 b0 a1 b1 : Value} (h : Arg2 w w' a0 b0 a1 b1) (u v : Value) : Arg2 w ((w'.setCell ⟨w.heap.size, 0, none⟩ u).setCell ⟨w.heap.size, 1, none⟩ v) u v a1 b1 :=
  ⟨(h.be.setCell (by simp) _).setCell (by simp) _, h.x.set u v, (h.y.put (by omega) _).put (by omega) _⟩
theorem Arg2.sety {w w' : World} {a0 b0 a1 b1 : Value} (h : Arg2 w w' a0 b0 a1 b1) (u v : Value) : Arg2 w ((w'.setCell ⟨w.heap.size + 1, 0, none⟩ u).setCell ⟨w.heap.size + 1, 1, none⟩ v) a0 b0 u v :=
  ⟨(h.be.setCell (by simp) _).setCell (by simp) _, (h.x.put (by omega) _).put (by omega) _, h.y.set u v⟩
theorem Arg2.room {w w' : World} {a0 b0 a1 b1 : Value} (h : Arg2 w w' a0 b0 a1 b1) : (w'.frozen? ⟨w.heap.size, 0, none⟩ = false ∧ w'.frozen? ⟨w.heap.size, 1, none⟩ = false) ∧ w'.frozen? ⟨w.heap.size + 1, 0, none⟩ = false ∧ w'.frozen? ⟨w.heap.size + 1, 1, none⟩ = false := ⟨⟨h.x.free 0, h.x.free 1⟩, h.y.free 0, h.y.free 1⟩
theorem cmp_ng (x y r : Int) (hr : cmpZ x y = r) : (ng x = true → ng y = false → r = -1) ∧ (ng x = false → ng y = true → r = 1) ∧ (ng x = true → ng y = true → cmpZ (val (mg y)) (val (mg x)) = r) ∧ (ng x = false → ng y = false → cmpZ (val (mg x)) (val (mg y)) = r) := by
  subst hr
  rw [mg_val, mg_val]
  unfold ng cmpZ
  simp only [decide_eq_true_eq, decide_eq_false_iff_not]
  refine ⟨fun h1 h2 => ?_, fun h1 h2 => ?_, fun h1 h2 => ?_, fun h1 h2 => ?_⟩ <;> (repeat' split) <;> omega
set_option maxHeartbeats 4000000 in
set_option maxRecDepth 100000 in
theorem Compare_ref (n0 n1 : Bool) (A0 A1 : Option Addr) (c0 c1 : Nat) (xs ys : List Int) (w : World) (h0 : Rd w A0 c0 xs) (h1 : Rd w A1 c1 ys) (hl0 : xs.length ≤ 274877906944) (hl1 : ys.length ≤ 274877906944) (x y r : Int) (hx : iv n0 xs = x) (hy : iv n1 ys = y) (hr : cmpZ x y = r) :
    Calls Tryd.prog 27 #[.agg #[.bool n0, .slice A0 xs.length c0], .agg #[.bool n1, .slice A1 ys.length c1]] w fun e w' => e = .returned (.int .i64 r) ∧ Below w.heap.size w w' := by
  have HX := Aside0.mk (And.intro hx hy)
  have C := Aside0.mk (cmp_ng x y r hr)
  have lx : (mg x).length ≤ 274877906944 := by rw [← hx]; exact Nat.le_trans (mg_iv_len n0 h0.dig) hl0
  have ly : (mg y).length ≤ 274877906944 := by rw [← hy]; exact Nat.le_trans (mg_iv_len n1 h1.dig) hl1
  clear hx hy hr
  go_enter Tryd.func27, Tryd.ntmps27
  go_wp2
  generalize hwb : World.alloc _ _ = wb
  have hT := (Arg2.start w _ _ _ _ hwb).drew
  clear hwb
  refine start_ (n := 6) (S := (fun W => W.cell? ⟨w.heap.size, 0, none⟩ = some (.bool n0) ∧ W.cell? ⟨w.heap.size, 1, none⟩ = some (.slice A0 xs.length c0) ∧ W.cell? ⟨w.heap.size + 1, 0, none⟩ = some (.bool n1) ∧ W.cell? ⟨w.heap.size + 1, 1, none⟩ = some (.slice A1 ys.length c1))) (ds := [4, 5]) #[false, false, false, false, false, false] (by kernel_rfl) rfl rfl (hT.cells) (fun hHeld => ?_)
  refine take_ (i := 0) (N := some 5) (v := ?_) (a' := ?_) #[true, false, false, false, false, false] rfl rfl (by kernel_rfl) (fun _ _ _ h => h) (Or.inl ⟨by rfl, ?_⟩) hHeld ?_ ?_
  rotate_left
  · rintro w' ⟨s0, s1, s2, s3⟩
    go_simp
    with_reducible rfl
  rotate_left
  · simp only [Act.put, List.setIfInBounds_toArray, List.set_cons_zero, List.set_cons_succ, i64_w, i32_w]
    rfl
  refine take_ (i := 2) (N := some 7) (v := ?_) (a' := ?_) #[true, false, true, false, false, false] rfl rfl (by kernel_rfl) (fun _ _ _ h => h) (Or.inl ⟨by rfl, ?_⟩) hHeld ?_ ?_
  rotate_left
  · rintro w' ⟨s0, s1, s2, s3⟩
    go_simp
    with_reducible rfl
  rotate_left
  · simp only [Act.put, List.setIfInBounds_toArray, List.set_cons_zero, List.set_cons_succ, i64_w, i32_w]
    rfl
  refine one_ (i := 1) (N := some 6) #[true, true, true, false, false, false] rfl rfl (by kernel_rfl) (by decide) (fun K hK => ?_)
  refine goes_ Tryd.func39 (by kernel_rfl) rfl #[.agg #[.bool n0, .slice A0 xs.length c0]] (by rfl) rfl rfl (by (try simp only [List.map_toArray, List.map_cons, List.map_nil]); first | done | rfl) ?_
  refine (Canon_v n0 A0 c0 xs _ (h0.below hT.be) (by omega) x HX.out.1).mono ?_
  rintro e w1 ⟨A3, c3, rfl, hQ, hb⟩
  refine ⟨_, rfl, ?_⟩
  replace hT := hT.below hb
  clear hb
  refine hK.out _ _ hT.cells (fun hHeld => ?_)
  refine norm_ (a' := ?_) ?_ ?_
  rotate_left
  · show Act.put _ (some 6) _ = _
    simp only [Act.put, List.setIfInBounds_toArray, List.set_cons_zero, List.set_cons_succ, i64_w, i32_w]
    rfl
  refine one_ (i := 3) (N := some 8) #[true, true, true, true, false, false] rfl rfl (by kernel_rfl) (by decide) (fun K hK => ?_)
  refine goes_ Tryd.func39 (by kernel_rfl) rfl #[.agg #[.bool n1, .slice A1 ys.length c1]] (by rfl) rfl rfl (by (try simp only [List.map_toArray, List.map_cons, List.map_nil]); first | done | rfl) ?_
  refine (Canon_v n1 A1 c1 ys _ (h1.below hT.be) (by omega) y HX.out.2).mono ?_
  rintro e w2 ⟨A4, c4, rfl, hR, hb⟩
  refine ⟨_, rfl, ?_⟩
  replace hT := hT.below hb
  replace hQ := hQ.below hb
  clear hb
  refine hK.out _ _ hT.cells (fun hHeld => ?_)
  refine norm_ (a' := ?_) ?_ ?_
  rotate_left
  · show Act.put _ (some 8) _ = _
    simp only [Act.put, List.setIfInBounds_toArray, List.set_cons_zero, List.set_cons_succ, i64_w, i32_w]
    rfl
  have hroom := hT.room
  have hcells := hT.cells
  refine last_ (i := 4) (N := none) #[true, true, true, true, true, false] rfl rfl (by kernel_rfl) (by decide) (fun K hK => ?_)
  refine skip_ (w1 := ?_) (by rfl) rfl ?_ ?_
  rotate_left
  · go_simp
    rfl
  refine hK.out _ _ ?_
  refine last_ (i := 5) (N := none) #[true, true, true, true, true, true] rfl rfl (by kernel_rfl) (by decide) (fun K hK => ?_)
  refine skip_ (w1 := ?_) (by rfl) rfl ?_ ?_
  rotate_left
  · go_simp
    rfl
  refine hK.out _ _ ?_
  refine done_ (by kernel_rfl) ?_
  have hQ2 := (hQ.boxed2 (n := ng x) (A1 := A3) (l1 := (mg x).length) (c1 := c3) hT.x).boxed2 (n := ng y) (A1 := A4) (l1 := (mg y).length) (c1 := c4) (hT.setx _ _).y
  have hR2 := (hR.boxed2 (n := ng x) (A1 := A3) (l1 := (mg x).length) (c1 := c3) hT.x).boxed2 (n := ng y) (A1 := A4) (l1 := (mg y).length) (c1 := c4) (hT.setx _ _).y
  replace hT := (hT.setx (.bool (ng x)) (.slice A3 (mg x).length c3)).sety (.bool (ng y)) (.slice A4 (mg y).length c4)
  clear hroom hcells
  generalize World.setCell _ _ _ = wz at hT hQ2 hR2 ⊢
  obtain ⟨x0, x1, y0, y1⟩ := hT.cells
  have BE := Aside0.mk hT.be
  cases hnx : ng x <;> cases hny : ng y
  · have hc := Aside0.mk (C.out.2.2.2 hnx hny)
    rw [hnx] at x0
    rw [hny] at y0
    clear hnx hny
    go_wp2_with (first | (go_at_call 60; (with_reducible refine (compareDigits_any A3 A4 c3 c4 (mg x) (mg y) _ hQ2 hR2 (by omega) (by omega) r hc.out).mono ?_); rintro e w3 ⟨rfl, hd⟩))
    go_ret
    exact ⟨rfl, keep_below hd.below BE.out⟩
  · have hc := C.out.2.1 hnx hny
    rw [hnx] at x0
    rw [hny] at y0
    clear hnx hny
    subst hc
    go_wp2
    go_ret
    exact ⟨rfl, BE.out⟩
  · have hc := C.out.1 hnx hny
    rw [hnx] at x0
    rw [hny] at y0
    clear hnx hny
    subst hc
    go_wp2
    go_ret
    exact ⟨rfl, BE.out⟩
  · have hc := Aside0.mk (C.out.2.2.1 hnx hny)
    rw [hnx] at x0
    rw [hny] at y0
    clear hnx hny
    go_wp2_with (first | (go_at_call 60; (with_reducible refine (compareDigits_any A4 A3 c4 c3 (mg y) (mg x) _ hR2 hQ2 (by omega) (by omega) r hc.out).mono ?_); rintro e w3 ⟨rfl, hd⟩))
    go_ret
    exact ⟨rfl, keep_below hd.below BE.out⟩
set_option maxRecDepth 100000 in
theorem Sign_ref (n0 : Bool) (A0 : Option Addr) (c0 : Nat) (xs : List Int) (w : World) (h0 : Rd w A0 c0 xs) (hl0 : xs.length ≤ 274877906944) (x r : Int) (hx : iv n0 xs = x) (hr : cmpZ x 0 = r) :
    Calls Tryd.prog 28 #[.agg #[.bool n0, .slice A0 xs.length c0]] w fun e w' => e = .returned (.int .i64 r) ∧ Below w.heap.size w w' := by
  have H := Aside0.mk (And.intro hx hr)
  have h2 : ∀ w1 : World, Below w.heap.size w w1 → Calls Tryd.prog 27 #[.agg #[.bool n0, .slice A0 xs.length c0], .agg #[.bool false, .slice none 0 0]] w1 fun e w' => e = .returned (.int .i64 r) ∧ Below w1.heap.size w1 w' := fun w1 hb => Compare_ref n0 false A0 none c0 0 xs [] w1 (h0.below hb) (Rd.nil _) hl0 (by simp) x 0 r hx (by simp [iv, val]) hr
  have H2 := Aside0.mk h2
  clear hx hr h2
  go_enter Tryd.func28, Tryd.ntmps28
  go_wp2_with (first | (go_at_call 27; generalize hwb : World.alloc _ _ = wb; have hT := Arg1.start w _ _ hwb; clear hwb; (with_reducible refine (H2.out _ hT.be).mono ?_); rintro e w1 ⟨rfl, hb⟩; replace hT := hT.below hb; clear hb))
  go_ret
  exact ⟨rfl, hT.be⟩
set_option maxRecDepth 100000 in
theorem Negate_ref (n0 : Bool) (A0 : Option Addr) (c0 : Nat) (xs : List Int) (w : World) (h0 : Rd w A0 c0 xs) (hl0 : xs.length ≤ 274877906944) (x z : Int) (hx : iv n0 xs = x) (hz : -x = z) :
    Calls Tryd.prog 30 #[.agg #[.bool n0, .slice A0 xs.length c0]] w fun e w' => Res e w w' z := by
  have E := Aside0.mk (show iv (!n0) xs = z by rw [iv_neg, hx, hz])
  clear hx hz
  go_enter Tryd.func30, Tryd.ntmps30
  go_wp2_with (first | (go_at_call 53; generalize hwb : World.alloc _ _ = wb; have hT := One.start w _ _ hwb; clear hwb; (with_reducible refine (Make_v (!n0) A0 c0 xs _ (h0.below hT.be) (by omega) z E.out).mono ?_); rintro e w1 ⟨A1, c1, rfl, hR, hb⟩; replace hT := hT.below hb; clear hb; have hroom := hT.room))
  exact bodyPost_ret (v := .agg #[.bool (ng z), .slice A1 (mg z).length c1]) (by simp [results, Tryd.results30, go_sem, hroom]) rfl (hT.res hR)
set_option maxRecDepth 100000 in
theorem Abs_ref (n0 : Bool) (A0 : Option Addr) (c0 : Nat) (xs : List Int) (w : World) (h0 : Rd w A0 c0 xs) (hl0 : xs.length ≤ 274877906944) (x z : Int) (hx : iv n0 xs = x) (hz : (x.natAbs : Int) = z) :
    Calls Tryd.prog 31 #[.agg #[.bool n0, .slice A0 xs.length c0]] w fun e w' => Res e w w' z := by
  have E := Aside0.mk (show iv false xs = z by rw [iv_abs n0 h0.dig, hx, hz])
  clear hx hz
  go_enter Tryd.func31, Tryd.ntmps31
  go_wp2_with (first | (go_at_call 53; generalize hwb : World.alloc _ _ = wb; have hT := One.start w _ _ hwb; clear hwb; (with_reducible refine (Make_v false A0 c0 xs _ (h0.below hT.be) (by omega) z E.out).mono ?_); rintro e w1 ⟨A1, c1, rfl, hR, hb⟩; replace hT := hT.below hb; clear hb; have hroom := hT.room))
  exact bodyPost_ret (v := .agg #[.bool (ng z), .slice A1 (mg z).length c1]) (by simp [results, Tryd.results31, go_sem, hroom]) rfl (hT.res hR)
end Go.Proofs.YtegnnghoiffmhaaDoor.Big
namespace Go.Proofs.YtegnnghoiffmhaaDoor.Big
open Go.RowKit Go.Proofs.YtegnnghoiffmhaaDoorW.PrintWords Go.Proofs.YtegnnghoiffmhaaDoorW.PrintLast
set_option linter.unusedVariables false
set_option linter.unusedSimpArgs false
attribute [local go_sem ↓] Go.wp_at_zero Go.wp_at_succ
set_option maxRecDepth 100000 in
theorem Mul_ref (n0 n1 : Bool) (A0 A1 : Option Addr) (c0 c1 : Nat) (xs ys : List Int) (w : World) (h0 : Rd w A0 c0 xs) (h1 : Rd w A1 c1 ys) (hl0 : xs.length ≤ 274877906943) (hl1 : ys.length ≤ 274877906943) (x y z : Int) (hx : iv n0 xs = x) (hy : iv n1 ys = y) (hz : x * y = z) :
    Calls Tryd.prog 34 #[.agg #[.bool n0, .slice A0 xs.length c0], .agg #[.bool n1, .slice A1 ys.length c1]] w fun e w' => Res e w w' z := by
  have E : ∀ zs : List Int, val zs = val xs * val ys → iv (!(n0 == n1)) zs = z := fun zs h => by rw [← hz, ← hx, ← hy]; exact iv_mul n0 n1 xs ys zs h
  have EE := Aside0.mk E
  clear hx hy hz E
  go_enter Tryd.func34, Tryd.ntmps34
  go_wp2
  generalize hwb : World.alloc _ _ = wb
  have hT := (Two.start w _ _ _ _ hwb).drew
  clear hwb
  go_region_held3 (fun w' => w'.cell? ⟨w.heap.size, 0, none⟩ = some (.bool n0) ∧ w'.cell? ⟨w.heap.size, 1, none⟩ = some (.slice A0 xs.length c0) ∧ w'.cell? ⟨w.heap.size + 1, 0, none⟩ = some (.bool n1) ∧ w'.cell? ⟨w.heap.size + 1, 1, none⟩ = some (.slice A1 ys.length c1))
      (first | with_reducible exact hT.cells | with_reducible exact ⟨hT.after _ _ _ _ (.inl rfl) hT.x.at0, hT.after _ _ _ _ (.inl rfl) hT.x.at1, hT.after _ _ _ _ (.inr rfl) hT.y.at0, hT.after _ _ _ _ (.inr rfl) hT.y.at1⟩)
      (first | (go_simp; go_at_call 64; (with_reducible refine (mulDigits_any A0 A1 c0 c1 xs ys _ (h0.below hT.be) (h1.below hT.be) (by omega) (by omega)).mono ?_); rintro e w1 ⟨A, c, zs, rfl, hR, hv, ht, hl, hb⟩; replace hT := hT.below hb; have HV := Aside0.mk (And.intro hv hl); clear hv hl ht hb) | (go_simp; go_at_call 53; (with_reducible refine (Make_v (!(n0 == n1)) A c zs _ hR (by have := HV.out.2; omega) z (EE.out zs HV.out.1)).mono ?_); rintro e w3 ⟨A', c', rfl, hR', hb⟩; replace hT := hT.below hb; have hroom := hT.room))
  go_wp2
  exact bodyPost_ret (v := .agg #[.bool (ng z), .slice A' (mg z).length c']) (by simp [results, Tryd.results34, go_sem, hroom]) rfl (hT.res hR')
set_option maxHeartbeats 4000000 in
set_option maxRecDepth 100000 in
theorem Add_ref (n0 n1 : Bool) (A0 A1 : Option Addr) (c0 c1 : Nat) (xs ys : List Int) (w : World) (h0 : Rd w A0 c0 xs) (h1 : Rd w A1 c1 ys) (hl0 : xs.length ≤ 274877906943) (hl1 : ys.length ≤ 274877906943) (x y z : Int) (hx : iv n0 xs = x) (hy : iv n1 ys = y) (hz : x + y = z) :
    Calls Tryd.prog 32 #[.agg #[.bool n0, .slice A0 xs.length c0], .agg #[.bool n1, .slice A1 ys.length c1]] w fun e w' => Res e w w' z := by
  go_enter Tryd.func32, Tryd.ntmps32
  by_cases hn : n0 = n1
  · subst hn
    have E : ∀ zs : List Int, val zs = val xs + val ys → iv n0 zs = z := fun zs h => by rw [← hz, ← hx, ← hy]; unfold iv; rw [h]; split <;> omega
    have EE := Aside0.mk E
    have hnn : (n0 == n0) = true := by simp
    clear hx hy hz E
    go_wp2
    generalize hwb : World.alloc _ _ = wb
    have hT := (Two.start w _ _ _ _ hwb).drew
    clear hwb
    go_region_held3 (fun w' => w'.cell? ⟨w.heap.size, 0, none⟩ = some (.bool n0) ∧ w'.cell? ⟨w.heap.size, 1, none⟩ = some (.slice A0 xs.length c0) ∧ w'.cell? ⟨w.heap.size + 1, 0, none⟩ = some (.bool n0) ∧ w'.cell? ⟨w.heap.size + 1, 1, none⟩ = some (.slice A1 ys.length c1))
      (first | with_reducible exact hT.cells | with_reducible exact ⟨hT.after _ _ _ _ (.inl rfl) hT.x.at0, hT.after _ _ _ _ (.inl rfl) hT.x.at1, hT.after _ _ _ _ (.inr rfl) hT.y.at0, hT.after _ _ _ _ (.inr rfl) hT.y.at1⟩)
      (first | (go_simp; go_at_call 61; (with_reducible refine (addDigits_any A0 A1 c0 c1 xs ys _ (h0.below hT.be) (h1.below hT.be) (by omega) (by omega)).mono ?_); rintro e w1 ⟨A, c, zs, rfl, hR, hv, ht, hl, hb⟩; replace hT := hT.below hb; have HV := Aside0.mk (And.intro hv hl); clear hv hl ht hb) | (go_simp; go_at_call 53; (with_reducible refine (Make_v n0 A c zs _ hR (by have := HV.out.2; omega) z (EE.out zs HV.out.1)).mono ?_); rintro e w3 ⟨A', c', rfl, hR', hb⟩; replace hT := hT.below hb; have hroom := hT.room))
    go_wp2
    exact bodyPost_ret (v := .agg #[.bool (ng z), .slice A' (mg z).length c']) (by simp [results, Tryd.results32, go_sem, hroom]) rfl (hT.res hR')
  · have hnn : (n0 == n1) = false := by rw [beq_eq_false_iff_ne]; exact hn
    have e := iv_ne hn xs ys
    rw [hx, hy, hz] at e
    have hn1 := Aside0.mk (show n1 = !n0 by cases n0 <;> cases n1 <;> simp_all)
    have L0 := trimL_len xs
    have L1 := trimL_len ys
    obtain ⟨r, hr⟩ : ∃ r, cmpZ (val xs) (val ys) = r := ⟨_, rfl⟩
    have HR := Aside0.mk hr
    by_cases hle : val ys ≤ val xs
    · have E : ∀ zs : List Int, val zs = val xs - val ys → iv n0 zs = z := fun zs h => by rw [e]; unfold iv; rw [h]; split <;> omega
      have EE := Aside0.mk E
      have hr0 : (0 : Int) ≤ r := by rw [← hr]; exact (cmpZ_nonneg _ _).2 hle
      have HL := Aside0.mk (And.intro (show (trimL ys).length ≤ xs.length by
        have h2 := len_of_val_le (xs := xs) (ys := trimL ys) h0.dig h1.trim.dig (trimL_trimL _) (by rw [val_trim]; exact hle)
        exact h2) (show val (trimL ys) ≤ val xs by rw [val_trim]; exact hle))
      clear hx hy hz E e hn hle hr
      go_wp2_with (first | (go_at_call 60; generalize hwb : World.alloc _ _ = wb; have hT := Two.start w _ _ _ _ hwb; clear hwb; (with_reducible refine (compareDigits_any A0 A1 c0 c1 xs ys _ (h0.below hT.be) (h1.below hT.be) (by omega) (by omega) r HR.out).mono ?_); rintro e w0 ⟨rfl, hd⟩; replace hT := hT.below hd.below; clear hd))
      replace hT := hT.drew
      go_region_held3 (fun w' => w'.cell? ⟨w.heap.size, 0, none⟩ = some (.bool n0) ∧ w'.cell? ⟨w.heap.size, 1, none⟩ = some (.slice A0 xs.length c0) ∧ w'.cell? ⟨w.heap.size + 1, 0, none⟩ = some (.bool n1) ∧ w'.cell? ⟨w.heap.size + 1, 1, none⟩ = some (.slice A1 ys.length c1))
      (first | with_reducible exact hT.cells | with_reducible exact ⟨hT.after _ _ _ _ (.inl rfl) hT.x.at0, hT.after _ _ _ _ (.inl rfl) hT.x.at1, hT.after _ _ _ _ (.inr rfl) hT.y.at0, hT.after _ _ _ _ (.inr rfl) hT.y.at1⟩)
      (first | (go_simp; go_at_call 63; (with_reducible refine (trim_any A1 c1 ys _ (h1.below hT.be) (by omega)).mono ?_); rintro e w0 ⟨rfl, rfl⟩) | (go_simp; go_at_call 62; (with_reducible refine (subDigits_any A0 A1 c0 c1 xs (trimL ys) _ (h0.below hT.be) (h1.trim.below hT.be) (by omega) HL.out.1 HL.out.2).mono ?_); rintro e w1 ⟨A, c, zs, rfl, hR, hv, ht, hl, hb⟩; replace hT := hT.below hb; have HV := Aside0.mk (And.intro hv hl); clear hv hl ht hb) | (go_simp; go_at_call 53; (with_reducible refine (Make_v n0 A c zs _ hR (by have := HV.out.2; omega) z (EE.out zs (by rw [HV.out.1, val_trim]))).mono ?_); rintro e w3 ⟨A', c', rfl, hR', hb⟩; replace hT := hT.below hb; have hroom := hT.room))
      go_wp2
      exact bodyPost_ret (v := .agg #[.bool (ng z), .slice A' (mg z).length c']) (by simp [results, Tryd.results32, go_sem, hroom]) rfl (hT.res hR')
    · have E : ∀ zs : List Int, val zs = val ys - val xs → iv n1 zs = z := fun zs h => by rw [e, hn1.out]; unfold iv; rw [h]; cases n0 <;> simp <;> omega
      have EE := Aside0.mk E
      have hr0 : ¬ (0 : Int) ≤ r := by rw [← hr]; intro h; exact hle ((cmpZ_nonneg _ _).1 h)
      have HL := Aside0.mk (And.intro (show (trimL xs).length ≤ ys.length by
        have h2 := len_of_val_le (xs := ys) (ys := trimL xs) h1.dig h0.trim.dig (trimL_trimL _) (by rw [val_trim]; omega)
        exact h2) (show val (trimL xs) ≤ val ys by rw [val_trim]; omega))
      clear hx hy hz E e hn hle hr
      go_wp2_with (first | (go_at_call 60; generalize hwb : World.alloc _ _ = wb; have hT := Two.start w _ _ _ _ hwb; clear hwb; (with_reducible refine (compareDigits_any A0 A1 c0 c1 xs ys _ (h0.below hT.be) (h1.below hT.be) (by omega) (by omega) r HR.out).mono ?_); rintro e w0 ⟨rfl, hd⟩; replace hT := hT.below hd.below; clear hd))
      replace hT := hT.drew
      go_region_held3 (fun w' => w'.cell? ⟨w.heap.size, 0, none⟩ = some (.bool n0) ∧ w'.cell? ⟨w.heap.size, 1, none⟩ = some (.slice A0 xs.length c0) ∧ w'.cell? ⟨w.heap.size + 1, 0, none⟩ = some (.bool n1) ∧ w'.cell? ⟨w.heap.size + 1, 1, none⟩ = some (.slice A1 ys.length c1))
      (first | with_reducible exact hT.cells | with_reducible exact ⟨hT.after _ _ _ _ (.inl rfl) hT.x.at0, hT.after _ _ _ _ (.inl rfl) hT.x.at1, hT.after _ _ _ _ (.inr rfl) hT.y.at0, hT.after _ _ _ _ (.inr rfl) hT.y.at1⟩)
      (first | (go_simp; go_at_call 63; (with_reducible refine (trim_any A0 c0 xs _ (h0.below hT.be) (by omega)).mono ?_); rintro e w0 ⟨rfl, rfl⟩) | (go_simp; go_at_call 62; (with_reducible refine (subDigits_any A1 A0 c1 c0 ys (trimL xs) _ (h1.below hT.be) (h0.trim.below hT.be) (by omega) HL.out.1 HL.out.2).mono ?_); rintro e w1 ⟨A, c, zs, rfl, hR, hv, ht, hl, hb⟩; replace hT := hT.below hb; have HV := Aside0.mk (And.intro hv hl); clear hv hl ht hb) | (go_simp; go_at_call 53; (with_reducible refine (Make_v n1 A c zs _ hR (by have := HV.out.2; omega) z (EE.out zs (by rw [HV.out.1, val_trim]))).mono ?_); rintro e w3 ⟨A', c', rfl, hR', hb⟩; replace hT := hT.below hb; have hroom := hT.room))
      go_wp2
      exact bodyPost_ret (v := .agg #[.bool (ng z), .slice A' (mg z).length c']) (by simp [results, Tryd.results32, go_sem, hroom]) rfl (hT.res hR')
set_option maxRecDepth 100000 in
theorem Sub_ref (n0 n1 : Bool) (A0 A1 : Option Addr) (c0 c1 : Nat) (xs ys : List Int) (w : World) (h0 : Rd w A0 c0 xs) (h1 : Rd w A1 c1 ys) (hl0 : xs.length ≤ 274877906943) (hl1 : ys.length ≤ 274877906943) (x y z : Int) (hx : iv n0 xs = x) (hy : iv n1 ys = y) (hz : x - y = z) :
    Calls Tryd.prog 33 #[.agg #[.bool n0, .slice A0 xs.length c0], .agg #[.bool n1, .slice A1 ys.length c1]] w fun e w' => Res e w w' z := by
  obtain ⟨my, hmy⟩ : ∃ m, -y = m := ⟨_, rfl⟩
  have EX := Aside0.mk (And.intro hx (And.intro hy (And.intro hmy (show x + my = z by omega))))
  have lm : (mg my).length ≤ 274877906943 := by rw [← hmy, mg_neg, ← hy]; exact Nat.le_trans (mg_iv_len n1 h1.dig) hl1
  clear hx hy hz hmy
  go_enter Tryd.func33, Tryd.ntmps33
  go_wp2
  generalize hwb : World.alloc _ _ = wb
  have hT := (Two.start w _ _ _ _ hwb).drew
  clear hwb
  go_region_held3 (fun w' => w'.cell? ⟨w.heap.size, 0, none⟩ = some (.bool n0) ∧ w'.cell? ⟨w.heap.size, 1, none⟩ = some (.slice A0 xs.length c0) ∧ w'.cell? ⟨w.heap.size + 1, 0, none⟩ = some (.bool n1) ∧ w'.cell? ⟨w.heap.size + 1, 1, none⟩ = some (.slice A1 ys.length c1))
      (first | with_reducible exact hT.cells | with_reducible exact ⟨hT.after _ _ _ _ (.inl rfl) hT.x.at0, hT.after _ _ _ _ (.inl rfl) hT.x.at1, hT.after _ _ _ _ (.inr rfl) hT.y.at0, hT.after _ _ _ _ (.inr rfl) hT.y.at1⟩)
      (first | (go_simp; go_at_call 30; (with_reducible refine (Negate_ref n1 A1 c1 ys _ (h1.below hT.be) (by omega) y my EX.out.2.1 EX.out.2.2.1).mono ?_); rintro e w1 ⟨A, c, rfl, hR, hb⟩; replace hT := hT.below hb; clear hb) | (go_simp; go_at_call 32; (with_reducible refine (Add_ref n0 (ng my) A0 A c0 c xs (mg my) _ (h0.below hT.be) hR (by omega) (by omega) x my z EX.out.1 (iv_canon _) EX.out.2.2.2).mono ?_); rintro e w3 ⟨A', c', rfl, hR', hb⟩; replace hT := hT.below hb; have hroom := hT.room))
  go_wp2
  exact bodyPost_ret (v := .agg #[.bool (ng z), .slice A' (mg z).length c']) (by simp [results, Tryd.results33, go_sem, hroom]) rfl (hT.res hR')
end Go.Proofs.YtegnnghoiffmhaaDoor.Big
namespace Go.Proofs.YtegnnghoiffmhaaDoor.Big
open Go.RowKit Go.Proofs.YtegnnghoiffmhaaDoorW.PrintWords Go.Proofs.YtegnnghoiffmhaaDoorW.PrintLast
set_option linter.unusedVariables false
set_option linter.unusedSimpArgs false
attribute [local go_sem ↓] Go.wp_at_zero Go.wp_at_succ
theorem Arg1.set {w w' : World} {a0 b0 : Value} (h : Arg1 w w' a0 b0) (u v : Value) : Arg1 w ((w'.setCell ⟨w.heap.size, 0, none⟩ u).setCell ⟨w.heap.size, 1, none⟩ v) u v :=
  ⟨(h.be.setCell (by simp) _).setCell (by simp) _, h.x.set u v⟩
theorem two_val (xs : List Int) (h : xs.length ≤ 2) : val xs = dg xs 0 + dg xs 1 * 4294967296 := by
  match xs, h with
  | [], _ => simp [val, dg]
  | [a], _ => simp [val, dg]
  | [a, b], _ => simp [val, dg]; omega
set_option maxHeartbeats 1000000 in
set_option maxRecDepth 100000 in
theorem ToInt64_ref (n : Bool) (A : Option Addr) (c : Nat) (xs : List Int) (w : World) (h : Rd w A c xs) (hl : xs.length ≤ 274877906944) (z : Int) (hz : iv n xs = z) :
    Calls Tryd.prog 23 #[.agg #[.bool n, .slice A xs.length c]] w fun e w' => e = .returned (.tuple #[.int .i64 (tiv z), .int .i64 (tie z)]) ∧ Below w.heap.size w w' := by
  have HZ := Aside0.mk hz
  have lz_ : (mg z).length ≤ 274877906944 := by rw [← hz]; exact Nat.le_trans (mg_iv_len n h.dig) hl
  have hlow := mg_lt z
  clear hz
  by_cases h2 : 2 < (mg z).length
  · have E := Aside0.mk (show tiv z = 0 ∧ tie z = 5 by
      have h3 := val_ge (mg z) (mg_dig z) (by have := canon_row (n := ng z) (mg_dig z); rw [iv_canon] at this; exact this.1) (by omega)
      rw [mg_val] at h3
      have h4 := pw_le (show 2 ≤ (mg z).length - 1 by omega)
      simp only [pw] at h4
      unfold tiv tie
      rw [if_neg (by omega), if_neg (by omega)]
      exact ⟨rfl, rfl⟩)
    have h2i : (2 : Int) < ((mg z).length : Int) := by omega
    clear hlow
    go_enter Tryd.func23, Tryd.ntmps23
    go_wp2_with (first | (go_at_call 39; generalize hwb : World.alloc _ _ = wb; have hT := Arg1.start w _ _ hwb; clear hwb; (with_reducible refine (Canon_v n A c xs _ (h.below hT.be) (by omega) z HZ.out).mono ?_); rintro e w1 ⟨A1, c1, rfl, hR, hb⟩; replace hT := hT.below hb; clear hb; have r0 := hT.x.at0; have r1 := hT.x.at1; have f0 := hT.x.free 0; have f1 := hT.x.free 1))
    go_ret2
    replace hT := hT.set (.bool (ng z)) (.slice A1 (mg z).length c1)
    exact ⟨by rw [E.out.1, E.out.2]; rfl, hT.be⟩
  · have h2i : ¬ (2 : Int) < ((mg z).length : Int) := by omega
    have dz := mg_dig z
    obtain ⟨d0, d1⟩ := dg_dig dz 0
    obtain ⟨f0_, f1_⟩ := dg_dig dz 1
    have hv := two_val (mg z) (by omega)
    rw [mg_val] at hv
    have ho := or64_lo (dg (mg z) 1) (dg (mg z) 0) ⟨f0_, f1_⟩ ⟨d0, d1⟩
    obtain ⟨V, hV⟩ : ∃ V, dg (mg z) 0 + dg (mg z) 1 * 4294967296 = V := ⟨_, rfl⟩
    rw [hV] at ho hv
    have hb0 : 0 ≤ V := by omega
    have hb2 : V < 18446744073709551616 := by omega
    have VZ := Aside0.mk (show V = z.natAbs by omega)
    clear hlow dz hv hV h2
    go_enter Tryd.func23, Tryd.ntmps23
    go_wp2_with (first | (go_at_call 39; generalize hwb : World.alloc _ _ = wb; have hT := Arg1.start w _ _ hwb; clear hwb; (with_reducible refine (Canon_v n A c xs _ (h.below hT.be) (by omega) z HZ.out).mono ?_); rintro e w1 ⟨A1, c1, rfl, hR, hb⟩; replace hT := hT.below hb; clear hb; have r0 := hT.x.at0; have r1 := hT.x.at1; have f0 := hT.x.free 0; have f1 := hT.x.free 1))
    have hR2 := (hR.boxed2 (n := ng z) (A1 := A1) (l1 := (mg z).length) (c1 := c1) hT.x).below (below_drew (Below.refl _ _))
    replace hT := (hT.set (.bool (ng z)) (.slice A1 (mg z).length c1)).drew
    clear r0 r1 f0 f1
    generalize World.setCell _ _ _ = wz at hT hR2 ⊢
    have k0 : Calls Tryd.prog 57 #[.slice A1 (mg z).length c1, .int .i64 0] wz.drew fun e w' => e = .returned (.int .u64 (dg (mg z) 0)) ∧ w' = wz.drew := digit_ref A1 c1 (mg z) 0 _ hR2 (by omega) (by omega)
    have k1 : Calls Tryd.prog 57 #[.slice A1 (mg z).length c1, .int .i64 1] wz.drew fun e w' => e = .returned (.int .u64 (dg (mg z) 1)) ∧ w' = wz.drew := digit_ref A1 c1 (mg z) 1 _ hR2 (by omega) (by omega)
    have K0 := Aside0.mk k0
    have K1 := Aside0.mk k1
    clear k0 k1
    go_region_held3 (fun w' => w'.cell? ⟨w.heap.size, 0, none⟩ = some (.bool (ng z)) ∧ w'.cell? ⟨w.heap.size, 1, none⟩ = some (.slice A1 (mg z).length c1))
      (exact hT.cells)
      (first | (go_simp; go_at_call 57; (with_reducible refine K0.out.mono ?_); rintro e w2 ⟨rfl, rfl⟩) | (go_simp; go_at_call 57; (with_reducible refine K1.out.mono ?_); rintro e w3 ⟨rfl, rfl⟩))
    have hwr : IntKind.u64.wrap (dg (mg z) 1 * 4294967296) = dg (mg z) 1 * 4294967296 := by rw [IntKind.wrap_u64]; omega
    rw [hwr, ho]
    obtain ⟨x0, x1⟩ := hT.cells
    have BE := Aside0.mk hT.be
    clear hwr ho d0 d1 f0_ f1_ K0 K1
    have NG := Aside0.mk (show (ng z = true ↔ z < 0) by unfold ng; simp)
    cases hn : ng z
    · rw [hn] at x0
      have HN := Aside0.mk (show 0 ≤ z by have := NG.out; rw [hn] at this; simp at this; exact this)
      by_cases hs : V < 9223372036854775808
      · have E := Aside0.mk (show tiv z = V ∧ tie z = 0 by have := HN.out; have := VZ.out; unfold tiv tie; rw [if_pos (by omega), if_pos (by omega)]; exact ⟨by omega, rfl⟩)
        go_wp2
        go_ret2
        exact ⟨by rw [E.out.1, E.out.2]; rfl, BE.out⟩
      · have E := Aside0.mk (show tiv z = 0 ∧ tie z = 5 by have := HN.out; have := VZ.out; unfold tiv tie; rw [if_neg (by omega), if_neg (by omega)]; exact ⟨rfl, rfl⟩)
        go_wp2
        go_ret2
        exact ⟨by rw [E.out.1, E.out.2]; rfl, BE.out⟩
    · rw [hn] at x0
      have HN := Aside0.mk (NG.out.1 hn)
      by_cases hs : V ≤ 9223372036854775808
      · have E := Aside0.mk (show tiv z = -V ∧ tie z = 0 by have := HN.out; have := VZ.out; unfold tiv tie; rw [if_pos (by omega), if_pos (by omega)]; exact ⟨by omega, rfl⟩)
        go_wp2
        go_ret2
        have hw := neg_wrap V hb0 hs
        refine ⟨?_, BE.out⟩
        show Ending.returned (.tuple #[.int .i64 (wrap64 (IntKind.u64.wrap (-V))), .int .i64 0]) = _
        rw [hw, E.out.1, E.out.2]
      · have E := Aside0.mk (show tiv z = 0 ∧ tie z = 5 by have := HN.out; have := VZ.out; unfold tiv tie; rw [if_neg (by omega), if_neg (by omega)]; exact ⟨rfl, rfl⟩)
        go_wp2
        go_ret2
        exact ⟨by rw [E.out.1, E.out.2]; rfl, BE.out⟩
end Go.Proofs.YtegnnghoiffmhaaDoor.Big
