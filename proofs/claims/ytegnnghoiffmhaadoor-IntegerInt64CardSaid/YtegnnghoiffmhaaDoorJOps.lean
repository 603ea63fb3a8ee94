/- The reference: FromInt64, Compare, Sign, Negate, Abs, Add, Sub, Mul. -/
import Derived.Test.YtegnnghoiffmhaaDoorJMul
import Derived.Test.YtegnnghoiffmhaaDoorIOps2
import Derived.Test.YtegnnghoiffmhaaDoorWLast
import Derived.Deep.RegionHeld3
import Derived.Deep.DrawnRows
namespace Go.Proofs.YtegnnghoiffmhaaDoor.Big
open Go.RowKit Go.Proofs.YtegnnghoiffmhaaDoorW.PrintWords Go.Proofs.YtegnnghoiffmhaaDoorW.PrintLast
set_option linter.unusedVariables false
set_option linter.unusedSimpArgs false
attribute [local go_sem ↓] Go.wp_at_zero Go.wp_at_succ
theorem make_two (n : Bool) (A : Option Addr) (c : Nat) (a b : Int) (w : World) (h : Rd w A c [a, b]) : Calls Tryd.prog 53 #[.bool n, .slice A 2 c] w fun e w' => Res e w w' (iv n [a, b]) := Make_any n A c [a, b] w h (by simp)
set_option maxRecDepth 100000 in
/-- A row that the call made: two digits. -/
theorem FromInt64_ref (n : Int) (w : World) (h0 : -9223372036854775808 ≤ n) (h1 : n ≤ 9223372036854775807) :
    Calls Tryd.prog 24 #[.int .i64 n] w fun e w' => Res e w w' n := by
  by_cases hn : n < 0
  · have e1 : IntKind.u64.wrap n = n + 18446744073709551616 := by rw [IntKind.wrap_u64]; omega
    have e2 : IntKind.u64.wrap (-(n + 18446744073709551616)) = -n := by rw [IntKind.wrap_u64]; omega
    have e3 : (-n) / 4294967296 % 4294967296 = (-n) / 4294967296 := by omega
    have EV := Aside0.mk (from_val n (-n) true (by omega) (by omega) (by simp))
    clear h0 h1
    go_enter Tryd.func24, Tryd.ntmps24
    go_wp2_with (first | (go_at_call 53; generalize hwb : World.alloc (World.alloc _ _) _ = wb; have hT := lit_start w _ _ EV.out.1 EV.out.2.1 hwb; clear hwb; obtain ⟨hbe, hbr, hR⟩ := hT; (with_reducible refine (make_two true _ 2 ((-n) % 4294967296) ((-n) / 4294967296) _ hR).mono ?_); rintro e w3 ⟨A', c', rfl, hR', hb⟩; have hB := keep_below hb hbe; replace hbr := hbr.below hb; have r0 := hbr.at0; have r1 := hbr.at1; have f0 := hbr.free 0; have f1 := hbr.free 1))
    rw [EV.out.2.2] at hR' ⊢
    exact bodyPost_ret (v := .agg #[.bool (ng n), .slice A' (mg n).length c']) (by simp [results, Tryd.results24, go_sem, r0, r1, f0, f1]) rfl ⟨A', c', rfl, hR'.boxed hbr.blk, (hB.setCell (by simp) _).setCell (by simp) _⟩
  · have e1 : IntKind.u64.wrap n = n := by rw [IntKind.wrap_u64]; omega
    have e3 : (n) / 4294967296 % 4294967296 = (n) / 4294967296 := by omega
    have EV := Aside0.mk (from_val n (n) false (by omega) (by omega) (by simp))
    clear h0 h1
    go_enter Tryd.func24, Tryd.ntmps24
    go_wp2_with (first | (go_at_call 53; generalize hwb : World.alloc (World.alloc _ _) _ = wb; have hT := lit_start w _ _ EV.out.1 EV.out.2.1 hwb; clear hwb; obtain ⟨hbe, hbr, hR⟩ := hT; (with_reducible refine (make_two false _ 2 ((n) % 4294967296) ((n) / 4294967296) _ hR).mono ?_); rintro e w3 ⟨A', c', rfl, hR', hb⟩; have hB := keep_below hb hbe; replace hbr := hbr.below hb; have r0 := hbr.at0; have r1 := hbr.at1; have f0 := hbr.free 0; have f1 := hbr.free 1))
    rw [EV.out.2.2] at hR' ⊢
    exact bodyPost_ret (v := .agg #[.bool (ng n), .slice A' (mg n).length c']) (by simp [results, Tryd.results24, go_sem, r0, r1, f0, f1]) rfl ⟨A', c', rfl, hR'.boxed hbr.blk, (hB.setCell (by simp) _).setCell (by simp) _⟩
theorem Arg2.setx {w w' : World} {a0 b0 a1 b1 : Value} (h : Arg2 w w' a0 b0 a1 b1) (u v : Value) : Arg2 w ((w'.setCell ⟨w.heap.size, 0, none⟩ u).setCell ⟨w.heap.size, 1, none⟩ v) u v a1 b1 :=
  ⟨(h.be.setCell (by simp) _).setCell (by simp) _, h.x.set u v, (h.y.put (by omega) _).put (by omega) _⟩
theorem Arg2.sety {w w' : World} {a0 b0 a1 b1 : Value} (h : Arg2 w w' a0 b0 a1 b1) (u v : Value) : Arg2 w ((w'.setCell ⟨w.heap.size + 1, 0, none⟩ u).setCell ⟨w.heap.size + 1, 1, none⟩ v) a0 b0 u v :=
  ⟨(h.be.setCell (by simp) _).setCell (by simp) _, (h.x.put (by omega) _).put (by omega) _, h.y.set u v⟩
theorem Arg2.room {w w' : World} {a0 b0 a1 b1 : Value} (h : Arg2 w w' a0 b0 a1 b1) : (w'.frozen? ⟨w.heap.size, 0, none⟩ = false ∧ w'.frozen? ⟨w.heap.size, 1, none⟩ = false) ∧ w'.frozen? ⟨w.heap.size + 1, 0, none⟩ = false ∧ w'.frozen? ⟨w.heap.size + 1, 1, none⟩ = false := ⟨⟨h.x.free 0, h.x.free 1⟩, h.y.free 0, h.y.free 1⟩
theorem cmp_ng (x y r : Int) (hr : cmpZ x y = r) : (ng x = true → ng y = false → r = -1) ∧ (ng x = false → ng y = true → r = 1) ∧ (ng x = true → ng y = true → cmpZ (val (mg y)) (val (mg x)) = r) ∧ (ng x = false → ng y = false → cmpZ (val (mg x)) (val (mg y)) = r) := by
  subst hr
  rw [mg_val, mg_val]
  unfold ng cmpZ
  simp only [decide_eq_true_eq, decide_eq_false_iff_not]
  refine ⟨fun h1 h2 => ?_, fun h1 h2 => ?_, fun h1 h2 => ?_, fun h1 h2 => ?_⟩ <;> (repeat' split) <;> omega
set_option maxHeartbeats 4000000 in
set_option maxRecDepth 100000 in
theorem Compare_ref (n0 n1 : Bool) (A0 A1 : Option Addr) (c0 c1 : Nat) (xs ys : List Int) (w : World) (h0 : Rd w A0 c0 xs) (h1 : Rd w A1 c1 ys) (hl0 : xs.length ≤ 274877906944) (hl1 : ys.length ≤ 274877906944) (x y r : Int) (hx : iv n0 xs = x) (hy : iv n1 ys = y) (hr : cmpZ x y = r) :
    Calls Tryd.prog 27 #[.agg #[.bool n0, .slice A0 xs.length c0], .agg #[.bool n1, .slice A1 ys.length c1]] w fun e w' => e = .returned (.int .i64 r) ∧ Below w.heap.size w w' := by
  have HX := Aside0.mk (And.intro hx hy)
  have C := Aside0.mk (cmp_ng x y r hr)
  have lx : (mg x).length ≤ 274877906944 := by rw [← hx]; exact Nat.le_trans (mg_iv_len n0 h0.dig) hl0
  have ly : (mg y).length ≤ 274877906944 := by rw [← hy]; exact Nat.le_trans (mg_iv_len n1 h1.dig) hl1
  clear hx hy hr
  go_enter Tryd.func27, Tryd.ntmps27
  go_wp2
  generalize hwb : World.alloc _ _ = wb
  have hT := (Arg2.start w _ _ _ _ hwb).drew
  clear hwb
  refine start_ (n := 6) (S := (fun W => W.cell? ⟨w.heap.size, 0, none⟩ = some (.bool n0) ∧ W.cell? ⟨w.heap.size, 1, none⟩ = some (.slice A0 xs.length c0) ∧ W.cell? ⟨w.heap.size + 1, 0, none⟩ = some (.bool n1) ∧ W.cell? ⟨w.heap.size + 1, 1, none⟩ = some (.slice A1 ys.length c1))) (ds := [4, 5]) #[false, false, false, false, false, false] (by kernel_rfl) rfl rfl (hT.cells) (fun hHeld => ?_)
  refine take_ (i := 0) (N := some 5) (v := ?_) (a' := ?_) #[true, false, false, false, false, false] rfl rfl (by kernel_rfl) (fun _ _ _ h => h) (Or.inl ⟨by rfl, ?_⟩) hHeld ?_ ?_
  rotate_left
  · rintro w' ⟨s0, s1, s2, s3⟩
    go_simp
    with_reducible rfl
  rotate_left
  · simp only [Act.put, List.setIfInBounds_toArray, List.set_cons_zero, List.set_cons_succ, i64_w, i32_w]
    rfl
  refine take_ (i := 2) (N := some 7) (v := ?_) (a' := ?_) #[true, false, true, false, false, false] rfl rfl (by kernel_rfl) (fun _ _ _ h => h) (Or.inl ⟨by rfl, ?_⟩) hHeld ?_ ?_
  rotate_left
  · rintro w' ⟨s0, s1, s2, s3⟩
    go_simp
    with_reducible rfl
  rotate_left
  · simp only [Act.put, List.setIfInBounds_toArray, List.set_cons_zero, List.set_cons_succ, i64_w, i32_w]
    rfl
  refine one_ (i := 1) (N := some 6) #[true, true, true, false, false, false] rfl rfl (by kernel_rfl) (by decide) (fun K hK => ?_)
  refine goes_ Tryd.func39 (by kernel_rfl) rfl #[.agg #[.bool n0, .slice A0 xs.length c0]] (by rfl) rfl rfl (by (try simp only [List.map_toArray, List.map_cons, List.map_nil]); first | done | rfl) ?_
  refine (Canon_v n0 A0 c0 xs _ (h0.below hT.be) (by omega) x HX.out.1).mono ?_
  rintro e w1 ⟨A3, c3, rfl, hQ, hb⟩
  refine ⟨_, rfl, ?_⟩
  replace hT := hT.below hb
  clear hb
  refine hK.out _ _ hT.cells (fun hHeld => ?_)
  refine norm_ (a' := ?_) ?_ ?_
  rotate_left
  · show Act.put _ (some 6) _ = _
    simp only [Act.put, List.setIfInBounds_toArray, List.set_cons_zero, List.set_cons_succ, i64_w, i32_w]
    rfl
  refine one_ (i := 3) (N := some 8) #[true, true, true, true, false, false] rfl rfl (by kernel_rfl) (by decide) (fun K hK => ?_)
  refine goes_ Tryd.func39 (by kernel_rfl) rfl #[.agg #[.bool n1, .slice A1 ys.length c1]] (by rfl) rfl rfl (by (try simp only [List.map_toArray, List.map_cons, List.map_nil]); first | done | rfl) ?_
  refine (Canon_v n1 A1 c1 ys _ (h1.below hT.be) (by omega) y HX.out.2).mono ?_
  rintro e w2 ⟨A4, c4, rfl, hR, hb⟩
  refine ⟨_, rfl, ?_⟩
  replace hT := hT.below hb
  replace hQ := hQ.below hb
  clear hb
  refine hK.out _ _ hT.cells (fun hHeld => ?_)
  refine norm_ (a' := ?_) ?_ ?_
  rotate_left
  · show Act.put _ (some 8) _ = _
    simp only [Act.put, List.setIfInBounds_toArray, List.set_cons_zero, List.set_cons_succ, i64_w, i32_w]
    rfl
  have hroom := hT.room
  have hcells := hT.cells
  refine last_ (i := 4) (N := none) #[true, true, true, true, true, false] rfl rfl (by kernel_rfl) (by decide) (fun K hK => ?_)
  refine skip_ (w1 := ?_) (by rfl) rfl ?_ ?_
  rotate_left
  · go_simp
    rfl
  refine hK.out _ _ ?_
  refine last_ (i := 5) (N := none) #[true, true, true, true, true, true] rfl rfl (by kernel_rfl) (by decide) (fun K hK => ?_)
  refine skip_ (w1 := ?_) (by rfl) rfl ?_ ?_
  rotate_left
  · go_simp
    rfl
  refine hK.out _ _ ?_
  refine done_ (by kernel_rfl) ?_
  have hQ2 := (hQ.boxed2 (n := ng x) (A1 := A3) (l1 := (mg x).length) (c1 := c3) hT.x).boxed2 (n := ng y) (A1 := A4) (l1 := (mg y).length) (c1 := c4) (hT.setx _ _).y
  have hR2 := (hR.boxed2 (n := ng x) (A1 := A3) (l1 := (mg x).length) (c1 := c3) hT.x).boxed2 (n := ng y) (A1 := A4) (l1 := (mg y).length) (c1 := c4) (hT.setx _ _).y
  replace hT := (hT.setx (.bool (ng x)) (.slice A3 (mg x).length c3)).sety (.bool (ng y)) (.slice A4 (mg y).length c4)
  clear hroom hcells
  generalize World.setCell _ _ _ = wz at hT hQ2 hR2 ⊢
  obtain ⟨x0, x1, y0, y1⟩ := hT.cells
  have BE := Aside0.mk hT.be
  cases hnx : ng x <;> cases hny : ng y
  · have hc := Aside0.mk (C.out.2.2.2 hnx hny)
    rw [hnx] at x0
    rw [hny] at y0
    clear hnx hny
    go_wp2_with (first | (go_at_call 60; (with_reducible refine (compareDigits_any A3 A4 c3 c4 (mg x) (mg y) _ hQ2 hR2 (by omega) (by omega) r hc.out).mono ?_); rintro e w3 ⟨rfl, hd⟩))
    go_ret
    exact ⟨rfl, keep_below hd.below BE.out⟩
  · have hc := C.out.2.1 hnx hny
    rw [hnx] at x0
    rw [hny] at y0
    clear hnx hny
    subst hc
    go_wp2
    go_ret
    exact ⟨rfl, BE.out⟩
  · have hc := C.out.1 hnx hny
    rw [hnx] at x0
    rw [hny] at y0
    clear hnx hny
    subst hc
    go_wp2
    go_ret
    exact ⟨rfl, BE.out⟩
  · have hc := Aside0.mk (C.out.2.2.1 hnx hny)
    rw [hnx] at x0
    rw [hny] at y0
    clear hnx hny
    go_wp2_with (first | (go_at_call 60; (with_reducible refine (compareDigits_any A4 A3 c4 c3 (mg y) (mg x) _ hR2 hQ2 (by omega) (by omega) r hc.out).mono ?_); rintro e w3 ⟨rfl, hd⟩))
    go_ret
    exact ⟨rfl, keep_below hd.below BE.out⟩
set_option maxRecDepth 100000 in
theorem Sign_ref (n0 : Bool) (A0 : Option Addr) (c0 : Nat) (xs : List Int) (w : World) (h0 : Rd w A0 c0 xs) (hl0 : xs.length ≤ 274877906944) (x r : Int) (hx : iv n0 xs = x) (hr : cmpZ x 0 = r) :
    Calls Tryd.prog 28 #[.agg #[.bool n0, .slice A0 xs.length c0]] w fun e w' => e = .returned (.int .i64 r) ∧ Below w.heap.size w w' := by
  have H := Aside0.mk (And.intro hx hr)
  have h2 : ∀ w1 : World, Below w.heap.size w w1 → Calls Tryd.prog 27 #[.agg #[.bool n0, .slice A0 xs.length c0], .agg #[.bool false, .slice none 0 0]] w1 fun e w' => e = .returned (.int .i64 r) ∧ Below w1.heap.size w1 w' := fun w1 hb => Compare_ref n0 false A0 none c0 0 xs [] w1 (h0.below hb) (Rd.nil _) hl0 (by simp) x 0 r hx (by simp [iv, val]) hr
  have H2 := Aside0.mk h2
  clear hx hr h2
  go_enter Tryd.func28, Tryd.ntmps28
  go_wp2_with (first | (go_at_call 27; generalize hwb : World.alloc _ _ = wb; have hT := Arg1.start w _ _ hwb; clear hwb; (with_reducible refine (H2.out _ hT.be).mono ?_); rintro e w1 ⟨rfl, hb⟩; replace hT := hT.below hb; clear hb))
  go_ret
  exact ⟨rfl, hT.be⟩
set_option maxRecDepth 100000 in
theorem Negate_ref (n0 : Bool) (A0 : Option Addr) (c0 : Nat) (xs : List Int) (w : World) (h0 : Rd w A0 c0 xs) (hl0 : xs.length ≤ 274877906944) (x z : Int) (hx : iv n0 xs = x) (hz : -x = z) :
    Calls Tryd.prog 30 #[.agg #[.bool n0, .slice A0 xs.length c0]] w fun e w' => Res e w w' z := by
  have E := Aside0.mk (show iv (!n0) xs = z by rw [iv_neg, hx, hz])
  clear hx hz
  go_enter Tryd.func30, Tryd.ntmps30
  go_wp2_with (first | (go_at_call 53; generalize hwb : World.alloc _ _ = wb; have hT := One.start w _ _ hwb; clear hwb; (with_reducible refine (Make_v (!n0) A0 c0 xs _ (h0.below hT.be) (by omega) z E.out).mono ?_); rintro e w1 ⟨A1, c1, rfl, hR, hb⟩; replace hT := hT.below hb; clear hb; have hroom := hT.room))
  exact bodyPost_ret (v := .agg #[.bool (ng z), .slice A1 (mg z).length c1]) (by simp [results, Tryd.results30, go_sem, hroom]) rfl (hT.res hR)
set_option maxRecDepth 100000 in
theorem Abs_ref (n0 : Bool) (A0 : Option Addr) (c0 : Nat) (xs : List Int) (w : World) (h0 : Rd w A0 c0 xs) (hl0 : xs.length ≤ 274877906944) (x z : Int) (hx : iv n0 xs = x) (hz : (x.natAbs : Int) = z) :
    Calls Tryd.prog 31 #[.agg #[.bool n0, .slice A0 xs.length c0]] w fun e w' => Res e w w' z := by
  have E := Aside0.mk (show iv false xs = z by rw [iv_abs n0 h0.dig, hx, hz])
  clear hx hz
  go_enter Tryd.func31, Tryd.ntmps31
  go_wp2_with (first | (go_at_call 53; generalize hwb : World.alloc _ _ = wb; have hT := One.start w _ _ hwb; clear hwb; (with_reducible refine (Make_v false A0 c0 xs _ (h0.below hT.be) (by omega) z E.out).mono ?_); rintro e w1 ⟨A1, c1, rfl, hR, hb⟩; replace hT := hT.below hb; clear hb; have hroom := hT.room))
  exact bodyPost_ret (v := .agg #[.bool (ng z), .slice A1 (mg z).length c1]) (by simp [results, Tryd.results31, go_sem, hroom]) rfl (hT.res hR)
end Go.Proofs.YtegnnghoiffmhaaDoor.Big
