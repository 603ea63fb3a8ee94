/- SameInt, same. -/
import Derived.Test.YtegnnghoiffmhaaDoorILight
namespace Go.Proofs.YtegnnghoiffmhaaDoor.Big
open Go.RowKit Go.Proofs.YtegnnghoiffmhaaDoorW.PrintWords Go.Proofs.YtegnnghoiffmhaaDoorW.PrintLast
set_option linter.unusedVariables false
set_option linter.unusedSimpArgs false
attribute [local go_sem ↓] Go.wp_at_zero Go.wp_at_succ
theorem take_next (xs ys : List Int) (i : Nat) (hx : i < xs.length) (hy : i < ys.length) (h : xs.take i = ys.take i) (e : dg xs i = dg ys i) : xs.take (i + 1) = ys.take (i + 1) := by
  rw [List.take_succ_eq_append_getElem hx, List.take_succ_eq_append_getElem hy, h]
  congr 2
  simpa [dg, List.getD_eq_getElem?_getD, hx, hy] using e
set_option maxRecDepth 100000 in
theorem SameInt_any (n0 n1 : Bool) (A0 A1 : Option Addr) (c0 c1 : Nat) (xs ys : List Int) (w : World) (h0 : Rd w A0 c0 xs) (h1 : Rd w A1 c1 ys) (hl0 : xs.length ≤ 274877906944) (hl1 : ys.length ≤ 274877906944) (b : Bool) (hb : decide (n0 = n1 ∧ xs = ys) = b) :
    Calls Tryd.prog 54 #[.agg #[.bool n0, .slice A0 xs.length c0], .agg #[.bool n1, .slice A1 ys.length c1]] w fun e w' => e = .returned (.bool b) ∧ Below w.heap.size w w' := by
  have H := Aside0.mk (And.intro h0 h1)
  have HB := Aside0.mk hb
  clear h0 h1 hb
  go_enter Tryd.func54, Tryd.ntmps54
  by_cases hn : n0 = n1
  · subst hn
    by_cases hl : xs.length = ys.length
    · have hll : ((xs.length : Int) == (ys.length : Int)) = true := by rw [hl]; simp
      have hnn : (n0 == n0) = true := by simp
      have HL := Aside0.mk hl
      clear hl
      go_wp2
      generalize hwb : World.alloc _ _ = wb
      have hT := Arg2.start w _ _ _ _ hwb
      clear hwb hnn hll
      have HT := Aside0.mk hT
      go_loopg [5] xs.length (fun kq v5 w' => ∃ i : Nat, v5 = .int .i64 i ∧ Aside0 (i + kq = xs.length ∧ xs.take i = ys.take i ∧ Arg2 w w' (.bool n0) (.slice A0 xs.length c0) (.bool n0) (.slice A1 ys.length c1)))
      case atStart => exact ⟨0, rfl, ⟨by omega, by simp, hT⟩⟩
      case round =>
        clear HT hT
        obtain ⟨i, rfl, HI⟩ := hrel
        have hT := HI.out.2.2
        obtain ⟨x0, x1, y0, y1⟩ := hT.cells
        by_cases hi : i < xs.length
        · obtain ⟨a0, rfl, z0⟩ := (H.out.1.below hT.be).at_ i hi
          obtain ⟨a1, rfl, z1⟩ := (H.out.2.below hT.be).at_ i (by have := HL.out; omega)
          have hi2 : i < ys.length := by have := HL.out; omega
          have hi3 : i < 274877906944 := by omega
          have hii : (i : Int) < (xs.length : Int) := by omega
          have hii2 : (i : Int) < (ys.length : Int) := by omega
          have hi0 : (0 : Int) ≤ (i : Int) := by omega
          have HT := Aside0.mk hT
          clear hT
          by_cases he : dg xs i = dg ys i
          · have hee : (dg xs i == dg ys i) = true := by rw [he]; simp
            have HE := Aside0.mk he
            clear he
            go_wp2
            go_quiet (fail)
            go_wp2
            go_roundg (gk - 1)
            case measure => have := HI.out; omega
            case rel => exact ⟨i + 1, by go_num, ⟨by have := HI.out; omega, take_next xs ys i hi hi2 HI.out.2.1 HE.out, HT.out.below (pw_below_drewN (Below.refl _ _) _)⟩⟩
          · have hee : (dg xs i == dg ys i) = false := by simp [he]
            have hbf : b = false := by
              rw [← HB.out]
              refine decide_eq_false ?_
              rintro ⟨_, e⟩
              exact he (by rw [e])
            clear he
            go_wp2
            go_quiet (fail)
            go_wp2
            go_ret
            exact ⟨by first | rfl | (rw [hbf]; rfl), pw_below_drewN HT.out.be _⟩
        · have hii : ¬ (i : Int) < (xs.length : Int) := by omega
          have hbt : b = true := by
            rw [← HB.out]
            refine decide_eq_true ⟨by simp, ?_⟩
            have h := HI.out.2.1
            rwa [List.take_of_length_le (by omega), List.take_of_length_le (by have := HL.out; omega)] at h
          have HT := Aside0.mk hT
          clear hT
          go_wp2
          go_ret
          exact ⟨by first | rfl | (rw [hbt]; rfl), HT.out.be⟩
    · have hll : ((xs.length : Int) == (ys.length : Int)) = false := by rw [beq_eq_false_iff_ne]; omega
      have hnn : (n0 == n0) = true := by simp
      have hbf : b = false := by
        rw [← HB.out]
        refine decide_eq_false ?_
        rintro ⟨_, e⟩
        exact hl (by rw [e])
      clear hl
      go_wp2
      generalize hwb : World.alloc _ _ = wb
      have hT := Arg2.start w _ _ _ _ hwb
      go_ret
      exact ⟨by first | rfl | (rw [hbf]; rfl), hT.be⟩
  · have hnn : (n0 == n1) = false := by rw [beq_eq_false_iff_ne]; exact hn
    have hbf : b = false := by
      rw [← HB.out]
      refine decide_eq_false ?_
      rintro ⟨e, _⟩
      exact hn e
    clear hn
    go_wp2
    generalize hwb : World.alloc _ _ = wb
    have hT := Arg2.start w _ _ _ _ hwb
    go_ret
    exact ⟨by first | rfl | (rw [hbf]; rfl), hT.be⟩
/-- On canonical integers. -/
theorem SameInt_z (x y : Int) (A0 A1 : Option Addr) (c0 c1 : Nat) (w : World) (h0 : Rd w A0 c0 (mg x)) (h1 : Rd w A1 c1 (mg y)) (hl0 : (mg x).length ≤ 274877906944) (hl1 : (mg y).length ≤ 274877906944) (b : Bool) (hb : decide (x = y) = b) :
    Calls Tryd.prog 54 #[.agg #[.bool (ng x), .slice A0 (mg x).length c0], .agg #[.bool (ng y), .slice A1 (mg y).length c1]] w fun e w' => e = .returned (.bool b) ∧ Below w.heap.size w w' := by
  refine SameInt_any (ng x) (ng y) A0 A1 c0 c1 _ _ w h0 h1 hl0 hl1 b ?_
  rw [← hb]
  congr 1
  refine propext ⟨fun h => ?_, fun h => by rw [h]; exact ⟨rfl, rfl⟩⟩
  rw [← iv_canon x, ← iv_canon y, h.1, h.2]
set_option maxRecDepth 100000 in
theorem same_any (n0 n1 : Bool) (A0 A1 : Option Addr) (c0 c1 : Nat) (xs ys : List Int) (w : World) (h0 : Rd w A0 c0 xs) (h1 : Rd w A1 c1 ys) (hl0 : xs.length ≤ 274877906944) (hl1 : ys.length ≤ 274877906944) (b : Bool) (hb : decide (n0 = n1 ∧ xs = ys) = b) :
    Calls Tryd.prog 16 #[.agg #[.bool n0, .slice A0 xs.length c0], .agg #[.bool n1, .slice A1 ys.length c1]] w fun e w' => e = .returned (.bool b) ∧ Below w.heap.size w w' := by
  have HB := Aside0.mk hb
  clear hb
  go_enter Tryd.func16, Tryd.ntmps16
  go_wp2_with (first | (go_at_call 54; generalize hwb : World.alloc _ _ = wb; have hT := Arg2.start w _ _ _ _ hwb; clear hwb; (with_reducible refine (SameInt_any n0 n1 A0 A1 c0 c1 xs ys _ (h0.below hT.be) (h1.below hT.be) (by omega) (by omega) b HB.out).mono ?_); rintro e w1 ⟨rfl, hb⟩; replace hT := hT.below hb; clear hb))
  go_ret
  exact ⟨rfl, hT.be⟩
/-- An integer is the same as itself. -/
theorem same_z (x : Int) (A0 A1 : Option Addr) (c0 c1 : Nat) (w : World) (h0 : Rd w A0 c0 (mg x)) (h1 : Rd w A1 c1 (mg x)) (hl0 : (mg x).length ≤ 274877906944) :
    Calls Tryd.prog 16 #[.agg #[.bool (ng x), .slice A0 (mg x).length c0], .agg #[.bool (ng x), .slice A1 (mg x).length c1]] w fun e w' => e = .returned (.bool true) ∧ Below w.heap.size w w' :=
  same_any (ng x) (ng x) A0 A1 c0 c1 _ _ w h0 h1 hl0 hl0 true (by simp)
end Go.Proofs.YtegnnghoiffmhaaDoor.Big
