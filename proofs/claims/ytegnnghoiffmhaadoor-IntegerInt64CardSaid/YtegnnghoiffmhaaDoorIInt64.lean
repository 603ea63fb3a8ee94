/- integer.ToInt64. -/
import Derived.Test.YtegnnghoiffmhaaDoorIKeep
import Derived.Test.YtegnnghoiffmhaaDoorIShrunk
namespace Go.Proofs.YtegnnghoiffmhaaDoor.Big
open Go.RowKit Go.Proofs.YtegnnghoiffmhaaDoorW.PrintWords Go.Proofs.YtegnnghoiffmhaaDoorW.PrintLast
set_option linter.unusedVariables false
set_option linter.unusedSimpArgs false
attribute [local go_sem ↓] Go.wp_at_zero Go.wp_at_succ
/-- What ToInt64 hands back: the number and 0, or 0 and ErrRange. -/
def tiv (z : Int) : Int := if -9223372036854775808 ≤ z ∧ z ≤ 9223372036854775807 then z else 0
def tie (z : Int) : Int := if -9223372036854775808 ≤ z ∧ z ≤ 9223372036854775807 then 0 else 5
set_option maxRecDepth 100000 in
theorem ToInt64_long (n : Bool) (A : Option Addr) (c : Nat) (xs : List Int) (w : World) (h : Rd w A c xs) (hl : xs.length ≤ 274877906944) (h2 : 2 < (trimL xs).length) :
    Calls Tryd.prog 22 #[.agg #[.bool n, .slice A xs.length c]] w fun e w' => e = .returned (.tuple #[.int .i64 (tiv (iv n xs)), .int .i64 (tie (iv n xs))]) ∧ Below w.heap.size w w' := by
  have hv : 18446744073709551616 ≤ val xs := by
    have h3 := val_ge (trimL xs) h.trim.dig (trimL_trimL _) (by omega)
    rw [val_trim] at h3
    have h4 := pw_le (show 2 ≤ (trimL xs).length - 1 by omega)
    simp only [pw] at h4
    omega
  have E := Aside0.mk (show tiv (iv n xs) = 0 ∧ tie (iv n xs) = 5 by unfold tiv tie iv; cases n <;> simp <;> omega)
  clear hv
  go_enter Tryd.func22, Tryd.ntmps22
  go_wp2_with (first | (go_at_call 50; generalize hwb : World.alloc _ _ = wb; have hT := Arg1.start w _ _ hwb; clear hwb; (with_reducible refine (magnitude_any n A c xs _ (h.below hT.be) (by omega)).mono ?_); rintro e w1 ⟨rfl, hb⟩; replace hT := hT.below hb; clear hb))
  go_ret2
  exact ⟨by rw [E.out.1, E.out.2]; rfl, hT.be⟩
theorem neg_wrap (V : Int) (h0 : 0 ≤ V) (h1 : V ≤ 9223372036854775808) : wrap64 (IntKind.u64.wrap (-V)) = -V := by rw [IntKind.wrap_u64]; unfold wrap64; omega
theorem or64_zero (x : Int) (hx : 0 ≤ x ∧ x ≤ 4294967295) : bits .or .u64 0 x = x := by
  have h := or64_hi 0 x (by omega) hx
  simpa using h
set_option maxHeartbeats 1000000 in
set_option maxRecDepth 100000 in
theorem ToInt64_short (n : Bool) (A : Option Addr) (c : Nat) (xs : List Int) (w : World) (h : Rd w A c xs) (hl : xs.length ≤ 274877906944) (h2 : (trimL xs).length ≤ 2) :
    Calls Tryd.prog 22 #[.agg #[.bool n, .slice A xs.length c]] w fun e w' => e = .returned (.tuple #[.int .i64 (tiv (iv n xs)), .int .i64 (tie (iv n xs))]) ∧ Below w.heap.size w w' := by
  obtain ⟨ts, hts⟩ : ∃ t, trimL xs = t := ⟨_, rfl⟩
  have hmag : ∀ w1, Below w.heap.size w w1 → Calls Tryd.prog 50 #[.agg #[.bool n, .slice A xs.length c]] w1 fun e w' => e = .returned (.slice A ts.length c) ∧ Below w1.heap.size w1 w' := by
    intro w1 hb
    have h := magnitude_any n A c xs w1 (h.below hb) (by omega)
    rw [hts] at h
    exact h
  have HM := Aside0.mk hmag
  have hR : Rd w A c ts := hts ▸ h.trim
  have hvt : val ts = val xs := by rw [← hts, val_trim]
  have HR := Aside0.mk (And.intro hR hvt)
  rw [hts] at h2
  clear hmag hts hvt hR
  go_enter Tryd.func22, Tryd.ntmps22
  go_wp2_with (first | (go_at_call 50; generalize hwb : World.alloc _ _ = wb; have hT := Arg1.start w _ _ hwb; clear hwb; (with_reducible refine (HM.out _ hT.be).mono ?_); rintro e w1 ⟨rfl, hb⟩; replace hT := hT.below hb; clear hb))
  have BX := Aside0.mk hT
  obtain ⟨b0, b1⟩ := hT.cells
  clear hT
  go_loopg [5, 6, 7, 15] ts.length (fun kq v5 v6 v7 v15 w' => ∃ i : Nat, v5 = .int .u64 (val (ts.take i)) ∧ v15 = .int .i64 i ∧ Aside0 (i + kq = ts.length) ∧ w' = w1)
  case atStart => exact ⟨0, by simp [val], rfl, ⟨by omega⟩, rfl⟩
  case round =>
    obtain ⟨i, rfl, rfl, HI, rfl⟩ := hrel
    by_cases hi : i < ts.length
    · obtain ⟨ad, rfl, x0⟩ := (HR.out.1.below BX.out.be).at_ i hi
      obtain ⟨d0, d1⟩ := dg_dig HR.out.1.dig i
      have hcap : ts.length ≤ c := HR.out.1.le
      rcases (show i = 0 ∨ i = 1 by omega) with rfl | rfl
      · have x1 : wr.cell? ad = some (.int .u32 (dg ts 0)) := x0
        have hu : val (ts.take 0) = 0 := by simp [val]
        have ho := or64_zero (dg ts 0) ⟨d0, d1⟩
        rw [hu]
        go_wp2
        go_roundg (gk - 1)
        case measure => have := HI.out; omega
        case rel => exact ⟨1, by rw [val_take ts 0]; simp [val, pw], rfl, ⟨by have := HI.out; omega⟩, rfl⟩
      · have x1 : wr.cell? ⟨ad.block, ad.off + 1, none⟩ = some (.int .u32 (dg ts 1)) := x0
        have hu : val (ts.take 1) = dg ts 0 := by rw [val_take ts 0]; simp [val, pw]
        obtain ⟨f0, f1⟩ := dg_dig HR.out.1.dig 0
        have ho := or64_lo (dg ts 1) (dg ts 0) ⟨d0, d1⟩ ⟨f0, f1⟩
        rw [hu]
        go_wp2
        go_roundg (gk - 1)
        case measure => have := HI.out; omega
        case rel => exact ⟨2, by rw [val_take ts 1, hu]; simp only [pw]; go_num, rfl, ⟨by have := HI.out; omega⟩, rfl⟩
    · have hv : val (ts.take i) = val xs := by rw [List.take_of_length_le (by omega)]; exact HR.out.2
      have hb := val_bounds ts HR.out.1.dig
      have hp := pw_le (show ts.length ≤ 2 by omega)
      simp only [pw] at hp
      rw [HR.out.2] at hb
      rw [hv]
      obtain ⟨V, hV⟩ : ∃ V, val xs = V := ⟨_, rfl⟩
      rw [hV] at hb ⊢
      obtain ⟨hb0, hb1⟩ := hb
      have hb2 : V < 18446744073709551616 := by omega
      have EV := Aside0.mk hV
      have BE := Aside0.mk BX.out.be
      clear hV hv hp hb1
      cases n
      · by_cases hs : V < 9223372036854775808
        · have E := Aside0.mk (show tiv (iv false xs) = V ∧ tie (iv false xs) = 0 by unfold tiv tie iv; rw [EV.out]; simp; omega)
          go_wp2
          go_ret2
          exact ⟨by rw [E.out.1, E.out.2]; rfl, BE.out⟩
        · have E := Aside0.mk (show tiv (iv false xs) = 0 ∧ tie (iv false xs) = 5 by unfold tiv tie iv; rw [EV.out]; simp; omega)
          go_wp2
          go_ret2
          exact ⟨by rw [E.out.1, E.out.2]; rfl, BE.out⟩
      · by_cases hs : V ≤ 9223372036854775808
        · have E := Aside0.mk (show tiv (iv true xs) = -V ∧ tie (iv true xs) = 0 by unfold tiv tie iv; rw [EV.out]; simp; omega)
          go_wp2
          go_ret2
          have hw := neg_wrap V hb0 hs
          refine ⟨?_, BE.out⟩
          show Ending.returned (.tuple #[.int .i64 (wrap64 (IntKind.u64.wrap (-V))), .int .i64 0]) = _
          rw [hw, E.out.1, E.out.2]
        · have E := Aside0.mk (show tiv (iv true xs) = 0 ∧ tie (iv true xs) = 5 by unfold tiv tie iv; rw [EV.out]; simp; omega)
          go_wp2
          go_ret2
          exact ⟨by rw [E.out.1, E.out.2]; rfl, BE.out⟩
theorem ToInt64_any (n : Bool) (A : Option Addr) (c : Nat) (xs : List Int) (w : World) (h : Rd w A c xs) (hl : xs.length ≤ 274877906944) :
    Calls Tryd.prog 22 #[.agg #[.bool n, .slice A xs.length c]] w fun e w' => e = .returned (.tuple #[.int .i64 (tiv (iv n xs)), .int .i64 (tie (iv n xs))]) ∧ Below w.heap.size w w' := by
  rcases (show 2 < (trimL xs).length ∨ (trimL xs).length ≤ 2 by omega) with h2 | h2
  · exact ToInt64_long n A c xs w h hl h2
  · exact ToInt64_short n A c xs w h hl h2
end Go.Proofs.YtegnnghoiffmhaaDoor.Big
