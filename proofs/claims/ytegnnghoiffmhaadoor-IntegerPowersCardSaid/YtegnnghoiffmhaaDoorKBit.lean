/- integer.BitLen. -/
import Derived.Test.YtegnnghoiffmhaaDoorGRows
import Derived.Test.YtegnnghoiffmhaaDoorKShift
import Derived.Test.YtegnnghoiffmhaaDoorShelf
namespace Go.Proofs.YtegnnghoiffmhaaDoor.Big
open Go.RowKit Go.Proofs.YtegnnghoiffmhaaDoorW.PrintWords Go.Proofs.YtegnnghoiffmhaaDoorW.PrintLast
set_option linter.unusedVariables false
set_option linter.unusedSimpArgs false
attribute [local go_sem ↓] Go.wp_at_zero Go.wp_at_succ
theorem len32_v (x : Int) (b : Nat) (w : World) (h0 : 0 ≤ x) (h1 : x ≤ 4294967295) (hb : bl x = b) :
    Calls Tryd.prog 73 #[.int .u32 x] w fun e w' => e = .returned (.int .i64 b) ∧ w = w' := by
  refine (Tryd.bits_Len32 x w h0 h1).mono ?_
  rintro e w' ⟨rfl, rfl⟩
  rw [bl_lib x h0 h1, hb]
  exact ⟨rfl, rfl⟩
set_option maxRecDepth 100000 in
theorem bitlen_v (n : Bool) (A : Option Addr) (c : Nat) (xs : List Int) (w : World) (h : Rd w A c xs) (hl : xs.length ≤ 274877906944) (x b : Int) (hx : iv n xs = x) (hb : (bl (x.natAbs : Int) : Int) = b) :
    Calls Tryd.prog 47 #[.agg #[.bool n, .slice A xs.length c]] w fun e w' => e = .returned (.int .i64 b) ∧ Below w.heap.size w w' := by
  have L0 : (mg x).length ≤ 274877906944 := by rw [← hx]; exact Nat.le_trans (mg_iv_len n h.dig) hl
  have hm := fun w1 (hb : Below w.heap.size w w1) => magnitude_v n A c xs w1 (h.below hb) hl x (x.natAbs : Int) hx rfl
  simp only [mg_nat] at hm
  have hdig := mg_dig x
  have htr := mg_trim x
  have hval := mg_val x
  obtain ⟨ts, hts⟩ : ∃ t, mg x = t := ⟨_, rfl⟩
  rw [hts] at L0 hm hdig htr hval
  rw [← hval] at hb
  have HM := Aside0.mk hm
  have HD := Aside0.mk (And.intro hdig htr)
  clear hx hts hdig htr hval hm
  by_cases hz : ts.length = 0
  · have hn := List.eq_nil_of_length_eq_zero hz
    subst hn
    have e0 : (0 : Int) = b := by rw [← hb]; rfl
    have E0 := Aside0.mk e0
    clear hb e0 hz
    go_enter Tryd.func47, Tryd.ntmps47
    go_wp2_with (first | (go_at_call 50; generalize hwb : World.alloc _ _ = wb; have hT := Arg1.start w _ _ hwb; clear hwb; (with_reducible refine (HM.out _ hT.be).mono ?_); rintro e w1 ⟨rfl, hR, hb⟩; replace hT := hT.below hb; clear hb))
    go_ret
    exact ⟨by rw [← E0.out]; rfl, hT.be⟩
  · obtain ⟨p, hp⟩ : ∃ p, ts.length = p + 1 := ⟨ts.length - 1, by omega⟩
    have B := bl_top HD.out.1 hp HD.out.2
    have D := dg_dig HD.out.1 p
    obtain ⟨k, hk⟩ : ∃ k, bl (dg ts p) = k := ⟨_, rfl⟩
    have hk32 : k ≤ 32 := by rw [← hk]; exact bl32 D.2
    have HK := Aside0.mk (And.intro hk D)
    have HB := Aside0.mk (show (32 * (p : Int) + k) = b by rw [← hb, B.2, hk]; omega)
    have hp2 : p ≤ 274877906944 := by omega
    have HP := Aside0.mk hp
    clear hb hz B D hk
    rw [hp] at HM
    go_enter Tryd.func47, Tryd.ntmps47
    go_wp2_with (first
      | (go_at_call 50; generalize hwb : World.alloc _ _ = wb; have hT := Arg1.start w _ _ hwb; clear hwb; (with_reducible refine (HM.out _ hT.be).mono ?_); rintro e w1 ⟨rfl, hR, hb⟩; replace hT := hT.below hb; clear hb; have hle := hR.le; rw [HP.out] at hle; obtain ⟨ad, rfl, x0⟩ := hR.at_ p (by rw [HP.out]; omega))
      | (go_at_call 73; (with_reducible refine (len32_v _ k _ HK.out.2.1 HK.out.2.2 HK.out.1).mono ?_); rintro e w2 ⟨rfl, rfl⟩))
    go_ret
    exact ⟨by rw [← HB.out]; rfl, hT.be⟩
end Go.Proofs.YtegnnghoiffmhaaDoor.Big
