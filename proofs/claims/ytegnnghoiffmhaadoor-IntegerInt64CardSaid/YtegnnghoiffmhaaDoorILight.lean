/- The laws' own small functions: Light, awake, same; the reference's SameInt. -/
import Derived.Test.YtegnnghoiffmhaaDoorIDivMod
import Derived.Test.YtegnnghoiffmhaaDoorIFormat
namespace Go.Proofs.YtegnnghoiffmhaaDoor.Big
open Go.RowKit Go.Proofs.YtegnnghoiffmhaaDoorW.PrintWords Go.Proofs.YtegnnghoiffmhaaDoorW.PrintLast
set_option linter.unusedVariables false
set_option linter.unusedSimpArgs false
attribute [local go_sem ↓] Go.wp_at_zero Go.wp_at_succ
theorem sum_take (ls : List Nat) (i : Nat) (h : i < ls.length) : (ls.take (i + 1)).sum = (ls.take i).sum + ls.getD i 0 := by
  rw [List.take_succ_eq_append_getElem h, List.sum_append]
  simp [List.getD_eq_getElem?_getD, h]
def lz (ls : List Nat) (i : Nat) : Nat := ls.getD i 0
def ls_ (ls : List Nat) (i : Nat) : Nat := (ls.take i).sum
theorem ls_succ (ls : List Nat) (i : Nat) (h : i < ls.length) : ls_ ls (i + 1) = ls_ ls i + lz ls i := sum_take ls i h
theorem ls_le (ls : List Nat) (h : ∀ i, i < ls.length → lz ls i ≤ 35184372088832) : ∀ i, i ≤ ls.length → ls_ ls i ≤ 35184372088832 * i
  | 0, _ => by simp [ls_]
  | i + 1, hi => by
    have h1 := ls_le ls h i (by omega)
    have h2 := h i (by omega)
    rw [ls_succ ls i (by omega)]
    omega
set_option maxRecDepth 100000 in
theorem Light_any (g k : Nat) (ls : List Nat) (w : World) (hk : ls.length = k) (hk3 : k ≤ 100) (hc : ∀ i, i < k → ∃ A c, w.cell? ⟨g, i * 2 + 1, none⟩ = some (.slice A (lz ls i) c)) (hl : ∀ i, i < ls.length → lz ls i ≤ 35184372088832) (b : Bool) (hb : decide (ls.sum ≤ 60) = b) :
    Calls Tryd.prog 12 #[.slice (some ⟨g, 0, none⟩) k k] w fun e w' => e = .returned (.bool b) ∧ w' = w := by
  have HC := Aside0.mk hc
  have HL := Aside0.mk (And.intro (ls_le ls hl) hb)
  clear hc hb
  go_enter Tryd.func12, Tryd.ntmps12
  go_wp2
  go_loopg [3, 4] k (fun kq v3 v4 w' => ∃ i : Nat, v3 = .int .i64 (ls_ ls i) ∧ v4 = .int .i64 i ∧ Aside0 (i + kq = k) ∧ w' = w)
  case atStart => exact ⟨0, by simp [ls_], rfl, ⟨by omega⟩, rfl⟩
  case round =>
    obtain ⟨i, rfl, rfl, HI, rfl⟩ := hrel
    by_cases hi : i < k
    · obtain ⟨A, c, x0⟩ := HC.out i hi
      have b1 : ls_ ls i ≤ 3518437208883200 := by have := HL.out.1 i (by omega); omega
      have b2 := hl i (by omega)
      have hi2 : i ≤ 100 := by omega
      go_wp2
      go_roundg (gk - 1)
      case measure => have := HI.out; omega
      case rel => exact ⟨i + 1, by rw [ls_succ ls i (by omega)]; go_num, by go_num, ⟨by have := HI.out; omega⟩, rfl⟩
    · have e : i = k := by have := HI.out; omega
      have b1 : ls_ ls i ≤ 3518437208883200 := by have := HL.out.1 i (by omega); omega
      go_wp2
      go_ret
      refine ⟨?_, rfl⟩
      rw [← HL.out.2]
      have : ls_ ls i = ls.sum := by rw [e]; unfold ls_; rw [List.take_of_length_le (by omega)]
      rw [e] at this ⊢
      show Ending.returned (.bool (decide ((ls_ ls k : Int) ≤ 60))) = _
      rw [this]
      congr 3
      exact propext (by omega)
/-- The same on canonical integers. -/
theorem DivMod_z (x y : Int) (A0 A1 : Option Addr) (c0 c1 : Nat) (w : World) (h0 : Rd w A0 c0 (mg x)) (h1 : Rd w A1 c1 (mg y)) (hl0 : (mg x).length ≤ 274877906944) (hl1 : (mg y).length ≤ 274877906944) (hy : y ≠ 0) :
    Calls Tryd.prog 14 #[.agg #[.bool (ng x), .slice A0 (mg x).length c0], .agg #[.bool (ng y), .slice A1 (mg y).length c1]] w fun e w' => Res2 e w w' (x.fdiv y) (x.fmod y) 0 := by
  have h := DivMod_any (ng x) (ng y) A0 A1 c0 c1 _ _ w h0 h1 hl0 hl1 (by rw [iv_canon]; exact hy)
  rw [iv_canon, iv_canon] at h
  exact h
def dec (z : Int) : ByteArray := ⟨(Lib.itoa z).toArray⟩
theorem Format_z (x : Int) (A0 : Option Addr) (c0 : Nat) (w : World) (h0 : Rd w A0 c0 (mg x)) (hl0 : (mg x).length ≤ 274877906944) (hT : Tab_p10 w) :
    Calls Tryd.prog 35 #[.agg #[.bool (ng x), .slice A0 (mg x).length c0]] w fun e w' => e = .returned (.string (dec x)) ∧ Below w.heap.size w w' := by
  have h := Format_any (ng x) A0 c0 _ w h0 hl0 hT
  rw [iv_canon] at h
  exact h
theorem small_len (z : Int) (h1 : -4294967296 < z) (h2 : z < 4294967296) : (mg z).length ≤ 274877906944 := by
  have : (mg z).length ≤ 1 := mg_len (by simp only [pw]; omega) (by simp only [pw]; omega)
  omega
theorem dec_m4 : dec (-4) = ⟨#[45, 52]⟩ := by unfold dec; rw [itoa_neg 4 (by decide)]; rw [show Lib.decDigits (4 : Int).toNat = [52] from Lib.decDigits_one (by decide)]
theorem dec_1 : dec 1 = ⟨#[49]⟩ := by unfold dec; rw [itoa_pos 1 (by decide)]; rw [show Lib.decDigits (1 : Int).toNat = [49] from Lib.decDigits_one (by decide)]
theorem awake_div (A0 A1 : Option Addr) (c0 c1 : Nat) (w : World) (h0 : Rd w A0 c0 (mg (-7))) (h1 : Rd w A1 c1 (mg 2)) :
    Calls Tryd.prog 14 #[.agg #[.bool (ng (-7)), .slice A0 (mg (-7)).length c0], .agg #[.bool (ng 2), .slice A1 (mg 2).length c1]] w fun e w' => Res2 e w w' (-4) 1 0 :=
  DivMod_z (-7) 2 A0 A1 c0 c1 w h0 h1 (small_len _ (by omega) (by omega)) (small_len _ (by omega) (by omega)) (by decide)
theorem awake_f1 (A0 : Option Addr) (c0 : Nat) (w : World) (h0 : Rd w A0 c0 (mg (-4))) (hT : Tab_p10 w) :
    Calls Tryd.prog 35 #[.agg #[.bool (ng (-4)), .slice A0 (mg (-4)).length c0]] w fun e w' => e = .returned (.string ⟨#[45, 52]⟩) ∧ Below w.heap.size w w' := by
  have h := Format_z (-4) A0 c0 w h0 (small_len _ (by omega) (by omega)) hT
  rw [dec_m4] at h
  exact h
theorem awake_f2 (A0 : Option Addr) (c0 : Nat) (w : World) (h0 : Rd w A0 c0 (mg 1)) (hT : Tab_p10 w) :
    Calls Tryd.prog 35 #[.agg #[.bool (ng 1), .slice A0 (mg 1).length c0]] w fun e w' => e = .returned (.string ⟨#[49]⟩) ∧ Below w.heap.size w w' := by
  have h := Format_z 1 A0 c0 w h0 (small_len _ (by omega) (by omega)) hT
  rw [dec_1] at h
  exact h
set_option maxRecDepth 100000 in
theorem awake_any (w : World) (hT : Tab_p10 w) : Calls Tryd.prog 13 #[] w fun e w' => e = .returned (.bool true) ∧ Below w.heap.size w w' := by
  go_enter Tryd.func13, Tryd.ntmps13
  go_wp2_with (first
    | (go_at_call 21; (with_reducible refine (FromInt64_any (-7) _ (by omega) (by omega)).mono ?_); rintro e w1 ⟨A1, c1, rfl, h1, hB⟩)
    | (go_at_call 21; (with_reducible refine (FromInt64_any 2 _ (by omega) (by omega)).mono ?_); rintro e w2 ⟨A2, c2, rfl, h2, hb⟩; replace h1 := h1.below hb; replace hB := keep_below hb hB; clear hb)
    | (go_at_call 14; (with_reducible refine (awake_div A1 A2 c1 c2 _ h1 h2).mono ?_); rintro e w3 ⟨A3, c3, A4, c4, rfl, h3, h4, hb⟩; replace hB := keep_below hb hB; clear hb h1 h2)
    | (go_at_call 35; generalize hwb : World.alloc (World.alloc _ _) _ = wb; obtain ⟨hb0, hq, hr⟩ := boxes2 w3 _ _ _ _ _ _ hwb; clear hwb; (with_reducible refine (awake_f1 A3 c3 _ (h3.below hb0) (hT.below (keep_below hb0 hB))).mono ?_); rintro e w5 ⟨rfl, hb⟩; replace h4 := (h4.below hb0).below hb; replace hB := keep_below hb (keep_below hb0 hB); replace hr := hr.below hb; have r0 := hr.at0; have r1 := hr.at1; clear hb hb0 h3 hq)
    | (go_at_call 35; (with_reducible refine (awake_f2 A4 c4 _ h4 (hT.below hB)).mono ?_); rintro e w6 ⟨rfl, hb⟩; replace hB := keep_below hb hB; clear hb))
  go_ret
  exact ⟨rfl, hB⟩
end Go.Proofs.YtegnnghoiffmhaaDoor.Big
