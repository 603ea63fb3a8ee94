/- integer.Compare, FromInt64, BitLen, of numbers. -/
import Derived.Test.YtegnnghoiffmhaaDoorIOps
namespace Go.Proofs.YtegnnghoiffmhaaDoor.Big
open Go.RowKit Go.Proofs.YtegnnghoiffmhaaDoorW.PrintWords
set_option linter.unusedVariables false
set_option linter.unusedSimpArgs false
attribute [local go_sem ↓] Go.wp_at_zero Go.wp_at_succ
theorem ret_int {k : IntKind} {a b : Int} (h : a = b) : Ending.returned (.int k a) = .returned (.int k b) := by rw [h]
set_option maxRecDepth 100000 in
theorem Compare_any (n0 n1 : Bool) (A0 A1 : Option Addr) (c0 c1 : Nat) (xs ys : List Int) (w : World) (h0 : Rd w A0 c0 xs) (h1 : Rd w A1 c1 ys) (hl0 : xs.length ≤ 274877906944) (hl1 : ys.length ≤ 274877906944) (r : Int) (hr : cmpZ (iv n0 xs) (iv n1 ys) = r) :
    Calls Tryd.prog 25 #[.agg #[.bool n0, .slice A0 xs.length c0], .agg #[.bool n1, .slice A1 ys.length c1]] w fun e w' => e = .returned (.int .i64 r) ∧ Below w.heap.size w w' := by
  have L0 := trimL_len xs
  have L1 := trimL_len ys
  obtain ⟨sx, hsx⟩ : ∃ sx, cmpZ (iv n0 xs) 0 = sx := ⟨_, rfl⟩
  obtain ⟨sy, hsy⟩ : ∃ sy, cmpZ (iv n1 ys) 0 = sy := ⟨_, rfl⟩
  obtain ⟨q, hq⟩ : ∃ q, cmpZ (val (trimL xs)) (val (trimL ys)) = q := ⟨_, rfl⟩
  have K := Aside0.mk (cmp_sgn (q := q) h0.dig h1.dig hr hsx hsy (by rw [val_trim, val_trim] at hq; exact hq))
  have HX := Aside0.mk hsx
  have HY := Aside0.mk hsy
  have HQ := Aside0.mk hq
  clear hr hsx hsy hq
  have bx := K.out.2.2.1
  have by_ := K.out.2.2.2.1
  have bq := K.out.2.2.2.2.1
  obtain ⟨bx0, bx1⟩ := bx
  obtain ⟨by0, by1⟩ := by_
  obtain ⟨bq0, bq1⟩ := bq
  go_enter Tryd.func25, Tryd.ntmps25
  go_wp2
  generalize hwb : World.alloc _ _ = wb
  have hT := (Arg2.start w _ _ _ _ hwb).drew
  clear hwb
  go_region_held3 (fun w' => w'.cell? ⟨w.heap.size, 0, none⟩ = some (.bool n0) ∧ w'.cell? ⟨w.heap.size, 1, none⟩ = some (.slice A0 xs.length c0) ∧ w'.cell? ⟨w.heap.size + 1, 0, none⟩ = some (.bool n1) ∧ w'.cell? ⟨w.heap.size + 1, 1, none⟩ = some (.slice A1 ys.length c1))
    (exact hT.cells)
    (first | (go_simp; go_at_call 19; (with_reducible refine (sign_any n0 A0 c0 xs _ (h0.below hT.be) hl0 sx HX.out).mono ?_); rintro e w1 ⟨rfl, hb⟩; replace hT := hT.below hb; clear hb) | (go_simp; go_at_call 19; (with_reducible refine (sign_any n1 A1 c1 ys _ (h1.below hT.be) hl1 sy HY.out).mono ?_); rintro e w1 ⟨rfl, hb⟩; replace hT := hT.below hb; clear hb))
  by_cases hlt : sx < sy
  · go_wp2
    go_ret
    exact ⟨ret_int (K.out.1 hlt).symm, hT.be⟩
  · by_cases hgt : sy < sx
    · go_wp2
      go_ret
      exact ⟨ret_int (K.out.2.1 hgt).symm, hT.be⟩
    · have he : sy = sx := by omega
      subst he
      have KE := Aside0.mk (K.out.2.2.2.2.2 rfl)
      clear hlt hgt
      have hp : -1 ≤ sy * q ∧ sy * q ≤ 1 := by rcases (show sy = -1 ∨ sy = 0 ∨ sy = 1 by omega) with e | e | e <;> subst e <;> omega
      obtain ⟨hp0, hp1⟩ := hp
      go_wp2
      replace hT := hT.drew
      go_region_held3 (fun w' => w'.cell? ⟨w.heap.size, 0, none⟩ = some (.bool n0) ∧ w'.cell? ⟨w.heap.size, 1, none⟩ = some (.slice A0 xs.length c0) ∧ w'.cell? ⟨w.heap.size + 1, 0, none⟩ = some (.bool n1) ∧ w'.cell? ⟨w.heap.size + 1, 1, none⟩ = some (.slice A1 ys.length c1))
        (exact hT.cells)
        (first | (go_simp; go_at_call 50; (with_reducible refine (magnitude_any n0 A0 c0 xs _ (h0.below hT.be) (by omega)).mono ?_); rintro e w1 ⟨rfl, hb⟩; replace hT := hT.below hb; clear hb) | (go_simp; go_at_call 50; (with_reducible refine (magnitude_any n1 A1 c1 ys _ (h1.below hT.be) (by omega)).mono ?_); rintro e w1 ⟨rfl, hb⟩; replace hT := hT.below hb; clear hb) | (go_simp; go_at_call 58; (with_reducible refine (compare_r A0 A1 c0 c1 (trimL xs) (trimL ys) _ (h0.trim.below hT.be) (h1.trim.below hT.be) (trimL_trimL _) (trimL_trimL _) (by omega) (by omega) q HQ.out).mono ?_); rintro e w2 ⟨rfl, hd⟩; replace hT := hT.below hd.below; clear hd))
      go_wp2
      go_ret
      exact ⟨ret_int ((IntWalk.i64_in _ ⟨by omega, by omega⟩).trans KE.out.symm), hT.be⟩
theorem from_val (n u : Int) (b : Bool) (h0 : 0 ≤ u) (h1 : u < 18446744073709551616) (h2 : (if b then -u else u) = n) : (0 ≤ u % 4294967296 ∧ u % 4294967296 ≤ 4294967295) ∧ (0 ≤ u / 4294967296 ∧ u / 4294967296 ≤ 4294967295) ∧ iv b [u % 4294967296, u / 4294967296] = n := by
  refine ⟨by omega, by omega, ?_⟩
  rw [← h2]
  unfold iv
  simp only [val]
  split <;> omega
theorem canonical_two (n : Bool) (A : Option Addr) (c : Nat) (a b : Int) (w : World) (h : Rd w A c [a, b]) : Calls Tryd.prog 51 #[.bool n, .slice A 2 c] w fun e w' => Res e w w' (iv n [a, b]) := canonical_res n A c [a, b] w h (by simp)
theorem lit_start (w : World) (a b : Int) (ha : 0 ≤ a ∧ a ≤ 4294967295) (hb : 0 ≤ b ∧ b ≤ 4294967295) {wb : World} (h : (w.alloc (.cells #[.bool false, .slice none 0 0] 24)).alloc (.cells #[.int .u32 a, .int .u32 b] 57) = wb) :
    Below w.heap.size w wb ∧ Box wb w.heap.size (.bool false) (.slice none 0 0) 24 ∧ Rd wb (some ⟨w.heap.size + 1, 0, none⟩) 2 [a, b] := by
  obtain ⟨h1, h2, _⟩ := boxes2 w _ _ _ _ _ _ h
  refine ⟨h1, h2, ?_⟩
  subst h
  obtain ⟨A, c, e, hr⟩ := (Ow.lit2 (w.alloc (.cells #[.bool false, .slice none 0 0] 24)) w.heap.size a b ha hb (by simp)).rd
  cases e
  simpa using hr
set_option maxRecDepth 100000 in
/-- A row that the call made: two digits. -/
theorem FromInt64_any (n : Int) (w : World) (h0 : -9223372036854775808 ≤ n) (h1 : n ≤ 9223372036854775807) :
    Calls Tryd.prog 21 #[.int .i64 n] w fun e w' => Res e w w' n := by
  by_cases hn : n < 0
  · have e1 : IntKind.u64.wrap n = n + 18446744073709551616 := by rw [IntKind.wrap_u64]; omega
    have e2 : IntKind.u64.wrap (-(n + 18446744073709551616)) = -n := by rw [IntKind.wrap_u64]; omega
    have e3 : (-n) / 4294967296 % 4294967296 = (-n) / 4294967296 := by omega
    have EV := Aside0.mk (from_val n (-n) true (by omega) (by omega) (by simp))
    clear h0 h1
    go_enter Tryd.func21, Tryd.ntmps21
    go_wp2_with (first | (go_at_call 51; generalize hwb : World.alloc (World.alloc _ _) _ = wb; have hT := lit_start w _ _ EV.out.1 EV.out.2.1 hwb; clear hwb; obtain ⟨hbe, hbr, hR⟩ := hT; (with_reducible refine (canonical_two true _ 2 ((-n) % 4294967296) ((-n) / 4294967296) _ hR).mono ?_); rintro e w3 ⟨A', c', rfl, hR', hb⟩; have hB := keep_below hb hbe; replace hbr := hbr.below hb; have r0 := hbr.at0; have r1 := hbr.at1; have f0 := hbr.free 0; have f1 := hbr.free 1))
    rw [EV.out.2.2] at hR' ⊢
    exact bodyPost_ret (v := .agg #[.bool (ng n), .slice A' (mg n).length c']) (by simp [results, Tryd.results21, go_sem, r0, r1, f0, f1]) rfl ⟨A', c', rfl, hR'.boxed hbr.blk, (hB.setCell (by simp) _).setCell (by simp) _⟩
  · have e1 : IntKind.u64.wrap n = n := by rw [IntKind.wrap_u64]; omega
    have e3 : (n) / 4294967296 % 4294967296 = (n) / 4294967296 := by omega
    have EV := Aside0.mk (from_val n (n) false (by omega) (by omega) (by simp))
    clear h0 h1
    go_enter Tryd.func21, Tryd.ntmps21
    go_wp2_with (first | (go_at_call 51; generalize hwb : World.alloc (World.alloc _ _) _ = wb; have hT := lit_start w _ _ EV.out.1 EV.out.2.1 hwb; clear hwb; obtain ⟨hbe, hbr, hR⟩ := hT; (with_reducible refine (canonical_two false _ 2 ((n) % 4294967296) ((n) / 4294967296) _ hR).mono ?_); rintro e w3 ⟨A', c', rfl, hR', hb⟩; have hB := keep_below hb hbe; replace hbr := hbr.below hb; have r0 := hbr.at0; have r1 := hbr.at1; have f0 := hbr.free 0; have f1 := hbr.free 1))
    rw [EV.out.2.2] at hR' ⊢
    exact bodyPost_ret (v := .agg #[.bool (ng n), .slice A' (mg n).length c']) (by simp [results, Tryd.results21, go_sem, r0, r1, f0, f1]) rfl ⟨A', c', rfl, hR'.boxed hbr.blk, (hB.setCell (by simp) _).setCell (by simp) _⟩
end Go.Proofs.YtegnnghoiffmhaaDoor.Big
