/- The reference: addDigits, subDigits. -/
import Derived.Test.YtegnnghoiffmhaaDoorJBase
namespace Go.Proofs.YtegnnghoiffmhaaDoor.Big
open Go.RowKit Go.Proofs.YtegnnghoiffmhaaDoorW.PrintWords Go.Proofs.YtegnnghoiffmhaaDoorW.PrintLast
set_option linter.unusedVariables false
set_option linter.unusedSimpArgs false
attribute [local go_sem ↓] Go.wp_at_zero Go.wp_at_succ
/-- A row handed back: its number, without leading zeros. -/
def RowRes (e : Ending) (w w' : World) (v : Int) (N : Nat) : Prop := ∃ (A : Option Addr) (c : Nat) (zs : List Int), e = .returned (.slice A zs.length c) ∧ Rd w' A c zs ∧ val zs = v ∧ trimL zs = zs ∧ zs.length ≤ N ∧ Below w.heap.size w w'
theorem RowRes.of {w w' : World} {A : Option Addr} {c : Nat} {cs : List Int} {v : Int} {N : Nat} (h : Rd w' A c cs) (hv : val cs = v) (hN : cs.length ≤ N) (hb : Below w.heap.size w w') : RowRes (.returned (.slice A (trimL cs).length c)) w w' v N :=
  ⟨A, c, trimL cs, rfl, h.trim, by rw [val_trim]; exact hv, trimL_trimL _, Nat.le_trans (trimL_len cs) hN, hb⟩
/-- A row of the call's own handed back. -/
def RowFr (e : Ending) (w w' : World) (v : Int) (N : Nat) : Prop := ∃ (A : Option Addr) (c : Nat) (zs : List Int), e = .returned (.slice A zs.length c) ∧ Rd w' A c zs ∧ val zs = v ∧ trimL zs = zs ∧ zs.length ≤ N ∧ Below w.heap.size w w' ∧ ∀ ad, A = some ad → w.heap.size ≤ ad.block
theorem RowFr.of {w w' : World} {A : Option Addr} {c : Nat} {cs : List Int} {v : Int} {N : Nat} (h : Rd w' A c cs) (hv : val cs = v) (hN : cs.length ≤ N) (hb : Below w.heap.size w w') (hf : ∀ ad, A = some ad → w.heap.size ≤ ad.block) : RowFr (.returned (.slice A (trimL cs).length c)) w w' v N :=
  ⟨A, c, trimL cs, rfl, h.trim, by rw [val_trim]; exact hv, trimL_trimL _, Nat.le_trans (trimL_len cs) hN, hb, hf⟩
theorem RowFr.res {e : Ending} {w w' : World} {v : Int} {N : Nat} (h : RowFr e w w' v N) : RowRes e w w' v N := by
  obtain ⟨A, c, zs, h1, h2, h3, h4, h5, h6, -⟩ := h
  exact ⟨A, c, zs, h1, h2, h3, h4, h5, h6⟩
def AddI (w w' : World) (xs ys : List Int) (n i : Nat) (c : Int) (V : Value) (cs : List Int) : Prop :=
  cs.length = n ∧ (0 ≤ c ∧ c ≤ 1) ∧ val (cs.take i) + c * pw i = val (xs.take i) + val (ys.take i) ∧ Own w w' V cs
theorem add_next (w wr : World) (xs ys : List Int) (g cap n i : Nat) (c : Int) (cs : List Int) (hi : i < n) (hx : ∀ x ∈ xs, 0 ≤ x ∧ x ≤ 4294967295) (hy : ∀ x ∈ ys, 0 ≤ x ∧ x ≤ 4294967295) (h : AddI w wr xs ys n i c (.slice (some ⟨g, 0, none⟩) n cap) cs) :
    AddI w (wr.setCell ⟨g, i, none⟩ (.int .u32 ((c + dg xs i + dg ys i) % 4294967296))) xs ys n (i + 1) ((c + dg xs i + dg ys i) / 4294967296) (.slice (some ⟨g, 0, none⟩) n cap) (cs.set i ((c + dg xs i + dg ys i) % 4294967296)) := by
  obtain ⟨h1, h2, h3, h4⟩ := h
  have d0 := dg_dig hx i
  have d1 := dg_dig hy i
  refine ⟨by simpa using h1, by omega, ?_, h4.put i _ (by omega) (by omega)⟩
  rw [List.take_set, val_take xs, val_take ys, val_set _ i _ (by rw [List.length_take]; omega), val_take cs]
  have e0 : dg (cs.take (i + 1)) i = dg cs i := by simp [dg, List.getD_eq_getElem?_getD, List.getElem?_take]
  rw [e0]
  have e := Int.mul_ediv_add_emod (c + dg xs i + dg ys i) 4294967296
  simp only [pw]
  grind
theorem add_end (w wr : World) (xs ys : List Int) (n : Nat) (c : Int) (V : Value) (cs : List Int) (hx : ∀ x ∈ xs, 0 ≤ x ∧ x ≤ 4294967295) (hy : ∀ x ∈ ys, 0 ≤ x ∧ x ≤ 4294967295) (hn : n = max xs.length ys.length + 1) (h : AddI w wr xs ys n n c V cs) : val cs = val xs + val ys := by
  obtain ⟨h1, h2, h3, h4⟩ := h
  rw [List.take_of_length_le (by omega), List.take_of_length_le (by omega), List.take_of_length_le (by omega)] at h3
  have b0 := val_bounds cs h4.ow.dig
  have b1 := val_bounds xs hx
  have b2 := val_bounds ys hy
  have p1 := pw_le (show xs.length ≤ max xs.length ys.length by omega)
  have p2 := pw_le (show ys.length ≤ max xs.length ys.length by omega)
  have p3 : pw n = pw (max xs.length ys.length) * 4294967296 := by rw [hn]; rfl
  have p4 := pw_pos (max xs.length ys.length)
  rcases (show c = 0 ∨ c = 1 by omega) with e | e
  · subst e; omega
  · subst e; omega
set_option maxRecDepth 100000 in
theorem addDigits_any (A0 A1 : Option Addr) (c0 c1 : Nat) (xs ys : List Int) (w : World) (h0 : Rd w A0 c0 xs) (h1 : Rd w A1 c1 ys) (hl0 : xs.length ≤ 274877906944) (hl1 : ys.length ≤ 274877906944) :
    Calls Tryd.prog 61 #[.slice A0 xs.length c0, .slice A1 ys.length c1] w fun e w' => RowRes e w w' (val xs + val ys) (max xs.length ys.length + 1) := by
  have H := Aside0.mk (And.intro h0 h1)
  clear h0 h1
  obtain ⟨n, hn⟩ : ∃ n, max xs.length ys.length + 1 = n := ⟨_, rfl⟩
  have hnl : n ≤ 274877906945 := by omega
  have en : max (xs.length : Int) (ys.length : Int) + 1 = (n : Int) := by omega
  have HN := Aside0.mk (And.intro hn en)
  rw [hn]
  clear hn
  go_enter Tryd.func61, Tryd.ntmps61
  go_wp2_with (first | ((with_reducible refine gate_dst (N := 16) rfl ?_); refine make_u32 rfl rfl _ _ rfl n rfl rfl (by omega) ?_; intro v5 w1 ho hb; obtain ⟨g, cap, rfl, -⟩ := ho.form (by simp; omega); rw [List.length_replicate] at ho; have HO := Aside0.mk (Own.mk ho hb); clear ho hb))
  go_loopg [7, 8] n (fun kq v7 v8 w' => ∃ (i : Nat) (c : Int) (cs : List Int), v7 = .int .u64 c ∧ v8 = .int .i64 i ∧ Aside0 (i + kq = n ∧ AddI w w' xs ys n i c (.slice (some ⟨g, 0, none⟩) n cap) cs))
  case atStart => exact ⟨0, 0, List.replicate n 0, rfl, rfl, ⟨by omega, by simp, by omega, by simp [val], HO.out⟩⟩
  case round =>
    clear HO
    obtain ⟨i, c, cs, rfl, rfl, HA⟩ := hrel
    have hA := HA.out.2
    have ecs := hA.1
    have HCL := Aside0.mk ecs
    have hc0 := hA.2.1.1
    have hc1 := hA.2.1.2
    by_cases hi : i < n
    · obtain ⟨y0, y1⟩ := hA.2.2.2.ow.cell i hi
      have B := Aside0.mk hA.2.2.2.be
      have hi2 : i ≤ 274877906945 := by omega
      obtain ⟨d0, d1⟩ := dg_dig H.out.1.dig i
      obtain ⟨f0, f1⟩ := dg_dig H.out.2.dig i
      have HH := Aside0.mk hA
      clear hA ecs
      go_wp2_with (first | (go_at_call 57; (with_reducible refine (digit_ref A0 c0 xs i _ (H.out.1.below B.out) (by omega) (by omega)).mono ?_); rintro e w2 ⟨rfl, rfl⟩) | (go_at_call 57; (with_reducible refine (digit_ref A1 c1 ys i _ (H.out.2.below B.out) (by omega) (by omega)).mono ?_); rintro e w3 ⟨rfl, rfl⟩))
      go_roundg (gk - 1)
      case measure => have := HA.out.1; omega
      case rel => exact ⟨i + 1, _, _, rfl, by go_num, ⟨by have := HA.out.1; omega, add_next w _ xs ys g cap n i c cs hi H.out.1.dig H.out.2.dig HH.out⟩⟩
    · have e : i = n := by have := HA.out.1; omega
      subst e
      have hv := add_end w wr xs ys i c _ cs H.out.1.dig H.out.2.dig HN.out.1.symm hA
      have HV := Aside0.mk (And.intro hv hA.2.2.2)
      have hR := Aside0.mk hA.2.2.2.ow.rd'.2
      have hcl := ecs
      have ht : ∀ w2 : World, Rd w2 (some ⟨g, 0, none⟩) cap cs → Calls Tryd.prog 63 #[.slice (some ⟨g, 0, none⟩) i cap] w2 fun e w' => e = .returned (.slice (some ⟨g, 0, none⟩) (trimL cs).length cap) ∧ w' = w2 := by
        intro w2 hr
        have h := trim_any (some ⟨g, 0, none⟩) cap cs w2 hr (by omega)
        rw [hcl] at h
        exact h
      have HT := Aside0.mk ht
      clear hA hv ht ecs hcl
      go_wp2_with (first | (go_at_call 63; (with_reducible refine (HT.out _ hR.out).mono ?_); rintro e w2 ⟨rfl, rfl⟩))
      go_ret
      exact RowRes.of hR.out HV.out.1 (by have := HCL.out; have := HN.out.1; omega) HV.out.2.be
def SubI (w w' : World) (xs ys : List Int) (n i : Nat) (c : Int) (V : Value) (cs : List Int) : Prop :=
  cs.length = n ∧ (0 ≤ c ∧ c ≤ 1) ∧ val (cs.take i) - c * pw i = val (xs.take i) - val (ys.take i) ∧ Own w w' V cs
theorem sub_next (w wr : World) (xs ys : List Int) (g cap n i : Nat) (c : Int) (cs : List Int) (hi : i < n) (hx : ∀ x ∈ xs, 0 ≤ x ∧ x ≤ 4294967295) (hy : ∀ x ∈ ys, 0 ≤ x ∧ x ≤ 4294967295) (h : SubI w wr xs ys n i c (.slice (some ⟨g, 0, none⟩) n cap) cs) :
    SubI w (wr.setCell ⟨g, i, none⟩ (.int .u32 ((dg xs i + 4294967296 - dg ys i - c) % 4294967296))) xs ys n (i + 1) (1 - (dg xs i + 4294967296 - dg ys i - c) / 4294967296) (.slice (some ⟨g, 0, none⟩) n cap) (cs.set i ((dg xs i + 4294967296 - dg ys i - c) % 4294967296)) := by
  obtain ⟨h1, h2, h3, h4⟩ := h
  have d0 := dg_dig hx i
  have d1 := dg_dig hy i
  refine ⟨by simpa using h1, by omega, ?_, h4.put i _ (by omega) (by omega)⟩
  rw [List.take_set, val_take xs, val_take ys, val_set _ i _ (by rw [List.length_take]; omega), val_take cs]
  have e0 : dg (cs.take (i + 1)) i = dg cs i := by simp [dg, List.getD_eq_getElem?_getD, List.getElem?_take]
  rw [e0]
  have e := Int.mul_ediv_add_emod (dg xs i + 4294967296 - dg ys i - c) 4294967296
  simp only [pw]
  grind
theorem sub_end (w wr : World) (xs ys : List Int) (n : Nat) (c : Int) (V : Value) (cs : List Int) (hx : ∀ x ∈ xs, 0 ≤ x ∧ x ≤ 4294967295) (hn : n = xs.length) (hyl : ys.length ≤ xs.length) (hle : val ys ≤ val xs) (h : SubI w wr xs ys n n c V cs) : val cs = val xs - val ys := by
  obtain ⟨h1, h2, h3, h4⟩ := h
  rw [List.take_of_length_le (by omega), List.take_of_length_le (by omega), List.take_of_length_le (by omega)] at h3
  have b0 := val_bounds cs h4.ow.dig
  rw [h1] at b0
  have p4 := pw_pos n
  rcases (show c = 0 ∨ c = 1 by omega) with e | e
  · subst e; omega
  · subst e; omega
set_option maxRecDepth 100000 in
theorem subDigits_fr (A0 A1 : Option Addr) (c0 c1 : Nat) (xs ys : List Int) (w : World) (h0 : Rd w A0 c0 xs) (h1 : Rd w A1 c1 ys) (hl0 : xs.length ≤ 274877906944) (hyl : ys.length ≤ xs.length) (hle : val ys ≤ val xs) :
    Calls Tryd.prog 62 #[.slice A0 xs.length c0, .slice A1 ys.length c1] w fun e w' => RowFr e w w' (val xs - val ys) xs.length := by
  have H := Aside0.mk (And.intro h0 h1)
  clear h0 h1
  have HN := Aside0.mk (And.intro hyl hle)
  clear hle
  obtain ⟨n, hn⟩ : ∃ n, xs.length = n := ⟨_, rfl⟩
  rcases Nat.eq_zero_or_pos n with h00 | hpos
  · subst h00
    obtain rfl := List.eq_nil_of_length_eq_zero hn
    obtain rfl := List.eq_nil_of_length_eq_zero (show ys.length = 0 by simp at hyl; simp [hyl])
    go_enter Tryd.func62, Tryd.ntmps62
    go_wp2_with (first | ((with_reducible refine gate_dst (N := 11) rfl ?_); refine make_u32 rfl rfl _ _ rfl 0 rfl rfl (by omega) ?_; intro v5 w1 ho hb; have hf := ho.from_; obtain ⟨A, c, rfl, hR⟩ := ho.rd; have HR := Aside0.mk (And.intro hR (And.intro hb (show ∀ ad, A = some ad → w.heap.size ≤ ad.block from fun ad e => by subst e; exact hf _ rfl))); clear hf; clear ho hb hR))
    go_loopg [6, 7, 8] 0 (fun kq v6 v7 v8 w' => v6 = .int .u64 0 ∧ v7 = .int .i64 0 ∧ w' = w1)
    case atStart => exact ⟨rfl, rfl, rfl⟩
    case round =>
      obtain ⟨rfl, rfl, rfl⟩ := hrel
      have h0 : Calls Tryd.prog 63 #[.slice A 0 c] wr fun e w' => e = .returned (.slice A 0 c) ∧ w' = wr := trim_any A c [] wr HR.out.1 (by simp)
      have T0 := Aside0.mk h0
      clear h0
      go_wp2_with (first | (go_at_call 63; (with_reducible refine T0.out.mono ?_); rintro e w2 ⟨rfl, rfl⟩))
      go_ret
      exact RowFr.of (cs := []) HR.out.1 (by simp [val]) (by simp) HR.out.2.1 HR.out.2.2
  have HX := Aside0.mk hn
  rw [hn]
  rw [hn] at hl0 hyl
  clear hn
  go_enter Tryd.func62, Tryd.ntmps62
  go_wp2_with (first | ((with_reducible refine gate_dst (N := 11) rfl ?_); refine make_u32 rfl rfl _ _ rfl n rfl rfl (by omega) ?_; intro v5 w1 ho hb; obtain ⟨g, cap, rfl, -⟩ := ho.form (by simp; omega); rw [List.length_replicate] at ho; have HO := Aside0.mk (Own.mk ho hb); clear ho hb))
  go_loopg [6, 7, 8] n (fun kq v6 v7 v8 w' => ∃ (i : Nat) (c : Int) (cs : List Int), v6 = .int .u64 c ∧ v7 = .int .i64 i ∧ Aside0 (i + kq = n ∧ SubI w w' xs ys n i c (.slice (some ⟨g, 0, none⟩) n cap) cs))
  case atStart => exact ⟨0, 0, List.replicate n 0, rfl, rfl, ⟨by omega, by simp, by omega, by simp [val], HO.out⟩⟩
  case round =>
    clear HO
    obtain ⟨i, c, cs, rfl, rfl, HA⟩ := hrel
    have hA := HA.out.2
    have ecs := hA.1
    have HCL := Aside0.mk ecs
    have hc0 := hA.2.1.1
    have hc1 := hA.2.1.2
    by_cases hi : i < n
    · obtain ⟨y0, y1⟩ := hA.2.2.2.ow.cell i hi
      have B := Aside0.mk hA.2.2.2.be
      have hi2 : i ≤ 274877906945 := by omega
      obtain ⟨d0, d1⟩ := dg_dig H.out.1.dig i
      obtain ⟨f0, f1⟩ := dg_dig H.out.2.dig i
      have HH := Aside0.mk hA
      clear hA ecs
      have k0 : ∀ w2, Below w.heap.size w w2 → Calls Tryd.prog 57 #[.slice A0 n c0, .int .i64 (i : Int)] w2 fun e w' => e = .returned (.int .u64 (dg xs i)) ∧ w' = w2 := by
        intro w2 hb
        have h := digit_ref A0 c0 xs i w2 (H.out.1.below hb) (by omega) (by have := HX.out; omega)
        rw [HX.out] at h
        exact h
      have K0 := Aside0.mk k0
      clear k0
      go_wp2_with (first | (go_at_call 57; (with_reducible refine (K0.out _ B.out).mono ?_); rintro e w2 ⟨rfl, rfl⟩) | (go_at_call 57; (with_reducible refine (digit_ref A1 c1 ys i _ (H.out.2.below B.out) (by omega) (by omega)).mono ?_); rintro e w3 ⟨rfl, rfl⟩))
      go_roundg (gk - 1)
      case measure => have := HA.out.1; omega
      case rel => exact ⟨i + 1, _, _, rfl, by go_num, ⟨by have := HA.out.1; omega, sub_next w _ xs ys g cap n i c cs hi H.out.1.dig H.out.2.dig HH.out⟩⟩
    · have e : i = n := by have := HA.out.1; omega
      subst e
      have hv := sub_end w wr xs ys i c _ cs H.out.1.dig HX.out.symm HN.out.1 HN.out.2 hA
      have HV := Aside0.mk (And.intro hv hA.2.2.2)
      have hR := Aside0.mk hA.2.2.2.ow.rd'.2
      have hcl := ecs
      have ht : ∀ w2 : World, Rd w2 (some ⟨g, 0, none⟩) cap cs → Calls Tryd.prog 63 #[.slice (some ⟨g, 0, none⟩) i cap] w2 fun e w' => e = .returned (.slice (some ⟨g, 0, none⟩) (trimL cs).length cap) ∧ w' = w2 := by
        intro w2 hr
        have h := trim_any (some ⟨g, 0, none⟩) cap cs w2 hr (by omega)
        rw [hcl] at h
        exact h
      have HT := Aside0.mk ht
      clear hA hv ht ecs hcl
      go_wp2_with (first | (go_at_call 63; (with_reducible refine (HT.out _ hR.out).mono ?_); rintro e w2 ⟨rfl, rfl⟩))
      go_ret
      exact RowFr.of hR.out HV.out.1 (by have := HCL.out; omega) HV.out.2.be (fun ad e => by injection e with e; subst e; exact HV.out.2.ow.from_ _ rfl)
theorem subDigits_any (A0 A1 : Option Addr) (c0 c1 : Nat) (xs ys : List Int) (w : World) (h0 : Rd w A0 c0 xs) (h1 : Rd w A1 c1 ys) (hl0 : xs.length ≤ 274877906944) (hyl : ys.length ≤ xs.length) (hle : val ys ≤ val xs) :
    Calls Tryd.prog 62 #[.slice A0 xs.length c0, .slice A1 ys.length c1] w fun e w' => RowRes e w w' (val xs - val ys) xs.length :=
  (subDigits_fr A0 A1 c0 c1 xs ys w h0 h1 hl0 hyl hle).mono fun e w' h => h.res
end Go.Proofs.YtegnnghoiffmhaaDoor.Big
