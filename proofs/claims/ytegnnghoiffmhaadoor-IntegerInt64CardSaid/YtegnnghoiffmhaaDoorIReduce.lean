/- integer.reduce: a multiple of a row of digits taken off a part of a row, and the quotient's digit. -/
import Derived.Test.YtegnnghoiffmhaaDoorISub
import Derived.Test.YtegnnghoiffmhaaDoorIPlus
import Derived.Test.YtegnnghoiffmhaaDoorIShift
namespace Go.Proofs.YtegnnghoiffmhaaDoor.Big
open Go.RowKit Go.Proofs.YtegnnghoiffmhaaDoorW.PrintWords
set_option linter.unusedVariables false
set_option linter.unusedSimpArgs false
/-- The n digits from place a on. -/
def sg (a n : Nat) (us : List Int) : Int := val ((us.drop a).take n)
theorem sg_bounds {us : List Int} (h : ∀ x ∈ us, 0 ≤ x ∧ x ≤ 4294967295) (a n : Nat) : 0 ≤ sg a n us ∧ sg a n us < pw n := by
  have h1 := val_bounds ((us.drop a).take n) (fun x hx => h x (List.mem_of_mem_drop (List.mem_of_mem_take hx)))
  have h2 := pw_le (show ((us.drop a).take n).length ≤ n by rw [List.length_take]; omega)
  unfold sg
  omega
theorem val_parts (a n : Nat) (us : List Int) (h : a + n ≤ us.length) : val us = val (us.take a) + pw a * sg a n us + pw (a + n) * val (us.drop (a + n)) := by
  have e : us = us.take a ++ ((us.drop a).take n ++ us.drop (a + n)) := by rw [← List.drop_drop, List.take_append_drop, List.take_append_drop]
  have h1 := congrArg val e
  rw [val_append, val_append, List.length_take, List.length_take, List.length_drop, show min a us.length = a by omega, show min n (us.length - a) = n by omega] at h1
  rw [h1, pw_add]
  unfold sg
  grind
theorem val_diff (a n : Nat) (us cs : List Int) (h : a + n ≤ us.length) (hl : cs.length = us.length) (h1 : cs.take a = us.take a) (h2 : cs.drop (a + n) = us.drop (a + n)) : val cs - val us = pw a * (sg a n cs - sg a n us) := by
  rw [val_parts a n us h, val_parts a n cs (by omega), h1, h2]
  grind
theorem set_out (a n k : Nat) (us cs : List Int) (v : Int) (h1 : cs.take a = us.take a) (h2 : cs.drop (a + n) = us.drop (a + n)) (hk : k < n) : (cs.set (a + k) v).take a = us.take a ∧ (cs.set (a + k) v).drop (a + n) = us.drop (a + n) :=
  ⟨by rw [List.take_set, List.set_eq_of_length_le (by simp; omega), h1], by rw [List.drop_set_of_lt (by omega), h2]⟩
theorem bor_eq (o t b : Int) (ho : 0 ≤ o ∧ o ≤ 4294967295) (ht : 0 ≤ t ∧ t ≤ 4294967295) (hb : 0 ≤ b ∧ b ≤ 1) : (o - t - b) % 4294967296 = o - t - b + 4294967296 * bor o t b := by
  unfold bor; split <;> omega
/-- What the first loop keeps. -/
def Red1 (w wr : World) (base g cap a : Nat) (us vs : List Int) (q : Int) (k : Nat) (c b : Int) (cs : List Int) : Prop :=
  (0 ≤ c ∧ c ≤ 4294967295) ∧ (0 ≤ b ∧ b ≤ 1) ∧ cs.length = us.length ∧ val cs - (b + c) * pw (a + k) = val us - q * pw a * val (vs.take k) ∧ (cs.take a = us.take a ∧ cs.drop (a + (vs.length + 1)) = us.drop (a + (vs.length + 1))) ∧
    Ow wr base (.slice (some ⟨g, 0, none⟩) us.length cap) cs ∧ w.grownBy wr (some g)
theorem red1_next (w wr : World) (base g cap a : Nat) (us vs : List Int) (q : Int) (k : Nat) (c b : Int) (cs : List Int) (x o : Int) (hq : 0 ≤ q ∧ q ≤ 4294967295) (ex : dg vs k = x) (dx : 0 ≤ x ∧ x ≤ 4294967295) (eo : dg cs (a + k) = o) (hk : k < vs.length) (hl : a + vs.length < us.length) (h : Red1 w wr base g cap a us vs q k c b cs) :
    Red1 w (wr.setCell ⟨g, a + k, none⟩ (.int .u32 ((o - (c + q * x) % 4294967296 - b) % 4294967296))) base g cap a us vs q (k + 1) ((c + q * x) / 4294967296) (bor o ((c + q * x) % 4294967296) b) (cs.set (a + k) ((o - (c + q * x) % 4294967296 - b) % 4294967296)) := by
  obtain ⟨h1, h2, h3, h4, h5, h6, h7⟩ := h
  have p0 : 0 ≤ q * x := Int.mul_nonneg hq.1 dx.1
  have p1 : q * x ≤ 18446744065119617025 := Int.mul_le_mul hq.2 dx.2 dx.1 (by omega)
  have do_ := dg_dig h6.dig (a + k)
  rw [eo] at do_
  refine ⟨by omega, bor01 _ _ _, by simpa using h3, ?_, set_out a _ k us cs _ h5.1 h5.2 (by omega), h6.put _ _ (by omega), grown_set h7⟩
  rw [val_set _ _ _ (by omega), eo, bor_eq o _ b do_ (by omega) h2, val_take vs, ex]
  have e := Int.mul_ediv_add_emod (c + q * x) 4294967296
  have ep : pw (a + (k + 1)) = pw (a + k) * 4294967296 := rfl
  have ep2 : pw (a + k) = pw a * pw k := pw_add a k
  rw [ep]
  generalize bor o ((c + q * x) % 4294967296) b = B' at *
  grind
/-- Behind the first loop: the highest digit. -/
theorem red1_last (w wr : World) (base g cap a : Nat) (us vs : List Int) (q : Int) (c b : Int) (cs : List Int) (o : Int) (hq : 0 ≤ q ∧ q ≤ 4294967295) (eo : dg cs (a + vs.length) = o) (hl : a + vs.length < us.length) (h : Red1 w wr base g cap a us vs q vs.length c b cs) :
    ∃ ds, ds = cs.set (a + vs.length) ((o - c - b) % 4294967296) ∧ ds.length = us.length ∧ val ds = val us - q * val vs * pw a + bor o c b * pw (a + (vs.length + 1)) ∧ (ds.take a = us.take a ∧ ds.drop (a + (vs.length + 1)) = us.drop (a + (vs.length + 1))) ∧
      Ow (wr.setCell ⟨g, a + vs.length, none⟩ (.int .u32 ((o - c - b) % 4294967296))) base (.slice (some ⟨g, 0, none⟩) us.length cap) ds ∧ w.grownBy (wr.setCell ⟨g, a + vs.length, none⟩ (.int .u32 ((o - c - b) % 4294967296))) (some g) := by
  obtain ⟨h1, h2, h3, h4, h5, h6, h7⟩ := h
  have do_ := dg_dig h6.dig (a + vs.length)
  rw [eo] at do_
  refine ⟨_, rfl, by simpa using h3, ?_, set_out a _ _ us cs _ h5.1 h5.2 (by omega), h6.put _ _ (by omega), grown_set h7⟩
  rw [List.take_of_length_le (Nat.le_refl _)] at h4
  rw [val_set _ _ _ (by omega), eo, bor_eq o _ b do_ h1 h2]
  have ep : pw (a + (vs.length + 1)) = pw (a + vs.length) * 4294967296 := rfl
  rw [ep]
  grind
/-- Is the estimate one too great? The borrow tells. -/
theorem red_borrow (a n : Nat) (us ds : List Int) (q V b : Int) (hus : ∀ x ∈ us, 0 ≤ x ∧ x ≤ 4294967295) (hds : ∀ x ∈ ds, 0 ≤ x ∧ x ≤ 4294967295) (hl : a + n ≤ us.length) (hlen : ds.length = us.length) (ho : ds.take a = us.take a ∧ ds.drop (a + n) = us.drop (a + n)) (hV : 0 < V) (hb : 0 ≤ b ∧ b ≤ 1)
    (hv : val ds = val us - q * V * pw a + b * pw (a + n)) (h1 : sg a n us / V ≤ q) (h2 : q ≤ sg a n us / V + 1) : sg a n ds = sg a n us - q * V + b * pw n ∧ (b = 0 → q = sg a n us / V) ∧ (b = 1 → q = sg a n us / V + 1) := by
  have d := val_diff a n us ds hl hlen ho.1 ho.2
  have p := pw_pos a
  have s0 := sg_bounds hus a n
  have s1 := sg_bounds hds a n
  rw [pw_add] at hv
  have e : sg a n ds = sg a n us - q * V + b * pw n := by
    have : pw a * (sg a n ds - sg a n us) = pw a * (-(q * V) + b * pw n) := by rw [← d]; grind
    have := Int.eq_of_mul_eq_mul_left (by omega) this
    omega
  have m1 := Int.mul_ediv_add_emod (sg a n us) V
  have m2 := Int.emod_nonneg (sg a n us) (show V ≠ 0 by omega)
  have m3 := Int.emod_lt_of_pos (sg a n us) hV
  refine ⟨e, ?_, ?_⟩
  · intro hb0
    subst hb0
    rcases (show q = sg a n us / V ∨ q = sg a n us / V + 1 by omega) with hq | hq
    · exact hq
    · exfalso
      have : q * V = V * (sg a n us / V) + V := by rw [hq]; grind
      omega
  · intro hb1
    subst hb1
    rcases (show q = sg a n us / V ∨ q = sg a n us / V + 1 by omega) with hq | hq
    · exfalso
      have : q * V = V * (sg a n us / V) := by rw [hq]; grind
      omega
    · exact hq
/-- What the second loop keeps. -/
def Red2 (w wr : World) (base g cap a : Nat) (us vs ds : List Int) (k : Nat) (c : Int) (cs : List Int) : Prop :=
  (0 ≤ c ∧ c ≤ 1) ∧ cs.length = us.length ∧ val cs + c * pw (a + k) = val ds + pw a * val (vs.take k) ∧ (cs.take a = us.take a ∧ cs.drop (a + (vs.length + 1)) = us.drop (a + (vs.length + 1))) ∧
    Ow wr base (.slice (some ⟨g, 0, none⟩) us.length cap) cs ∧ w.grownBy wr (some g)
theorem red2_next (w wr : World) (base g cap a : Nat) (us vs ds : List Int) (k : Nat) (c : Int) (cs : List Int) (x o : Int) (ex : dg vs k = x) (dx : 0 ≤ x ∧ x ≤ 4294967295) (eo : dg cs (a + k) = o) (hk : k < vs.length) (hl : a + vs.length < us.length) (h : Red2 w wr base g cap a us vs ds k c cs) :
    Red2 w (wr.setCell ⟨g, a + k, none⟩ (.int .u32 ((o + x + c) % 4294967296))) base g cap a us vs ds (k + 1) ((o + x + c) / 4294967296) (cs.set (a + k) ((o + x + c) % 4294967296)) := by
  obtain ⟨h1, h3, h4, h5, h6, h7⟩ := h
  have do_ := dg_dig h6.dig (a + k)
  rw [eo] at do_
  refine ⟨by omega, by simpa using h3, ?_, set_out a _ k us cs _ h5.1 h5.2 (by omega), h6.put _ _ (by omega), grown_set h7⟩
  rw [val_set _ _ _ (by omega), eo, val_take vs, ex]
  have e := Int.mul_ediv_add_emod (o + x + c) 4294967296
  have ep : pw (a + (k + 1)) = pw (a + k) * 4294967296 := rfl
  have ep2 : pw (a + k) = pw a * pw k := pw_add a k
  rw [ep]
  grind
theorem red2_last (w wr : World) (base g cap a : Nat) (us vs ds : List Int) (c q : Int) (cs : List Int) (o : Int) (eo : dg cs (a + vs.length) = o) (hl : a + vs.length < us.length) (hus : ∀ x ∈ us, 0 ≤ x ∧ x ≤ 4294967295) (hvs : ∀ x ∈ vs, 0 ≤ x ∧ x ≤ 4294967295)
    (hd : val ds = val us - q * val vs * pw a + pw (a + (vs.length + 1))) (hs : sg a (vs.length + 1) us < q * val vs) (hq : (q - 1) * val vs ≤ sg a (vs.length + 1) us) (h : Red2 w wr base g cap a us vs ds vs.length c cs) :
    ∃ es, es = cs.set (a + vs.length) ((o + c) % 4294967296) ∧ es.length = us.length ∧ val es = val us - (q - 1) * val vs * pw a ∧ (es.take a = us.take a ∧ es.drop (a + (vs.length + 1)) = us.drop (a + (vs.length + 1))) ∧
      Ow (wr.setCell ⟨g, a + vs.length, none⟩ (.int .u32 ((o + c) % 4294967296))) base (.slice (some ⟨g, 0, none⟩) us.length cap) es ∧ w.grownBy (wr.setCell ⟨g, a + vs.length, none⟩ (.int .u32 ((o + c) % 4294967296))) (some g) := by
  obtain ⟨h1, h3, h4, h5, h6, h7⟩ := h
  have do_ := dg_dig h6.dig (a + vs.length)
  rw [eo] at do_
  have hO := h6.put (a + vs.length) ((o + c) % 4294967296) (by omega)
  have ho := set_out a (vs.length + 1) vs.length us cs ((o + c) % 4294967296) h5.1 h5.2 (by omega)
  refine ⟨_, rfl, by simpa using h3, ?_, ho, hO, grown_set h7⟩
  rw [List.take_of_length_le (Nat.le_refl _)] at h4
  have e := Int.mul_ediv_add_emod (o + c) 4294967296
  have ep : pw (a + (vs.length + 1)) = pw (a + vs.length) * 4294967296 := rfl
  have hv : val (cs.set (a + vs.length) ((o + c) % 4294967296)) = val us - (q - 1) * val vs * pw a + (1 - (o + c) / 4294967296) * pw (a + (vs.length + 1)) := by
    rw [val_set _ _ _ (by omega), eo, ep]
    rw [ep] at hd
    grind
  have d := val_diff a (vs.length + 1) us _ (by omega) (by simpa using h3) ho.1 ho.2
  have s1 := sg_bounds hO.dig a (vs.length + 1)
  have s0 := sg_bounds hus a (vs.length + 1)
  have p := pw_pos a
  have vb := val_bounds vs hvs
  have pl : pw vs.length ≤ pw (vs.length + 1) := pw_le (by omega)
  rw [hv, pw_add] at d
  have e2 : sg a (vs.length + 1) (cs.set (a + vs.length) ((o + c) % 4294967296)) = sg a (vs.length + 1) us - (q - 1) * val vs + (1 - (o + c) / 4294967296) * pw (vs.length + 1) := by
    have : pw a * (sg a (vs.length + 1) (cs.set (a + vs.length) ((o + c) % 4294967296)) - sg a (vs.length + 1) us) = pw a * (-((q - 1) * val vs) + (1 - (o + c) / 4294967296) * pw (vs.length + 1)) := by rw [← d]; grind
    have := Int.eq_of_mul_eq_mul_left (by omega) this
    omega
  have hov : (o + c) / 4294967296 = 1 := by
    have e3 : (q - 1) * val vs = q * val vs - val vs := by grind
    rcases (show (o + c) / 4294967296 = 0 ∨ (o + c) / 4294967296 = 1 by omega) with h0 | h0
    · exfalso
      rw [h0] at e2
      omega
    · exact h0
  rw [hv, hov]
  grind
set_option maxRecDepth 100000 in
theorem reduce_any (g cap base a : Nat) (us : List Int) (A : Option Addr) (cv : Nat) (vs : List Int) (q : Int) (w : World) (hu : Ow w base (.slice (some ⟨g, 0, none⟩) us.length cap) us) (hv : Rd w A cv vs) (hoff : ∀ ad, A = some ad → some ad.block ≠ some g) (hl : a + vs.length < us.length) (hul : us.length ≤ 1099511627776) (hq : 0 ≤ q ∧ q ≤ 4294967295) (hV : 0 < val vs) (h1 : sg a (vs.length + 1) us / val vs ≤ q) (h2 : q ≤ sg a (vs.length + 1) us / val vs + 1) :
    Calls Tryd.prog 76 #[.slice (some ⟨g, 0, none⟩) us.length cap, .slice A vs.length cv, .int .i64 a, .int .u64 q] w fun e w' => ∃ ds, e = .returned (.int .u32 (sg a (vs.length + 1) us / val vs)) ∧ ds.length = us.length ∧ val ds = val us - sg a (vs.length + 1) us / val vs * val vs * pw a ∧
      (ds.take a = us.take a ∧ ds.drop (a + (vs.length + 1)) = us.drop (a + (vs.length + 1))) ∧ Ow w' base (.slice (some ⟨g, 0, none⟩) us.length cap) ds ∧ w.grownBy w' (some g) := by
  have H := Aside0.mk (And.intro hu (And.intro hv hoff))
  have Q := Aside0.mk (And.intro h1 h2)
  clear hu hv hoff h1 h2
  obtain ⟨hq0, hq1⟩ := hq
  have ha : a < 1099511627776 := by omega
  have hvl : vs.length < 1099511627776 := by omega
  go_enter Tryd.func76, Tryd.ntmps76
  go_wp2
  go_loopg [9, 10, 18] vs.length (fun kq v9 v10 v18 w' => ∃ (k : Nat) (c b : Int) (cs : List Int), v9 = .int .u64 c ∧ v10 = .int .u32 b ∧ v18 = .int .i64 k ∧ Aside0 (k + kq = vs.length ∧ Red1 w w' base g cap a us vs q k c b cs))
  case atStart => exact ⟨0, 0, 0, us, rfl, rfl, rfl, ⟨by omega, by omega, by omega, rfl, by simp [val], ⟨rfl, rfl⟩, H.out.1, World.grownBy.refl _ _⟩⟩
  case round =>
    obtain ⟨k, c, b, cs, rfl, rfl, rfl, HA⟩ := hrel
    have c0 := HA.out.2.1.1
    have c1 := HA.out.2.1.2
    have BB := Aside0.mk HA.out.2.2.1
    by_cases hk : k < vs.length
    · obtain ⟨ad, rfl, x0⟩ := (H.out.2.1.grown HA.out.2.2.2.2.2.2.2 H.out.2.2).at_ k hk
      have hik : a + k < us.length := by omega
      obtain ⟨y0, y1⟩ := HA.out.2.2.2.2.2.2.1.cell (a + k) hik
      have DX := Aside0.mk (dg_dig H.out.2.1.dig k)
      have DO := Aside0.mk (dg_dig HA.out.2.2.2.2.2.2.1.dig (a + k))
      have x2 := DX.out.1
      have x3 := DX.out.2
      have p0 : 0 ≤ q * dg vs k := Int.mul_nonneg hq0 x2
      have p1 : q * dg vs k ≤ 18446744065119617025 := Int.mul_le_mul hq1 x3 x2 (by omega)
      go_wp2_with fail
      (go_at_call 84; (with_reducible refine (sub32_any (dg cs (a + k)) ((c + q * dg vs k) % 4294967296) b _ DO.out ?_ BB.out).mono ?_); (constructor <;> omega); rintro e w' ⟨rfl, rfl⟩)
      go_wp2
      go_roundg (gk - 1)
      case measure => have := HA.out.1; omega
      case rel => exact ⟨k + 1, _, _, _, rfl, rfl, by go_num, ⟨by have := HA.out.1; omega, red1_next w wr base g cap a us vs q k c b cs _ _ ⟨hq0, hq1⟩ rfl DX.out rfl hk hl HA.out.2⟩⟩
    · have ek : k = vs.length := by have := HA.out.1; omega
      subst ek
      obtain ⟨y0, y1⟩ := HA.out.2.2.2.2.2.2.1.cell (a + vs.length) hl
      have DO := Aside0.mk (dg_dig HA.out.2.2.2.2.2.2.1.dig (a + vs.length))
      have cm : c % 4294967296 = c := by omega
      obtain ⟨ds, eds, l1, l2, l3, l4, l5⟩ := red1_last w wr base g cap a us vs q c b cs _ ⟨hq0, hq1⟩ rfl hl HA.out.2
      have RB := red_borrow a (vs.length + 1) us ds q (val vs) (bor (dg cs (a + vs.length)) c b) H.out.1.dig l4.dig (by omega) l1 l3 hV (bor01 _ _ _) l2 Q.out.1 Q.out.2
      rcases (show bor (dg cs (a + vs.length)) c b = 0 ∨ bor (dg cs (a + vs.length)) c b = 1 by have := bor01 (dg cs (a + vs.length)) c b; omega) with hb' | hb'
      · have E := Aside0.mk (RB.2.1 hb')
        have HB := Aside0.mk hb'
        have L := Aside0.mk (And.intro l1 (And.intro l2 (And.intro l3 (And.intro l4 l5))))
        clear RB eds l1 l2 l3 l4 l5 hb'
        go_wp2_with (first | (go_at_call 84; (with_reducible refine (sub32_any (dg cs (a + vs.length)) c b _ DO.out ?_ BB.out).mono ?_); (constructor <;> omega); rintro e w' ⟨rfl, rfl⟩; rw [HB.out]))
        go_ret
        have h := L.out
        refine ⟨ds, by rw [← E.out]; rfl, h.1, ?_, h.2.2⟩
        have h2 := h.2.1
        rw [HB.out] at h2
        rw [← E.out]
        omega
      · have E := Aside0.mk (RB.2.2 hb')
        have HB := Aside0.mk hb'
        have L := Aside0.mk (And.intro l1 (And.intro l2 (And.intro l3 (And.intro l4 (And.intro l5 RB.1)))))
        clear RB eds l1 l2 l3 l4 l5 hb'
        go_wp2_with (first | (go_at_call 84; (with_reducible refine (sub32_any (dg cs (a + vs.length)) c b _ DO.out ?_ BB.out).mono ?_); (constructor <;> omega); rintro e w' ⟨rfl, rfl⟩; rw [HB.out]))
        clear y0 y1
        obtain ⟨wo, hwo⟩ : ∃ wo : World, wo = wr.setCell ⟨g, a + vs.length, none⟩ (.int .u32 ((dg cs (a + vs.length) - c - b) % 4294967296)) := ⟨_, rfl⟩
        rw [← hwo] at L ⊢
        clear hwo
        go_loopg [13, 76] vs.length (fun kq v13 v76 w' => ∃ (k : Nat) (c : Int) (cs : List Int), v13 = .int .u32 c ∧ v76 = .int .i64 k ∧ Aside0 (k + kq = vs.length ∧ Red2 w w' base g cap a us vs ds k c cs))
        case atStart => exact ⟨0, 0, ds, rfl, rfl, ⟨by omega, by omega, L.out.1, by simp [val], L.out.2.2.1, L.out.2.2.2.1, L.out.2.2.2.2.1⟩⟩
        case round =>
          obtain ⟨k, c2, es, rfl, rfl, HA2⟩ := hrel
          have c20 := HA2.out.2.1.1
          have c21 := HA2.out.2.1.2
          have CC := Aside0.mk HA2.out.2.1
          by_cases hk : k < vs.length
          · obtain ⟨ad, rfl, x0⟩ := (H.out.2.1.grown HA2.out.2.2.2.2.2.2 H.out.2.2).at_ k hk
            have hik : a + k < us.length := by omega
            obtain ⟨y0, y1⟩ := HA2.out.2.2.2.2.2.1.cell (a + k) hik
            have DX := Aside0.mk (dg_dig H.out.2.1.dig k)
            have DO2 := Aside0.mk (dg_dig HA2.out.2.2.2.2.2.1.dig (a + k))
            go_wp2_with (first | (go_at_call 85; (with_reducible refine (add32_any (dg es (a + k)) (dg vs k) c2 _ DO2.out DX.out CC.out).mono ?_); rintro e w' ⟨rfl, rfl⟩))
            go_roundg (gk - 1)
            case measure => have := HA2.out.1; omega
            case rel => exact ⟨k + 1, _, _, rfl, by go_num, ⟨by have := HA2.out.1; omega, red2_next w wr base g cap a us vs ds k c2 es _ _ rfl DX.out rfl hk hl HA2.out.2⟩⟩
          · have ek : k = vs.length := by have := HA2.out.1; omega
            subst ek
            obtain ⟨y0, y1⟩ := HA2.out.2.2.2.2.2.1.cell (a + vs.length) hl
            have DO2 := Aside0.mk (dg_dig HA2.out.2.2.2.2.2.1.dig (a + vs.length))
            have o0 := DO2.out.1
            have o1 := DO2.out.2
            have q2 : 1 ≤ q := by have := E.out; have := Int.ediv_nonneg (sg_bounds H.out.1.dig a (vs.length + 1)).1 (show 0 ≤ val vs by omega); omega
            go_wp2
            go_ret
            obtain ⟨fs, -, f1, f2, f3, f4, f5⟩ := red2_last w wr base g cap a us vs ds c2 q es _ rfl hl H.out.1.dig H.out.2.1.dig (by have := L.out.2.1; rw [HB.out] at this; omega) (by have h1 := L.out.2.2.2.2.2; rw [HB.out] at h1; have h2 := (sg_bounds L.out.2.2.2.1.dig a (vs.length + 1)).2; omega) (by rw [E.out, Int.add_sub_cancel, Int.mul_comm]; exact Int.mul_ediv_self_le (by omega)) HA2.out.2
            have E2 : q - 1 = sg a (vs.length + 1) us / val vs := by have := E.out; omega
            rw [E2] at f2
            refine ⟨fs, by rw [← E2]; rfl, f1, f2, f3, f4, f5⟩
end Go.Proofs.YtegnnghoiffmhaaDoor.Big
