/- ParseInstant and FormatInstant answer as the reference says, reading inverts writing, and instants are ordered like their texts. -/
import Derived.Test.YtdpkemjbiengfaaDoorQCal18
import Derived.Test.YtdpkemjbiengfaaDoorCalDates
import Derived.Test.YtdpkemjbiengfaaDoorCalDays
namespace Go.Proofs.YtdpkemjbiengfaaDoor.Pure
open Go.RowKit Go.Proofs.YtdpkemjbiengfaaDoor.QCal Go.Proofs.YtdpkemjbiengfaaDoorW.PrintWords Go.Proofs.YtdpkemjbiengfaaDoorW.PrintLast Go.Proofs.YtdpkemjbiengfaaDoor.Mx

def pinD (l : List UInt8) (D : Int × Int × Int × Int) (C : Int × Int) : Int × Int :=
  if D.2.2.2 = 1 ∨ C.2 = 1 then (0, 1) else if D.2.2.2 = 0 ∧ C.2 = 0 then
    (if wrap64 (wrap64 (1440 * (dnr D.1 D.2.1 D.2.2.1).1) + C.1) < 0 then (0, 5) else if wrap64 (wrap64 (1440 * (dnr D.1 D.2.1 D.2.2.1).1) + C.1) ≥ 52596000 then (0, 5) else (wrap64 (wrap64 (1440 * (dnr D.1 D.2.1 D.2.2.1).1) + C.1), 0)) else (0, 5)
def pin (l : List UInt8) : Int × Int := if l.length = 16 ∧ (((l.getD 10 0).toNat : Int)) = 32 then pinD l (pd (l.take 10)) (pc (l.drop 11)) else (0, 1)
theorem dn_in {k : Nat} (y m d : Int) (hk : 12 ≤ k) : calendar_DayNumber.f k y m d = some (dnr y m d) := by
  obtain ⟨q, rfl⟩ : ∃ q, k = q + 12 := ⟨k - 12, by omega⟩
  exact dn_p y m d q
theorem dn_ir {k : Nat} (y m d : Int) (hk : 120 ≤ k) : pairingref5_DayNumber.f k y m d = some (dnr y m d) := by
  obtain ⟨q, rfl⟩ : ∃ q, k = q + 120 := ⟨k - 120, by omega⟩
  exact dn_r y m d q
theorem pin_p {s : ByteArray} {k : Nat} (hk : 200 ≤ k) : calendar_ParseInstant.f k s = some (pin s.data.toList) := by
  obtain ⟨q, rfl⟩ : ∃ q, k = q + 200 := ⟨k - 200, by omega⟩
  unfold calendar_ParseInstant.f
  have hbad : ¬ (s.data.toList.length = 16 ∧ (((s.data.toList.getD 10 0).toNat : Int)) = 32) → calendar_ParseInstant.j0 (q + 200) s true = some (pin s.data.toList) := by
    intro h; rw [calendar_ParseInstant.j0]; unfold pin; rw [if_pos rfl, if_neg h]
  by_cases h : (s.size : Int) = 16
  · rw [if_pos h, if_pos (by omega), show bt s 10 = ((s.data.toList.getD 10 0).toNat : Int) from bt_l s 10]
    by_cases h4 : (((s.data.toList.getD 10 0).toNat : Int)) = 32
    · have h5 : s.data.toList.length = 16 ∧ (((s.data.toList.getD 10 0).toNat : Int)) = 32 := ⟨by rw [← sz]; omega, h4⟩
      rw [h4]
      rw [calendar_ParseInstant.j0]
      rw [if_neg (by decide), if_pos (by decide), if_pos (by omega), pd_p (by omega), Option.bind_some, if_pos (by omega), pc_p (by omega), Option.bind_some]
      rw [ex_l, ex_l, sz, List.take_length, List.drop_zero]
      unfold pin pinD
      rw [if_pos h5]
      generalize pd (s.data.toList.take 10) = D
      generalize pc (s.data.toList.drop 11) = C
      obtain ⟨y, m, d, e⟩ := D
      obtain ⟨c, e'⟩ := C
      simp only
      simp only [calendar_ParseInstant.j1, calendar_ParseInstant.j2]
      rw [dn_in y m d (by omega)]
      by_cases e1 : e = 1
      · rw [if_pos e1, if_true, if_pos (Or.inl e1)]
      · rw [if_neg e1]
        by_cases e2 : e' = 1
        · rw [if_pos (Or.inr e2), if_pos (by rw [e2]; rfl)]
        · rw [if_neg (show ¬ (e' == 1) = true by simpa using e2), if_neg (show ¬ (e = 1 ∨ e' = 1) by omega)]
          by_cases e3 : e = 0
          · rw [if_pos e3]
            by_cases e4 : e' = 0
            · rw [if_neg (show ¬ (e' != 0) = true by simpa using e4), if_pos (show e = 0 ∧ e' = 0 from ⟨e3, e4⟩)]
              simp only [Option.bind_some, apply_ite some]
            · rw [if_pos (show (e' != 0) = true by simpa using e4), if_neg (show ¬ (e = 0 ∧ e' = 0) by omega)]
          · rw [if_neg e3, if_true, if_neg (show ¬ (e = 0 ∧ e' = 0) by omega)]
    · rw [show (((s.data.toList.getD 10 0).toNat : Int) != 32) = true from by simpa using h4]
      exact hbad (fun h => h4 h.2)
  · rw [if_neg h]
    exact hbad (fun h2 => h (by rw [sz]; omega))
theorem pin_r {s : ByteArray} {k : Nat} (hk : 200 ≤ k) : pairingref5_ParseInstant.f k s = some (pin s.data.toList) := by
  obtain ⟨q, rfl⟩ : ∃ q, k = q + 200 := ⟨k - 200, by omega⟩
  rw [← pin_p (k := q + 200) (by omega)]
  unfold pairingref5_ParseInstant.f calendar_ParseInstant.f
  have e : ∀ b, pairingref5_ParseInstant.j0 (q + 200) s b = calendar_ParseInstant.j0 (q + 200) s b := by
    intro b
    rw [pairingref5_ParseInstant.j0, calendar_ParseInstant.j0]
    rw [pd_p (k := q + 199) (by omega), pc_p (k := q + 199) (by omega), pd_r (k := q + 199) (by omega), pc_r (k := q + 199) (by omega)]
    simp only [pairingref5_ParseInstant.j1, calendar_ParseInstant.j1, pairingref5_ParseInstant.j2, calendar_ParseInstant.j2]
    simp only [dn_in (k := q + 197) _ _ _ (by omega), dn_ir (k := q + 197) _ _ _ (by omega)]
  rw [e, e]

/-! instants written -/
def fil (y m d c : Int) : List UInt8 := fdl y m d ++ 32 :: fcl c
theorem fin_p (t : Int) {k : Nat} (hk : 200 ≤ k) : (¬ (0 ≤ t ∧ t < 52596000) ∧ calendar_FormatInstant.f k t = some (mk [], 5)) ∨ ((0 ≤ t ∧ t < 52596000) ∧ ∃ y m d, IsD (t / 1440) y m d ∧ calendar_FormatInstant.f k t = some (mk (fil y m d (t % 1440)), 0)) := by
  obtain ⟨q, rfl⟩ : ∃ q, k = q + 200 := ⟨k - 200, by omega⟩
  unfold calendar_FormatInstant.f
  by_cases h : 0 ≤ t ∧ t < 52596000
  · refine .inr ⟨h, ?_⟩
    rw [if_neg (by omega), show decide (t ≥ 52596000) = false from decide_eq_false (by omega)]
    rw [calendar_FormatInstant.j0]
    unfold calendar_SplitMinute.f
    rw [if_neg (by decide), tmod_nn h.1, tdiv_nn h.1, if_neg (by omega), w64 (by omega) (by omega), Option.bind_some]
    simp only
    rcases do_p (t / 1440) (q + 79) with ⟨y, m, d, e, g⟩ | ⟨e, g⟩
    · refine ⟨y, m, d, g, ?_⟩
      rw [e, Option.bind_some]
      simp only
      rw [fd_p _ _ _ (by omega), fc_p _ (by omega), Option.bind_some, Option.bind_some]
      have a1 : fd y m d = (mk (fdl y m d), 0) := if_pos g.vld
      have a2 : fc (t % 1440) = (mk (fcl (t % 1440)), 0) := if_pos (by omega)
      rw [a1, a2]
      simp only
      rw [sz, sz, mk_l, mk_l, fd_l, show (fcl (t % 1440)).length = 5 from rfl, if_pos (by decide), if_pos (by decide)]
      rfl
    · exact absurd (by omega) g
  · refine .inl ⟨h, ?_⟩
    split
    · rw [calendar_FormatInstant.j0, if_pos rfl]; rfl
    · rw [calendar_FormatInstant.j0, if_pos (by simp; omega)]; rfl
theorem fin_r (t : Int) {k : Nat} (hk : 2200 ≤ k) : pairingref5_FormatInstant.f k t = calendar_FormatInstant.f k t := by
  obtain ⟨q, rfl⟩ : ∃ q, k = q + 2200 := ⟨k - 2200, by omega⟩
  unfold pairingref5_FormatInstant.f calendar_FormatInstant.f
  have e : ∀ b, (t < 0 ∨ t ≥ 52596000 → b = true) → pairingref5_FormatInstant.j0 (q + 2200) t b = calendar_FormatInstant.j0 (q + 2200) t b := by
    intro b hb
    rw [pairingref5_FormatInstant.j0, calendar_FormatInstant.j0]
    cases b with
    | true => rfl
    | false =>
      have h : 0 ≤ t ∧ t < 52596000 := by
        by_cases h : t < 0 ∨ t ≥ 52596000
        · exact absurd (hb h) (by decide)
        · omega
      rw [if_neg (by decide), if_neg (by decide)]
      unfold calendar_SplitMinute.f pairingref5_SplitMinute.f pairingref5_floor.f
      rw [if_neg (show ¬ (1440 : Int) = 0 by decide), tmod_nn h.1, tdiv_nn h.1, if_neg (by omega), if_neg (by omega), w64 (x := t / 1440) (by omega) (by omega), Option.bind_some, Option.bind_some, Option.bind_some]
      simp only
      rw [w64 (x := 1440 * (t / 1440)) (by omega) (by omega), w64 (x := t - 1440 * (t / 1440)) (by omega) (by omega), show t - 1440 * (t / 1440) = t % 1440 by omega]
      rcases do_p (t / 1440) (q + 2079) with ⟨y, m, d, e, g⟩ | ⟨e, g⟩
      · rcases do_r (t / 1440) (q + 99) with ⟨y', m', d', e', g'⟩ | ⟨e', g'⟩
        · obtain ⟨rfl, rfl, rfl⟩ := g.unique g'
          rw [e, e']
          simp only [Option.bind_some]
          rw [fd_p _ _ _ (by omega), fc_p _ (by omega), fd_r _ _ _ (by omega), fc_r _ (by omega)]
        · exact absurd (by omega) g'
      · exact absurd (by omega) g
  by_cases h : t < 0
  · rw [if_pos h, if_pos h]; exact e _ (fun _ => rfl)
  · rw [if_neg h, if_neg h]
    refine e _ (fun h2 => ?_)
    exact decide_eq_true (by omega)
theorem fil_pin {t y m d : Int} (h : 0 ≤ t ∧ t < 52596000) (g : IsD (t / 1440) y m d) : pin (fil y m d (t % 1440)) = (t, 0) := by
  have e1 : (fil y m d (t % 1440)).take 10 = fdl y m d := rfl
  have e2 : (fil y m d (t % 1440)).drop 11 = fcl (t % 1440) := rfl
  have e3 : (fil y m d (t % 1440)).getD 10 0 = 32 := rfl
  have e4 : (fil y m d (t % 1440)).length = 16 := rfl
  unfold pin
  rw [e1, e2, e3, e4, if_pos ⟨rfl, rfl⟩, fdl_pd g.vld, fcl_pc (by omega) (by omega)]
  unfold pinD dnr
  rw [if_neg (by simp), if_pos ⟨rfl, rfl⟩]
  simp only
  rw [if_pos g.vld]
  obtain ⟨_, _, _, _, _, _, g7⟩ := g
  rw [g7]
  simp only
  rw [w64 (x := 1440 * (t / 1440)) (by omega) (by omega), w64 (by omega) (by omega), if_neg (by omega), if_neg (by omega)]
  congr 1
  omega

/-! the order of the texts -/
theorem less_same (c : UInt8) (s t : List UInt8) : Op.bytesLess (c :: s) (c :: t) = Op.bytesLess s t := by
  rw [Op.bytesLess]; simp
theorem less2 {a b : Nat} (ha : a < 100) (hb : b < 100) (s t : List UInt8) : Op.bytesLess (p2 a ++ s) (p2 b ++ t) = (decide (a < b) || (decide (a = b) && Op.bytesLess s t)) := by
  have e : ∀ a b : Fin 100, ∀ z : Bool, (decide (UInt8.ofNat (48 + a.val / 10) < UInt8.ofNat (48 + b.val / 10)) || (UInt8.ofNat (48 + a.val / 10) == UInt8.ofNat (48 + b.val / 10) && (decide (UInt8.ofNat (48 + a.val % 10) < UInt8.ofNat (48 + b.val % 10)) || (UInt8.ofNat (48 + a.val % 10) == UInt8.ofNat (48 + b.val % 10) && z)))) = (decide (a.val < b.val) || (decide (a.val = b.val) && z)) := by decide +kernel
  exact e ⟨a, ha⟩ ⟨b, hb⟩ (Op.bytesLess s t)
theorem less4 {a b : Nat} (ha : 1999 ≤ a) (ha2 : a ≤ 2100) (hb : 1999 ≤ b) (hb2 : b ≤ 2100) (s t : List UInt8) : Op.bytesLess (p4 a ++ s) (p4 b ++ t) = (decide (a < b) || (decide (a = b) && Op.bytesLess s t)) := by
  have e : ∀ a b : Fin 102, ∀ z : Bool, (decide (UInt8.ofNat (48 + (a.val + 1999) / 1000) < UInt8.ofNat (48 + (b.val + 1999) / 1000)) || (UInt8.ofNat (48 + (a.val + 1999) / 1000) == UInt8.ofNat (48 + (b.val + 1999) / 1000) && (decide (UInt8.ofNat (48 + (a.val + 1999) / 100 % 10) < UInt8.ofNat (48 + (b.val + 1999) / 100 % 10)) || (UInt8.ofNat (48 + (a.val + 1999) / 100 % 10) == UInt8.ofNat (48 + (b.val + 1999) / 100 % 10) && (decide (UInt8.ofNat (48 + (a.val + 1999) / 10 % 10) < UInt8.ofNat (48 + (b.val + 1999) / 10 % 10)) || (UInt8.ofNat (48 + (a.val + 1999) / 10 % 10) == UInt8.ofNat (48 + (b.val + 1999) / 10 % 10) && (decide (UInt8.ofNat (48 + (a.val + 1999) % 10) < UInt8.ofNat (48 + (b.val + 1999) % 10)) || (UInt8.ofNat (48 + (a.val + 1999) % 10) == UInt8.ofNat (48 + (b.val + 1999) % 10) && z)))))))) = (decide (a.val + 1999 < b.val + 1999) || (decide (a.val + 1999 = b.val + 1999) && z)) := by decide +kernel
  obtain ⟨a, rfl⟩ : ∃ q, a = q + 1999 := ⟨a - 1999, by omega⟩
  obtain ⟨b, rfl⟩ : ∃ q, b = q + 1999 := ⟨b - 1999, by omega⟩
  exact e ⟨a, by omega⟩ ⟨b, by omega⟩ (Op.bytesLess s t)
theorem less_fcl {c c' : Int} (h0 : 0 ≤ c) (h1 : c < 1440) (h0' : 0 ≤ c') (h1' : c' < 1440) : Op.bytesLess (fcl c) (fcl c') = decide (c < c') := by
  unfold fcl
  rw [less2 (by omega) (by omega), less_same, ← List.append_nil (p2 (c % 60).toNat), ← List.append_nil (p2 (c' % 60).toNat), less2 (by omega) (by omega)]
  rw [show Op.bytesLess [] [] = false from rfl, Bool.and_false, Bool.or_false]
  rw [Bool.eq_iff_iff]
  simp only [Bool.or_eq_true, Bool.and_eq_true, decide_eq_true_eq]
  omega
theorem less_fil {t u y m d y' m' d' : Int} (g : IsD (t / 1440) y m d) (g' : IsD (u / 1440) y' m' d') : Op.bytesLess (fil y m d (t % 1440)) (fil y' m' d' (u % 1440)) = decide (t < u) := by
  have a1 := g.year
  have a2 := g'.year
  obtain ⟨g1, g2, g3, g4, g5, g6, g7⟩ := id g
  obtain ⟨k1, k2, k3, k4, k5, k6, k7⟩ := id g'
  have hh := dim_hi y m
  have hh' := dim_hi y' m'
  unfold fil fdl
  rw [List.append_assoc, List.append_assoc, less4 (by omega) (by omega) (by omega) (by omega), List.cons_append, List.cons_append, less_same, List.append_assoc, List.append_assoc, less2 (by omega) (by omega), List.cons_append, List.cons_append, less_same, less2 (by omega) (by omega), less_same, less_fcl (by omega) (by omega) (by omega) (by omega)]
  have l1 : y < y' → t / 1440 < u / 1440 := fun h => by have := ys_le (a := y + 1) (b := y') (by omega) (by omega); omega
  have l2 : y' < y → u / 1440 < t / 1440 := fun h => by have := ys_le (a := y' + 1) (b := y) (by omega) (by omega); omega
  have l3 : y = y' → m < m' → t / 1440 < u / 1440 := fun h h2 => by subst h; have := cum_le y (a := m + 1) (b := m') (by omega) (by omega) (by omega); omega
  have l4 : y = y' → m' < m → u / 1440 < t / 1440 := fun h h2 => by subst h; have := cum_le y (a := m' + 1) (b := m) (by omega) (by omega) (by omega); omega
  have l5 : y = y' → m = m' → t / 1440 - u / 1440 = d - d' := fun h h2 => by subst h; subst h2; unfold num at g7 k7; omega
  rw [Bool.eq_iff_iff]
  simp only [Bool.or_eq_true, Bool.and_eq_true, decide_eq_true_eq]
  clear a1 a2 g7 k7 g g'
  omega
theorem CalendarInstants : pairinglaw6_CalendarInstants.Pure := by
  intro s t u hs ht hu
  refine ⟨2300, ?_⟩
  unfold pairinglaw6_CalendarInstants.f
  rw [pin_p (by decide), pin_r (by decide), fin_r _ (by decide)]
  have ha : pairinglaw6_awake.f 2298 = some true := awake6 2294
  have hj : ∀ X Z, pairinglaw6_CalendarInstants.j1 2299 t u X Z false = some true := by
    intro X Z; rw [pairinglaw6_CalendarInstants.j1, if_neg (by decide), ha]; rfl
  rcases fin_p t (k := 2300) (by decide) with ⟨h, e⟩ | ⟨h, y, m, d, g, e⟩
  · rw [e]
    simp only [Option.bind_some, if_true, bne_self_eq_false]
    rw [pairinglaw6_CalendarInstants.j0]
    rw [if_neg (by decide)]
    rcases fin_p u (k := 2299) (by decide) with ⟨h', e'⟩ | ⟨h', y', m', d', g', e'⟩
    · rw [e', Option.bind_some, if_neg (by decide)]; exact hj _ _
    · rw [e', Option.bind_some, if_neg (by decide)]; exact hj _ _
  · rw [e]
    simp only [Option.bind_some, if_true, bne_self_eq_false]
    rw [pairinglaw6_CalendarInstants.j0]
    rw [if_neg (by decide)]
    rcases fin_p u (k := 2299) (by decide) with ⟨h', e'⟩ | ⟨h', y', m', d', g', e'⟩
    · rw [e', Option.bind_some, if_pos rfl]; exact hj _ _
    · rw [e', Option.bind_some, if_pos rfl]
      simp only
      rw [pairinglaw6_CalendarInstants.j1, if_pos (show ((0 : Int) == 0) = true from rfl), pin_p (by decide), mk_l, fil_pin h g, Option.bind_some]
      simp only [if_true]
      rw [toList_l, toList_l, mk_l, mk_l, less_fil g g', ha]
      simp
end Go.Proofs.YtdpkemjbiengfaaDoor.Pure
