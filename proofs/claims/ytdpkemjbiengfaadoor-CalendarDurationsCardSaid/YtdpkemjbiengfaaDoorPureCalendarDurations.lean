/- ParseDuration and FormatDuration answer as the reference says, and reading inverts writing. -/
import Derived.Test.YtdpkemjbiengfaaDoorQCal20
import Derived.Test.YtdpkemjbiengfaaDoorCalDates
namespace Go.Proofs.YtdpkemjbiengfaaDoor.Pure
open Go.RowKit Go.Proofs.YtdpkemjbiengfaaDoor.QCal Go.Proofs.YtdpkemjbiengfaaDoorW.PrintWords Go.Proofs.YtdpkemjbiengfaaDoorW.PrintLast Go.Proofs.YtdpkemjbiengfaaDoor.Mx

/-! numerals read back -/
theorem nl_cons (c : UInt8) (t : List UInt8) (v : Int) : nl (c :: t) v = if (c.toNat : Int) < 48 then (0, false) else if (c.toNat : Int) > 57 then (0, false) else nl t (wrap64 (wrap64 (10 * v) + ((c.toNat : Int) - 48) % 256)) := rfl
theorem nl_app : ∀ (a b : List UInt8) (v : Int), nl (a ++ b) v = if (nl a v).2 = true then nl b (nl a v).1 else (0, false)
  | [], b, v => rfl
  | c :: a, b, v => by
    rw [List.cons_append, nl_cons, nl_cons]
    by_cases h1 : (c.toNat : Int) < 48
    · rw [if_pos h1, if_pos h1]; rfl
    · rw [if_neg h1, if_neg h1]
      by_cases h2 : (c.toNat : Int) > 57
      · rw [if_pos h2, if_pos h2]; rfl
      · rw [if_neg h2, if_neg h2]; exact nl_app a b _
theorem nl_bad : ∀ (l : List UInt8) (v : Int) (j : Nat), l[j]? = some 58 → (nl l v).2 = false
  | [], v, j, h => by simp at h
  | c :: t, v, 0, h => by
    rw [List.getElem?_cons_zero] at h
    injection h with h; subst h; rfl
  | c :: t, v, j + 1, h => by
    unfold nl
    split
    · rfl
    · split
      · rfl
      · exact nl_bad t _ j (by simpa using h)
theorem dig_nat {d : Nat} (h : d < 10) : ((UInt8.ofNat (48 + d)).toNat : Int) = 48 + d := by
  rw [UInt8.toNat_ofNat']; omega
theorem nl_one {d : Nat} {v : Int} (h : d < 10) (h0 : 0 ≤ v) (h1 : v ≤ 100000000000000000) : nl [UInt8.ofNat (48 + d)] v = (10 * v + d, true) := by
  unfold nl
  rw [dig_nat h, if_neg (by omega), if_neg (by omega), w64 (x := 10 * v) (by omega) (by omega), w64 (by omega) (by omega)]
  unfold nl
  congr 1; omega
theorem nl_dd : ∀ (u : Nat), u < 1000000000000000000 → nl (Lib.decDigits u) 0 = ((u : Int), true) := by
  intro u
  induction u using Nat.strongRecOn with
  | _ u ih =>
    intro h
    by_cases h1 : u < 10
    · rw [Lib.decDigits_one h1, nl_one h1 (by omega) (by omega)]; congr 1; omega
    · rw [dd_big h1, nl_app, ih (u / 10) (by omega) (by omega)]
      simp only [if_true]
      rw [nl_one (by omega) (by omega) (by omega)]; congr 1; omega
theorem dd_len : ∀ (k u : Nat), u < 10 ^ (k + 1) → 1 ≤ (Lib.decDigits u).length ∧ (Lib.decDigits u).length ≤ k + 1
  | 0, u, h => by rw [Lib.decDigits_one (by simpa using h)]; simp
  | k + 1, u, h => by
    by_cases h1 : u < 10
    · rw [Lib.decDigits_one h1]; simp
    · rw [dd_big h1]
      have := dd_len k (u / 10) (by rw [Nat.pow_succ] at h; omega)
      simp; omega
theorem dd_head : ∀ (u : Nat), (Lib.decDigits u).getD 0 0 = UInt8.ofNat 48 → u = 0 := by
  intro u
  induction u using Nat.strongRecOn with
  | _ u ih =>
    intro h
    by_cases h1 : u < 10
    · rw [Lib.decDigits_one h1] at h
      have e : ∀ x : Fin 10, UInt8.ofNat (48 + x.val) = UInt8.ofNat 48 → x.val = 0 := by decide
      exact e ⟨u, h1⟩ h
    · rw [dd_big h1] at h
      have hl : 0 < (Lib.decDigits (u / 10)).length := by rw [Lib.decDigits_length]; exact Lib.nDigits_pos _
      rw [List.getD_eq_getElem?_getD, List.getElem?_append_left hl, ← List.getD_eq_getElem?_getD] at h
      have := ih (u / 10) (by omega) h
      omega

/-! what the two programs do with the digits that they have found -/
def dgood (neg : Bool) (h m : List UInt8) : Bool := (nl h 0).2 && ((nl m 0).2 && (decide (h.length ≤ 11) && (!(decide (1 < h.length) && decide (((h.getD 0 0).toNat : Int) = 48)) && !(neg && (decide ((nl h 0).1 = 0) && decide ((nl m 0).1 = 0))))))
def dtail (neg : Bool) (a b : Int) : Int × Int := if b > 59 ∨ wrap64 (wrap64 (60 * a) + b) > 1099511627776 then (0, 5) else if neg = true then (wrap64 (-(wrap64 (wrap64 (60 * a) + b))), 0) else (wrap64 (wrap64 (60 * a) + b), 0)
def drest (neg : Bool) (r : List UInt8) : Int × Int := if 4 ≤ r.length ∧ ((r.getD (r.length - 3) 0).toNat : Int) = 58 then (if dgood neg (r.take (r.length - 3)) (r.drop (r.length - 2)) = true then dtail neg (nl (r.take (r.length - 3)) 0).1 (nl (r.drop (r.length - 2)) 0).1 else (0, 1)) else (0, 1)
def dneg (l : List UInt8) : Bool := decide (0 < l.length ∧ ((l.getD 0 0).toNat : Int) = 45)
def dur (l : List UInt8) : Int × Int := drest (dneg l) (if dneg l = true then l.drop 1 else l)

theorem dtail_p (neg : Bool) (a b : Int) (k : Nat) : calendar_ParseDuration.j0 (k + 2) neg a b false = some (dtail neg a b) := by
  rw [calendar_ParseDuration.j0, if_neg (by decide)]
  unfold dtail
  by_cases h1 : b > 59
  · rw [if_pos h1, if_pos (Or.inl h1), calendar_ParseDuration.j1, if_pos rfl]
  · rw [if_neg h1, calendar_ParseDuration.j1]
    by_cases h2 : wrap64 (wrap64 (60 * a) + b) > 1099511627776
    · rw [if_pos (decide_eq_true h2), if_pos (Or.inr h2)]
    · rw [if_neg (show ¬ decide (wrap64 (wrap64 (60 * a) + b) > 1099511627776) = true by rw [decide_eq_true_eq]; exact h2), if_neg (show ¬ (b > 59 ∨ wrap64 (wrap64 (60 * a) + b) > 1099511627776) by omega)]
      cases neg with
      | false => rfl
      | true =>
        show some (_, _) = some (_, _)
        congr 2
        unfold wrap64
        omega
theorem dtail_r (neg : Bool) (a b : Int) (k : Nat) : pairingref5_ParseDuration.j3 (k + 2) neg a b false = some (dtail neg a b) := by
  rw [pairingref5_ParseDuration.j3, if_neg (by decide)]
  unfold dtail
  by_cases h1 : b > 59
  · rw [if_pos h1, if_pos (Or.inl h1), pairingref5_ParseDuration.j4, if_pos rfl]
  · rw [if_neg h1, pairingref5_ParseDuration.j4]
    by_cases h2 : wrap64 (wrap64 (60 * a) + b) > 1099511627776
    · rw [if_pos (decide_eq_true h2), if_pos (Or.inr h2)]
    · rw [if_neg (show ¬ decide (wrap64 (wrap64 (60 * a) + b) > 1099511627776) = true by rw [decide_eq_true_eq]; exact h2), if_neg (show ¬ (b > 59 ∨ wrap64 (wrap64 (60 * a) + b) > 1099511627776) by omega)]
      cases neg <;> rfl
theorem dbad_p (neg : Bool) (a b : Int) (k : Nat) : calendar_ParseDuration.j0 (k + 2) neg a b true = some (0, 1) := by rw [calendar_ParseDuration.j0, if_pos rfl]
theorem dbad_r (neg : Bool) (a b : Int) (k : Nat) : pairingref5_ParseDuration.j3 (k + 2) neg a b true = some (0, 1) := by rw [pairingref5_ParseDuration.j3, if_pos rfl]
theorem plain_r (s : ByteArray) (h : 1 ≤ s.size) : pairingref5_plain.f s = some (!(decide (1 < s.data.toList.length) && decide (((s.data.toList.getD 0 0).toNat : Int) = 48))) := by
  unfold pairingref5_plain.f
  rw [← sz]
  by_cases h1 : (s.size : Int) = 1
  · rw [if_pos h1, show decide (1 < s.size) = false from decide_eq_false (by omega)]; rfl
  · rw [if_neg h1, if_pos (by omega), if_pos (by omega), show decide (1 < s.size) = true from decide_eq_true (by omega), show bt s 0 = ((s.data.toList.getD 0 0).toNat : Int) from bt_l s 0]
    by_cases h2 : ((s.data.toList.getD 0 0).toNat : Int) = 48
    · rw [h2]; rfl
    · rw [decide_eq_false h2, show (((s.data.toList.getD 0 0).toNat : Int) != 48) = true from by simpa using h2]; rfl

theorem drest_r (neg : Bool) (s : ByteArray) (hs : s.size ≤ 140737488351232) {k : Nat} (hk : s.size + 40 ≤ k) : pairingref5_ParseDuration.j1 k s neg = some (drest neg s.data.toList) := by
  obtain ⟨q, rfl⟩ : ∃ q, k = q + 6 := ⟨k - 6, by omega⟩
  rw [pairingref5_ParseDuration.j1, w64 (by omega) (by omega)]
  have hbad : ∀ i, ¬ (4 ≤ s.data.toList.length ∧ ((s.data.toList.getD (s.data.toList.length - 3) 0).toNat : Int) = 58) → pairingref5_ParseDuration.j2 (q + 5) s neg i true = some (drest neg s.data.toList) := by
    intro i h; rw [pairingref5_ParseDuration.j2, if_pos rfl]; unfold drest; rw [if_neg h]
  by_cases h : (s.size : Int) - 3 < 1
  · rw [if_pos h]; exact hbad _ (fun h2 => by have := h2.1; rw [← sz] at this; omega)
  · rw [if_neg h, if_pos (by omega), if_pos (by omega), bt_l, show ((s.size : Int) - 3).toNat = s.data.toList.length - 3 by rw [← sz]; omega]
    by_cases h4 : ((s.data.toList.getD (s.data.toList.length - 3) 0).toNat : Int) = 58
    · rw [h4, pairingref5_ParseDuration.j2, if_neg (by decide), if_pos (by omega), if_pos (by omega), w64 (by omega) (by omega)]
      have hl : 4 ≤ s.data.toList.length := by rw [← sz]; omega
      have e1 : (s.extract 0 ((s.size : Int) - 3).toNat).data.toList = s.data.toList.take (s.data.toList.length - 3) := by rw [ex_l, List.drop_zero, ← sz]; congr 1; omega
      have e2 : (s.extract ((s.size : Int) - 3 + 1).toNat s.size).data.toList = s.data.toList.drop (s.data.toList.length - 2) := by rw [ex_l, sz, List.take_length]; congr 1; omega
      have z1 : (s.extract 0 ((s.size : Int) - 3).toNat).size = s.size - 3 := by rw [sz, e1, List.length_take, ← sz]; omega
      have z2 : (s.extract ((s.size : Int) - 3 + 1).toNat s.size).size = 2 := by rw [sz, e2, List.length_drop, ← sz]; omega
      rw [digits_p 1 11 (by omega) (by omega), Option.bind_some, if_pos (by omega), if_pos (by omega), digits_p 2 2 (by omega) (by omega), Option.bind_some, plain_r _ (by omega), e1, e2]
      have hd : drest neg s.data.toList = (if dgood neg (s.data.toList.take (s.data.toList.length - 3)) (s.data.toList.drop (s.data.toList.length - 2)) = true then dtail neg (nl (s.data.toList.take (s.data.toList.length - 3)) 0).1 (nl (s.data.toList.drop (s.data.toList.length - 2)) 0).1 else (0, 1)) := by unfold drest; exact if_pos ⟨hl, h4⟩
      rw [hd]
      have z3 : (s.data.toList.take (s.data.toList.length - 3)).length = s.size - 3 := by rw [List.length_take, ← sz]; omega
      have z4 : (s.data.toList.drop (s.data.toList.length - 2)).length = 2 := by rw [List.length_drop]; omega
      clear hd e1 e2 z1 z2 h4
      generalize s.data.toList.take (s.data.toList.length - 3) = H at *
      generalize s.data.toList.drop (s.data.toList.length - 2) = M at *
      rw [show dv M 2 2 = nl M 0 from dv_eq (n := 2) z4, Option.bind_some]
      have bad : dgood neg H M = false → ∀ x : Int × Int, (if dgood neg H M = true then x else ((0 : Int), (1 : Int))) = (0, 1) := fun h x => by rw [h]; rfl
      by_cases h11 : H.length ≤ 11
      · rw [show dv H 1 11 = nl H 0 from if_neg (by omega)]
        generalize eH : nl H 0 = aa
        generalize eM : nl M 0 = bb
        obtain ⟨a, a'⟩ := aa
        obtain ⟨b, b'⟩ := bb
        have g : dgood neg H M = (a' && (b' && (!(decide (1 < H.length) && decide (((H.getD 0 0).toNat : Int) = 48)) && !(neg && (decide (a = 0) && decide (b = 0)))))) := by
          unfold dgood; rw [eH, eM, decide_eq_true h11]; rfl
        generalize (decide (1 < H.length) && decide (((H.getD 0 0).toNat : Int) = 48)) = p at *
        cases a'
        · rw [bad g]; exact dbad_r neg a b (q + 2)
        · cases b'
          · rw [bad g]; exact dbad_r neg a b (q + 2)
          · cases p
            · cases neg
              · rw [if_pos (show dgood false H M = true from g)]; exact dtail_r false a b (q + 2)
              · by_cases ha : a = 0
                · by_cases hb : b = 0
                  · subst ha; subst hb; rw [bad g]; exact dbad_r true 0 0 (q + 2)
                  · have hb' : (b == 0) = false := by simpa using hb
                    rw [if_pos (show dgood true H M = true by rw [g, decide_eq_false hb, Bool.and_false]; rfl)]
                    show (if a = 0 then pairingref5_ParseDuration.j3 (q + 4) true a b (b == 0) else pairingref5_ParseDuration.j3 (q + 4) true a b false) = _
                    rw [if_pos ha, hb']
                    exact dtail_r true a b (q + 2)
                · rw [if_pos (show dgood true H M = true by rw [g, decide_eq_false ha]; rfl)]
                  show (if a = 0 then pairingref5_ParseDuration.j3 (q + 4) true a b (b == 0) else pairingref5_ParseDuration.j3 (q + 4) true a b false) = _
                  rw [if_neg ha]
                  exact dtail_r true a b (q + 2)
            · rw [bad (by rw [g]; cases neg <;> rfl)]; exact dbad_r neg a b (q + 2)
      · rw [show dv H 1 11 = (0, false) from if_pos (by omega), bad (by unfold dgood; rw [decide_eq_false h11, Bool.false_and, Bool.and_false, Bool.and_false])]
        exact dbad_r neg 0 (nl M 0).1 (q + 2)
    · rw [show (((s.data.toList.getD (s.data.toList.length - 3) 0).toNat : Int) != 58) = true from by simpa using h4]
      exact hbad _ (fun h2 => h4 h2.2)
theorem dur_r {s : ByteArray} (hs : s.size ≤ 140737488351232) {k : Nat} (hk : s.size + 60 ≤ k) : pairingref5_ParseDuration.f k s = some (dur s.data.toList) := by
  obtain ⟨q, rfl⟩ : ∃ q, k = q + 6 := ⟨k - 6, by omega⟩
  unfold pairingref5_ParseDuration.f dur
  by_cases h : (s.size : Int) > 0
  · rw [if_pos h, if_pos h, show bt s 0 = ((s.data.toList.getD 0 0).toNat : Int) from bt_l s 0, pairingref5_ParseDuration.j0]
    by_cases h4 : ((s.data.toList.getD 0 0).toNat : Int) = 45
    · have e : dneg s.data.toList = true := decide_eq_true ⟨by rw [← sz]; omega, h4⟩
      rw [h4, e, show ((45 : Int) == 45) = true from rfl, if_pos (show true = true from rfl), if_pos (show 1 ≤ (s.size : Int) by omega), if_pos (show true = true from rfl)]
      have e2 : (s.extract 1 s.size).data.toList = s.data.toList.drop 1 := by rw [ex_l, sz, List.take_length]
      have z2 : (s.extract 1 s.size).size = s.size - 1 := by rw [sz, e2, List.length_drop, ← sz]
      rw [drest_r true _ (by omega) (by omega), e2]
    · have e : dneg s.data.toList = false := decide_eq_false (fun h2 => h4 h2.2)
      have e2 : (((s.data.toList.getD 0 0).toNat : Int) == 45) = false := by simpa using h4
      rw [e, e2, if_neg (by decide), if_neg (by decide), drest_r false s hs (by omega)]
  · have e : dneg s.data.toList = false := decide_eq_false (fun h2 => h (by have := h2.1; rw [← sz] at this; omega))
    rw [if_neg h, e, if_neg (by decide), pairingref5_ParseDuration.j0, if_neg (by decide), drest_r false s hs (by omega)]

/-! the program's own way: the first colon -/
def dcd (neg : Bool) (h m : List UInt8) : Int × Int := if h.length ≠ 0 ∧ m.length = 2 ∧ dgood neg h m = true then dtail neg (nl h 0).1 (nl m 0).1 else (0, 1)
theorem dcd_bad {neg : Bool} {h m : List UInt8} (n : ¬ (h.length ≠ 0 ∧ m.length = 2 ∧ dgood neg h m = true)) : dcd neg h m = (0, 1) := if_neg n
theorem dcd_good {neg : Bool} {h m : List UInt8} (n : h.length ≠ 0 ∧ m.length = 2 ∧ dgood neg h m = true) : dcd neg h m = dtail neg (nl h 0).1 (nl m 0).1 := if_pos n
theorem dcd_p (neg : Bool) (h m : ByteArray) (hh : h.size ≤ 140737488351232) (hm : m.size ≤ 140737488351232) {k : Nat} (hk : h.size + 20 ≤ k) (hk2 : m.size + 20 ≤ k) :
    ((calendar_number.f k h).bind fun bt352 => ((calendar_number.f k m).bind fun bt354 => (if bt352.2 = true then (if bt354.2 = true then (if (h.size : Int) > 11 then (calendar_ParseDuration.j0 k neg bt352.1 bt354.1 true) else (if (m.size : Int) = 2 then (if (h.size : Int) > 1 then (if 0 < (h.size : Int) then (if (bt h 0) = 48 then (calendar_ParseDuration.j0 k neg bt352.1 bt354.1 true) else (if neg = true then (if bt352.1 = 0 then (calendar_ParseDuration.j0 k neg bt352.1 bt354.1 (bt354.1 == 0)) else (calendar_ParseDuration.j0 k neg bt352.1 bt354.1 false)) else (calendar_ParseDuration.j0 k neg bt352.1 bt354.1 false))) else (none)) else (if neg = true then (if bt352.1 = 0 then (calendar_ParseDuration.j0 k neg bt352.1 bt354.1 (bt354.1 == 0)) else (calendar_ParseDuration.j0 k neg bt352.1 bt354.1 false)) else (calendar_ParseDuration.j0 k neg bt352.1 bt354.1 false))) else (calendar_ParseDuration.j0 k neg bt352.1 bt354.1 true))) else (calendar_ParseDuration.j0 k neg bt352.1 bt354.1 true)) else (calendar_ParseDuration.j0 k neg bt352.1 bt354.1 true)))) = some (dcd neg h.data.toList m.data.toList) := by
  obtain ⟨q, rfl⟩ : ∃ q, k = q + 2 := ⟨k - 2, by omega⟩
  rw [number_p hh (by omega), Option.bind_some, number_p hm (by omega), Option.bind_some, show bt h 0 = ((h.data.toList.getD 0 0).toNat : Int) from bt_l h 0]
  rw [sz h, sz m]
  generalize h.data.toList = H
  generalize m.data.toList = M
  clear hk hk2 hh hm
  by_cases h0 : H.length = 0
  · rw [show nv H = (0, false) from if_pos h0, dcd_bad (fun x => x.1 h0)]
    exact dbad_p neg 0 (nv M).1 q
  · rw [show nv H = nl H 0 from if_neg h0]
    generalize eH : nl H 0 = aa
    obtain ⟨a, a'⟩ := aa
    cases a'
    · rw [dcd_bad (fun x => by have g := x.2.2; unfold dgood at g; rw [eH] at g; exact absurd g (by simp))]
      exact dbad_p neg a (nv M).1 q
    · by_cases m0 : M.length = 0
      · rw [show nv M = (0, false) from if_pos m0, dcd_bad (fun x => by have := x.2.1; omega)]
        exact dbad_p neg a 0 q
      · rw [show nv M = nl M 0 from if_neg m0]
        generalize eM : nl M 0 = bb
        obtain ⟨b, b'⟩ := bb
        cases b'
        · rw [dcd_bad (fun x => by have g := x.2.2; unfold dgood at g; rw [eH, eM] at g; exact absurd g (by simp))]
          exact dbad_p neg a b q
        · rw [if_pos (show ((a, true) : Int × Bool).2 = true from rfl), if_pos (show ((b, true) : Int × Bool).2 = true from rfl)]
          by_cases c11 : (H.length : Int) > 11
          · rw [if_pos c11, dcd_bad (fun x => by have g := x.2.2; unfold dgood at g; rw [eH, eM, decide_eq_false (show ¬ H.length ≤ 11 by omega)] at g; exact absurd g (by simp))]
            exact dbad_p neg a b q
          · rw [if_neg c11]
            by_cases m2 : (M.length : Int) = 2
            · rw [if_pos m2]
              have fin : (decide (1 < H.length) && decide (((H.getD 0 0).toNat : Int) = 48)) = false → (if neg = true then (if a = 0 then calendar_ParseDuration.j0 (q + 2) neg a b (b == 0) else calendar_ParseDuration.j0 (q + 2) neg a b false) else calendar_ParseDuration.j0 (q + 2) neg a b false) = some (dcd neg H M) := by
                intro hp
                have g : dgood neg H M = !(neg && (decide (a = 0) && decide (b = 0))) := by
                  unfold dgood; rw [eH, eM, hp, decide_eq_true (show H.length ≤ 11 by omega)]; rfl
                have good : dgood neg H M = true → dcd neg H M = dtail neg a b := fun x => by
                  have := dcd_good (neg := neg) (h := H) (m := M) ⟨h0, by omega, x⟩
                  rw [this, eH, eM]
                cases neg
                · rw [good g]; exact dtail_p false a b q
                · by_cases ha : a = 0
                  · by_cases hb : b = 0
                    · rw [dcd_bad (fun x => by have y := x.2.2; rw [g, decide_eq_true ha, decide_eq_true hb] at y; exact absurd y (by decide))]
                      subst ha; subst hb
                      exact dbad_p true 0 0 q
                    · have hb' : (b == 0) = false := by simpa using hb
                      rw [good (by rw [g, decide_eq_false hb, Bool.and_false]; rfl), if_pos (show true = true from rfl), if_pos ha, hb']
                      exact dtail_p true a b q
                  · rw [good (by rw [g, decide_eq_false ha]; rfl), if_pos (show true = true from rfl), if_neg ha]
                    exact dtail_p true a b q
              by_cases h1 : (H.length : Int) > 1
              · rw [if_pos h1, if_pos (show (0 : Int) < (H.length : Int) by omega)]
                by_cases h48 : ((H.getD 0 0).toNat : Int) = 48
                · rw [if_pos h48, dcd_bad (fun x => by have g := x.2.2; unfold dgood at g; rw [decide_eq_true (show 1 < H.length by omega), decide_eq_true h48] at g; simp at g)]
                  exact dbad_p neg a b q
                · rw [if_neg h48]
                  exact fin (by rw [decide_eq_false h48, Bool.and_false])
              · rw [if_neg h1]
                exact fin (by rw [decide_eq_false (show ¬ 1 < H.length by omega), Bool.false_and])
            · rw [if_neg m2, dcd_bad (fun x => m2 (by have := x.2.1; omega))]
              exact dbad_p neg a b q
theorem at58 {r : List UInt8} {i : Nat} (hi : i < r.length) (h : ((r.getD i 0).toNat : Int) = 58) : r[i]? = some 58 := by
  rw [List.getD_eq_getElem?_getD, List.getElem?_eq_getElem hi, Option.getD_some] at h
  rw [List.getElem?_eq_getElem hi]
  congr 1
  apply UInt8.toNat_inj.1
  show _ = 58
  omega
theorem drest_bad {neg : Bool} {r : List UInt8} (n : ¬ (4 ≤ r.length ∧ ((r.getD (r.length - 3) 0).toNat : Int) = 58)) : drest neg r = (0, 1) := if_neg n
theorem drest_good {neg : Bool} {r : List UInt8} (n : 4 ≤ r.length ∧ ((r.getD (r.length - 3) 0).toNat : Int) = 58) : drest neg r = (if dgood neg (r.take (r.length - 3)) (r.drop (r.length - 2)) = true then dtail neg (nl (r.take (r.length - 3)) 0).1 (nl (r.drop (r.length - 2)) 0).1 else (0, 1)) := if_pos n
/-- The first colon is the one ahead of the last two bytes, or nothing is read. -/
theorem drest_cut (neg : Bool) (r : List UInt8) (j : Nat) (hj : r[j]? = some 58) (hno : ∀ i : Nat, i < j → r[i]? ≠ some 58) : drest neg r = dcd neg (r.take j) (r.drop (j + 1)) := by
  have hjl : j < r.length := (List.getElem?_eq_some_iff.1 hj).1
  by_cases h : 4 ≤ r.length ∧ ((r.getD (r.length - 3) 0).toNat : Int) = 58
  · rw [drest_good h]
    have h58 : r[r.length - 3]? = some 58 := at58 (by omega) h.2
    by_cases hjj : j = r.length - 3
    · rw [hjj, show r.length - 3 + 1 = r.length - 2 by omega]
      by_cases g : dgood neg (r.take (r.length - 3)) (r.drop (r.length - 2)) = true
      · rw [if_pos g, dcd_good ⟨by rw [List.length_take]; omega, by rw [List.length_drop]; omega, g⟩]
      · rw [if_neg g, dcd_bad (fun h2 => g h2.2.2)]
    · have hlt : j < r.length - 3 := by
        by_cases hh : j < r.length - 3
        · exact hh
        · exact absurd h58 (hno _ (by omega))
      have hb : (nl (r.take (r.length - 3)) 0).2 = false := nl_bad _ 0 j (by rw [List.getElem?_take_of_lt hlt]; exact hj)
      have g : dgood neg (r.take (r.length - 3)) (r.drop (r.length - 2)) = false := by unfold dgood; rw [hb]; rfl
      rw [g, dcd_bad (fun h2 => by have := h2.2.1; rw [List.length_drop] at this; omega)]; rfl
  · rw [drest_bad h, dcd_bad (fun h2 => ?_)]
    have h3 := h2.1; have h4 := h2.2.1
    rw [List.length_take] at h3
    rw [List.length_drop] at h4
    apply h
    refine ⟨by omega, ?_⟩
    rw [show r.length - 3 = j by omega, List.getD_eq_getElem?_getD, hj]; rfl
theorem drest_no (neg : Bool) (r : List UInt8) (hno : ∀ i : Nat, r[i]? ≠ some 58) : drest neg r = dcd neg r [] := by
  rw [drest_bad (fun h => hno _ (at58 (by omega) h.2)), dcd_bad (fun h => by have := h.2.1; simp at this)]
theorem cutpre_p (s : ByteArray) : strings_CutPrefix.f s (⟨#[45]⟩ : ByteArray) = some (if dneg s.data.toList = true then s.extract 1 s.size else s, dneg s.data.toList) := by
  unfold strings_CutPrefix.f stringslite_CutPrefix.f stringslite_HasPrefix.f
  have z : ((⟨#[45]⟩ : ByteArray).size : Int) = 1 := rfl
  rw [z]
  by_cases h : (s.size : Int) ≥ 1
  · rw [if_pos h, if_pos (by decide), if_pos h, Option.bind_some]
    have e1 : ((s.extract 0 (1 : Int).toNat).toList == (⟨#[45]⟩ : ByteArray).toList) = dneg s.data.toList := by
      rw [toList_l, toList_l, ex_l]
      have h1 : 0 < s.data.toList.length := by rw [← sz]; omega
      unfold dneg
      generalize s.data.toList = l at *
      cases l with
      | nil => simp at h1
      | cons c t =>
        have e2 : (((c :: t).take (1 : Int).toNat).drop 0 == (⟨#[45]⟩ : ByteArray).data.toList) = (c == 45) := by
          show ([c] == [(45 : UInt8)]) = _
          simp
        rw [e2, Bool.eq_iff_iff]
        simp only [beq_iff_eq, decide_eq_true_eq, List.getD_cons_zero]
        constructor
        · rintro rfl; exact ⟨h1, rfl⟩
        · rintro ⟨_, h2⟩; apply UInt8.toNat_inj.1; show _ = 45; omega
    rw [e1]
    by_cases hn : dneg s.data.toList = true
    · rw [if_pos hn, if_pos (by decide), if_pos h, Option.bind_some, if_pos hn, hn]; rfl
    · rw [if_neg hn, Option.bind_some, if_neg hn, (by simpa using hn : dneg s.data.toList = false)]
  · rw [if_neg h, Option.bind_some, if_neg (by decide), Option.bind_some]
    have e : dneg s.data.toList = false := decide_eq_false (fun h2 => h (by have := h2.1; rw [← sz] at this; omega))
    rw [e, if_neg (by decide)]
theorem dur_p {s : ByteArray} (hs : s.size ≤ 140737488351232) {k : Nat} (hk : s.size + 60 ≤ k) : calendar_ParseDuration.f k s = some (dur s.data.toList) := by
  unfold calendar_ParseDuration.f dur
  rw [cutpre_p, Option.bind_some]
  simp only
  have er : (if dneg s.data.toList = true then s.data.toList.drop 1 else s.data.toList) = (if dneg s.data.toList = true then s.extract 1 s.size else s).data.toList := by
    split
    · rw [ex_l, sz, List.take_length]
    · rfl
  rw [er]
  have zr : (if dneg s.data.toList = true then s.extract 1 s.size else s).size ≤ s.size := by
    rw [sz, ← er]; split
    · rw [List.length_drop, ← sz]; omega
    · rw [← sz]; omega
  generalize (if dneg s.data.toList = true then s.extract 1 s.size else s) = r at *
  generalize dneg s.data.toList = neg at *
  clear er
  unfold strings_Cut.f stringslite_Cut.f stringslite_Index.f
  rw [if_pos (show (⟨#[58]⟩ : ByteArray).size = 1 from rfl), Option.bind_some]
  have z : ((⟨#[58]⟩ : ByteArray).size : Int) = 1 := rfl
  rw [z, show ((⟨#[58]⟩ : ByteArray).data.toList.headD 0) = 58 from rfl]
  by_cases hj : Lib.indexByte r.data.toList 58 ≥ 0
  · obtain ⟨j, hj'⟩ : ∃ j : Nat, Lib.indexByte r.data.toList 58 = j := ⟨(Lib.indexByte r.data.toList 58).toNat, by omega⟩
    have hc := Lib.indexByte_some hj'
    have hjl : j < r.data.toList.length := (List.getElem?_eq_some_iff.1 hc.1).1
    rw [hj']
    rw [← sz] at hjl
    rw [if_pos (by omega), if_pos (by omega), if_pos (by omega), w64 (by omega) (by omega), if_pos (by omega), if_pos (by omega), Option.bind_some, Option.bind_some]
    simp only
    have e1 : (r.extract 0 ((j : Nat) : Int).toNat).data.toList = r.data.toList.take j := by rw [ex_l]; simp
    have e2 : (r.extract (((j : Nat) : Int) + 1).toNat r.size).data.toList = r.data.toList.drop (j + 1) := by rw [ex_l, sz, List.take_length]; congr 1
    have z1 : (r.extract 0 ((j : Nat) : Int).toNat).size ≤ s.size := by rw [sz, e1, List.length_take, ← sz]; omega
    have z2 : (r.extract (((j : Nat) : Int) + 1).toNat r.size).size ≤ s.size := by rw [sz, e2, List.length_drop, ← sz]; omega
    rw [drest_cut neg _ j hc.1 hc.2, ← e1, ← e2]
    exact dcd_p neg _ _ (by omega) (by omega) (by omega) (by omega)
  · have hm := Lib.indexByte_ge r.data.toList 58
    have hc := Lib.indexByte_none (show Lib.indexByte r.data.toList 58 = -1 by omega)
    rw [if_neg hj, Option.bind_some, Option.bind_some]
    simp only
    rw [drest_no neg _ hc]
    exact dcd_p neg r ⟨#[]⟩ (by omega) (by decide) (by omega) (by show 0 + 20 ≤ k; omega)

/-! durations written -/
def fdul (n : Int) : List UInt8 := (if n < 0 then [45] else []) ++ (Lib.decDigits (n.natAbs / 60) ++ 58 :: p2 (n.natAbs % 60))
def fdu (n : Int) : ByteArray × Int := if -1099511627776 ≤ n ∧ n ≤ 1099511627776 then (mk (fdul n), 0) else (mk [], 5)
theorem dd_short {u : Nat} (h : u < 100000000000) : 1 ≤ (Lib.decDigits u).length ∧ (Lib.decDigits u).length ≤ 11 := dd_len 10 u (by simpa using h)
theorem fdu_p (n : Int) {k : Nat} (hk : 10 ≤ k) : calendar_FormatDuration.f k n = some (fdu n) := by
  obtain ⟨q, rfl⟩ : ∃ q, k = q + 3 := ⟨k - 3, by omega⟩
  unfold calendar_FormatDuration.f fdu
  by_cases h : -1099511627776 ≤ n ∧ n ≤ 1099511627776
  · have hl := dd_short (u := n.natAbs / 60) (by omega)
    rw [if_neg (by omega), if_pos h, calendar_FormatDuration.j0, if_neg (by simp; omega)]
    unfold fdul
    by_cases hn : n < 0
    · rw [if_pos hn, if_pos hn, w64 (x := -n) (by omega) (by omega), tdiv_nn (by omega), tmod_nn (by omega), w64 (by omega) (by omega), itoa_p (by omega) (by omega), Option.bind_some, itoa_nn (by omega), show (-n / 60).toNat = n.natAbs / 60 by omega]
      have hz : (⟨(Lib.decDigits (n.natAbs / 60)).toArray⟩ : ByteArray).size ≤ 11 := by rw [sz]; simpa using hl.2
      rw [if_pos (by omega), if_pos (by omega), pad2 (by omega) (by omega) (by omega), Option.bind_some, if_pos (by rw [sz ⟨(p2 _).toArray⟩]; simp [p2]; omega), show (-n % 60).toNat = n.natAbs % 60 by omega]
      congr 2
      apply bytes_ext
      simp only [app_l, mk_l]
      simp
    · rw [if_neg hn, if_neg hn, tdiv_nn (by omega), tmod_nn (by omega), w64 (by omega) (by omega), itoa_p (by omega) (by omega), Option.bind_some, itoa_nn (by omega), show (n / 60).toNat = n.natAbs / 60 by omega]
      have hz : (⟨(Lib.decDigits (n.natAbs / 60)).toArray⟩ : ByteArray).size ≤ 11 := by rw [sz]; simpa using hl.2
      rw [if_pos (by omega), if_pos (by omega), pad2 (by omega) (by omega) (by omega), Option.bind_some, if_pos (by rw [sz ⟨(p2 _).toArray⟩]; simp [p2]; omega), show (n % 60).toNat = n.natAbs % 60 by omega]
      congr 2
      apply bytes_ext
      simp only [app_l, mk_l]
      simp
  · rw [if_neg h]
    split
    · rw [calendar_FormatDuration.j0, if_pos rfl]; rfl
    · rw [calendar_FormatDuration.j0, if_pos (by simp; omega)]; rfl
theorem fdu_r (n : Int) (k : Nat) : pairingref5_FormatDuration.f (k + 3) n = calendar_FormatDuration.f (k + 3) n := by
  unfold calendar_FormatDuration.f pairingref5_FormatDuration.f
  simp only [calendar_FormatDuration.j0, pairingref5_FormatDuration.j0, two_eq, fmt_eq]
theorem fdul_dur {n : Int} (h : -1099511627776 ≤ n ∧ n ≤ 1099511627776) : dur (fdul n) = (n, 0) := by
  have hl := dd_short (u := n.natAbs / 60) (by omega)
  have hne : Lib.decDigits (n.natAbs / 60) ≠ [] := by intro e; rw [e] at hl; simp at hl
  have hneg : dneg (fdul n) = decide (n < 0) := by
    unfold dneg fdul
    by_cases hn : n < 0
    · rw [if_pos hn, decide_eq_true hn]; exact decide_eq_true ⟨by simp, rfl⟩
    · rw [if_neg hn, decide_eq_false hn]
      refine decide_eq_false (fun h2 => ?_)
      have h3 := h2.2
      have hd : (nl (Lib.decDigits (n.natAbs / 60)) 0).2 = true := by rw [nl_dd _ (by omega)]
      generalize Lib.decDigits (n.natAbs / 60) = l at *
      cases l with
      | nil => exact hne rfl
      | cons c t =>
        simp only [List.nil_append, List.cons_append, List.getD_cons_zero] at h3
        unfold nl at hd
        rw [if_pos (by omega)] at hd
        exact absurd hd (by decide)
  unfold dur
  rw [hneg]
  have er : (if decide (n < 0) = true then (fdul n).drop 1 else fdul n) = Lib.decDigits (n.natAbs / 60) ++ 58 :: p2 (n.natAbs % 60) := by
    unfold fdul
    by_cases hn : n < 0
    · rw [if_pos hn, if_pos (decide_eq_true hn)]; rfl
    · rw [if_neg hn, if_neg (by simpa using hn)]; rfl
  rw [er]
  have e1 := nl_dd (n.natAbs / 60) (by omega)
  have e2 := nl_p2 (n := n.natAbs % 60) (by omega)
  have e3 : 1 < (Lib.decDigits (n.natAbs / 60)).length → ¬ (((Lib.decDigits (n.natAbs / 60)).getD 0 0).toNat : Int) = 48 := by
    intro g1 g2
    have := dd_head (n.natAbs / 60) (by apply UInt8.toNat_inj.1; show _ = 48; omega)
    rw [this, Lib.decDigits_one (by decide)] at g1
    simp at g1
  have elen : (Lib.decDigits (n.natAbs / 60) ++ 58 :: p2 (n.natAbs % 60)).length = (Lib.decDigits (n.natAbs / 60)).length + 3 := by simp [p2]
  unfold drest
  rw [elen, show (Lib.decDigits (n.natAbs / 60)).length + 3 - 3 = (Lib.decDigits (n.natAbs / 60)).length by omega, show (Lib.decDigits (n.natAbs / 60)).length + 3 - 2 = (Lib.decDigits (n.natAbs / 60)).length + 1 by omega]
  rw [if_pos ⟨by omega, by rw [List.getD_eq_getElem?_getD, List.getElem?_append_right (by omega)]; simp⟩]
  rw [List.take_left', List.drop_append]
  · simp only [show (Lib.decDigits (n.natAbs / 60)).length + 1 - (Lib.decDigits (n.natAbs / 60)).length = 1 by omega, List.drop_of_length_le (show (Lib.decDigits (n.natAbs / 60)).length ≤ (Lib.decDigits (n.natAbs / 60)).length + 1 by omega), List.nil_append, List.drop_succ_cons, List.drop_zero]
    have g : dgood (decide (n < 0)) (Lib.decDigits (n.natAbs / 60)) (p2 (n.natAbs % 60)) = true := by
      unfold dgood
      rw [e1, e2, decide_eq_true hl.2]
      have a1 : (decide (1 < (Lib.decDigits (n.natAbs / 60)).length) && decide ((((Lib.decDigits (n.natAbs / 60)).getD 0 0).toNat : Int) = 48)) = false := by
        by_cases g1 : 1 < (Lib.decDigits (n.natAbs / 60)).length
        · rw [decide_eq_false (e3 g1), Bool.and_false]
        · rw [decide_eq_false g1, Bool.false_and]
      have a2 : (decide (n < 0) && (decide (((n.natAbs / 60 : Nat) : Int) = 0) && decide (((n.natAbs % 60 : Nat) : Int) = 0))) = false := by
        rw [Bool.eq_false_iff]
        simp only [ne_eq, Bool.and_eq_true, decide_eq_true_eq]
        omega
      rw [a1, a2]; rfl
    rw [if_pos g, e1, e2]
    unfold dtail
    simp only
    rw [w64 (x := 60 * ((n.natAbs / 60 : Nat) : Int)) (by omega) (by omega), w64 (x := 60 * ((n.natAbs / 60 : Nat) : Int) + ((n.natAbs % 60 : Nat) : Int)) (by omega) (by omega), if_neg (by omega)]
    by_cases hn : n < 0
    · rw [if_pos (decide_eq_true hn), w64 (by omega) (by omega)]; congr 1; omega
    · rw [if_neg (by simpa using hn)]; congr 1; omega
  · rfl
theorem CalendarDurations : pairinglaw6_CalendarDurations.Pure := by
  intro s n hs hn
  have hb := wf64 hn
  refine ⟨s.size + 200, ?_⟩
  unfold pairinglaw6_CalendarDurations.f
  rw [dur_p hs (by omega), dur_r hs (by omega), show s.size + 200 = (s.size + 197) + 3 by omega, fdu_r, fdu_p _ (by omega)]
  simp only [Option.bind_some, if_true, bne_self_eq_false]
  rw [pairinglaw6_CalendarDurations.j0, if_neg (by decide)]
  have ha : pairinglaw6_awake.f (s.size + 199) = some true := awake6 (s.size + 195)
  have ha' : pairinglaw6_awake.f (s.size + 197 + 2) = some true := ha
  by_cases h : -1099511627776 ≤ n ∧ n ≤ 1099511627776
  · have hl := dd_short (u := n.natAbs / 60) (by omega)
    have hz : (fdul n).length ≤ 60 := by unfold fdul; split <;> simp [p2] <;> omega
    have e : fdu n = (mk (fdul n), 0) := if_pos h
    rw [e]
    simp only [if_true]
    rw [dur_p (s := mk (fdul n)) (by rw [sz, mk_l]; omega) (by rw [sz, mk_l]; omega), mk_l, fdul_dur h]
    simp [ha']
  · have e : fdu n = (mk [], 5) := if_neg h
    rw [e]
    simp [ha']
end Go.Proofs.YtdpkemjbiengfaaDoor.Pure
