/- Texts of dates as lists of bytes: numbers read, numerals padded. -/
import Derived.Lib.IndexLaws
import Derived.Lib.ItoaNum
import Derived.Test.YtdpkemjbiengfaaDoorQCal14
import Derived.Test.YtdpkemjbiengfaaDoorCalSpec
namespace Go.Proofs.YtdpkemjbiengfaaDoor.Pure
open Go.RowKit Go.Proofs.YtdpkemjbiengfaaDoor.QCal Go.Proofs.YtdpkemjbiengfaaDoorW.PrintWords Go.Proofs.YtdpkemjbiengfaaDoorW.PrintLast Go.Proofs.YtdpkemjbiengfaaDoor.Mx

theorem bytes_ext {a b : ByteArray} (h : a.data.toList = b.data.toList) : a = b := by
  cases a; cases b; congr 1; exact Array.toList_inj.1 h
theorem sz (s : ByteArray) : s.size = s.data.toList.length := by cases s; exact Array.length_toList.symm
theorem bt_l (s : ByteArray) (i : Int) : bt s i = ((s.data.toList.getD i.toNat 0).toNat : Int) := by
  unfold bt
  split
  · rename_i h
    have h' : i.toNat < s.data.toList.length := by rw [← sz]; exact h
    rw [List.getD_eq_getElem?_getD, List.getElem?_eq_getElem h']
    rfl
  · rename_i h
    have h' : s.data.toList.length ≤ i.toNat := by rw [← sz]; omega
    rw [List.getD_eq_getElem?_getD, List.getElem?_eq_none h']
    rfl
theorem ex_l (s : ByteArray) (a b : Nat) : (s.extract a b).data.toList = (s.data.toList.take b).drop a := by
  rw [ByteArray.data_extract, Array.toList_extract]
  simp [List.extract, List.drop_take]
theorem app_l (s t : ByteArray) : (s ++ t).data.toList = s.data.toList ++ t.data.toList := by simp
theorem toList_l (s : ByteArray) : s.toList = s.data.toList := ByteArray.toList_eq s

/-- The number that digits spell, and whether they are digits. -/
def nl : List UInt8 → Int → Int × Bool
  | [], v => (v, true)
  | c :: t, v => if (c.toNat : Int) < 48 then (0, false) else if (c.toNat : Int) > 57 then (0, false) else nl t (wrap64 (wrap64 (10 * v) + ((c.toNat : Int) - 48) % 256))
def nv (l : List UInt8) : Int × Bool := if l.length = 0 then (0, false) else nl l 0
theorem u8_lt (c : UInt8) : (c.toNat : Int) < 256 := by have := c.toNat_lt; omega
theorem drop_at {l : List UInt8} {i : Nat} (h : i < l.length) : l.drop i = l.getD i 0 :: l.drop (i + 1) := by
  rw [List.getD_eq_getElem?_getD, List.getElem?_eq_getElem h, List.drop_eq_getElem_cons h]; rfl
theorem num_l0 (s : ByteArray) (hs : s.size ≤ 140737488351232) (hp : 0 < s.size) : ∀ (n k : Nat) (v i : Int), 0 ≤ i → i ≤ s.size → (s.size : Int) - i = n → n < k → calendar_number.l0 k s v (s.size : Int) i = some (nl (s.data.toList.drop i.toNat) v) := by
  intro n
  induction n with
  | zero =>
    intro k v i h0 h1 h2 h3
    obtain ⟨q, rfl⟩ : ∃ q, k = q + 1 := ⟨k - 1, by omega⟩
    unfold calendar_number.l0
    rw [if_neg (by omega), List.drop_of_length_le (by rw [← sz]; omega), toList_l]
    have : s.data.toList.isEmpty = false := by
      rw [List.isEmpty_eq_false_iff]; intro e; rw [sz, e] at hp; simp at hp
    rw [this]; rfl
  | succ n ih =>
    intro k v i h0 h1 h2 h3
    obtain ⟨q, rfl⟩ : ∃ q, k = q + 1 := ⟨k - 1, by omega⟩
    unfold calendar_number.l0
    rw [if_pos (by omega), if_pos h0, if_pos (by omega), drop_at (i := i.toNat) (by rw [← sz]; omega), bt_l]
    unfold nl
    split
    · rfl
    · split
      · rfl
      · rw [w64 (x := i + 1) (by omega) (by omega), ih q _ (i + 1) (by omega) (by omega) (by omega) (by omega), show (i + 1).toNat = i.toNat + 1 by omega]
theorem number_p {s : ByteArray} {k : Nat} (hs : s.size ≤ 140737488351232) (hk : s.size < k) : calendar_number.f k s = some (nv s.data.toList) := by
  unfold calendar_number.f nv
  by_cases hp : 0 < s.size
  · rw [num_l0 s hs hp s.size k 0 0 (by omega) (by omega) (by omega) hk, if_neg (by rw [← sz]; omega)]; rfl
  · obtain ⟨q, rfl⟩ : ∃ q, k = q + 1 := ⟨k - 1, by omega⟩
    unfold calendar_number.l0
    have h0 : s.data.toList = [] := List.length_eq_zero_iff.1 (by rw [← sz]; omega)
    rw [if_neg (by omega), toList_l, h0]; rfl
theorem dig_l0 (s : ByteArray) (hs : s.size ≤ 140737488351232) : ∀ (n k : Nat) (v i : Int), 0 ≤ i → i ≤ s.size → (s.size : Int) - i = n → n < k → pairingref5_Digits.l0 k s v i = some (nl (s.data.toList.drop i.toNat) v) := by
  intro n
  induction n with
  | zero =>
    intro k v i h0 h1 h2 h3
    obtain ⟨q, rfl⟩ : ∃ q, k = q + 1 := ⟨k - 1, by omega⟩
    unfold pairingref5_Digits.l0
    rw [if_neg (by omega), List.drop_of_length_le (by rw [← sz]; omega)]
    rfl
  | succ n ih =>
    intro k v i h0 h1 h2 h3
    obtain ⟨q, rfl⟩ : ∃ q, k = q + 1 := ⟨k - 1, by omega⟩
    unfold pairingref5_Digits.l0 pairingref5_number.f
    rw [if_pos (by omega), if_pos h0, drop_at (i := i.toNat) (by rw [← sz]; omega), bt_l]
    unfold nl
    split
    · rename_i h
      rw [Option.bind_some, if_neg (show ¬ ((s.data.toList.getD i.toNat 0).toNat : Int) < 48 by omega)]
      split
      · rename_i h2
        have := of_decide_eq_true h2
        rw [if_neg (by omega), w64 (x := i + 1) (by omega) (by omega), ih q _ (i + 1) (by omega) (by omega) (by omega) (by omega), show (i + 1).toNat = i.toNat + 1 by omega]
      · rename_i h2
        rw [decide_eq_true_eq] at h2
        rw [if_pos (by omega)]
    · rename_i h
      rw [Option.bind_some, if_pos (show ((s.data.toList.getD i.toNat 0).toNat : Int) < 48 by omega)]
      rfl
def dv (l : List UInt8) (a b : Int) : Int × Bool := if (l.length : Int) < a ∨ (l.length : Int) > b then (0, false) else nl l 0
theorem digits_p {s : ByteArray} {k : Nat} (a b : Int) (hs : s.size ≤ 140737488351232) (hk : s.size + 1 < k) : pairingref5_Digits.f k s a b = some (dv s.data.toList a b) := by
  obtain ⟨q, rfl⟩ : ∃ q, k = q + 1 := ⟨k - 1, by omega⟩
  unfold pairingref5_Digits.f dv
  rw [← sz]
  by_cases h1 : (s.size : Int) < a
  · rw [if_pos h1, if_pos (Or.inl h1)]; rw [pairingref5_Digits.j0]; rfl
  · rw [if_neg h1]
    by_cases h2 : (s.size : Int) > b
    · rw [if_pos (Or.inr h2), decide_eq_true h2]; rw [pairingref5_Digits.j0]; rfl
    · rw [if_neg (by omega), decide_eq_false h2]; rw [pairingref5_Digits.j0, if_neg (by decide), dig_l0 s hs s.size q 0 0 (by omega) (by omega) (by omega) (by omega)]; rfl

/-! numerals -/
def p2 (n : Nat) : List UInt8 := [UInt8.ofNat (48 + n / 10), UInt8.ofNat (48 + n % 10)]
def p4 (n : Nat) : List UInt8 := [UInt8.ofNat (48 + n / 1000), UInt8.ofNat (48 + n / 100 % 10), UInt8.ofNat (48 + n / 10 % 10), UInt8.ofNat (48 + n % 10)]
theorem dd_big {n : Nat} (h : ¬ n < 10) : Lib.decDigits n = Lib.decDigits (n / 10) ++ [UInt8.ofNat (48 + n % 10)] := by rw [Lib.decDigits, dif_neg h]
theorem dd_four {n : Nat} (h : 1000 ≤ n) (h2 : n < 10000) : Lib.decDigits n = p4 n := by
  rw [dd_big (by omega), dd_big (by omega), dd_big (by omega), Lib.decDigits_one (by omega)]
  rw [show n / 10 / 10 / 10 = n / 1000 by omega, show n / 10 / 10 % 10 = n / 100 % 10 by omega]; rfl
theorem itoa_p {n : Int} (h1 : -9223372036854775808 ≤ n) (h2 : n ≤ 9223372036854775807) : strconv_Itoa.f n = some ⟨(Lib.itoa n).toArray⟩ := by unfold strconv_Itoa.f; rw [if_pos ⟨h1, h2⟩]
theorem itoa_nn {n : Int} (h : 0 ≤ n) : Lib.itoa n = Lib.decDigits n.toNat := by unfold Lib.itoa; rw [if_neg (by omega)]
theorem pad_stop {k : Nat} {w : Int} {s : ByteArray} (h : ¬ (s.size : Int) < w) : calendar_pad.l0 (k + 1) w s = some s := by unfold calendar_pad.l0; rw [if_neg h]
theorem pad_step {k : Nat} {w : Int} {s : ByteArray} (h : (s.size : Int) < w) (h2 : s.size ≤ 1000000) : calendar_pad.l0 (k + 1) w s = calendar_pad.l0 k w ((⟨#[48]⟩ : ByteArray) ++ s) := by
  rw [calendar_pad.l0, if_pos h, if_pos (by omega)]
theorem pad2 {n : Int} (h0 : 0 ≤ n) (h1 : n < 100) {k : Nat} (hk : 2 ≤ k) : calendar_pad.f k n 2 = some ⟨(p2 n.toNat).toArray⟩ := by
  obtain ⟨q, rfl⟩ : ∃ q, k = q + 2 := ⟨k - 2, by omega⟩
  unfold calendar_pad.f
  rw [itoa_p (by omega) (by omega), Option.bind_some, itoa_nn h0]
  by_cases h : n.toNat < 10
  · rw [Lib.decDigits_one h, pad_step (by rw [sz]; simp) (by rw [sz]; simp), pad_stop (by rw [sz, app_l]; simp)]
    congr 1
    apply bytes_ext
    rw [app_l]
    unfold p2
    rw [Nat.div_eq_of_lt h, Nat.mod_eq_of_lt h]; rfl
  · rw [Lib.decDigits_two h (by omega), pad_stop (by rw [sz]; simp)]; rfl
theorem pad4 {n : Int} (h0 : 1000 ≤ n) (h1 : n < 10000) {k : Nat} (hk : 2 ≤ k) : calendar_pad.f k n 4 = some ⟨(p4 n.toNat).toArray⟩ := by
  obtain ⟨q, rfl⟩ : ∃ q, k = q + 2 := ⟨k - 2, by omega⟩
  unfold calendar_pad.f
  rw [itoa_p (by omega) (by omega), Option.bind_some, itoa_nn (by omega), dd_four (by omega) (by omega), pad_stop (by rw [sz]; simp [p4])]
theorem two_l0 : ∀ (k : Nat) (w : Int) (s : ByteArray), pairingref5_two.l0 k w s = calendar_pad.l0 k w s
  | 0, _, _ => rfl
  | k + 1, w, s => by unfold pairingref5_two.l0 calendar_pad.l0; rw [two_l0 k]
theorem fmt_eq (n : Int) : pairingref5_FormatInt.f n = strconv_Itoa.f n := by unfold pairingref5_FormatInt.f; cases strconv_Itoa.f n <;> rfl
theorem two_eq (k : Nat) (n w : Int) : pairingref5_two.f k n w = calendar_pad.f k n w := by
  unfold pairingref5_two.f calendar_pad.f
  rw [fmt_eq]; congr 1; funext t; exact two_l0 k w t
theorem nl_p2 {n : Nat} (h : n < 100) : nl (p2 n) 0 = ((n : Int), true) := by
  have e : ∀ x : Fin 100, nl (p2 x.val) 0 = ((x.val : Int), true) := by decide +kernel
  exact e ⟨n, h⟩
theorem nl_p4 {n : Nat} (h : n < 2200) : nl (p4 n) 0 = ((n : Int), true) := by
  have e : ∀ x : Fin 2200, nl (p4 x.val) 0 = ((x.val : Int), true) := by decide +kernel
  exact e ⟨n, h⟩
theorem nv_eq {l : List UInt8} {n : Nat} (h : l.length = n) (h0 : 0 < n) : nv l = nl l 0 := by unfold nv; rw [if_neg (by omega)]
theorem dv_eq {l : List UInt8} {n : Nat} (h : l.length = n) : dv l n n = nl l 0 := by unfold dv; rw [if_neg (by omega)]
end Go.Proofs.YtdpkemjbiengfaaDoor.Pure
