/- Decimal text: groups of nine digits, and the digits of a number made of groups. -/
import Derived.Test.YtegnnghoiffmhaaDoorIMath
import Derived.Test.YtegnnghoiffmhaaDoorWWords
import Derived.Lib.ItoaNum
import Derived.Laws.BytesArg
namespace Go.Proofs.YtegnnghoiffmhaaDoor.Big
open Go.RowKit Go.Proofs.YtegnnghoiffmhaaDoorW.PrintWords
set_option linter.unusedVariables false
set_option linter.unusedSimpArgs false
/-- The number that groups of nine decimal digits denote, the least one first. -/
def gv : List Int → Int
  | [] => 0
  | g :: gs => g + 1000000000 * gv gs
theorem gv_append : ∀ (gs : List Int) (g : Int), gv (gs ++ [g]) = gv gs + 1000000000 ^ gs.length * g
  | [], g => by simp [gv]
  | x :: gs, g => by
    simp only [List.cons_append, gv, List.length_cons, gv_append gs g]
    rw [Int.pow_succ]
    grind
theorem gv_drop (gs : List Int) (k : Nat) (h : k < gs.length) : gv (gs.drop k) = dg gs k + 1000000000 * gv (gs.drop (k + 1)) := by
  rw [List.drop_eq_getElem_cons h, gv]
  simp [dg, List.getD_eq_getElem?_getD, h]
theorem gv_nonneg : ∀ (gs : List Int), (∀ g ∈ gs, 0 ≤ g ∧ g < 1000000000) → 0 ≤ gv gs
  | [], _ => by simp [gv]
  | x :: gs, h => by
    have h1 := h x List.mem_cons_self
    have h2 := gv_nonneg gs (fun g hg => h g (List.mem_cons_of_mem _ hg))
    simp only [gv]
    omega
theorem gv_dg (gs : List Int) (h : ∀ g ∈ gs, 0 ≤ g ∧ g < 1000000000) (k : Nat) : 0 ≤ dg gs k ∧ dg gs k < 1000000000 := by
  unfold dg
  by_cases hk : k < gs.length
  · rw [List.getD_eq_getElem?_getD, List.getElem?_eq_getElem hk]; exact h _ (List.getElem_mem hk)
  · rw [List.getD_eq_getElem?_getD, List.getElem?_eq_none (by omega)]; simp
theorem gv_pos (gs : List Int) (h : ∀ g ∈ gs, 0 ≤ g ∧ g < 1000000000) (hl : 0 < dg gs (gs.length - 1)) : ∀ (j k : Nat), k + j + 1 = gs.length → 0 < gv (gs.drop k)
  | 0, k, e => by
    rw [gv_drop gs k (by omega), List.drop_of_length_le (by omega)]
    rw [show gs.length - 1 = k by omega] at hl
    simp only [gv]
    omega
  | j + 1, k, e => by
    have h1 := gv_pos gs h hl j (k + 1) (by omega)
    have h2 := gv_dg gs h k
    rw [gv_drop gs k (by omega)]
    omega
/-- A text's bytes as numbers. -/
def tx (l : List UInt8) : List Int := l.map fun b => (b.toNat : Int)
theorem tx_append (a b : List UInt8) : tx (a ++ b) = tx a ++ tx b := by simp [tx]
theorem tx_length (a : List UInt8) : (tx a).length = a.length := by simp [tx]
theorem tx_replicate (n : Nat) (b : UInt8) : tx (List.replicate n b) = List.replicate n (b.toNat : Int) := by simp [tx]
theorem bytesOf_tx (l : List UInt8) : bytesOf ⟨l.toArray⟩ = tx l := rfl
theorem strOfNums_tx (l : List UInt8) : strOfNums (tx l) = ⟨l.toArray⟩ := by
  unfold strOfNums tx
  rw [List.map_map]
  have : (l.map ((fun n : Int => UInt8.ofNat n.toNat) ∘ fun b : UInt8 => (b.toNat : Int))) = l := by
    conv => rhs; rw [← List.map_id l]
    exact List.map_congr_left fun b _ => by simp
  rw [this]
theorem dec_step (a g : Nat) (ha : 0 < a) (hg : g < 10) : Lib.decDigits (a * 10 + g) = Lib.decDigits a ++ [UInt8.ofNat (48 + g)] := by
  rw [Lib.decDigits, dif_neg (by omega), show (a * 10 + g) / 10 = a by omega, show (a * 10 + g) % 10 = g by omega]
theorem dec_pad (a : Nat) (ha : 0 < a) : ∀ (k g : Nat), g < 10 ^ (k + 1) → Lib.decDigits (a * 10 ^ (k + 1) + g) = Lib.decDigits a ++ (List.replicate (k + 1 - Lib.nDigits g) 48 ++ Lib.decDigits g)
  | 0, g, h => by
    have h' : g < 10 := by simpa using h
    have e := dec_step a g ha h'
    rw [Lib.nDigits_small h', Lib.decDigits_one h']
    simpa using e
  | k + 1, g, h => by
    have hk : 0 < 10 ^ (k + 1) := Nat.pow_pos (by decide)
    have e1 : a * 10 ^ (k + 1 + 1) + g = (a * 10 ^ (k + 1) + g / 10) * 10 + g % 10 := by rw [Nat.pow_succ 10 (k + 1)]; have := Nat.mul_assoc a (10 ^ (k + 1)) 10; omega
    have hp : 0 < a * 10 ^ (k + 1) := Nat.mul_pos ha hk
    have ih := dec_pad a ha k (g / 10) (by rw [Nat.pow_succ] at h; omega)
    rw [e1, dec_step _ _ (by omega) (by omega), ih]
    by_cases hg : g < 10
    · rw [show g / 10 = 0 by omega, show g % 10 = g by omega, Lib.nDigits_small (by omega : 0 < 10), Lib.nDigits_small hg, Lib.decDigits_one hg, Lib.decDigits_one (by omega : 0 < 10)]
      simp only [Nat.add_sub_cancel, List.append_assoc]
      rw [List.replicate_succ' (n := k)]
      simp
    · have h2 : Lib.decDigits g = Lib.decDigits (g / 10) ++ [UInt8.ofNat (48 + g % 10)] := by rw [Lib.decDigits, dif_neg hg]
      rw [Lib.nDigits_big hg, h2, show k + 1 + 1 - (Lib.nDigits (g / 10) + 1) = k + 1 - Lib.nDigits (g / 10) by omega]
      simp
theorem nDigits_le : ∀ (k g : Nat), g < 10 ^ (k + 1) → Lib.nDigits g ≤ k + 1
  | 0, g, h => by rw [Lib.nDigits_small (by simpa using h)]; omega
  | k + 1, g, h => by
    by_cases hg : g < 10
    · rw [Lib.nDigits_small hg]; omega
    · rw [Lib.nDigits_big hg]; have := nDigits_le k (g / 10) (by rw [Nat.pow_succ] at h; omega); omega
/-- What the loop over the groups adds: behind the first group the digits are padded to nine. -/
theorem group_text (gs : List Int) (h : ∀ g ∈ gs, 0 ≤ g ∧ g < 1000000000) (hl : 0 < dg gs (gs.length - 1)) (k : Nat) (hk : k + 1 < gs.length) :
    Lib.decDigits (gv (gs.drop k)).toNat = Lib.decDigits (gv (gs.drop (k + 1))).toNat ++ (List.replicate (9 - Lib.nDigits (dg gs k).toNat) 48 ++ Lib.decDigits (dg gs k).toNat) := by
  have h1 := gv_pos gs h hl (gs.length - (k + 1) - 1) (k + 1) (by omega)
  have h2 := gv_dg gs h k
  rw [gv_drop gs k (by omega), show (dg gs k + 1000000000 * gv (gs.drop (k + 1))).toNat = (gv (gs.drop (k + 1))).toNat * 10 ^ 9 + (dg gs k).toNat by omega]
  exact dec_pad _ (by omega) 8 _ (by omega)
theorem top_text (gs : List Int) (k : Nat) (hk : k + 1 = gs.length) : gv (gs.drop k) = dg gs k := by
  rw [gv_drop gs k (by omega), List.drop_of_length_le (by omega)]
  simp [gv]
/-- The text of the groups from k on. -/
def tt (gs : List Int) (k : Nat) : List UInt8 := if k = gs.length then [] else Lib.decDigits (gv (gs.drop k)).toNat
def sgn (n : Bool) : List UInt8 := if n then [45] else []
theorem tt_step (gs : List Int) (h : ∀ g ∈ gs, 0 ≤ g ∧ g < 1000000000) (hl : 0 < dg gs (gs.length - 1)) (k t : Nat) (hk : k < gs.length) (ht : (k + 1 = gs.length ∧ t = 0) ∨ (k + 1 < gs.length ∧ t = 9 - Lib.nDigits (dg gs k).toNat)) :
    tt gs k = tt gs (k + 1) ++ (List.replicate t 48 ++ Lib.decDigits (dg gs k).toNat) := by
  unfold tt
  rw [if_neg (by omega)]
  rcases ht with ⟨h1, rfl⟩ | ⟨h1, rfl⟩
  · rw [if_pos h1, top_text gs k h1]; simp
  · rw [if_neg (by omega)]; exact group_text gs h hl k h1
theorem tt_len (gs : List Int) : tt gs gs.length = [] := by simp [tt]
theorem itoa_pos (x : Int) (hx : 0 ≤ x) : Lib.itoa x = Lib.decDigits x.toNat := by unfold Lib.itoa; rw [if_neg (by omega)]
theorem itoa_neg (x : Int) (hx : 0 < x) : Lib.itoa (-x) = 45 :: Lib.decDigits x.toNat := by
  unfold Lib.itoa
  rw [if_pos (show -x < 0 by omega), show (-x).natAbs = x.toNat by omega]
theorem text_iv (n : Bool) (xs gs : List Int) (hv : gv gs = val xs) (hp : 0 < val xs) (hl : 0 < gs.length) : sgn n ++ tt gs 0 = Lib.itoa (iv n xs) := by
  have e : tt gs 0 = Lib.decDigits (val xs).toNat := by unfold tt; rw [if_neg (show ¬ (0 = gs.length) by omega), List.drop_zero, hv]
  rw [e]
  cases n
  · exact (itoa_pos (val xs) (by omega)).symm
  · exact (itoa_neg (val xs) hp).symm
end Go.Proofs.YtegnnghoiffmhaaDoor.Big
