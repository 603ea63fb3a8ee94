/- IsName, IsCode and IsAirport answer as the reference does, for every string. -/
import Derived.Test.YtpgmodghkamihaaDoorQTxt5
import Derived.Test.YtpgmodghkamihaaDoorTxtFields
namespace Go.Proofs.YtpgmodghkamihaaDoor.Pure
open Go.RowKit Go.Proofs.YtpgmodghkamihaaDoor.QTxt Go.Proofs.YtpgmodghkamihaaDoorW.PrintWords Go.Proofs.YtpgmodghkamihaaDoorW.PrintLast Go.Proofs.YtpgmodghkamihaaDoor.Mx

def lo (b : Int) : Bool := decide (97 ≤ b ∧ b ≤ 122)
def up (b : Int) : Bool := decide (65 ≤ b ∧ b ≤ 90)
def dg (b : Int) : Bool := decide (48 ≤ b ∧ b ≤ 57)
def nm (b : Int) : Bool := lo b || (dg b || decide (b = 95))
def cd (b : Int) : Bool := up b || dg b
theorem lower_p (b : Int) : text_lower.f b = some (lo b) := by
  unfold text_lower.f lo; by_cases h : b ≥ 97 <;> by_cases h2 : b ≤ 122 <;> simp [h, h2] <;> omega
theorem lower_r (b : Int) : pairingref5_lower.f b = some (lo b) := by
  unfold pairingref5_lower.f lo; by_cases h : b ≥ 97 <;> by_cases h2 : b ≤ 122 <;> simp [h, h2] <;> omega
theorem upper_p (b : Int) : text_upper.f b = some (up b) := by
  unfold text_upper.f up; by_cases h : b ≥ 65 <;> by_cases h2 : b ≤ 90 <;> simp [h, h2] <;> omega
theorem upper_r (b : Int) : pairingref5_upper.f b = some (up b) := by
  unfold pairingref5_upper.f up; by_cases h : b ≥ 65 <;> by_cases h2 : b ≤ 90 <;> simp [h, h2] <;> omega
theorem digit_p (b : Int) : text_digit.f b = some (dg b) := by
  unfold text_digit.f dg; by_cases h : b ≥ 48 <;> by_cases h2 : b ≤ 57 <;> simp [h, h2] <;> omega
theorem digit_r (b : Int) : pairingref5_number.f b = some (dg b) := by
  unfold pairingref5_number.f dg; by_cases h : b ≥ 48 <;> by_cases h2 : b ≤ 57 <;> simp [h, h2] <;> omega
theorem n1_p (b : Int) : text_IsName_1.f b = some (nm b) := by
  unfold text_IsName_1.f nm; rw [lower_p, Option.bind_some]
  cases lo b
  · rw [if_neg (by decide), digit_p, Option.bind_some]
    cases dg b
    · rw [if_neg (by decide)]; by_cases h : b = 95 <;> simp [h]
    · rfl
  · rfl
theorem c1_p (b : Int) : text_IsCode_1.f b = some (cd b) := by
  unfold text_IsCode_1.f cd; rw [upper_p, Option.bind_some]
  cases up b
  · rw [if_neg (by decide), digit_p]; first | rfl | simp
  · rfl
def allb (p : Int → Bool) (l : List UInt8) : Bool := l.all (fun c => p (c.toNat : Int))
theorem allb_at (p : Int → Bool) {l : List UInt8} {i : Nat} (h : i < l.length) : allb p (l.drop i) = (p ((l.getD i 0).toNat : Int) && allb p (l.drop (i + 1))) := by
  rw [drop_at h]; rfl
theorem allb_end (p : Int → Bool) {l : List UInt8} {i : Nat} (h : l.length ≤ i) : allb p (l.drop i) = true := by
  rw [List.drop_of_length_le h]; rfl
theorem all30 (s : ByteArray) (hs : s.size ≤ 140737488351232) : ∀ (n k i : Nat), i + n = s.size → n < k → text_all_f30.l0 k s (s.size : Int) (i : Int) = some (allb nm (s.data.toList.drop i)) := by
  intro n
  induction n with
  | zero =>
    intro k i hi hk
    obtain ⟨q, rfl⟩ : ∃ q, k = q + 1 := ⟨k - 1, by omega⟩
    rw [text_all_f30.l0, if_neg (by omega), allb_end nm (by rw [← sz]; omega)]
  | succ n ih =>
    intro k i hi hk
    obtain ⟨q, rfl⟩ : ∃ q, k = q + 1 := ⟨k - 1, by omega⟩
    rw [text_all_f30.l0, if_pos (by omega), if_pos (by omega), if_pos (by omega), n1_p, Option.bind_some, allb_at nm (by rw [← sz]; omega), bt_l, show ((i : Int)).toNat = i by omega, w64 (by omega) (by omega), show (i : Int) + 1 = ((i + 1 : Nat) : Int) by omega, ih q (i + 1) (by omega) (by omega)]
    cases nm ((s.data.toList.getD i 0).toNat : Int) <;> rfl
theorem all34 (s : ByteArray) (hs : s.size ≤ 140737488351232) : ∀ (n k i : Nat), i + n = s.size → n < k → text_all_f34.l0 k s (s.size : Int) (i : Int) = some (allb cd (s.data.toList.drop i)) := by
  intro n
  induction n with
  | zero =>
    intro k i hi hk
    obtain ⟨q, rfl⟩ : ∃ q, k = q + 1 := ⟨k - 1, by omega⟩
    rw [text_all_f34.l0, if_neg (by omega), allb_end cd (by rw [← sz]; omega)]
  | succ n ih =>
    intro k i hi hk
    obtain ⟨q, rfl⟩ : ∃ q, k = q + 1 := ⟨k - 1, by omega⟩
    rw [text_all_f34.l0, if_pos (by omega), if_pos (by omega), if_pos (by omega), c1_p, Option.bind_some, allb_at cd (by rw [← sz]; omega), bt_l, show ((i : Int)).toNat = i by omega, w64 (by omega) (by omega), show (i : Int) + 1 = ((i + 1 : Nat) : Int) by omega, ih q (i + 1) (by omega) (by omega)]
    cases cd ((s.data.toList.getD i 0).toNat : Int) <;> rfl
theorem all35 (s : ByteArray) (hs : s.size ≤ 140737488351232) : ∀ (n k i : Nat), i + n = s.size → n < k → text_all_f35.l0 k s (s.size : Int) (i : Int) = some (allb up (s.data.toList.drop i)) := by
  intro n
  induction n with
  | zero =>
    intro k i hi hk
    obtain ⟨q, rfl⟩ : ∃ q, k = q + 1 := ⟨k - 1, by omega⟩
    rw [text_all_f35.l0, if_neg (by omega), allb_end up (by rw [← sz]; omega)]
  | succ n ih =>
    intro k i hi hk
    obtain ⟨q, rfl⟩ : ∃ q, k = q + 1 := ⟨k - 1, by omega⟩
    rw [text_all_f35.l0, if_pos (by omega), if_pos (by omega), if_pos (by omega), upper_p, Option.bind_some, allb_at up (by rw [← sz]; omega), bt_l, show ((i : Int)).toNat = i by omega, w64 (by omega) (by omega), show (i : Int) + 1 = ((i + 1 : Nat) : Int) by omega, ih q (i + 1) (by omega) (by omega)]
    cases up ((s.data.toList.getD i 0).toNat : Int) <;> rfl
theorem refN (s : ByteArray) (hs : s.size ≤ 140737488351232) : ∀ (n k i : Nat), i + n = s.size → n < k → pairingref5_IsName.l0 k s (i : Int) = some (allb nm (s.data.toList.drop i)) := by
  intro n
  induction n with
  | zero =>
    intro k i hi hk
    obtain ⟨q, rfl⟩ : ∃ q, k = q + 1 := ⟨k - 1, by omega⟩
    rw [pairingref5_IsName.l0, if_neg (by omega), allb_end nm (by rw [← sz]; omega)]
  | succ n ih =>
    intro k i hi hk
    obtain ⟨q, rfl⟩ : ∃ q, k = q + 1 := ⟨k - 1, by omega⟩
    rw [pairingref5_IsName.l0, if_pos (by omega), if_pos (by omega), lower_r, digit_r, Option.bind_some, Option.bind_some, allb_at nm (by rw [← sz]; omega), bt_l, show ((i : Int)).toNat = i by omega, w64 (by omega) (by omega), show (i : Int) + 1 = ((i + 1 : Nat) : Int) by omega, ih q (i + 1) (by omega) (by omega)]
    unfold nm
    generalize ((s.data.toList.getD i 0).toNat : Int) = b
    cases lo b <;> cases dg b <;> by_cases h : b = 95 <;> simp [h]
theorem refC (s : ByteArray) (hs : s.size ≤ 140737488351232) : ∀ (n k i : Nat), i + n = s.size → n < k → pairingref5_IsCode.l0 k s (i : Int) = some (allb cd (s.data.toList.drop i) && decide (1 ≤ s.size ∧ s.size ≤ 8)) := by
  intro n
  induction n with
  | zero =>
    intro k i hi hk
    obtain ⟨q, rfl⟩ : ∃ q, k = q + 1 := ⟨k - 1, by omega⟩
    rw [pairingref5_IsCode.l0, if_neg (by omega), allb_end cd (by rw [← sz]; omega), Bool.true_and]
    by_cases h : (s.size : Int) ≥ 1
    · rw [if_pos h]; congr 1; exact decide_eq_decide.2 (by omega)
    · rw [if_neg h, decide_eq_false (by omega)]
  | succ n ih =>
    intro k i hi hk
    obtain ⟨q, rfl⟩ : ∃ q, k = q + 1 := ⟨k - 1, by omega⟩
    rw [pairingref5_IsCode.l0, if_pos (by omega), if_pos (by omega), upper_r, digit_r, Option.bind_some, Option.bind_some, allb_at cd (by rw [← sz]; omega), bt_l, show ((i : Int)).toNat = i by omega, w64 (by omega) (by omega), show (i : Int) + 1 = ((i + 1 : Nat) : Int) by omega, ih q (i + 1) (by omega) (by omega)]
    unfold cd
    generalize ((s.data.toList.getD i 0).toNat : Int) = b
    cases up b <;> cases dg b <;> simp
theorem name_eq (s : ByteArray) (hs : s.size ≤ 140737488351232) (k : Nat) (hk : s.size + 5 ≤ k) : ∃ r, text_IsName.f k s = some r ∧ pairingref5_IsName.f k s = some r := by
  obtain ⟨q, rfl⟩ : ∃ q, k = q + 1 := ⟨k - 1, by omega⟩
  unfold text_IsName.f pairingref5_IsName.f text_all_f30.f
  by_cases h1 : (s.size : Int) < 1
  · rw [if_neg (show ¬ (s.size : Int) ≥ 1 by omega), if_pos h1, pairingref5_IsName.j0, if_pos rfl]; exact ⟨_, rfl, rfl⟩
  · rw [if_pos (show (s.size : Int) ≥ 1 by omega), if_neg h1]
    by_cases h2 : (s.size : Int) > 16
    · rw [if_neg (show ¬ (s.size : Int) ≤ 16 by omega), if_pos h2, pairingref5_IsName.j0, if_pos rfl]; exact ⟨_, rfl, rfl⟩
    · rw [if_pos (show (s.size : Int) ≤ 16 by omega), if_neg h2, if_pos (by omega), if_pos (by omega), lower_p, lower_r, Option.bind_some, Option.bind_some, pairingref5_IsName.j0]
      cases lo (bt s 0)
      · exact ⟨_, rfl, rfl⟩
      · rw [show text_all_f30.l0 (q + 1) s (s.size : Int) 0 = _ from all30 s hs s.size (q + 1) 0 (by omega) (by omega), show pairingref5_IsName.l0 q s 0 = _ from refN s hs s.size q 0 (by omega) (by omega)]; exact ⟨_, rfl, rfl⟩
theorem code_eq (s : ByteArray) (hs : s.size ≤ 140737488351232) (k : Nat) (hk : s.size + 5 ≤ k) : ∃ r, text_IsCode.f k s = some r ∧ pairingref5_IsCode.f k s = some r := by
  unfold text_IsCode.f pairingref5_IsCode.f text_all_f34.f
  rw [show pairingref5_IsCode.l0 k s 0 = _ from refC s hs s.size k 0 (by omega) (by omega), show text_all_f34.l0 k s (s.size : Int) 0 = _ from all34 s hs s.size k 0 (by omega) (by omega)]
  refine ⟨_, ?_, rfl⟩
  by_cases h1 : (s.size : Int) ≥ 1
  · rw [if_pos h1]
    by_cases h2 : (s.size : Int) ≤ 8
    · rw [if_pos h2, decide_eq_true (show 1 ≤ s.size ∧ s.size ≤ 8 by omega), Bool.and_true]; rfl
    · rw [if_neg h2, decide_eq_false (show ¬ (1 ≤ s.size ∧ s.size ≤ 8) by omega), Bool.and_false]
  · rw [if_neg h1, decide_eq_false (show ¬ (1 ≤ s.size ∧ s.size ≤ 8) by omega), Bool.and_false]
theorem airport_eq (s : ByteArray) (hs : s.size ≤ 140737488351232) (k : Nat) (hk : s.size + 5 ≤ k) : ∃ r, text_IsAirport.f k s = some r ∧ pairingref5_IsAirport.f s = some r := by
  unfold text_IsAirport.f pairingref5_IsAirport.f text_all_f35.f
  by_cases h : (s.size : Int) = 3
  · have hl : s.data.toList.length = 3 := by rw [← sz]; omega
    rw [if_pos h, if_pos h, if_pos (by omega), if_pos (by omega), if_pos (by omega), show text_all_f35.l0 k s (s.size : Int) 0 = _ from all35 s hs s.size k 0 (by omega) (by omega), allb_at up (by omega), allb_at up (by omega), allb_at up (by omega), allb_end up (by omega)]
    simp only [upper_r, Option.bind_some, show bt s 0 = ((s.data.toList.getD 0 0).toNat : Int) from bt_l s 0, show bt s 1 = ((s.data.toList.getD 1 0).toNat : Int) from bt_l s 1, show bt s 2 = ((s.data.toList.getD 2 0).toNat : Int) from bt_l s 2]
    refine ⟨_, rfl, ?_⟩
    show _ = some (up ((s.data.toList.getD 0 0).toNat : Int) && (up ((s.data.toList.getD 1 0).toNat : Int) && (up ((s.data.toList.getD 2 0).toNat : Int) && true)))
    cases up ((s.data.toList.getD 0 0).toNat : Int) <;> cases up ((s.data.toList.getD 1 0).toNat : Int) <;> cases up ((s.data.toList.getD 2 0).toNat : Int) <;> rfl
  · rw [if_neg h, if_neg h]; exact ⟨_, rfl, rfl⟩
theorem TextNames : pairinglaw5_TextNames.Pure := by
  intro s hs
  refine ⟨s.size + 200, ?_⟩
  obtain ⟨r1, a1, b1⟩ := name_eq s hs (s.size + 200) (by omega)
  obtain ⟨r2, a2, b2⟩ := code_eq s hs (s.size + 200) (by omega)
  obtain ⟨r3, a3, b3⟩ := airport_eq s hs (s.size + 200) (by omega)
  unfold pairinglaw5_TextNames.f
  rw [a1, b1, a2, b2, a3, b3, awake5 (by omega)]
  simp
end Go.Proofs.YtpgmodghkamihaaDoor.Pure
