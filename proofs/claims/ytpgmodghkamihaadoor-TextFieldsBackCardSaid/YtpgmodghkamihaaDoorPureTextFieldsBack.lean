/- Fields without blanks and number signs, joined by blanks, are returned unchanged, also with a comment after them. -/
import Derived.Test.YtpgmodghkamihaaDoorQTxt14
import Derived.Test.YtpgmodghkamihaaDoorTxtFields
namespace Go.Proofs.YtpgmodghkamihaaDoor.Pure
open Go.RowKit Go.Proofs.YtpgmodghkamihaaDoor.QTxt Go.Proofs.YtpgmodghkamihaaDoorW.PrintWords Go.Proofs.YtpgmodghkamihaaDoorW.PrintLast Go.Proofs.YtpgmodghkamihaaDoor.Mx

/-- A word that is a field: not empty, no blank, no number sign. -/
def Word (w : List UInt8) : Prop := w ≠ [] ∧ w.length ≤ 100 ∧ ∀ c ∈ w, c ≠ 32 ∧ c ≠ 35
theorem fl_word : ∀ (w cur rest : List UInt8), (∀ c ∈ w, c ≠ 32 ∧ c ≠ 35) → fl cur (w ++ rest) = fl (cur ++ w) rest
  | [], cur, rest, _ => by rw [List.append_nil, List.nil_append]
  | c :: t, cur, rest, h => by
    have hc := h c (by simp)
    rw [List.cons_append, fl_cons, if_neg hc.2, if_neg hc.1, fl_word t _ rest (fun x hx => h x (by simp [hx])), List.append_assoc]; rfl
def joined (ws : List (List UInt8)) : List UInt8 := (ws.map (fun w => 32 :: w)).flatten
theorem fl_joined : ∀ (ws : List (List UInt8)) (rest : List UInt8) (cur : List UInt8), (∀ w ∈ ws, Word w) → (rest = [] ∨ ∃ r, rest = 35 :: r) → fl cur (joined ws ++ rest) = flush cur ++ ws
  | [], rest, cur, _, hr => by
    rcases hr with rfl | ⟨r, rfl⟩
    · rw [List.append_nil]; show fl cur [] = _; rw [fl, List.append_nil]
    · show fl cur (35 :: r) = _; rw [fl_cons, if_pos rfl, List.append_nil]
  | w :: ws, rest, cur, h, hr => by
    have hw := h w (by simp)
    have e : joined (w :: ws) ++ rest = 32 :: (w ++ (joined ws ++ rest)) := by unfold joined; simp
    rw [e, fl_cons, if_neg (by decide), if_pos rfl, fl_word w [] _ hw.2.2, List.nil_append, fl_joined ws rest w (fun x hx => h x (by simp [hx])) hr]
    unfold flush
    rw [if_neg hw.1]; rfl
theorem joined_len : ∀ (ws : List (List UInt8)), (∀ w ∈ ws, Word w) → (joined ws).length ≤ 101 * ws.length
  | [], _ => by unfold joined; simp
  | w :: ws, h => by
    have hw := h w (by simp)
    have := joined_len ws (fun x hx => h x (by simp [hx]))
    unfold joined at *
    simp only [List.map_cons, List.flatten_cons, List.length_append, List.length_cons]
    have := hw.2.1
    omega
theorem cutl_app35 : ∀ (l r : List UInt8), (cutl (l ++ 35 :: r)).length ≤ l.length
  | [], r => by show (cutl (35 :: r)).length ≤ 0; unfold cutl; rw [if_pos rfl]; simp
  | c :: t, r => by
    rw [List.cons_append]; unfold cutl
    split
    · simp
    · have := cutl_app35 t r; simp; omega
theorem at_getD {l : List UInt8} {j : Nat} (h : j < l.length) : l[j]? = some (l.getD j 0) := by rw [List.getD_eq_getElem?_getD, List.getElem?_eq_getElem h]; rfl
theorem joined_snoc (ws : List (List UInt8)) (w : List UInt8) : joined (ws ++ [w]) = joined ws ++ 32 :: w := by unfold joined; simp

/-- The bytes of a word are looked at one by one. -/
theorem back_l1 (l : List ByteArray) (c x5 : ByteArray) (i : Nat) (hi : i < l.length) (hl : l.length ≤ 50) (hsz : (l.getD i ByteArray.empty).size ≤ 100) (Q : Option Bool) :
    ∀ (n k j : Nat), j + n = (l.getD i ByteArray.empty).size → n + 200 < k → (∀ z : Nat, z < j → ∀ c, (l.getD i ByteArray.empty).data.toList[z]? = some c → c ≠ 32 ∧ c ≠ 35) →
    pairinglaw5_TextFieldsBack.l1 k l c x5 (i : Int) (j : Int) = some true ∨
    ((∀ c ∈ (l.getD i ByteArray.empty).data.toList, c ≠ 32 ∧ c ≠ 35) ∧ ∃ q, q + 1 + n = k ∧ pairinglaw5_TextFieldsBack.l1 k l c x5 (i : Int) (j : Int) =
      (if x5.size + 1 ≤ 9223372036854775807 then (if x5.size + 1 + (l.getD i ByteArray.empty).size ≤ 9223372036854775807 then (pairinglaw5_TextFieldsBack.l0 q l c ((x5 ++ (⟨#[32]⟩ : ByteArray)) ++ (l.getD i ByteArray.empty)) ((i + 1 : Nat) : Int)) else (none)) else (none))) := by
  have hr : rdOf ByteArray.empty l (i : Int) = l.getD i ByteArray.empty := by unfold rdOf; rw [show ((i : Int)).toNat = i by omega]
  intro n
  induction n with
  | zero =>
    intro k j hj hk hz
    obtain ⟨q, rfl⟩ : ∃ q, k = q + 1 := ⟨k - 1, by omega⟩
    refine .inr ⟨fun c hc => ?_, q, by omega, ?_⟩
    · obtain ⟨z, hz2⟩ := List.mem_iff_getElem?.1 hc
      have := (List.getElem?_eq_some_iff.1 hz2).1
      exact hz z (by rw [sz] at hj; omega) c hz2
    · rw [pairinglaw5_TextFieldsBack.l1, hr, if_pos (by omega), if_pos (by omega), if_neg (by omega), w64 (by omega) (by omega)]; rfl
  | succ n ih =>
    intro k j hj hk hz
    obtain ⟨q, rfl⟩ : ∃ q, k = q + 1 := ⟨k - 1, by omega⟩
    rw [pairinglaw5_TextFieldsBack.l1, hr, if_pos (by omega), if_pos (by omega), if_pos (by omega), if_pos (by omega), bt_l, show ((j : Int)).toNat = j by omega]
    have hjl : j < (l.getD i ByteArray.empty).data.toList.length := by rw [← sz]; omega
    have hg : (l.getD i ByteArray.empty).data.toList[j]? = some ((l.getD i ByteArray.empty).data.toList.getD j 0)   := at_getD hjl
    generalize (l.getD i ByteArray.empty).data.toList.getD j 0 = d at *
    have c35 : (((d.toNat : Int)) = 35) = (d = 35) := nat8 (n := 35) (by decide)
    have c32 : (((d.toNat : Int)) = 32) = (d = 32) := nat8 (n := 32) (by decide)
    by_cases h32 : (d.toNat : Int) = 32
    · rw [if_pos h32, awake5 (by omega)]; exact .inl rfl
    · rw [if_neg h32]
      by_cases h35 : (d.toNat : Int) = 35
      · rw [if_pos h35, awake5 (by omega)]; exact .inl rfl
      · rw [if_neg h35, w64 (by omega) (by omega), show (j : Int) + 1 = ((j + 1 : Nat) : Int) by omega]
        rcases ih q (j + 1) (by omega) (by omega) (fun z hz2 c hc => by
          by_cases hzj : z < j
          · exact hz z hzj c hc
          · obtain rfl : z = j := by omega
            rw [hg] at hc; injection hc with hc; subst hc
            exact ⟨fun e => h32 (by rw [c32]; exact e), fun e => h35 (by rw [c35]; exact e)⟩) with h | ⟨h1, q', h2, h3⟩
        · exact .inl h
        · exact .inr ⟨h1, q', by omega, h3⟩
theorem back_l0 (l : List ByteArray) (c : ByteArray) (hl : l.length ≤ 50) (hc : c.size ≤ 140737488351232) :
    ∀ (n k i : Nat), i + n = l.length → 10000 + 500 * n < k → (∀ w ∈ (l.take i).map (fun x => x.data.toList), Word w) →
    pairinglaw5_TextFieldsBack.l0 k l c (mk (joined ((l.take i).map (fun x => x.data.toList)))) (i : Int) = some true := by
  intro n
  induction n with
  | zero =>
    intro k i hi hk hw
    obtain ⟨q, rfl⟩ : ∃ q, k = q + 1 := ⟨k - 1, by omega⟩
    rw [List.take_of_length_le (by omega)] at hw ⊢
    have hlen := joined_len _ hw
    rw [List.length_map] at hlen
    have hback : (l.map (fun x => x.data.toList)).map mk = l := by
      rw [List.map_map]
      conv => rhs; rw [← List.map_id l]
      apply List.map_congr_left
      intro x _
      exact mk_of x
    generalize hws : l.map (fun x => x.data.toList) = ws at *
    have hsz : (mk (joined ws)).size = (joined ws).length := by rw [sz, mk_l]
    have hcl := cutl_len (joined ws)
    have f1 : fields (mk (joined ws)) = l := by
      unfold fields
      have := fl_joined ws [] [] hw (Or.inl rfl)
      rw [List.append_nil] at this
      rw [mk_l, this]; exact hback
    have f2 : fields (mk (joined ws) ++ (⟨#[35]⟩ : ByteArray) ++ c) = l := by
      unfold fields
      have := fl_joined ws (35 :: c.data.toList) [] hw (Or.inr ⟨_, rfl⟩)
      rw [app_l, app_l, mk_l, List.append_assoc, show (⟨#[35]⟩ : ByteArray).data.toList ++ c.data.toList = 35 :: c.data.toList from rfl, this]; exact hback
    have c2 := cutl_app35 (joined ws) c.data.toList
    have e2 : (mk (joined ws) ++ (⟨#[35]⟩ : ByteArray) ++ c).data.toList = joined ws ++ 35 :: c.data.toList := by rw [app_l, app_l, mk_l, List.append_assoc]; rfl
    have z2 : (mk (joined ws) ++ (⟨#[35]⟩ : ByteArray) ++ c).size ≤ 140737488351232 + 6000 := by rw [sz, e2, List.length_append, List.length_cons, ← sz]; omega
    rw [pairinglaw5_TextFieldsBack.l0, if_neg (by omega), fields_p _ (by omega) (by rw [mk_l]; omega) (by rw [mk_l]; omega), Option.bind_some, f1, same_p (by omega) (by omega), Option.bind_some, if_pos rfl, if_pos (by omega), if_pos (by omega), fields_q _ z2 (by rw [e2]; omega) (by rw [e2]; omega), Option.bind_some, f2, same_p (by omega) (by omega), Option.bind_some, if_pos rfl, awake5 (by omega)]; rfl
  | succ n ih =>
    intro k i hi hk hw
    obtain ⟨q, rfl⟩ : ∃ q, k = q + 2 := ⟨k - 2, by omega⟩
    have hil : i < l.length := by omega
    have hr : rdOf ByteArray.empty l (i : Int) = l.getD i ByteArray.empty := by unfold rdOf; rw [show ((i : Int)).toNat = i by omega]
    have hg : l.getD i ByteArray.empty = l[i] := by rw [List.getD_eq_getElem?_getD, List.getElem?_eq_getElem hil]; rfl
    have hlen := joined_len _ hw
    rw [List.length_map, List.length_take] at hlen
    rw [pairinglaw5_TextFieldsBack.l0, if_pos (by omega), if_pos (by omega), hr, toList_l]
    have hbad : pairinglaw5_TextFieldsBack.j1 (q + 1) l c (mk (joined ((l.take i).map (fun x => x.data.toList)))) (i : Int) true = some true := by
      rw [pairinglaw5_TextFieldsBack.j1, if_pos rfl, awake5 (by omega)]; rfl
    by_cases he : (l.getD i ByteArray.empty).data.toList = []
    · rw [if_pos he]; exact hbad
    · rw [if_neg he]
      by_cases h100 : ((l.getD i ByteArray.empty).size : Int) > 100
      · rw [decide_eq_true h100]; exact hbad
      · rw [decide_eq_false h100, pairinglaw5_TextFieldsBack.j1, if_neg (by decide)]
        rcases back_l1 l c (mk (joined ((l.take i).map (fun x => x.data.toList)))) i hil hl (by omega) none (l.getD i ByteArray.empty).size q 0 (by omega) (by omega) (fun z hz => absurd hz (by omega)) with h | ⟨h1, q', h2, h3⟩
        · exact h
        · rw [show pairinglaw5_TextFieldsBack.l1 q l c (mk (joined ((l.take i).map (fun x => x.data.toList)))) (i : Int) 0 = _ from h3]
          have hsz : (mk (joined ((l.take i).map (fun x => x.data.toList)))).size = (joined ((l.take i).map (fun x => x.data.toList))).length := by rw [sz, mk_l]
          rw [if_pos (by omega), if_pos (by omega)]
          have hnext : (l.take (i + 1)).map (fun x => x.data.toList) = (l.take i).map (fun x => x.data.toList) ++ [(l.getD i ByteArray.empty).data.toList] := by
            rw [List.take_succ_eq_append_getElem hil, List.map_append, hg]; rfl
          have e : (mk (joined ((l.take i).map (fun x => x.data.toList))) ++ (⟨#[32]⟩ : ByteArray)) ++ (l.getD i ByteArray.empty) = mk (joined ((l.take (i + 1)).map (fun x => x.data.toList))) := by
            apply bytes_ext
            rw [hnext, joined_snoc, app_l, app_l, mk_l, mk_l, List.append_assoc]; rfl
          rw [e]
          refine ih q' (i + 1) (by omega) (by omega) (fun w hw2 => ?_)
          rw [hnext, List.mem_append] at hw2
          rcases hw2 with hw2 | hw2
          · exact hw w hw2
          · obtain rfl := List.mem_singleton.1 hw2
            exact ⟨he, by rw [← sz]; omega, h1⟩
theorem TextFieldsBack : pairinglaw5_TextFieldsBack.Pure := by
  intro l c _ hc
  refine ⟨100000, ?_⟩
  unfold pairinglaw5_TextFieldsBack.f
  by_cases h : (l.length : Int) > 50
  · rw [if_pos h, awake5 (by decide)]; rfl
  · rw [if_neg h]
    exact back_l0 l c (by omega) hc l.length 100000 0 (by omega) (by omega) (fun w hw => by simp at hw)
end Go.Proofs.YtpgmodghkamihaaDoor.Pure
