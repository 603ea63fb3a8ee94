/- The fields of a line, program and reference alike: bytes between blanks, up to the first number sign. -/
import Derived.Lib.IndexLaws
import Derived.Test.YtpgmodghkamihaaDoorQTxt1
import Derived.Test.YtpgmodghkamihaaDoorQTxt2
import Derived.Test.YtpgmodghkamihaaDoorQTxt3
import Derived.Test.YtpgmodghkamihaaDoorMath
namespace Go.Proofs.YtpgmodghkamihaaDoor.Pure
open Go.RowKit Go.Proofs.YtpgmodghkamihaaDoor.QTxt Go.Proofs.YtpgmodghkamihaaDoorW.PrintWords Go.Proofs.YtpgmodghkamihaaDoorW.PrintLast Go.Proofs.YtpgmodghkamihaaDoor.Mx

theorem bytes_ext {a b : ByteArray} (h : a.data.toList = b.data.toList) : a = b := by
  cases a; cases b; congr 1; exact Array.toList_inj.1 h
theorem sz (s : ByteArray) : s.size = s.data.toList.length := by cases s; exact Array.length_toList.symm
theorem bt_l (s : ByteArray) (i : Int) : bt s i = ((s.data.toList.getD i.toNat 0).toNat : Int) := by
  unfold bt
  split
  · rename_i h
    have h' : i.toNat < s.data.toList.length := by rw [← sz]; exact h
    rw [List.getD_eq_getElem?_getD, List.getElem?_eq_getElem h']
    rfl
  · rename_i h
    have h' : s.data.toList.length ≤ i.toNat := by rw [← sz]; omega
    rw [List.getD_eq_getElem?_getD, List.getElem?_eq_none h']
    rfl
theorem ex_l (s : ByteArray) (a b : Nat) : (s.extract a b).data.toList = (s.data.toList.take b).drop a := by
  rw [ByteArray.data_extract, Array.toList_extract]
  simp [List.extract, List.drop_take]
theorem app_l (s t : ByteArray) : (s ++ t).data.toList = s.data.toList ++ t.data.toList := by simp
theorem toList_l (s : ByteArray) : s.toList = s.data.toList := ByteArray.toList_eq s
def mk (l : List UInt8) : ByteArray := ⟨l.toArray⟩
theorem mk_l (l : List UInt8) : (mk l).data.toList = l := rfl
theorem mk_of (s : ByteArray) : mk s.data.toList = s := bytes_ext rfl
theorem drop_at {l : List UInt8} {i : Nat} (h : i < l.length) : l.drop i = l.getD i 0 :: l.drop (i + 1) := by
  rw [List.getD_eq_getElem?_getD, List.getElem?_eq_getElem h, List.drop_eq_getElem_cons h]; rfl
theorem nat8 {c : UInt8} {n : Nat} (h : n < 256) : ((c.toNat : Int) = n) = (c = UInt8.ofNat n) := by
  apply propext
  constructor
  · intro e; apply UInt8.toNat_inj.1; rw [UInt8.toNat_ofNat']; omega
  · rintro rfl; rw [UInt8.toNat_ofNat']; omega

/-! the spec -/
def flush (cur : List UInt8) : List (List UInt8) := if cur = [] then [] else [cur]
def fl : List UInt8 → List UInt8 → List (List UInt8)
  | cur, [] => flush cur
  | cur, c :: t => if c = 35 then flush cur else if c = 32 then flush cur ++ fl [] t else fl (cur ++ [c]) t
def fields (s : ByteArray) : List ByteArray := (fl [] s.data.toList).map mk

/-! the program's way: cut, split, leave out what is empty -/
def cutl : List UInt8 → List UInt8
  | [] => []
  | c :: t => if c = 35 then [] else c :: cutl t
def sp : List UInt8 → List UInt8 → List (List UInt8)
  | cur, [] => [cur]
  | cur, c :: t => if c = 32 then cur :: sp [] t else sp (cur ++ [c]) t
theorem sp_cons (cur : List UInt8) (c : UInt8) (t : List UInt8) : sp cur (c :: t) = if c = 32 then cur :: sp [] t else sp (cur ++ [c]) t := by rw [sp]
theorem fl_cons (cur : List UInt8) (c : UInt8) (t : List UInt8) : fl cur (c :: t) = if c = 35 then flush cur else if c = 32 then flush cur ++ fl [] t else fl (cur ++ [c]) t := by rw [fl]
theorem fl_eq : ∀ (l cur : List UInt8), (sp cur (cutl l)).filter (fun x => !x.isEmpty) = fl cur l
  | [], cur => by
    show (sp cur []).filter _ = flush cur
    unfold sp flush
    cases cur <;> rfl
  | c :: t, cur => by
    unfold cutl fl
    by_cases h : c = 35
    · rw [if_pos h, if_pos h]
      unfold sp flush
      cases cur <;> rfl
    · rw [if_neg h, if_neg h]
      unfold sp
      by_cases h2 : c = 32
      · rw [if_pos h2, if_pos h2, List.filter_cons, fl_eq t []]
        unfold flush
        cases cur <;> rfl
      · rw [if_neg h2, if_neg h2, fl_eq t (cur ++ [c])]
theorem cutl_none : ∀ (l : List UInt8), (∀ i : Nat, l[i]? ≠ some 35) → cutl l = l
  | [], _ => rfl
  | c :: t, h => by
    unfold cutl
    rw [if_neg (fun e => h 0 (by rw [e]; rfl)), cutl_none t (fun i => by have := h (i + 1); rwa [List.getElem?_cons_succ] at this)]
theorem cutl_some : ∀ (l : List UInt8) (j : Nat), l[j]? = some 35 → (∀ i : Nat, i < j → l[i]? ≠ some 35) → cutl l = l.take j
  | [], j, h, _ => by simp at h
  | c :: t, 0, h, _ => by
    rw [List.getElem?_cons_zero] at h
    injection h with h
    unfold cutl
    rw [if_pos h]; rfl
  | c :: t, j + 1, h, hn => by
    unfold cutl
    rw [if_neg (fun e => hn 0 (by omega) (by rw [e]; rfl)), cutl_some t j (by rwa [List.getElem?_cons_succ] at h) (fun i hi => by have := hn (i + 1) (by omega); rwa [List.getElem?_cons_succ] at this)]
    rfl
theorem sp_none : ∀ (l cur : List UInt8), (∀ i : Nat, l[i]? ≠ some 32) → sp cur l = [cur ++ l]
  | [], cur, _ => by unfold sp; rw [List.append_nil]
  | c :: t, cur, h => by
    unfold sp
    rw [if_neg (fun e => h 0 (by rw [e]; rfl)), sp_none t _ (fun i => by have := h (i + 1); rwa [List.getElem?_cons_succ] at this)]
    simp
theorem sp_some : ∀ (l cur : List UInt8) (j : Nat), l[j]? = some 32 → (∀ i : Nat, i < j → l[i]? ≠ some 32) → sp cur l = (cur ++ l.take j) :: sp [] (l.drop (j + 1))
  | [], _, j, h, _ => by simp at h
  | c :: t, cur, 0, h, _ => by
    rw [List.getElem?_cons_zero] at h
    injection h with h
    rw [sp_cons, if_pos h]; simp
  | c :: t, cur, j + 1, h, hn => by
    rw [sp_cons, if_neg (fun e => hn 0 (by omega) (by rw [e]; rfl)), sp_some t _ j (by rwa [List.getElem?_cons_succ] at h) (fun i hi => by have := hn (i + 1) (by omega); rwa [List.getElem?_cons_succ] at this)]
    simp
theorem cnt_none : ∀ (l : List UInt8), l.count 32 = 0 → ∀ i : Nat, l[i]? ≠ some 32 := by
  intro l h i e
  have := List.count_pos_iff.2 (List.mem_of_getElem? e)
  omega
theorem cnt_some : ∀ (l : List UInt8) (j : Nat), l[j]? = some 32 → (∀ i : Nat, i < j → l[i]? ≠ some 32) → l.count 32 = (l.drop (j + 1)).count 32 + 1
  | [], j, h, _ => by simp at h
  | c :: t, 0, h, _ => by
    rw [List.getElem?_cons_zero] at h
    injection h with h
    subst h
    simp
  | c :: t, j + 1, h, hn => by
    have h1 : c ≠ 32 := fun e => hn 0 (by omega) (by rw [e]; rfl)
    rw [List.count_cons_of_ne h1, cnt_some t j (by rwa [List.getElem?_cons_succ] at h) (fun i hi => by have := hn (i + 1) (by omega); rwa [List.getElem?_cons_succ] at this)]
    simp
def B32 : ByteArray := ⟨#[32]⟩
theorem index32 (s : ByteArray) : strings_Index.f s (⟨#[32]⟩ : ByteArray) = some (Lib.indexByte s.data.toList 32) := by
  unfold strings_Index.f stringslite_Index.f
  rw [if_pos (show (⟨#[32]⟩ : ByteArray).size = 1 from rfl)]; rfl
/-- The round of genSplit: the pieces found so far lie ahead in the row. -/
theorem gs_l0 (n0 : Nat) (hn : n0 ≤ 1000000) : ∀ (m k : Nat) (s : ByteArray) (arr : List ByteArray) (i : Nat), s.size ≤ 1000000 → arr.length = n0 + 1 → i + m = n0 → s.data.toList.count 32 = m → m < k →
    strings_genSplit.l0 k s (⟨#[32]⟩ : ByteArray) 0 (n0 : Int) arr (i : Int) = some (arr.take i ++ (sp [] s.data.toList).map mk) := by
  intro m
  induction m with
  | zero =>
    intro k s arr i hs ha hi hc hk
    obtain ⟨q, rfl⟩ : ∃ q, k = q + 1 := ⟨k - 1, by omega⟩
    rw [strings_genSplit.l0, if_neg (by omega), if_pos (by omega), if_pos (by omega), w64 (by omega) (by omega), if_pos (by omega), if_pos (by omega), sp_none _ _ (cnt_none _ hc)]
    congr 1
    rw [show ((i : Int) + 1).toNat = i + 1 by omega, show ((i : Int)).toNat = i by omega, List.take_succ_eq_append_getElem (by rw [List.length_set]; omega), List.getElem_set_self]
    rw [List.nil_append, List.map_cons, List.map_nil, mk_of, List.take_set_of_le (by omega)]
  | succ m ih =>
    intro k s arr i hs ha hi hc hk
    obtain ⟨q, rfl⟩ : ∃ q, k = q + 1 := ⟨k - 1, by omega⟩
    have hj0 : ¬ Lib.indexByte s.data.toList 32 = -1 := fun e => by
      have := Lib.indexByte_none e
      have h2 : 0 < s.data.toList.count 32 := by omega
      obtain ⟨z, hz⟩ := List.mem_iff_getElem?.1 (List.count_pos_iff.1 h2)
      exact this z hz
    have hge := Lib.indexByte_ge s.data.toList 32
    obtain ⟨j, hj⟩ : ∃ j : Nat, Lib.indexByte s.data.toList 32 = j := ⟨(Lib.indexByte s.data.toList 32).toNat, by omega⟩
    obtain ⟨h1, h2⟩ := Lib.indexByte_some hj
    have hjl : j < s.size := by rw [sz]; exact (List.getElem?_eq_some_iff.1 h1).1
    have z1 : ((⟨#[32]⟩ : ByteArray).size : Int) = 1 := rfl
    rw [strings_genSplit.l0, if_pos (by omega), index32, hj, Option.bind_some, if_neg (by omega), z1, w64 (x := (j : Int) + 0) (by omega) (by omega), if_pos (by omega), if_pos (by omega), if_pos (by omega), if_pos (by omega), w64 (x := (j : Int) + 1) (by omega) (by omega), if_pos (by omega), if_pos (by omega), w64 (x := (i : Int) + 1) (by omega) (by omega)]
    have e1 : (s.extract ((j : Int) + 1).toNat s.size).data.toList = s.data.toList.drop (j + 1) := by rw [ex_l, sz, List.take_length]; congr 1
    have hc2 := cnt_some _ j h1 h2
    have := ih q (s.extract ((j : Int) + 1).toNat s.size) (arr.set i (s.extract 0 ((j : Int) + 0).toNat)) (i + 1) (by rw [sz, e1, List.length_drop, ← sz]; omega) (by rw [List.length_set]; omega) (by omega) (by rw [e1]; omega) (by omega)
    rw [show ((i : Int)).toNat = i by omega, show ((i : Int) + 1) = ((i + 1 : Nat) : Int) by omega, this, e1, sp_some _ _ j h1 h2]
    congr 1
    rw [List.take_succ_eq_append_getElem (by rw [List.length_set]; omega), List.getElem_set_self, List.take_set_of_le (by omega), List.nil_append, List.map_cons, List.append_assoc]
    have e2 : s.extract 0 ((j : Int) + 0).toNat = mk (s.data.toList.take j) := by
      apply bytes_ext
      rw [ex_l, mk_l, List.drop_zero, show ((j : Int) + 0).toNat = j by omega]
    rw [e2]; rfl
theorem mn_at {a b : Int} (h : a ≤ b) : mn a b = a := by unfold mn; rw [if_neg (by omega)]
theorem split_eq {s : ByteArray} (hs : s.size ≤ 1000000) {k : Nat} (hk : s.size + 5 ≤ k) : strings_Split.f k s (⟨#[32]⟩ : ByteArray) = some ((sp [] s.data.toList).map mk) := by
  obtain ⟨q, rfl⟩ : ∃ q, k = q + 1 := ⟨k - 1, by omega⟩
  unfold strings_Split.f strings_genSplit.f strings_Count.f
  have hc : s.data.toList.count 32 ≤ s.size := by rw [sz]; exact List.count_le_length
  rw [if_neg (by decide), if_neg (show ¬ (⟨#[32]⟩ : ByteArray).toList = ([] : List UInt8) by rw [toList_l]; decide), if_pos (by decide), if_pos (show (⟨#[32]⟩ : ByteArray).size = 1 from rfl), Option.bind_some, show Lib.countByte s.data.toList ((⟨#[32]⟩ : ByteArray).data.toList.headD 0) = s.data.toList.count 32 from rfl]
  rw [strings_genSplit.j0, w64 (x := ((s.data.toList.count 32 : Nat) : Int) + 1) (by omega) (by omega), w64 (x := (s.size : Int) + 1) (by omega) (by omega), mn_at (by omega), if_pos (by omega), if_pos (by omega), w64 (by omega) (by omega)]
  have := gs_l0 (s.data.toList.count 32) (by omega) (s.data.toList.count 32) q s (List.replicate (((s.data.toList.count 32 : Nat) : Int) + 1).toNat ⟨#[]⟩) 0 hs (by rw [List.length_replicate]; omega) (by omega) rfl (by omega)
  rw [show ((s.data.toList.count 32 : Nat) : Int) + 1 - 1 = ((s.data.toList.count 32 : Nat) : Int) by omega, show strings_genSplit.l0 q s (⟨#[32]⟩ : ByteArray) 0 _ _ 0 = _ from this, Option.bind_some, List.take_zero, List.nil_append]
theorem sp_len : ∀ (l cur : List UInt8), (sp cur l).length ≤ l.length + 1
  | [], cur => by unfold sp; simp
  | c :: t, cur => by
    unfold sp
    split
    · have := sp_len t []; simp; omega
    · have := sp_len t (cur ++ [c]); simp; omega
theorem keep_l0 (ps : List (List UInt8)) (hp : ps.length ≤ 2000000) : ∀ (n k i : Nat) (acc : List ByteArray), i + n = ps.length → n < k → acc.length ≤ i →
    text_Fields.l0 k acc (ps.map mk) (ps.length : Int) (i : Int) = some (acc ++ ((ps.drop i).filter (fun x => !x.isEmpty)).map mk) := by
  intro n
  induction n with
  | zero =>
    intro k i acc hi hk ha
    obtain ⟨q, rfl⟩ : ∃ q, k = q + 1 := ⟨k - 1, by omega⟩
    rw [text_Fields.l0, if_neg (by omega), List.drop_of_length_le (by omega)]
    simp
  | succ n ih =>
    intro k i acc hi hk ha
    obtain ⟨q, rfl⟩ : ∃ q, k = q + 1 := ⟨k - 1, by omega⟩
    have hil : i < ps.length := by omega
    have hr : rdOf ByteArray.empty (ps.map mk) (i : Int) = mk ps[i] := by
      unfold rdOf
      rw [show ((i : Int)).toNat = i by omega, List.getD_eq_getElem?_getD, List.getElem?_map, List.getElem?_eq_getElem hil]; rfl
    rw [text_Fields.l0, if_pos (by omega), if_pos (by omega), if_pos (by rw [List.length_map]; omega), hr, toList_l, mk_l, w64 (by omega) (by omega), show (i : Int) + 1 = ((i + 1 : Nat) : Int) by omega, List.drop_eq_getElem_cons hil]
    by_cases h : ps[i] = []
    · rw [if_pos h, ih q (i + 1) acc (by omega) (by omega) (by omega), List.filter_cons, h]; rfl
    · rw [if_neg h, if_pos (by omega), ih q (i + 1) _ (by omega) (by omega) (by rw [List.length_append]; simp; omega), List.filter_cons]
      rw [if_pos (by cases hh : ps[i] with | nil => exact absurd hh h | cons => rfl)]
      simp
theorem cut_eq (s : ByteArray) (hs : s.size ≤ 1407374883512320) : ∃ y z, strings_Cut.f s (⟨#[35]⟩ : ByteArray) = some (mk (cutl s.data.toList), y, z) := by
  unfold strings_Cut.f stringslite_Cut.f stringslite_Index.f
  rw [if_pos (show (⟨#[35]⟩ : ByteArray).size = 1 from rfl), Option.bind_some, show ((⟨#[35]⟩ : ByteArray).data.toList.headD 0) = 35 from rfl, show ((⟨#[35]⟩ : ByteArray).size : Int) = 1 from rfl]
  have hge := Lib.indexByte_ge s.data.toList 35
  by_cases hj : Lib.indexByte s.data.toList 35 ≥ 0
  · obtain ⟨j, hj'⟩ : ∃ j : Nat, Lib.indexByte s.data.toList 35 = j := ⟨(Lib.indexByte s.data.toList 35).toNat, by omega⟩
    obtain ⟨h1, h2⟩ := Lib.indexByte_some hj'
    have hjl : j < s.size := by rw [sz]; exact (List.getElem?_eq_some_iff.1 h1).1
    rw [hj', if_pos (by omega), if_pos (by omega), if_pos (by omega), w64 (by omega) (by omega), if_pos (by omega), if_pos (by omega), Option.bind_some, cutl_some _ j h1 h2]
    have e2 : s.extract 0 ((j : Nat) : Int).toNat = mk (s.data.toList.take j) := by
      apply bytes_ext
      rw [ex_l, mk_l]; simp
    rw [e2]
    exact ⟨_, _, rfl⟩
  · rw [if_neg hj, Option.bind_some, cutl_none _ (Lib.indexByte_none (by omega)), mk_of]
    exact ⟨_, _, rfl⟩
theorem fields_p (s : ByteArray) (hs : s.size ≤ 1407374883512320) (hc : (cutl s.data.toList).length ≤ 1000000) {k : Nat} (hk : (cutl s.data.toList).length + 20 ≤ k) : text_Fields.f k s = some (fields s) := by
  obtain ⟨y, z, e⟩ := cut_eq s hs
  unfold text_Fields.f fields
  rw [e, Option.bind_some]
  simp only
  rw [split_eq (by rw [sz, mk_l]; omega) (by rw [sz, mk_l]; omega), Option.bind_some, mk_l]
  have hl := sp_len (cutl s.data.toList) []
  have := keep_l0 (sp [] (cutl s.data.toList)) (by omega) (sp [] (cutl s.data.toList)).length k 0 [] (by omega) (by omega) (by simp)
  rw [List.length_map, show text_Fields.l0 k [] _ _ 0 = _ from this, List.drop_zero, fl_eq]; rfl
theorem cutl_len : ∀ l : List UInt8, (cutl l).length ≤ l.length
  | [] => by unfold cutl; simp
  | c :: t => by
    unfold cutl
    split
    · simp
    · have := cutl_len t; simp; omega
theorem same_refl (l : List ByteArray) (hl : l.length ≤ 100000000) : ∀ (n k i : Nat), i + n = l.length → n < k → pairinglaw5_Same.l0 k l l (i : Int) = some true := by
  intro n
  induction n with
  | zero =>
    intro k i hi hk
    obtain ⟨q, rfl⟩ : ∃ q, k = q + 1 := ⟨k - 1, by omega⟩
    rw [pairinglaw5_Same.l0, if_neg (by omega)]
  | succ n ih =>
    intro k i hi hk
    obtain ⟨q, rfl⟩ : ∃ q, k = q + 1 := ⟨k - 1, by omega⟩
    rw [pairinglaw5_Same.l0, if_pos (by omega), if_pos (by omega), if_pos (by omega), if_pos rfl, w64 (by omega) (by omega), show (i : Int) + 1 = ((i + 1 : Nat) : Int) by omega, ih q (i + 1) (by omega) (by omega)]
theorem same_p {l : List ByteArray} (hl : l.length ≤ 100000000) {k : Nat} (hk : l.length < k) : pairinglaw5_Same.f k l l = some true := by
  unfold pairinglaw5_Same.f
  rw [if_pos rfl]
  exact same_refl l hl l.length k 0 (by omega) hk
theorem fields_q (s : ByteArray) (hs : s.size ≤ 140737488351232 + 6000) (hc : (cutl s.data.toList).length ≤ 1000000) {k : Nat} (hk : (cutl s.data.toList).length + 20 ≤ k) : text_Fields.f k s = some (fields s) := fields_p s (by omega) hc hk
theorem awake5 {k : Nat} (hk : 100 ≤ k) : pairinglaw5_awake.f k = some true := by
  unfold pairinglaw5_awake.f
  have e : (cutl (⟨#[32, 102, 108, 105, 103, 104, 116, 32, 65, 66, 49, 32, 35, 32, 108, 97, 116, 101]⟩ : ByteArray).data.toList).length = 12 := by decide +kernel
  rw [fields_p _ (by decide) (by rw [e]; decide) (by rw [e]; omega), Option.bind_some]
  have e2 : fields (⟨#[32, 102, 108, 105, 103, 104, 116, 32, 65, 66, 49, 32, 35, 32, 108, 97, 116, 101]⟩ : ByteArray) = [mk [102, 108, 105, 103, 104, 116], mk [65, 66, 49]] := by decide +kernel
  rw [e2, if_pos (by decide), if_pos (by decide), show rdOf ByteArray.empty [mk [102, 108, 105, 103, 104, 116], mk [65, 66, 49]] 0 = mk [102, 108, 105, 103, 104, 116] from rfl, show rdOf ByteArray.empty [mk [102, 108, 105, 103, 104, 116], mk [65, 66, 49]] 1 = mk [65, 66, 49] from rfl, toList_l, toList_l, mk_l, mk_l, if_pos rfl, if_pos (by decide)]
  rfl
theorem fl_len : ∀ (l cur : List UInt8), (fl cur l).length ≤ l.length + 1
  | [], cur => by unfold fl flush; split <;> simp
  | c :: t, cur => by
    unfold fl flush
    split
    · split <;> simp
    · split
      · have := fl_len t []; split <;> simp <;> omega
      · have := fl_len t (cur ++ [c]); simp; omega

/-! the reference's way -/
def curOf (l : List UInt8) (x4 : Int) (i : Nat) : List UInt8 := if x4 < 0 then [] else (l.take i).drop x4.toNat
theorem ref_l0 (s : ByteArray) (hs : s.size ≤ 1000000) : ∀ (n k : Nat) (i : Nat) (acc : List ByteArray) (x4 : Int), i + n = s.size → 5 * n + 12 ≤ k → acc.length ≤ i → (x4 = -1 ∨ (0 ≤ x4 ∧ x4 < i)) →
    pairingref5_Fields.l0 k s acc x4 (i : Int) = some (acc ++ (fl (curOf s.data.toList x4 i) (s.data.toList.drop i)).map mk) := by
  intro n
  induction n with
  | zero =>
    intro k i acc x4 hi hk ha hx
    obtain ⟨q, rfl⟩ : ∃ q, k = q + 6 := ⟨k - 6, by omega⟩
    rw [List.drop_of_length_le (by rw [← sz]; omega), pairingref5_Fields.l0, if_pos (by omega), if_pos (by omega), pairingref5_Fields.j1, if_pos rfl, pairingref5_Fields.j2]
    have fin : ∀ (a : List ByteArray) (y : Int), pairingref5_Fields.j3 (q + 3) s a y (i : Int) true = some a := by
      intro a y
      rw [pairingref5_Fields.j3, if_neg (by omega), pairingref5_Fields.j4, if_neg (by decide), if_pos rfl, pairingref5_Fields.l0, w64 (by omega) (by omega), if_neg (by omega)]
    show _ = some (acc ++ (flush _).map mk)
    unfold flush curOf
    rcases hx with rfl | ⟨h0, h1⟩
    · rw [if_neg (by decide), fin]; simp
    · rw [if_pos (by simpa using h0), if_pos h0, if_pos (by omega), if_pos (by omega), if_pos (by omega), fin, if_neg (show ¬ x4 < 0 by omega)]
      have : ((s.data.toList.take i).drop x4.toNat) ≠ [] := by
        intro e; have := congrArg List.length e; rw [List.length_drop, List.length_take, ← sz] at this; simp at this; omega
      rw [if_neg this]
      congr 2
      rw [List.map_cons, List.map_nil]; congr 1
      apply bytes_ext
      rw [ex_l, mk_l]; simp
  | succ n ih =>
    intro k i acc x4 hi hk ha hx
    obtain ⟨q, rfl⟩ : ∃ q, k = q + 6 := ⟨k - 6, by omega⟩
    have hil : i < s.data.toList.length := by rw [← sz]; omega
    rw [drop_at hil, pairingref5_Fields.l0, if_pos (by omega), if_neg (by omega), if_pos (by omega), if_pos (by omega), show bt s (i : Int) = ((s.data.toList.getD i 0).toNat : Int) from by rw [bt_l]; rfl]
    generalize hcc : s.data.toList.getD i 0 = c
    have hb : bt s (i : Int) = (c.toNat : Int) := by rw [← hcc, bt_l]; rfl
    unfold fl
    have c35 : (((c.toNat : Int)) = 35) = (c = 35) := nat8 (n := 35) (by decide)
    have c32 : (((c.toNat : Int)) = 32) = (c = 32) := nat8 (n := 32) (by decide)
    -- what stands behind a field's end
    have hfl : ∀ (K : List ByteArray → Int → Option (List ByteArray)), (∀ a y, pairingref5_Fields.j3 (q + 3) s a y (i : Int) true = K a y) →
        pairingref5_Fields.j1 (q + 5) s acc x4 (i : Int) true = K (acc ++ (flush (curOf s.data.toList x4 i)).map mk) (-1) := by
      intro K hK
      rw [pairingref5_Fields.j1, if_pos rfl, pairingref5_Fields.j2]
      unfold flush curOf
      rcases hx with rfl | ⟨h0, h1⟩
      · rw [if_neg (by decide), hK]; simp
      · rw [if_pos (by simpa using h0), if_pos h0, if_pos (by omega), if_pos (by omega), if_pos (by omega), hK, if_neg (show ¬ x4 < 0 by omega)]
        have : ((s.data.toList.take i).drop x4.toNat) ≠ [] := by
          intro e; have := congrArg List.length e; rw [List.length_drop, List.length_take, ← sz] at this; simp at this; omega
        rw [if_neg this]
        congr 2
        rw [List.map_cons, List.map_nil]; congr 1
        apply bytes_ext
        rw [ex_l, mk_l]; simp
    have hlen : (flush (curOf s.data.toList x4 i)).length ≤ 1 := by unfold flush; split <;> simp
    by_cases h32 : c = 32
    · rw [if_pos (by rw [c32]; exact h32), hfl (fun a y => pairingref5_Fields.l0 (q + 1) s a y ((i + 1 : Nat) : Int)) (fun a y => by
        rw [pairingref5_Fields.j3, if_pos (by omega), if_pos (by omega), hb, pairingref5_Fields.j4, if_neg (by rw [h32]; decide), if_pos rfl, w64 (by omega) (by omega), show (i : Int) + 1 = ((i + 1 : Nat) : Int) by omega])]
      rw [ih (q + 1) (i + 1) _ (-1) (by omega) (by omega) (by rw [List.length_append, List.length_map]; omega) (Or.inl rfl), if_neg (by rw [h32]; decide), if_pos h32]
      rw [List.map_append, List.append_assoc]; rfl
    · rw [if_neg (by rw [c32]; exact h32)]
      by_cases h35 : c = 35
      · rw [show (((c.toNat : Int)) == 35) = true from by rw [h35]; decide, hfl (fun a y => some a) (fun a y => by
          rw [pairingref5_Fields.j3, if_pos (by omega), if_pos (by omega), hb, pairingref5_Fields.j4, if_pos (by rw [h35]; decide)]), if_pos h35]
      · have hne : (((c.toNat : Int)) == 35) = false := by
          rw [beq_eq_false_iff_ne]; intro e; exact h35 (by rw [← c35]; exact e)
        rw [hne, pairingref5_Fields.j1, if_neg (by decide), pairingref5_Fields.j2, if_neg (by decide), pairingref5_Fields.j3, if_pos (by omega), if_pos (by omega), hb, hne, pairingref5_Fields.j4, if_neg (by decide), if_neg (by decide), w64 (by omega) (by omega), show (i : Int) + 1 = ((i + 1 : Nat) : Int) by omega, if_neg h35, if_neg h32]
        rcases hx with rfl | ⟨h0, h1⟩
        · rw [if_pos (by decide), ih (q + 1) (i + 1) acc (i : Int) (by omega) (by omega) (by omega) (Or.inr ⟨by omega, by omega⟩)]
          congr 3
          unfold curOf
          rw [if_neg (show ¬ (i : Int) < 0 by omega), if_pos (by decide), show ((i : Int)).toNat = i by omega, List.take_succ_eq_append_getElem hil, List.drop_append, List.drop_of_length_le (by rw [List.length_take]; omega)]
          rw [List.length_take, show i - min i s.data.toList.length = 0 by omega, List.drop_zero, List.nil_append, ← hcc, List.getD_eq_getElem?_getD, List.getElem?_eq_getElem hil]; rfl
        · rw [if_neg (by omega), ih (q + 1) (i + 1) acc x4 (by omega) (by omega) (by omega) (Or.inr ⟨by omega, by omega⟩)]
          congr 3
          unfold curOf
          rw [if_neg (show ¬ x4 < 0 by omega), if_neg (show ¬ x4 < 0 by omega), List.take_succ_eq_append_getElem hil, List.drop_append_of_le_length (by rw [List.length_take]; omega), ← hcc, List.getD_eq_getElem?_getD, List.getElem?_eq_getElem hil]; rfl
theorem fields_r (s : ByteArray) (hs : s.size ≤ 1000000) {k : Nat} (hk : 5 * s.size + 12 ≤ k) : pairingref5_Fields.f k s = some (fields s) := by
  unfold pairingref5_Fields.f fields
  have := ref_l0 s hs s.size k 0 [] (-1) (by omega) hk (by simp) (Or.inl rfl)
  rw [show pairingref5_Fields.l0 k s [] (-1) 0 = _ from this, List.drop_zero]; rfl
end Go.Proofs.YtpgmodghkamihaaDoor.Pure
