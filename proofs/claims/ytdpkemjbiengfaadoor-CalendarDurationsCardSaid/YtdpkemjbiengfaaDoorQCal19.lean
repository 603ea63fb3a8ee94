/- Written by a program (wip/myprint.py): the Go functions that the laws reach, each as a plain Lean function, and a proof that the machine's call answers as that function says. -/
import Derived.Test.YtdpkemjbiengfaaDoorQCal0
import Derived.Test.YtdpkemjbiengfaaDoorQCal14
namespace Go.Proofs.YtdpkemjbiengfaaDoor.QCal
open Go.RowKit Go.Proofs.YtdpkemjbiengfaaDoorW.PrintWords Go.Proofs.YtdpkemjbiengfaaDoorW.PrintLast Go.Proofs.YtdpkemjbiengfaaDoorW.PrintMore
attribute [local go_sem] max2_int min2_int max_two min_two max_three min_three max_four min_four   -- for this text's walks alone
set_option linter.unusedVariables false
set_option linter.unusedSimpArgs false

/-! ### stringslite_HasPrefix: function 59 -/
def stringslite_HasPrefix.f (a0 : ByteArray) (a1 : ByteArray) : Option (Bool) := if (a0.size : Int) ≥ (a1.size : Int) then (if 0 ≤ (a1.size : Int) then (if (a1.size : Int) ≤ (a0.size : Int) then (some ((a0.extract 0 ((a1.size : Int) : Int).toNat).toList == a1.toList)) else (none)) else (none)) else (some false)
set_option maxHeartbeats 8000000 in
set_option maxRecDepth 100000 in
theorem stringslite_HasPrefix.calls (a0 : ByteArray) (a1 : ByteArray) (r : Bool) (w : World) (h : stringslite_HasPrefix.f a0 a1 = some r) :
    Calls Tryd.prog 59 #[.string a0, .string a1] w fun e w' => e = .returned (.bool r) ∧ Drawn0 w w' := by
  have H : (if (a0.size : Int) ≥ (a1.size : Int) then (if 0 ≤ (a1.size : Int) then (if (a1.size : Int) ≤ (a0.size : Int) then (some ((a0.extract 0 ((a1.size : Int) : Int).toNat).toList == a1.toList)) else (none)) else (none)) else (some false)) = some r := h
  clear h
  by_cases c3 : (a0.size : Int) ≥ (a1.size : Int)
  · rw [if_pos c3] at H
    have c3b0 : decide ((a1.size : Int) ≤ (a0.size : Int)) = true := decide_eq_true c3
    have c3b1 : decide (a1.size ≤ a0.size) = true := decide_eq_true (Int.ofNat_le.mp c3)
    clear c3
    by_cases c4 : 0 ≤ (a1.size : Int)
    · rw [if_pos c4] at H
      have c4b0 := eq_true c4
      have c4b1 : decide (0 ≤ (a1.size : Int)) = true := decide_eq_true c4
      clear c4
      by_cases c5 : (a1.size : Int) ≤ (a0.size : Int)
      · rw [if_pos c5] at H
        have c5b0 := eq_true c5
        have c5b1 : decide ((a1.size : Int) ≤ (a0.size : Int)) = true := decide_eq_true c5
        clear c5
        obtain rfl := Option.some.inj H
        go_enter Tryd.func59, Tryd.ntmps59
        go_wp2
        go_ret
        exact ⟨by first | rfl | (simp; done) | (simp [*]; done), by repeat (first | exact Drawn0.refl _ | apply Drawn0.step)⟩
      · rw [if_neg c5] at H
        exact absurd H (by simp)
    · rw [if_neg c4] at H
      exact absurd H (by simp)
  · rw [if_neg c3] at H
    have c3b0 : decide ((a1.size : Int) ≤ (a0.size : Int)) = false := decide_eq_false c3
    have c3b1 : decide (a1.size ≤ a0.size) = false := decide_eq_false (fun h => c3 (Int.ofNat_le.mpr h))
    clear c3
    obtain rfl := Option.some.inj H
    go_enter Tryd.func59, Tryd.ntmps59
    go_wp2
    go_ret
    exact ⟨by first | rfl | (simp; done) | (simp [*]; done), by repeat (first | exact Drawn0.refl _ | apply Drawn0.step)⟩

/-! ### stringslite_CutPrefix: function 56 -/
def stringslite_CutPrefix.f (a0 : ByteArray) (a1 : ByteArray) : Option (ByteArray × Bool) := (stringslite_HasPrefix.f a0 a1).bind fun t340 => (if t340 = true then (if 0 ≤ (a1.size : Int) then (if (a1.size : Int) ≤ (a0.size : Int) then (some (a0.extract ((a1.size : Int) : Int).toNat a0.size, true)) else (none)) else (none)) else (some (a0, false)))
set_option maxHeartbeats 8000000 in
set_option maxRecDepth 100000 in
theorem stringslite_CutPrefix.calls (a0 : ByteArray) (a1 : ByteArray) (r1 : ByteArray) (r2 : Bool) (w : World) (h : stringslite_CutPrefix.f a0 a1 = some (r1, r2)) :
    Calls Tryd.prog 56 #[.string a0, .string a1] w fun e w' => e = .returned (.tuple #[.string r1, .bool r2]) ∧ Drawn0 w w' := by
  have H : ((stringslite_HasPrefix.f a0 a1).bind fun t340 => (if t340 = true then (if 0 ≤ (a1.size : Int) then (if (a1.size : Int) ≤ (a0.size : Int) then (some (a0.extract ((a1.size : Int) : Int).toNat a0.size, true)) else (none)) else (none)) else (some (a0, false)))) = some (r1, r2) := h
  clear h
  replace H := Option.bind_eq_some_iff.mp H
  obtain ⟨t340, A30, H⟩ := H
  replace H : (if t340 = true then (if 0 ≤ (a1.size : Int) then (if (a1.size : Int) ≤ (a0.size : Int) then (some (a0.extract ((a1.size : Int) : Int).toNat a0.size, true)) else (none)) else (none)) else (some (a0, false))) = some (r1, r2) := H
  have A3 := Aside0.mk A30
  clear A30
  by_cases c4 : t340 = true
  · subst c4
    have H1 : (if 0 ≤ (a1.size : Int) then (if (a1.size : Int) ≤ (a0.size : Int) then (some (a0.extract ((a1.size : Int) : Int).toNat a0.size, true)) else (none)) else (none)) = some (r1, r2) := by rw [if_pos rfl] at H; exact H
    clear H
    have H := H1
    clear H1
    by_cases c5 : 0 ≤ (a1.size : Int)
    · rw [if_pos c5] at H
      have c5b0 := eq_true c5
      have c5b1 : decide (0 ≤ (a1.size : Int)) = true := decide_eq_true c5
      clear c5
      by_cases c6 : (a1.size : Int) ≤ (a0.size : Int)
      · rw [if_pos c6] at H
        have c6b0 := eq_true c6
        have c6b1 : decide ((a1.size : Int) ≤ (a0.size : Int)) = true := decide_eq_true c6
        clear c6
        simp only [Option.some.injEq, Prod.mk.injEq] at H
        obtain ⟨rfl, rfl⟩ := H
        go_enter Tryd.func56, Tryd.ntmps56
        go_wp2_with (first | ((with_reducible refine gate_callee (f := 59) rfl ?_); refine goesL_ (some 8) rfl rfl Tryd.func59 (by kernel_rfl) rfl #[.string a0, .string a1] rfl (by (try simp only [List.map_toArray, List.map_cons, List.map_nil]); first | done | rfl | (simp only [List.length_drop, List.length_take]; rfl)) ?_; (with_reducible refine (stringslite_HasPrefix.calls a0 a1 true _ A3.out).mono ?_); rintro e w' ⟨rfl, ⟨nd, rfl⟩⟩; refine ⟨_, rfl, ?_⟩))
        go_ret2
        exact ⟨by first | rfl | (simp; done) | (simp [*]; done), by repeat (first | exact Drawn0.refl _ | apply Drawn0.step)⟩
      · rw [if_neg c6] at H
        exact absurd H (by simp)
    · rw [if_neg c5] at H
      exact absurd H (by simp)
  · replace c4 := Bool.eq_false_iff.mpr c4
    subst c4
    have H1 : (some (a0, false)) = some (r1, r2) := by rw [if_neg (show ¬ (false = true) by decide)] at H; exact H
    clear H
    have H := H1
    clear H1
    simp only [Option.some.injEq, Prod.mk.injEq] at H
    obtain ⟨rfl, rfl⟩ := H
    go_enter Tryd.func56, Tryd.ntmps56
    go_wp2_with (first | ((with_reducible refine gate_callee (f := 59) rfl ?_); refine goesL_ (some 8) rfl rfl Tryd.func59 (by kernel_rfl) rfl #[.string a0, .string a1] rfl (by (try simp only [List.map_toArray, List.map_cons, List.map_nil]); first | done | rfl | (simp only [List.length_drop, List.length_take]; rfl)) ?_; (with_reducible refine (stringslite_HasPrefix.calls a0 a1 false _ A3.out).mono ?_); rintro e w' ⟨rfl, ⟨nd, rfl⟩⟩; refine ⟨_, rfl, ?_⟩))
    go_ret2
    exact ⟨by first | rfl | (simp; done) | (simp [*]; done), by repeat (first | exact Drawn0.refl _ | apply Drawn0.step)⟩

/-! ### strings_CutPrefix: function 49 -/
def strings_CutPrefix.f (a0 : ByteArray) (a1 : ByteArray) : Option (ByteArray × Bool) := (stringslite_CutPrefix.f a0 a1).bind fun bt341 => (some (bt341.1, bt341.2))
set_option maxHeartbeats 8000000 in
set_option maxRecDepth 100000 in
theorem strings_CutPrefix.calls (a0 : ByteArray) (a1 : ByteArray) (r1 : ByteArray) (r2 : Bool) (w : World) (h : strings_CutPrefix.f a0 a1 = some (r1, r2)) :
    Calls Tryd.prog 49 #[.string a0, .string a1] w fun e w' => e = .returned (.tuple #[.string r1, .bool r2]) ∧ Drawn0 w w' := by
  have H : ((stringslite_CutPrefix.f a0 a1).bind fun bt341 => (some (bt341.1, bt341.2))) = some (r1, r2) := h
  clear h
  replace H := Option.bind_eq_some_iff.mp H
  obtain ⟨⟨t341, t342⟩, A30, H⟩ := H
  replace H : (some (t341, t342)) = some (r1, r2) := H
  have A3 := Aside0.mk A30
  clear A30
  simp only [Option.some.injEq, Prod.mk.injEq] at H
  obtain ⟨rfl, rfl⟩ := H
  go_enter Tryd.func49, Tryd.ntmps49
  go_wp2_with (first | ((with_reducible refine gate_callee (f := 56) rfl ?_); refine goesL_ (some 8) rfl rfl Tryd.func56 (by kernel_rfl) rfl #[.string a0, .string a1] rfl (by (try simp only [List.map_toArray, List.map_cons, List.map_nil]); first | done | rfl | (simp only [List.length_drop, List.length_take]; rfl)) ?_; (with_reducible refine (stringslite_CutPrefix.calls a0 a1 t341 t342 _ A3.out).mono ?_); rintro e w' ⟨rfl, ⟨nd, rfl⟩⟩; refine ⟨_, rfl, ?_⟩))
  go_ret2
  exact ⟨by first | rfl | (simp; done) | (simp [*]; done), by repeat (first | exact Drawn0.refl _ | apply Drawn0.step)⟩

/-! ### stringslite_Index: function 60: given by hand -/
def stringslite_Index.f (a0 : ByteArray) (a1 : ByteArray) : Option (Int) := if a1.size = 1 then some (Lib.indexByte a0.data.toList (a1.data.toList.headD 0)) else none
theorem stringslite_Index.calls (a0 : ByteArray) (a1 : ByteArray) (r : Int) (w : World) (h : stringslite_Index.f a0 a1 = some r) :
    Calls Tryd.prog 60 #[.string a0, .string a1] w fun e w' => e = .returned (.int .i64 r) ∧ Drawn0 w w' := by
  unfold stringslite_Index.f at h
  split at h
  · rename_i hh
    injection h with h
    subst h
    obtain ⟨⟨l⟩⟩ := a1
    match l, hh with
    | [c], _ =>
      refine (Tryd.stringslite_Index_one a0 c w).mono ?_
      rintro e w' ⟨rfl, rfl⟩
      exact ⟨rfl, Drawn0.refl _⟩
  · cases h


/-! ### stringslite_Cut: function 57 -/
def stringslite_Cut.f (a0 : ByteArray) (a1 : ByteArray) : Option (ByteArray × ByteArray × Bool) := (stringslite_Index.f a0 a1).bind fun t343 => (if t343 ≥ 0 then (if 0 ≤ t343 then (if t343 ≤ (a0.size : Int) then (if 0 ≤ (wrap64 (t343 + (a1.size : Int))) then (if (wrap64 (t343 + (a1.size : Int))) ≤ (a0.size : Int) then (some (a0.extract 0 (t343 : Int).toNat, a0.extract ((wrap64 (t343 + (a1.size : Int))) : Int).toNat a0.size, true)) else (none)) else (none)) else (none)) else (none)) else (some (a0, (⟨#[]⟩ : ByteArray), false)))
set_option maxHeartbeats 8000000 in
set_option maxRecDepth 100000 in
theorem stringslite_Cut.calls (a0 : ByteArray) (a1 : ByteArray) (r1 : ByteArray) (r2 : ByteArray) (r3 : Bool) (w : World) (h : stringslite_Cut.f a0 a1 = some (r1, r2, r3)) :
    Calls Tryd.prog 57 #[.string a0, .string a1] w fun e w' => e = .returned (.tuple #[.string r1, .string r2, .bool r3]) ∧ Drawn0 w w' := by
  have H : ((stringslite_Index.f a0 a1).bind fun t343 => (if t343 ≥ 0 then (if 0 ≤ t343 then (if t343 ≤ (a0.size : Int) then (if 0 ≤ (wrap64 (t343 + (a1.size : Int))) then (if (wrap64 (t343 + (a1.size : Int))) ≤ (a0.size : Int) then (some (a0.extract 0 (t343 : Int).toNat, a0.extract ((wrap64 (t343 + (a1.size : Int))) : Int).toNat a0.size, true)) else (none)) else (none)) else (none)) else (none)) else (some (a0, (⟨#[]⟩ : ByteArray), false)))) = some (r1, r2, r3) := h
  clear h
  replace H := Option.bind_eq_some_iff.mp H
  obtain ⟨t343, A30, H⟩ := H
  replace H : (if t343 ≥ 0 then (if 0 ≤ t343 then (if t343 ≤ (a0.size : Int) then (if 0 ≤ (wrap64 (t343 + (a1.size : Int))) then (if (wrap64 (t343 + (a1.size : Int))) ≤ (a0.size : Int) then (some (a0.extract 0 (t343 : Int).toNat, a0.extract ((wrap64 (t343 + (a1.size : Int))) : Int).toNat a0.size, true)) else (none)) else (none)) else (none)) else (none)) else (some (a0, (⟨#[]⟩ : ByteArray), false))) = some (r1, r2, r3) := H
  have A3 := Aside0.mk A30
  clear A30
  by_cases c4 : t343 ≥ 0
  · rw [if_pos c4] at H
    have c4b0 : decide (0 ≤ t343) = true := decide_eq_true c4
    clear c4
    by_cases c5 : 0 ≤ t343
    · rw [if_pos c5] at H
      have c5b0 := eq_true c5
      have c5b1 : decide (0 ≤ t343) = true := decide_eq_true c5
      clear c5
      by_cases c6 : t343 ≤ (a0.size : Int)
      · rw [if_pos c6] at H
        have c6b0 := eq_true c6
        have c6b1 : decide (t343 ≤ (a0.size : Int)) = true := decide_eq_true c6
        clear c6
        obtain ⟨ji7, hji7⟩ : ∃ j_ : Int, (wrap64 (t343 + (a1.size : Int))) = j_ := ⟨_, rfl⟩
        replace H : (if 0 ≤ (ji7) then (if (ji7) ≤ (a0.size : Int) then (some (a0.extract 0 (t343 : Int).toNat, a0.extract ((ji7) : Int).toNat a0.size, true)) else (none)) else (none)) = some (r1, r2, r3) := by first | (rw [hji7] at H; exact H) | (simp only [hji7] at H ⊢; exact H)
        (try rw [hji7] at A3)
        have hji7w : (IntKind.i64.wrap (t343 + (a1.size : Int))) = ji7 := (i64_w _).trans hji7
        by_cases c8 : 0 ≤ (ji7)
        · rw [if_pos c8] at H
          have c8b0 := eq_true c8
          have c8b1 : decide (0 ≤ (ji7)) = true := decide_eq_true c8
          clear c8
          by_cases c9 : (ji7) ≤ (a0.size : Int)
          · rw [if_pos c9] at H
            have c9b0 := eq_true c9
            have c9b1 : decide ((ji7) ≤ (a0.size : Int)) = true := decide_eq_true c9
            clear c9
            simp only [Option.some.injEq, Prod.mk.injEq] at H
            obtain ⟨rfl, rfl, rfl⟩ := H
            go_enter Tryd.func57, Tryd.ntmps57
            go_wp2_with (first | (go_at_call 60; (with_reducible refine (stringslite_Index.calls a0 a1 t343 _ A3.out).mono ?_); rintro e w' ⟨rfl, ⟨nd, rfl⟩⟩; (try first | exact ⟨rfl, _, World.drewN_drewN _ _ _⟩ | exact ⟨rfl, _, Eq.trans (World.drewN_drewN _ _ _) (congrArg (World.drewN _) (Nat.add_assoc _ _ _))⟩)))
            repeat (go_quiet (first | (go_at_call 60; (with_reducible refine (stringslite_Index.calls a0 a1 t343 _ A3.out).mono ?_); rintro e w' ⟨rfl, ⟨nd, rfl⟩⟩; (try first | exact ⟨rfl, _, World.drewN_drewN _ _ _⟩ | exact ⟨rfl, _, Eq.trans (World.drewN_drewN _ _ _) (congrArg (World.drewN _) (Nat.add_assoc _ _ _))⟩))); try go_wp2_with (first | (go_at_call 60; (with_reducible refine (stringslite_Index.calls a0 a1 t343 _ A3.out).mono ?_); rintro e w' ⟨rfl, ⟨nd, rfl⟩⟩; (try first | exact ⟨rfl, _, World.drewN_drewN _ _ _⟩ | exact ⟨rfl, _, Eq.trans (World.drewN_drewN _ _ _) (congrArg (World.drewN _) (Nat.add_assoc _ _ _))⟩))))
            go_ret3
            exact ⟨by first | rfl | (simp; done) | (simp only [← hji7] <;> (first | rfl | simp)) | (simp [*]; done), by repeat (first | exact Drawn0.refl _ | apply Drawn0.step)⟩
          · rw [if_neg c9] at H
            exact absurd H (by simp)
        · rw [if_neg c8] at H
          exact absurd H (by simp)
      · rw [if_neg c6] at H
        exact absurd H (by simp)
    · rw [if_neg c5] at H
      exact absurd H (by simp)
  · rw [if_neg c4] at H
    have c4b0 : decide (0 ≤ t343) = false := decide_eq_false c4
    clear c4
    simp only [Option.some.injEq, Prod.mk.injEq] at H
    obtain ⟨rfl, rfl, rfl⟩ := H
    go_enter Tryd.func57, Tryd.ntmps57
    go_wp2_with (first | (go_at_call 60; (with_reducible refine (stringslite_Index.calls a0 a1 t343 _ A3.out).mono ?_); rintro e w' ⟨rfl, ⟨nd, rfl⟩⟩; (try first | exact ⟨rfl, _, World.drewN_drewN _ _ _⟩ | exact ⟨rfl, _, Eq.trans (World.drewN_drewN _ _ _) (congrArg (World.drewN _) (Nat.add_assoc _ _ _))⟩)))
    repeat (go_quiet (first | (go_at_call 60; (with_reducible refine (stringslite_Index.calls a0 a1 t343 _ A3.out).mono ?_); rintro e w' ⟨rfl, ⟨nd, rfl⟩⟩; (try first | exact ⟨rfl, _, World.drewN_drewN _ _ _⟩ | exact ⟨rfl, _, Eq.trans (World.drewN_drewN _ _ _) (congrArg (World.drewN _) (Nat.add_assoc _ _ _))⟩))); try go_wp2_with (first | (go_at_call 60; (with_reducible refine (stringslite_Index.calls a0 a1 t343 _ A3.out).mono ?_); rintro e w' ⟨rfl, ⟨nd, rfl⟩⟩; (try first | exact ⟨rfl, _, World.drewN_drewN _ _ _⟩ | exact ⟨rfl, _, Eq.trans (World.drewN_drewN _ _ _) (congrArg (World.drewN _) (Nat.add_assoc _ _ _))⟩))))
    go_ret3
    exact ⟨by first | rfl | (simp; done) | (simp [*]; done), by repeat (first | exact Drawn0.refl _ | apply Drawn0.step)⟩

/-! ### strings_Cut: function 50 -/
def strings_Cut.f (a0 : ByteArray) (a1 : ByteArray) : Option (ByteArray × ByteArray × Bool) := (stringslite_Cut.f a0 a1).bind fun bt344 => (some (bt344.1, bt344.2.1, bt344.2.2))
set_option maxHeartbeats 8000000 in
set_option maxRecDepth 100000 in
theorem strings_Cut.calls (a0 : ByteArray) (a1 : ByteArray) (r1 : ByteArray) (r2 : ByteArray) (r3 : Bool) (w : World) (h : strings_Cut.f a0 a1 = some (r1, r2, r3)) :
    Calls Tryd.prog 50 #[.string a0, .string a1] w fun e w' => e = .returned (.tuple #[.string r1, .string r2, .bool r3]) ∧ Drawn0 w w' := by
  have H : ((stringslite_Cut.f a0 a1).bind fun bt344 => (some (bt344.1, bt344.2.1, bt344.2.2))) = some (r1, r2, r3) := h
  clear h
  replace H := Option.bind_eq_some_iff.mp H
  obtain ⟨⟨t344, t345, t346⟩, A30, H⟩ := H
  replace H : (some (t344, t345, t346)) = some (r1, r2, r3) := H
  have A3 := Aside0.mk A30
  clear A30
  simp only [Option.some.injEq, Prod.mk.injEq] at H
  obtain ⟨rfl, rfl, rfl⟩ := H
  go_enter Tryd.func50, Tryd.ntmps50
  go_wp2_with (first | ((with_reducible refine gate_callee (f := 57) rfl ?_); refine goesL_ (some 9) rfl rfl Tryd.func57 (by kernel_rfl) rfl #[.string a0, .string a1] rfl (by (try simp only [List.map_toArray, List.map_cons, List.map_nil]); first | done | rfl | (simp only [List.length_drop, List.length_take]; rfl)) ?_; (with_reducible refine (stringslite_Cut.calls a0 a1 t344 t345 t346 _ A3.out).mono ?_); rintro e w' ⟨rfl, ⟨nd, rfl⟩⟩; refine ⟨_, rfl, ?_⟩))
  go_ret3
  exact ⟨by first | rfl | (simp; done) | (simp [*]; done), by repeat (first | exact Drawn0.refl _ | apply Drawn0.step)⟩

/-! ### calendar_ParseDuration: function 35 -/
mutual
def calendar_ParseDuration.j0 : Nat → Bool → Int → Int → Bool → Option (Int × Int)
  | 0, _, _, _, _ => none
  | k + 1, x5, x9, x11, x70 => if x70 = true then (some (0, 1)) else (if x11 > 59 then (calendar_ParseDuration.j1 k x5 x9 x11 true) else (calendar_ParseDuration.j1 k x5 x9 x11 (decide ((wrap64 ((wrap64 (60 * x9)) + x11)) > 1099511627776))))
def calendar_ParseDuration.j1 : Nat → Bool → Int → Int → Bool → Option (Int × Int)
  | 0, _, _, _, _ => none
  | k + 1, x5, x9, x11, x79 => if x79 = true then (some (0, 5)) else (if x5 = true then (some (wrap64 ((wrap64 ((-60) * x9)) - x11), 0)) else (some (wrap64 ((wrap64 (60 * x9)) + x11), 0)))
end
def calendar_ParseDuration.f (k : Nat) (a0 : ByteArray) : Option (Int × Int) := (strings_CutPrefix.f a0 (⟨#[45]⟩ : ByteArray)).bind fun bt347 => ((strings_Cut.f bt347.1 (⟨#[58]⟩ : ByteArray)).bind fun bt349 => ((calendar_number.f k bt349.1).bind fun bt352 => ((calendar_number.f k bt349.2.1).bind fun bt354 => (if bt352.2 = true then (if bt354.2 = true then (if (bt349.1.size : Int) > 11 then (calendar_ParseDuration.j0 k bt347.2 bt352.1 bt354.1 true) else (if (bt349.2.1.size : Int) = 2 then (if (bt349.1.size : Int) > 1 then (if 0 < (bt349.1.size : Int) then (if (bt bt349.1 0) = 48 then (calendar_ParseDuration.j0 k bt347.2 bt352.1 bt354.1 true) else (if bt347.2 = true then (if bt352.1 = 0 then (calendar_ParseDuration.j0 k bt347.2 bt352.1 bt354.1 (bt354.1 == 0)) else (calendar_ParseDuration.j0 k bt347.2 bt352.1 bt354.1 false)) else (calendar_ParseDuration.j0 k bt347.2 bt352.1 bt354.1 false))) else (none)) else (if bt347.2 = true then (if bt352.1 = 0 then (calendar_ParseDuration.j0 k bt347.2 bt352.1 bt354.1 (bt354.1 == 0)) else (calendar_ParseDuration.j0 k bt347.2 bt352.1 bt354.1 false)) else (calendar_ParseDuration.j0 k bt347.2 bt352.1 bt354.1 false))) else (calendar_ParseDuration.j0 k bt347.2 bt352.1 bt354.1 true))) else (calendar_ParseDuration.j0 k bt347.2 bt352.1 bt354.1 true)) else (calendar_ParseDuration.j0 k bt347.2 bt352.1 bt354.1 true)))))
theorem calendar_ParseDuration.mono_l : ∀ k, (∀ y0 y1 y2 y3, LeO (calendar_ParseDuration.j0 k y0 y1 y2 y3) (calendar_ParseDuration.j0 (k + 1) y0 y1 y2 y3)) ∧ (∀ y0 y1 y2 y3, LeO (calendar_ParseDuration.j1 k y0 y1 y2 y3) (calendar_ParseDuration.j1 (k + 1) y0 y1 y2 y3))
  | 0 => ⟨fun _ _ _ _ r h => by simp [calendar_ParseDuration.j0] at h, fun _ _ _ _ r h => by simp [calendar_ParseDuration.j1] at h⟩
  | k + 1 => by
    obtain ⟨ih0, ih1⟩ := calendar_ParseDuration.mono_l k
    refine ⟨?_, ?_⟩
    · intro y0 y1 y2 y3
      unfold calendar_ParseDuration.j0
      repeat' first
      | (with_reducible exact ih0 _ _ _ _)
      | (with_reducible exact ih1 _ _ _ _)
      | (with_reducible exact calendar_number.mono _ _)
      | (with_reducible exact LeO.refl _)
      | (with_reducible exact LeO.none _)
      | (with_reducible refine LeO.ite ?_ ?_)
      | (with_reducible refine LeO.bind ?_ (fun _ => ?_))
      | exact ih0 _ _ _ _
      | exact ih1 _ _ _ _
      | exact calendar_number.mono _ _
      | exact LeO.none _
      | refine LeO.ite ?_ ?_
      | refine LeO.bind ?_ (fun _ => ?_)
    · intro y0 y1 y2 y3
      unfold calendar_ParseDuration.j1
      repeat' first
      | (with_reducible exact ih0 _ _ _ _)
      | (with_reducible exact ih1 _ _ _ _)
      | (with_reducible exact calendar_number.mono _ _)
      | (with_reducible exact LeO.refl _)
      | (with_reducible exact LeO.none _)
      | (with_reducible refine LeO.ite ?_ ?_)
      | (with_reducible refine LeO.bind ?_ (fun _ => ?_))
      | exact ih0 _ _ _ _
      | exact ih1 _ _ _ _
      | exact calendar_number.mono _ _
      | exact LeO.none _
      | refine LeO.ite ?_ ?_
      | refine LeO.bind ?_ (fun _ => ?_)
theorem calendar_ParseDuration.mono : ∀ a0 k, LeO (calendar_ParseDuration.f k a0) (calendar_ParseDuration.f (k + 1) a0) := by
  intro a0 k
  obtain ⟨ih0, ih1⟩ := calendar_ParseDuration.mono_l k
  unfold calendar_ParseDuration.f
  repeat' first
      | (with_reducible exact ih0 _ _ _ _)
      | (with_reducible exact ih1 _ _ _ _)
      | (with_reducible exact calendar_number.mono _ _)
      | (with_reducible exact LeO.refl _)
      | (with_reducible exact LeO.none _)
      | (with_reducible refine LeO.ite ?_ ?_)
      | (with_reducible refine LeO.bind ?_ (fun _ => ?_))
      | exact ih0 _ _ _ _
      | exact ih1 _ _ _ _
      | exact calendar_number.mono _ _
      | exact LeO.none _
      | refine LeO.ite ?_ ?_
      | refine LeO.bind ?_ (fun _ => ?_)
set_option maxHeartbeats 8000000 in
set_option maxRecDepth 100000 in
theorem calendar_ParseDuration.calls (k : Nat) (a0 : ByteArray) (r1 : Int) (r2 : Int) (w : World) (h : calendar_ParseDuration.f k a0 = some (r1, r2)) :
    Calls Tryd.prog 35 #[.string a0] w fun e w' => e = .returned (.tuple #[.int .i64 r1, .int .i64 r2]) ∧ Drawn0 w w' := by
  have H : ((strings_CutPrefix.f a0 (⟨#[45]⟩ : ByteArray)).bind fun bt347 => ((strings_Cut.f bt347.1 (⟨#[58]⟩ : ByteArray)).bind fun bt349 => ((calendar_number.f k bt349.1).bind fun bt352 => ((calendar_number.f k bt349.2.1).bind fun bt354 => (if bt352.2 = true then (if bt354.2 = true then (if (bt349.1.size : Int) > 11 then (calendar_ParseDuration.j0 k bt347.2 bt352.1 bt354.1 true) else (if (bt349.2.1.size : Int) = 2 then (if (bt349.1.size : Int) > 1 then (if 0 < (bt349.1.size : Int) then (if (bt bt349.1 0) = 48 then (calendar_ParseDuration.j0 k bt347.2 bt352.1 bt354.1 true) else (if bt347.2 = true then (if bt352.1 = 0 then (calendar_ParseDuration.j0 k bt347.2 bt352.1 bt354.1 (bt354.1 == 0)) else (calendar_ParseDuration.j0 k bt347.2 bt352.1 bt354.1 false)) else (calendar_ParseDuration.j0 k bt347.2 bt352.1 bt354.1 false))) else (none)) else (if bt347.2 = true then (if bt352.1 = 0 then (calendar_ParseDuration.j0 k bt347.2 bt352.1 bt354.1 (bt354.1 == 0)) else (calendar_ParseDuration.j0 k bt347.2 bt352.1 bt354.1 false)) else (calendar_ParseDuration.j0 k bt347.2 bt352.1 bt354.1 false))) else (calendar_ParseDuration.j0 k bt347.2 bt352.1 bt354.1 true))) else (calendar_ParseDuration.j0 k bt347.2 bt352.1 bt354.1 true)) else (calendar_ParseDuration.j0 k bt347.2 bt352.1 bt354.1 true)))))) = some (r1, r2) := h
  clear h
  replace H := Option.bind_eq_some_iff.mp H
  obtain ⟨⟨t347, t348⟩, A20, H⟩ := H
  replace H : ((strings_Cut.f t347 (⟨#[58]⟩ : ByteArray)).bind fun bt349 => ((calendar_number.f k bt349.1).bind fun bt352 => ((calendar_number.f k bt349.2.1).bind fun bt354 => (if bt352.2 = true then (if bt354.2 = true then (if (bt349.1.size : Int) > 11 then (calendar_ParseDuration.j0 k t348 bt352.1 bt354.1 true) else (if (bt349.2.1.size : Int) = 2 then (if (bt349.1.size : Int) > 1 then (if 0 < (bt349.1.size : Int) then (if (bt bt349.1 0) = 48 then (calendar_ParseDuration.j0 k t348 bt352.1 bt354.1 true) else (if t348 = true then (if bt352.1 = 0 then (calendar_ParseDuration.j0 k t348 bt352.1 bt354.1 (bt354.1 == 0)) else (calendar_ParseDuration.j0 k t348 bt352.1 bt354.1 false)) else (calendar_ParseDuration.j0 k t348 bt352.1 bt354.1 false))) else (none)) else (if t348 = true then (if bt352.1 = 0 then (calendar_ParseDuration.j0 k t348 bt352.1 bt354.1 (bt354.1 == 0)) else (calendar_ParseDuration.j0 k t348 bt352.1 bt354.1 false)) else (calendar_ParseDuration.j0 k t348 bt352.1 bt354.1 false))) else (calendar_ParseDuration.j0 k t348 bt352.1 bt354.1 true))) else (calendar_ParseDuration.j0 k t348 bt352.1 bt354.1 true)) else (calendar_ParseDuration.j0 k t348 bt352.1 bt354.1 true))))) = some (r1, r2) := H
  have A2 := Aside0.mk A20
  clear A20
  replace H := Option.bind_eq_some_iff.mp H
  obtain ⟨⟨t349, t350, t351⟩, A30, H⟩ := H
  replace H : ((calendar_number.f k t349).bind fun bt352 => ((calendar_number.f k t350).bind fun bt354 => (if bt352.2 = true then (if bt354.2 = true then (if (t349.size : Int) > 11 then (calendar_ParseDuration.j0 k t348 bt352.1 bt354.1 true) else (if (t350.size : Int) = 2 then (if (t349.size : Int) > 1 then (if 0 < (t349.size : Int) then (if (bt t349 0) = 48 then (calendar_ParseDuration.j0 k t348 bt352.1 bt354.1 true) else (if t348 = true then (if bt352.1 = 0 then (calendar_ParseDuration.j0 k t348 bt352.1 bt354.1 (bt354.1 == 0)) else (calendar_ParseDuration.j0 k t348 bt352.1 bt354.1 false)) else (calendar_ParseDuration.j0 k t348 bt352.1 bt354.1 false))) else (none)) else (if t348 = true then (if bt352.1 = 0 then (calendar_ParseDuration.j0 k t348 bt352.1 bt354.1 (bt354.1 == 0)) else (calendar_ParseDuration.j0 k t348 bt352.1 bt354.1 false)) else (calendar_ParseDuration.j0 k t348 bt352.1 bt354.1 false))) else (calendar_ParseDuration.j0 k t348 bt352.1 bt354.1 true))) else (calendar_ParseDuration.j0 k t348 bt352.1 bt354.1 true)) else (calendar_ParseDuration.j0 k t348 bt352.1 bt354.1 true)))) = some (r1, r2) := H
  have A3 := Aside0.mk A30
  clear A30
  replace H := Option.bind_eq_some_iff.mp H
  obtain ⟨⟨t352, t353⟩, A40, H⟩ := H
  replace H : ((calendar_number.f k t350).bind fun bt354 => (if t353 = true then (if bt354.2 = true then (if (t349.size : Int) > 11 then (calendar_ParseDuration.j0 k t348 t352 bt354.1 true) else (if (t350.size : Int) = 2 then (if (t349.size : Int) > 1 then (if 0 < (t349.size : Int) then (if (bt t349 0) = 48 then (calendar_ParseDuration.j0 k t348 t352 bt354.1 true) else (if t348 = true then (if t352 = 0 then (calendar_ParseDuration.j0 k t348 t352 bt354.1 (bt354.1 == 0)) else (calendar_ParseDuration.j0 k t348 t352 bt354.1 false)) else (calendar_ParseDuration.j0 k t348 t352 bt354.1 false))) else (none)) else (if t348 = true then (if t352 = 0 then (calendar_ParseDuration.j0 k t348 t352 bt354.1 (bt354.1 == 0)) else (calendar_ParseDuration.j0 k t348 t352 bt354.1 false)) else (calendar_ParseDuration.j0 k t348 t352 bt354.1 false))) else (calendar_ParseDuration.j0 k t348 t352 bt354.1 true))) else (calendar_ParseDuration.j0 k t348 t352 bt354.1 true)) else (calendar_ParseDuration.j0 k t348 t352 bt354.1 true))) = some (r1, r2) := H
  have A4 := Aside0.mk A40
  clear A40
  replace H := Option.bind_eq_some_iff.mp H
  obtain ⟨⟨t354, t355⟩, A50, H⟩ := H
  replace H : (if t353 = true then (if t355 = true then (if (t349.size : Int) > 11 then (calendar_ParseDuration.j0 k t348 t352 t354 true) else (if (t350.size : Int) = 2 then (if (t349.size : Int) > 1 then (if 0 < (t349.size : Int) then (if (bt t349 0) = 48 then (calendar_ParseDuration.j0 k t348 t352 t354 true) else (if t348 = true then (if t352 = 0 then (calendar_ParseDuration.j0 k t348 t352 t354 (t354 == 0)) else (calendar_ParseDuration.j0 k t348 t352 t354 false)) else (calendar_ParseDuration.j0 k t348 t352 t354 false))) else (none)) else (if t348 = true then (if t352 = 0 then (calendar_ParseDuration.j0 k t348 t352 t354 (t354 == 0)) else (calendar_ParseDuration.j0 k t348 t352 t354 false)) else (calendar_ParseDuration.j0 k t348 t352 t354 false))) else (calendar_ParseDuration.j0 k t348 t352 t354 true))) else (calendar_ParseDuration.j0 k t348 t352 t354 true)) else (calendar_ParseDuration.j0 k t348 t352 t354 true)) = some (r1, r2) := H
  have A5 := Aside0.mk A50
  clear A50
  have HC6 := Aside0.mk H
  clear H
  go_enter Tryd.func35, Tryd.ntmps35
  go_upto_region 5 with (first | ((with_reducible refine gate_callee (f := 49) rfl ?_); refine goesL_ (some 15) rfl rfl Tryd.func49 (by kernel_rfl) rfl #[.string a0, .string (⟨#[45]⟩ : ByteArray)] rfl (by (try simp only [List.map_toArray, List.map_cons, List.map_nil]); first | done | rfl | (simp only [List.length_drop, List.length_take]; rfl)) ?_; (with_reducible refine (strings_CutPrefix.calls a0 (⟨#[45]⟩ : ByteArray) t347 t348 _ A2.out).mono ?_); rintro e w' ⟨rfl, ⟨nd, rfl⟩⟩; refine ⟨_, rfl, ?_⟩) | ((with_reducible refine gate_callee (f := 50) rfl ?_); refine goesL_ (some 20) rfl rfl Tryd.func50 (by kernel_rfl) rfl #[.string t347, .string (⟨#[58]⟩ : ByteArray)] rfl (by (try simp only [List.map_toArray, List.map_cons, List.map_nil]); first | done | rfl | (simp only [List.length_drop, List.length_take]; rfl)) ?_; (with_reducible refine (strings_Cut.calls t347 (⟨#[58]⟩ : ByteArray) t349 t350 t351 _ A3.out).mono ?_); rintro e w' ⟨rfl, ⟨nd, rfl⟩⟩; refine ⟨_, rfl, ?_⟩) | ((with_reducible refine gate_callee (f := 45) rfl ?_); refine goesL_ (some 26) rfl rfl Tryd.func45 (by kernel_rfl) rfl #[.string t349] rfl (by (try simp only [List.map_toArray, List.map_cons, List.map_nil]); first | done | rfl | (simp only [List.length_drop, List.length_take]; rfl)) ?_; (with_reducible refine (calendar_number.calls k t349 t352 t353 _ A4.out).mono ?_); rintro e w' ⟨rfl, ⟨nd, rfl⟩⟩; refine ⟨_, rfl, ?_⟩) | ((with_reducible refine gate_callee (f := 45) rfl ?_); refine goesL_ (some 31) rfl rfl Tryd.func45 (by kernel_rfl) rfl #[.string t350] rfl (by (try simp only [List.map_toArray, List.map_cons, List.map_nil]); first | done | rfl | (simp only [List.length_drop, List.length_take]; rfl)) ?_; (with_reducible refine (calendar_number.calls k t350 t354 t355 _ A5.out).mono ?_); rintro e w' ⟨rfl, ⟨nd, rfl⟩⟩; refine ⟨_, rfl, ?_⟩))
  (try simp only [Act.put, List.setIfInBounds_toArray, List.set_cons_zero, List.set_cons_succ])
  go_cut [70] (fun v70 wc => ∃ (kq : Nat) (x70_5 : Bool), v70 = .bool x70_5 ∧ Aside0 (calendar_ParseDuration.j0 kq t348 t352 t354 x70_5 = some (r1, r2)) ∧ Aside0 (kq ≤ k) ∧ Drawn0 w wc)
  case first =>
    have H := HC6.out
    clear HC6
    by_cases c7 : t353 = true
    · subst c7
      have H1 : (if t355 = true then (if (t349.size : Int) > 11 then (calendar_ParseDuration.j0 k t348 t352 t354 true) else (if (t350.size : Int) = 2 then (if (t349.size : Int) > 1 then (if 0 < (t349.size : Int) then (if (bt t349 0) = 48 then (calendar_ParseDuration.j0 k t348 t352 t354 true) else (if t348 = true then (if t352 = 0 then (calendar_ParseDuration.j0 k t348 t352 t354 (t354 == 0)) else (calendar_ParseDuration.j0 k t348 t352 t354 false)) else (calendar_ParseDuration.j0 k t348 t352 t354 false))) else (none)) else (if t348 = true then (if t352 = 0 then (calendar_ParseDuration.j0 k t348 t352 t354 (t354 == 0)) else (calendar_ParseDuration.j0 k t348 t352 t354 false)) else (calendar_ParseDuration.j0 k t348 t352 t354 false))) else (calendar_ParseDuration.j0 k t348 t352 t354 true))) else (calendar_ParseDuration.j0 k t348 t352 t354 true)) = some (r1, r2) := by rw [if_pos rfl] at H; exact H
      clear H
      have H := H1
      clear H1
      by_cases c8 : t355 = true
      · subst c8
        have H1 : (if (t349.size : Int) > 11 then (calendar_ParseDuration.j0 k t348 t352 t354 true) else (if (t350.size : Int) = 2 then (if (t349.size : Int) > 1 then (if 0 < (t349.size : Int) then (if (bt t349 0) = 48 then (calendar_ParseDuration.j0 k t348 t352 t354 true) else (if t348 = true then (if t352 = 0 then (calendar_ParseDuration.j0 k t348 t352 t354 (t354 == 0)) else (calendar_ParseDuration.j0 k t348 t352 t354 false)) else (calendar_ParseDuration.j0 k t348 t352 t354 false))) else (none)) else (if t348 = true then (if t352 = 0 then (calendar_ParseDuration.j0 k t348 t352 t354 (t354 == 0)) else (calendar_ParseDuration.j0 k t348 t352 t354 false)) else (calendar_ParseDuration.j0 k t348 t352 t354 false))) else (calendar_ParseDuration.j0 k t348 t352 t354 true))) = some (r1, r2) := by rw [if_pos rfl] at H; exact H
        clear H
        have H := H1
        clear H1
        by_cases c9 : (t349.size : Int) > 11
        · rw [if_pos c9] at H
          have c9b0 : decide (11 < (t349.size : Int)) = true := decide_eq_true c9
          have c9b1 : decide (11 < t349.size) = true := decide_eq_true (by omega)
          clear c9
          (first | rw [c9b0] | (simp only [i64_w, i32_w]; rw [c9b0]) | skip)
          have H' := Aside0.mk H
          clear H
          go_wp2
          go_meet
          case rel => exact ⟨_, (true), (by first | rfl | (simp; done) | (simp [*]; done)), H', ⟨by first | omega | exact Nat.le_refl _⟩, by repeat (first | exact Drawn0.refl _ | apply Drawn0.step)⟩
        · rw [if_neg c9] at H
          have c9b0 : decide (11 < (t349.size : Int)) = false := decide_eq_false c9
          have c9b1 : decide (11 < t349.size) = false := decide_eq_false (by omega)
          clear c9
          (first | rw [c9b0] | (simp only [i64_w, i32_w]; rw [c9b0]) | skip)
          by_cases c10 : (t350.size : Int) = 2
          · rw [if_pos c10] at H
            have c10b0 : ((t350.size : Int) == 2) = true := beq_iff_eq.mpr c10
            have c10b1 : ((t350.size : Int) != 2) = false := bne_eq_false_iff_eq.mpr c10
            clear c10
            by_cases c11 : (t349.size : Int) > 1
            · rw [if_pos c11] at H
              have c11b0 : decide (1 < (t349.size : Int)) = true := decide_eq_true c11
              have c11b1 : decide (1 < t349.size) = true := decide_eq_true (by omega)
              clear c11
              by_cases c12 : 0 < (t349.size : Int)
              · rw [if_pos c12] at H
                have c12b0 : decide (0 < (t349.size : Int)) = true := decide_eq_true c12
                have c12b1 : decide (0 < t349.size) = true := decide_eq_true (by omega)
                clear c12
                by_cases c14 : (bt t349 0) = 48
                · rw [if_pos c14] at H
                  have c14b0 : ((bt t349 0) == 48) = true := beq_iff_eq.mpr c14
                  have c14b1 : ((bt t349 0) != 48) = false := bne_eq_false_iff_eq.mpr c14
                  clear c14
                  have H' := Aside0.mk H
                  clear H
                  have p13 : 0 ≤ (0 : Int) := (by omega)
                  have q13 : 0 < t349.size := (by have : (0 : Int) < (t349.size : Int) := of_decide_eq_true (by first | (with_reducible assumption) | assumption); omega)
                  have hx13 : ∀ h : 0 < t349.size, ((t349[0]'h).toNat : Int) = bt t349 0 := bt_at t349 0
                  clear p13
                  have qi13 : (0 < (t349.size : Int)) = True := eq_true (of_decide_eq_true (by first | (with_reducible assumption) | assumption))
                  replace q13 := eq_true q13
                  go_wp2
                  go_meet
                  case rel => exact ⟨_, (true), (by first | rfl | (simp; done) | (simp [*]; done)), H', ⟨by first | omega | exact Nat.le_refl _⟩, by repeat (first | exact Drawn0.refl _ | apply Drawn0.step)⟩
                · rw [if_neg c14] at H
                  have c14b0 : ((bt t349 0) == 48) = false := beq_eq_false_iff_ne.mpr c14
                  have c14b1 : ((bt t349 0) != 48) = true := bne_iff_ne.mpr c14
                  by_cases c15 : t348 = true
                  · subst c15
                    have H1 : (if t352 = 0 then (calendar_ParseDuration.j0 k true t352 t354 (t354 == 0)) else (calendar_ParseDuration.j0 k true t352 t354 false)) = some (r1, r2) := by rw [if_pos rfl] at H; exact H
                    clear H
                    have H := H1
                    clear H1
                    by_cases c16 : t352 = 0
                    · rw [if_pos c16] at H
                      have c16b0 : (t352 == 0) = true := beq_iff_eq.mpr c16
                      have c16b1 : (t352 != 0) = false := bne_eq_false_iff_eq.mpr c16
                      clear c16
                      have H' := Aside0.mk H
                      clear H
                      have p13 : 0 ≤ (0 : Int) := (by omega)
                      have q13 : 0 < t349.size := (by have : (0 : Int) < (t349.size : Int) := of_decide_eq_true (by first | (with_reducible assumption) | assumption); omega)
                      have hx13 : ∀ h : 0 < t349.size, ((t349[0]'h).toNat : Int) = bt t349 0 := bt_at t349 0
                      clear p13
                      have qi13 : (0 < (t349.size : Int)) = True := eq_true (of_decide_eq_true (by first | (with_reducible assumption) | assumption))
                      replace q13 := eq_true q13
                      go_wp2
                      go_meet
                      case rel => exact ⟨_, ((t354 == 0)), (by first | rfl | (simp; done) | (simp [*]; done)), H', ⟨by first | omega | exact Nat.le_refl _⟩, by repeat (first | exact Drawn0.refl _ | apply Drawn0.step)⟩
                    · rw [if_neg c16] at H
                      have c16b0 : (t352 == 0) = false := beq_eq_false_iff_ne.mpr c16
                      have c16b1 : (t352 != 0) = true := bne_iff_ne.mpr c16
                      have H' := Aside0.mk H
                      clear H
                      have p13 : 0 ≤ (0 : Int) := (by omega)
                      have q13 : 0 < t349.size := (by have : (0 : Int) < (t349.size : Int) := of_decide_eq_true (by first | (with_reducible assumption) | assumption); omega)
                      have hx13 : ∀ h : 0 < t349.size, ((t349[0]'h).toNat : Int) = bt t349 0 := bt_at t349 0
                      clear p13
                      have qi13 : (0 < (t349.size : Int)) = True := eq_true (of_decide_eq_true (by first | (with_reducible assumption) | assumption))
                      replace q13 := eq_true q13
                      go_wp2
                      go_meet
                      case rel => exact ⟨_, (false), (by first | rfl | (simp; done) | (simp [*]; done)), H', ⟨by first | omega | exact Nat.le_refl _⟩, by repeat (first | exact Drawn0.refl _ | apply Drawn0.step)⟩
                  · replace c15 := Bool.eq_false_iff.mpr c15
                    subst c15
                    have H1 : (calendar_ParseDuration.j0 k false t352 t354 false) = some (r1, r2) := by rw [if_neg (show ¬ (false = true) by decide)] at H; exact H
                    clear H
                    have H := H1
                    clear H1
                    have H' := Aside0.mk H
                    clear H
                    have p13 : 0 ≤ (0 : Int) := (by omega)
                    have q13 : 0 < t349.size := (by have : (0 : Int) < (t349.size : Int) := of_decide_eq_true (by first | (with_reducible assumption) | assumption); omega)
                    have hx13 : ∀ h : 0 < t349.size, ((t349[0]'h).toNat : Int) = bt t349 0 := bt_at t349 0
                    clear p13
                    have qi13 : (0 < (t349.size : Int)) = True := eq_true (of_decide_eq_true (by first | (with_reducible assumption) | assumption))
                    replace q13 := eq_true q13
                    go_wp2
                    go_meet
                    case rel => exact ⟨_, (false), (by first | rfl | (simp; done) | (simp [*]; done)), H', ⟨by first | omega | exact Nat.le_refl _⟩, by repeat (first | exact Drawn0.refl _ | apply Drawn0.step)⟩
              · rw [if_neg c12] at H
                exact absurd H (by simp)
            · rw [if_neg c11] at H
              have c11b0 : decide (1 < (t349.size : Int)) = false := decide_eq_false c11
              have c11b1 : decide (1 < t349.size) = false := decide_eq_false (by omega)
              clear c11
              by_cases c17 : t348 = true
              · subst c17
                have H1 : (if t352 = 0 then (calendar_ParseDuration.j0 k true t352 t354 (t354 == 0)) else (calendar_ParseDuration.j0 k true t352 t354 false)) = some (r1, r2) := by rw [if_pos rfl] at H; exact H
                clear H
                have H := H1
                clear H1
                by_cases c18 : t352 = 0
                · rw [if_pos c18] at H
                  have c18b0 : (t352 == 0) = true := beq_iff_eq.mpr c18
                  have c18b1 : (t352 != 0) = false := bne_eq_false_iff_eq.mpr c18
                  clear c18
                  have H' := Aside0.mk H
                  clear H
                  go_wp2
                  go_meet
                  case rel => exact ⟨_, ((t354 == 0)), (by first | rfl | (simp; done) | (simp [*]; done)), H', ⟨by first | omega | exact Nat.le_refl _⟩, by repeat (first | exact Drawn0.refl _ | apply Drawn0.step)⟩
                · rw [if_neg c18] at H
                  have c18b0 : (t352 == 0) = false := beq_eq_false_iff_ne.mpr c18
                  have c18b1 : (t352 != 0) = true := bne_iff_ne.mpr c18
                  have H' := Aside0.mk H
                  clear H
                  go_wp2
                  go_meet
                  case rel => exact ⟨_, (false), (by first | rfl | (simp; done) | (simp [*]; done)), H', ⟨by first | omega | exact Nat.le_refl _⟩, by repeat (first | exact Drawn0.refl _ | apply Drawn0.step)⟩
              · replace c17 := Bool.eq_false_iff.mpr c17
                subst c17
                have H1 : (calendar_ParseDuration.j0 k false t352 t354 false) = some (r1, r2) := by rw [if_neg (show ¬ (false = true) by decide)] at H; exact H
                clear H
                have H := H1
                clear H1
                have H' := Aside0.mk H
                clear H
                go_wp2
                go_meet
                case rel => exact ⟨_, (false), (by first | rfl | (simp; done) | (simp [*]; done)), H', ⟨by first | omega | exact Nat.le_refl _⟩, by repeat (first | exact Drawn0.refl _ | apply Drawn0.step)⟩
          · rw [if_neg c10] at H
            have c10b0 : ((t350.size : Int) == 2) = false := beq_eq_false_iff_ne.mpr c10
            have c10b1 : ((t350.size : Int) != 2) = true := bne_iff_ne.mpr c10
            have H' := Aside0.mk H
            clear H
            go_wp2
            go_meet
            case rel => exact ⟨_, (true), (by first | rfl | (simp; done) | (simp [*]; done)), H', ⟨by first | omega | exact Nat.le_refl _⟩, by repeat (first | exact Drawn0.refl _ | apply Drawn0.step)⟩
      · replace c8 := Bool.eq_false_iff.mpr c8
        subst c8
        have H1 : (calendar_ParseDuration.j0 k t348 t352 t354 true) = some (r1, r2) := by rw [if_neg (show ¬ (false = true) by decide)] at H; exact H
        clear H
        have H := H1
        clear H1
        have H' := Aside0.mk H
        clear H
        go_wp2
        go_meet
        case rel => exact ⟨_, (true), (by first | rfl | (simp; done) | (simp [*]; done)), H', ⟨by first | omega | exact Nat.le_refl _⟩, by repeat (first | exact Drawn0.refl _ | apply Drawn0.step)⟩
    · replace c7 := Bool.eq_false_iff.mpr c7
      subst c7
      have H1 : (calendar_ParseDuration.j0 k t348 t352 t354 true) = some (r1, r2) := by rw [if_neg (show ¬ (false = true) by decide)] at H; exact H
      clear H
      have H := H1
      clear H1
      have H' := Aside0.mk H
      clear H
      go_wp2
      go_meet
      case rel => exact ⟨_, (true), (by first | rfl | (simp; done) | (simp [*]; done)), H', ⟨by first | omega | exact Nat.le_refl _⟩, by repeat (first | exact Drawn0.refl _ | apply Drawn0.step)⟩
  case rest =>
    clear HC6
    try clear c1
    try clear p1
    try clear q1
    try clear hx1
    try clear qi1
    try clear p2
    try clear c3
    try clear c4
    try clear c5
    try clear c7
    try clear c8
    try clear c9
    try clear c9b0
    try clear c9b1
    try clear c10
    try clear c10b0
    try clear c10b1
    try clear c11
    try clear c11b0
    try clear c11b1
    try clear c12
    try clear c12b0
    try clear c12b1
    try clear p13
    try clear q13
    try clear hx13
    try clear qi13
    try clear c14
    try clear c14b0
    try clear c14b1
    try clear c15
    try clear c16
    try clear c16b0
    try clear c16b1
    try clear c17
    try clear c18
    try clear c18b0
    try clear c18b1
    try clear p13
    try clear q13
    obtain ⟨kq, x70_5, rfl, HA, HJ5, ⟨mc5, rfl⟩⟩ := hcut
    cases kq with
    | zero => exact absurd HA.out (by simp [calendar_ParseDuration.j0])
    | succ kj5 =>
      have H := HA.out
      clear HA
      simp only [calendar_ParseDuration.j0] at H
      by_cases c19 : x70_5 = true
      · subst c19
        have H1 : (some (0, 1)) = some (r1, r2) := by rw [if_pos rfl] at H; exact H
        clear H
        have H := H1
        clear H1
        simp only [Option.some.injEq, Prod.mk.injEq] at H
        obtain ⟨rfl, rfl⟩ := H
        go_wp2
        go_ret2
        exact ⟨by first | rfl | (simp; done) | (simp [*]; done), by repeat (first | exact Drawn0.refl _ | apply Drawn0.step)⟩
      · replace c19 := Bool.eq_false_iff.mpr c19
        subst c19
        have H1 : (if t354 > 59 then (calendar_ParseDuration.j1 kj5 t348 t352 t354 true) else (calendar_ParseDuration.j1 kj5 t348 t352 t354 (decide ((wrap64 ((wrap64 (60 * t352)) + t354)) > 1099511627776)))) = some (r1, r2) := by rw [if_neg (show ¬ (false = true) by decide)] at H; exact H
        clear H
        have H := H1
        clear H1
        have HC20 := Aside0.mk H
        clear H
        go_upto_region 7 with (fail)
        go_cut [79] (fun v79 wc => ∃ (kq : Nat) (x79_19 : Bool), v79 = .bool x79_19 ∧ Aside0 (calendar_ParseDuration.j1 kq t348 t352 t354 x79_19 = some (r1, r2)) ∧ Aside0 (kq ≤ kj5) ∧ Drawn0 w wc)
        case first =>
          have H := HC20.out
          clear HC20
          by_cases c21 : t354 > 59
          · rw [if_pos c21] at H
            have c21b0 : decide (59 < t354) = true := decide_eq_true c21
            clear c21
            (first | rw [c21b0] | (simp only [i64_w, i32_w]; rw [c21b0]) | skip)
            have H' := Aside0.mk H
            clear H
            go_wp2
            go_meet
            case rel => exact ⟨_, (true), (by first | rfl | (simp; done) | (simp [*]; done)), H', ⟨by have := HJ5.out; first | omega | exact Nat.le_refl _⟩, by repeat (first | exact Drawn0.refl _ | apply Drawn0.step)⟩
          · rw [if_neg c21] at H
            have c21b0 : decide (59 < t354) = false := decide_eq_false c21
            clear c21
            (first | rw [c21b0] | (simp only [i64_w, i32_w]; rw [c21b0]) | skip)
            have H' := Aside0.mk H
            clear H
            go_wp2
            go_meet
            case rel => exact ⟨_, (decide ((wrap64 ((wrap64 (60 * t352)) + t354)) > 1099511627776)), (by first | rfl | (simp; done) | (simp [*]; done)), H', ⟨by have := HJ5.out; first | omega | exact Nat.le_refl _⟩, by repeat (first | exact Drawn0.refl _ | apply Drawn0.step)⟩
        case rest =>
          clear HC20
          try clear c1
          try clear p1
          try clear q1
          try clear hx1
          try clear qi1
          try clear c2
          try clear p2
          try clear c3
          try clear c4
          try clear c5
          try clear p6
          try clear c7
          try clear c8
          try clear c9
          try clear c9b0
          try clear c9b1
          try clear c10
          try clear c10b0
          try clear c10b1
          try clear c11
          try clear c11b0
          try clear c11b1
          try clear c12
          try clear c12b0
          try clear c12b1
          try clear p13
          try clear q13
          try clear hx13
          try clear qi13
          try clear c14
          try clear c14b0
          try clear c14b1
          try clear c15
          try clear c16
          try clear c16b0
          try clear c16b1
          try clear c17
          try clear c18
          try clear c18b0
          try clear c18b1
          try clear c19
          try clear c21
          try clear c21b0
          try clear p1
          try clear p13
          try clear p2
          try clear q1
          try clear q13
          obtain ⟨kq, x79_19, rfl, HA, HJ19, ⟨mc19, rfl⟩⟩ := hcut
          cases kq with
          | zero => exact absurd HA.out (by simp [calendar_ParseDuration.j1])
          | succ kj19 =>
            have H := HA.out
            clear HA
            simp only [calendar_ParseDuration.j1] at H
            by_cases c22 : x79_19 = true
            · subst c22
              have H1 : (some (0, 5)) = some (r1, r2) := by rw [if_pos rfl] at H; exact H
              clear H
              have H := H1
              clear H1
              simp only [Option.some.injEq, Prod.mk.injEq] at H
              obtain ⟨rfl, rfl⟩ := H
              go_wp2
              go_ret2
              exact ⟨by first | rfl | (simp; done) | (simp [*]; done), by repeat (first | exact Drawn0.refl _ | apply Drawn0.step)⟩
            · replace c22 := Bool.eq_false_iff.mpr c22
              subst c22
              have H1 : (if t348 = true then (some (wrap64 ((wrap64 ((-60) * t352)) - t354), 0)) else (some (wrap64 ((wrap64 (60 * t352)) + t354), 0))) = some (r1, r2) := by rw [if_neg (show ¬ (false = true) by decide)] at H; exact H
              clear H
              have H := H1
              clear H1
              by_cases c23 : t348 = true
              · subst c23
                have H1 : (some (wrap64 ((wrap64 ((-60) * t352)) - t354), 0)) = some (r1, r2) := by rw [if_pos rfl] at H; exact H
                clear H
                have H := H1
                clear H1
                simp only [Option.some.injEq, Prod.mk.injEq] at H
                obtain ⟨rfl, rfl⟩ := H
                go_wp2
                go_ret2
                exact ⟨by first | rfl | (simp; done) | (simp [*]; done), by repeat (first | exact Drawn0.refl _ | apply Drawn0.step)⟩
              · replace c23 := Bool.eq_false_iff.mpr c23
                subst c23
                have H1 : (some (wrap64 ((wrap64 (60 * t352)) + t354), 0)) = some (r1, r2) := by rw [if_neg (show ¬ (false = true) by decide)] at H; exact H
                clear H
                have H := H1
                clear H1
                simp only [Option.some.injEq, Prod.mk.injEq] at H
                obtain ⟨rfl, rfl⟩ := H
                go_wp2
                go_ret2
                exact ⟨by first | rfl | (simp; done) | (simp [*]; done), by repeat (first | exact Drawn0.refl _ | apply Drawn0.step)⟩

/-! ### pairingref5_plain: function 51 -/
def pairingref5_plain.f (a0 : ByteArray) : Option (Bool) := if (a0.size : Int) = 1 then (some true) else (if (a0.size : Int) > 1 then (if 0 < (a0.size : Int) then (some ((bt a0 0) != 48)) else (none)) else (some false))
set_option maxHeartbeats 8000000 in
set_option maxRecDepth 100000 in
theorem pairingref5_plain.calls (a0 : ByteArray) (r : Bool) (w : World) (h : pairingref5_plain.f a0 = some r) :
    Calls Tryd.prog 51 #[.string a0] w fun e w' => e = .returned (.bool r) ∧ Drawn0 w w' := by
  have H : (if (a0.size : Int) = 1 then (some true) else (if (a0.size : Int) > 1 then (if 0 < (a0.size : Int) then (some ((bt a0 0) != 48)) else (none)) else (some false))) = some r := h
  clear h
  by_cases c2 : (a0.size : Int) = 1
  · rw [if_pos c2] at H
    have c2b0 : ((a0.size : Int) == 1) = true := beq_iff_eq.mpr c2
    have c2b1 : ((a0.size : Int) != 1) = false := bne_eq_false_iff_eq.mpr c2
    clear c2
    obtain rfl := Option.some.inj H
    go_enter Tryd.func51, Tryd.ntmps51
    go_wp2
    go_ret
    exact ⟨by first | rfl | (simp; done) | (simp [*]; done), by repeat (first | exact Drawn0.refl _ | apply Drawn0.step)⟩
  · rw [if_neg c2] at H
    have c2b0 : ((a0.size : Int) == 1) = false := beq_eq_false_iff_ne.mpr c2
    have c2b1 : ((a0.size : Int) != 1) = true := bne_iff_ne.mpr c2
    by_cases c3 : (a0.size : Int) > 1
    · rw [if_pos c3] at H
      have c3b0 : decide (1 < (a0.size : Int)) = true := decide_eq_true c3
      have c3b1 : decide (1 < a0.size) = true := decide_eq_true (by omega)
      clear c3
      by_cases c4 : 0 < (a0.size : Int)
      · rw [if_pos c4] at H
        have c4b0 : decide (0 < (a0.size : Int)) = true := decide_eq_true c4
        have c4b1 : decide (0 < a0.size) = true := decide_eq_true (by omega)
        clear c4
        obtain rfl := Option.some.inj H
        have p5 : 0 ≤ (0 : Int) := (by omega)
        have q5 : 0 < a0.size := (by have : (0 : Int) < (a0.size : Int) := of_decide_eq_true (by first | (with_reducible assumption) | assumption); omega)
        have hx5 : ∀ h : 0 < a0.size, ((a0[0]'h).toNat : Int) = bt a0 0 := bt_at a0 0
        clear p5
        have qi5 : (0 < (a0.size : Int)) = True := eq_true (of_decide_eq_true (by first | (with_reducible assumption) | assumption))
        replace q5 := eq_true q5
        go_enter Tryd.func51, Tryd.ntmps51
        go_wp2
        go_ret
        exact ⟨by first | rfl | (simp; done) | (simp [*]; done), by repeat (first | exact Drawn0.refl _ | apply Drawn0.step)⟩
      · rw [if_neg c4] at H
        exact absurd H (by simp)
    · rw [if_neg c3] at H
      have c3b0 : decide (1 < (a0.size : Int)) = false := decide_eq_false c3
      have c3b1 : decide (1 < a0.size) = false := decide_eq_false (by omega)
      clear c3
      obtain rfl := Option.some.inj H
      go_enter Tryd.func51, Tryd.ntmps51
      go_wp2
      go_ret
      exact ⟨by first | rfl | (simp; done) | (simp [*]; done), by repeat (first | exact Drawn0.refl _ | apply Drawn0.step)⟩

/-! ### pairingref5_ParseDuration: function 36 -/
mutual
def pairingref5_ParseDuration.j0 : Nat → ByteArray → Bool → Option (Int × Int)
  | 0, _, _ => none
  | k + 1, x0, x4 => if x4 = true then (if 1 ≤ (x0.size : Int) then (pairingref5_ParseDuration.j1 k (x0.extract 1 x0.size) x4) else (none)) else (pairingref5_ParseDuration.j1 k x0 x4)
def pairingref5_ParseDuration.j1 : Nat → ByteArray → Bool → Option (Int × Int)
  | 0, _, _ => none
  | k + 1, x0, x4 => if (wrap64 ((x0.size : Int) - 3)) < 1 then (pairingref5_ParseDuration.j2 k x0 x4 (wrap64 ((x0.size : Int) - 3)) true) else (if 0 ≤ (wrap64 ((x0.size : Int) - 3)) then (if (wrap64 ((x0.size : Int) - 3)) < (x0.size : Int) then (pairingref5_ParseDuration.j2 k x0 x4 (wrap64 ((x0.size : Int) - 3)) ((bt x0 (wrap64 ((x0.size : Int) - 3))) != 58)) else (none)) else (none))
def pairingref5_ParseDuration.j2 : Nat → ByteArray → Bool → Int → Bool → Option (Int × Int)
  | 0, _, _, _, _ => none
  | k + 1, x0, x4, x5, x32 => if x32 = true then (some (0, 1)) else (if 0 ≤ x5 then (if x5 ≤ (x0.size : Int) then ((pairingref5_Digits.f k (x0.extract 0 (x5 : Int).toNat) 1 11).bind fun bt356 => (if 0 ≤ (wrap64 (x5 + 1)) then (if (wrap64 (x5 + 1)) ≤ (x0.size : Int) then ((pairingref5_Digits.f k (x0.extract ((wrap64 (x5 + 1)) : Int).toNat x0.size) 2 2).bind fun bt358 => (if bt356.2 = true then (if bt358.2 = true then ((pairingref5_plain.f (x0.extract 0 (x5 : Int).toNat)).bind fun t360 => (if t360 = true then (if x4 = true then (if bt356.1 = 0 then (pairingref5_ParseDuration.j3 k x4 bt356.1 bt358.1 (bt358.1 == 0)) else (pairingref5_ParseDuration.j3 k x4 bt356.1 bt358.1 false)) else (pairingref5_ParseDuration.j3 k x4 bt356.1 bt358.1 false)) else (pairingref5_ParseDuration.j3 k x4 bt356.1 bt358.1 true))) else (pairingref5_ParseDuration.j3 k x4 bt356.1 bt358.1 true)) else (pairingref5_ParseDuration.j3 k x4 bt356.1 bt358.1 true))) else (none)) else (none))) else (none)) else (none))
def pairingref5_ParseDuration.j3 : Nat → Bool → Int → Int → Bool → Option (Int × Int)
  | 0, _, _, _, _ => none
  | k + 1, x4, x6, x8, x71 => if x71 = true then (some (0, 1)) else (if x8 > 59 then (pairingref5_ParseDuration.j4 k x4 (wrap64 ((wrap64 (60 * x6)) + x8)) true) else (pairingref5_ParseDuration.j4 k x4 (wrap64 ((wrap64 (60 * x6)) + x8)) (decide ((wrap64 ((wrap64 (60 * x6)) + x8)) > 1099511627776))))
def pairingref5_ParseDuration.j4 : Nat → Bool → Int → Bool → Option (Int × Int)
  | 0, _, _, _ => none
  | k + 1, x4, x10, x81 => if x81 = true then (some (0, 5)) else (if x4 = true then (some (wrap64 (-x10), 0)) else (some (x10, 0)))
end
def pairingref5_ParseDuration.f (k : Nat) (a0 : ByteArray) : Option (Int × Int) := if (a0.size : Int) > 0 then (if 0 < (a0.size : Int) then (pairingref5_ParseDuration.j0 k a0 ((bt a0 0) == 45)) else (none)) else (pairingref5_ParseDuration.j0 k a0 false)
theorem pairingref5_ParseDuration.mono_l : ∀ k, (∀ y0 y1, LeO (pairingref5_ParseDuration.j0 k y0 y1) (pairingref5_ParseDuration.j0 (k + 1) y0 y1)) ∧ (∀ y0 y1, LeO (pairingref5_ParseDuration.j1 k y0 y1) (pairingref5_ParseDuration.j1 (k + 1) y0 y1)) ∧ (∀ y0 y1 y2 y3, LeO (pairingref5_ParseDuration.j2 k y0 y1 y2 y3) (pairingref5_ParseDuration.j2 (k + 1) y0 y1 y2 y3)) ∧ (∀ y0 y1 y2 y3, LeO (pairingref5_ParseDuration.j3 k y0 y1 y2 y3) (pairingref5_ParseDuration.j3 (k + 1) y0 y1 y2 y3)) ∧ (∀ y0 y1 y2, LeO (pairingref5_ParseDuration.j4 k y0 y1 y2) (pairingref5_ParseDuration.j4 (k + 1) y0 y1 y2))
  | 0 => ⟨fun _ _ r h => by simp [pairingref5_ParseDuration.j0] at h, fun _ _ r h => by simp [pairingref5_ParseDuration.j1] at h, fun _ _ _ _ r h => by simp [pairingref5_ParseDuration.j2] at h, fun _ _ _ _ r h => by simp [pairingref5_ParseDuration.j3] at h, fun _ _ _ r h => by simp [pairingref5_ParseDuration.j4] at h⟩
  | k + 1 => by
    obtain ⟨ih0, ih1, ih2, ih3, ih4⟩ := pairingref5_ParseDuration.mono_l k
    refine ⟨?_, ?_, ?_, ?_, ?_⟩
    · intro y0 y1
      unfold pairingref5_ParseDuration.j0
      repeat' first
      | (with_reducible exact ih0 _ _)
      | (with_reducible exact ih1 _ _)
      | (with_reducible exact ih2 _ _ _ _)
      | (with_reducible exact ih3 _ _ _ _)
      | (with_reducible exact ih4 _ _ _)
      | (with_reducible exact pairingref5_Digits.mono _ _ _ _)
      | (with_reducible exact LeO.refl _)
      | (with_reducible exact LeO.none _)
      | (with_reducible refine LeO.ite ?_ ?_)
      | (with_reducible refine LeO.bind ?_ (fun _ => ?_))
      | exact ih0 _ _
      | exact ih1 _ _
      | exact ih2 _ _ _ _
      | exact ih3 _ _ _ _
      | exact ih4 _ _ _
      | exact pairingref5_Digits.mono _ _ _ _
      | exact LeO.none _
      | refine LeO.ite ?_ ?_
      | refine LeO.bind ?_ (fun _ => ?_)
    · intro y0 y1
      unfold pairingref5_ParseDuration.j1
      repeat' first
      | (with_reducible exact ih0 _ _)
      | (with_reducible exact ih1 _ _)
      | (with_reducible exact ih2 _ _ _ _)
      | (with_reducible exact ih3 _ _ _ _)
      | (with_reducible exact ih4 _ _ _)
      | (with_reducible exact pairingref5_Digits.mono _ _ _ _)
      | (with_reducible exact LeO.refl _)
      | (with_reducible exact LeO.none _)
      | (with_reducible refine LeO.ite ?_ ?_)
      | (with_reducible refine LeO.bind ?_ (fun _ => ?_))
      | exact ih0 _ _
      | exact ih1 _ _
      | exact ih2 _ _ _ _
      | exact ih3 _ _ _ _
      | exact ih4 _ _ _
      | exact pairingref5_Digits.mono _ _ _ _
      | exact LeO.none _
      | refine LeO.ite ?_ ?_
      | refine LeO.bind ?_ (fun _ => ?_)
    · intro y0 y1 y2 y3
      unfold pairingref5_ParseDuration.j2
      repeat' first
      | (with_reducible exact ih0 _ _)
      | (with_reducible exact ih1 _ _)
      | (with_reducible exact ih2 _ _ _ _)
      | (with_reducible exact ih3 _ _ _ _)
      | (with_reducible exact ih4 _ _ _)
      | (with_reducible exact pairingref5_Digits.mono _ _ _ _)
      | (with_reducible exact LeO.refl _)
      | (with_reducible exact LeO.none _)
      | (with_reducible refine LeO.ite ?_ ?_)
      | (with_reducible refine LeO.bind ?_ (fun _ => ?_))
      | exact ih0 _ _
      | exact ih1 _ _
      | exact ih2 _ _ _ _
      | exact ih3 _ _ _ _
      | exact ih4 _ _ _
      | exact pairingref5_Digits.mono _ _ _ _
      | exact LeO.none _
      | refine LeO.ite ?_ ?_
      | refine LeO.bind ?_ (fun _ => ?_)
    · intro y0 y1 y2 y3
      unfold pairingref5_ParseDuration.j3
      repeat' first
      | (with_reducible exact ih0 _ _)
      | (with_reducible exact ih1 _ _)
      | (with_reducible exact ih2 _ _ _ _)
      | (with_reducible exact ih3 _ _ _ _)
      | (with_reducible exact ih4 _ _ _)
      | (with_reducible exact pairingref5_Digits.mono _ _ _ _)
      | (with_reducible exact LeO.refl _)
      | (with_reducible exact LeO.none _)
      | (with_reducible refine LeO.ite ?_ ?_)
      | (with_reducible refine LeO.bind ?_ (fun _ => ?_))
      | exact ih0 _ _
      | exact ih1 _ _
      | exact ih2 _ _ _ _
      | exact ih3 _ _ _ _
      | exact ih4 _ _ _
      | exact pairingref5_Digits.mono _ _ _ _
      | exact LeO.none _
      | refine LeO.ite ?_ ?_
      | refine LeO.bind ?_ (fun _ => ?_)
    · intro y0 y1 y2
      unfold pairingref5_ParseDuration.j4
      repeat' first
      | (with_reducible exact ih0 _ _)
      | (with_reducible exact ih1 _ _)
      | (with_reducible exact ih2 _ _ _ _)
      | (with_reducible exact ih3 _ _ _ _)
      | (with_reducible exact ih4 _ _ _)
      | (with_reducible exact pairingref5_Digits.mono _ _ _ _)
      | (with_reducible exact LeO.refl _)
      | (with_reducible exact LeO.none _)
      | (with_reducible refine LeO.ite ?_ ?_)
      | (with_reducible refine LeO.bind ?_ (fun _ => ?_))
      | exact ih0 _ _
      | exact ih1 _ _
      | exact ih2 _ _ _ _
      | exact ih3 _ _ _ _
      | exact ih4 _ _ _
      | exact pairingref5_Digits.mono _ _ _ _
      | exact LeO.none _
      | refine LeO.ite ?_ ?_
      | refine LeO.bind ?_ (fun _ => ?_)
theorem pairingref5_ParseDuration.mono : ∀ a0 k, LeO (pairingref5_ParseDuration.f k a0) (pairingref5_ParseDuration.f (k + 1) a0) := by
  intro a0 k
  obtain ⟨ih0, ih1, ih2, ih3, ih4⟩ := pairingref5_ParseDuration.mono_l k
  unfold pairingref5_ParseDuration.f
  repeat' first
      | (with_reducible exact ih0 _ _)
      | (with_reducible exact ih1 _ _)
      | (with_reducible exact ih2 _ _ _ _)
      | (with_reducible exact ih3 _ _ _ _)
      | (with_reducible exact ih4 _ _ _)
      | (with_reducible exact pairingref5_Digits.mono _ _ _ _)
      | (with_reducible exact LeO.refl _)
      | (with_reducible exact LeO.none _)
      | (with_reducible refine LeO.ite ?_ ?_)
      | (with_reducible refine LeO.bind ?_ (fun _ => ?_))
      | exact ih0 _ _
      | exact ih1 _ _
      | exact ih2 _ _ _ _
      | exact ih3 _ _ _ _
      | exact ih4 _ _ _
      | exact pairingref5_Digits.mono _ _ _ _
      | exact LeO.none _
      | refine LeO.ite ?_ ?_
      | refine LeO.bind ?_ (fun _ => ?_)
set_option maxHeartbeats 8000000 in
set_option maxRecDepth 100000 in
theorem pairingref5_ParseDuration.calls (k : Nat) (a0 : ByteArray) (r1 : Int) (r2 : Int) (w : World) (h : pairingref5_ParseDuration.f k a0 = some (r1, r2)) :
    Calls Tryd.prog 36 #[.string a0] w fun e w' => e = .returned (.tuple #[.int .i64 r1, .int .i64 r2]) ∧ Drawn0 w w' := by
  have H : (if (a0.size : Int) > 0 then (if 0 < (a0.size : Int) then (pairingref5_ParseDuration.j0 k a0 ((bt a0 0) == 45)) else (none)) else (pairingref5_ParseDuration.j0 k a0 false)) = some (r1, r2) := h
  clear h
  have HC2 := Aside0.mk H
  clear H
  go_enter Tryd.func36, Tryd.ntmps36
  go_upto_region 1 with (fail)
  go_cut [4] (fun v4 wc => ∃ (kq : Nat) (x4_1 : Bool), v4 = .bool x4_1 ∧ Aside0 (pairingref5_ParseDuration.j0 kq a0 x4_1 = some (r1, r2)) ∧ Aside0 (kq ≤ k) ∧ Drawn0 w wc)
  case first =>
    have H := HC2.out
    clear HC2
    by_cases c3 : (a0.size : Int) > 0
    · rw [if_pos c3] at H
      have c3b0 : decide (0 < (a0.size : Int)) = true := decide_eq_true c3
      have c3b1 : decide (0 < a0.size) = true := decide_eq_true (by omega)
      clear c3
      (first | rw [c3b0] | (simp only [i64_w, i32_w]; rw [c3b0]) | skip)
      by_cases c4 : 0 < (a0.size : Int)
      · rw [if_pos c4] at H
        have c4b0 : decide (0 < (a0.size : Int)) = true := decide_eq_true c4
        have c4b1 : decide (0 < a0.size) = true := decide_eq_true (by omega)
        clear c4
        have H' := Aside0.mk H
        clear H
        have p5 : 0 ≤ (0 : Int) := (by omega)
        have q5 : 0 < a0.size := (by have : (0 : Int) < (a0.size : Int) := of_decide_eq_true (by first | (with_reducible assumption) | assumption); omega)
        have hx5 : ∀ h : 0 < a0.size, ((a0[0]'h).toNat : Int) = bt a0 0 := bt_at a0 0
        clear p5
        have qi5 : (0 < (a0.size : Int)) = True := eq_true (of_decide_eq_true (by first | (with_reducible assumption) | assumption))
        replace q5 := eq_true q5
        go_wp2
        go_meet
        case rel => exact ⟨_, (((bt a0 0) == 45)), (by first | rfl | (simp; done) | (simp [*]; done)), H', ⟨by first | omega | exact Nat.le_refl _⟩, by repeat (first | exact Drawn0.refl _ | apply Drawn0.step)⟩
      · rw [if_neg c4] at H
        exact absurd H (by simp)
    · rw [if_neg c3] at H
      have c3b0 : decide (0 < (a0.size : Int)) = false := decide_eq_false c3
      have c3b1 : decide (0 < a0.size) = false := decide_eq_false (by omega)
      clear c3
      (first | rw [c3b0] | (simp only [i64_w, i32_w]; rw [c3b0]) | skip)
      have H' := Aside0.mk H
      clear H
      go_wp2
      go_meet
      case rel => exact ⟨_, (false), (by first | rfl | (simp; done) | (simp [*]; done)), H', ⟨by first | omega | exact Nat.le_refl _⟩, by repeat (first | exact Drawn0.refl _ | apply Drawn0.step)⟩
  case rest =>
    clear HC2
    try clear p2
    try clear c3
    try clear c3b0
    try clear c3b1
    try clear c4
    try clear c4b0
    try clear c4b1
    try clear p5
    try clear q5
    try clear hx5
    try clear qi5
    try clear p5
    try clear q5
    obtain ⟨kq, x4_1, rfl, HA, HJ1, ⟨mc1, rfl⟩⟩ := hcut
    cases kq with
    | zero => exact absurd HA.out (by simp [pairingref5_ParseDuration.j0])
    | succ kj1 =>
      have H := HA.out
      clear HA
      simp only [pairingref5_ParseDuration.j0] at H
      have HC6 := Aside0.mk H
      clear H
      go_upto_if 19 with (fail)
      go_cut [0] (fun v0 wc => ∃ (kq : Nat) (x0_5 : ByteArray), v0 = .string x0_5 ∧ Aside0 (pairingref5_ParseDuration.j1 kq x0_5 x4_1 = some (r1, r2)) ∧ Aside0 (kq ≤ kj1) ∧ Drawn0 w wc)
      case first =>
        have H := HC6.out
        clear HC6
        by_cases c7 : x4_1 = true
        · subst c7
          have H1 : (if 1 ≤ (a0.size : Int) then (pairingref5_ParseDuration.j1 kj1 (a0.extract 1 a0.size) true) else (none)) = some (r1, r2) := by rw [if_pos rfl] at H; exact H
          clear H
          have H := H1
          clear H1
          by_cases c8 : 1 ≤ (a0.size : Int)
          · rw [if_pos c8] at H
            have c8b0 := eq_true c8
            have c8b1 : decide (1 ≤ (a0.size : Int)) = true := decide_eq_true c8
            clear c8
            have H' := Aside0.mk H
            clear H
            go_wp2
            go_meet
            case rel => exact ⟨_, (a0.extract 1 a0.size), (by first | rfl | (simp; done) | (simp [*]; done)), H', ⟨by have := HJ1.out; first | omega | exact Nat.le_refl _⟩, by repeat (first | exact Drawn0.refl _ | apply Drawn0.step)⟩
          · rw [if_neg c8] at H
            exact absurd H (by simp)
        · replace c7 := Bool.eq_false_iff.mpr c7
          subst c7
          have H1 : (pairingref5_ParseDuration.j1 kj1 a0 false) = some (r1, r2) := by rw [if_neg (show ¬ (false = true) by decide)] at H; exact H
          clear H
          have H := H1
          clear H1
          have H' := Aside0.mk H
          clear H
          go_wp2
          go_meet
          case rel => exact ⟨_, (a0), (by first | rfl | (simp; done) | (simp [*]; done)), H', ⟨by have := HJ1.out; first | omega | exact Nat.le_refl _⟩, by repeat (first | exact Drawn0.refl _ | apply Drawn0.step)⟩
      case rest =>
        clear HC6
        try clear c1
        try clear p2
        try clear c3
        try clear c3b0
        try clear c3b1
        try clear c4
        try clear c4b0
        try clear c4b1
        try clear p5
        try clear q5
        try clear hx5
        try clear qi5
        try clear c7
        try clear c8
        try clear c8b0
        try clear c8b1
        try clear p2
        try clear p5
        try clear q5
        obtain ⟨kq, x0_5, rfl, HA, HJ5, ⟨mc5, rfl⟩⟩ := hcut
        cases kq with
        | zero => exact absurd HA.out (by simp [pairingref5_ParseDuration.j1])
        | succ kj5 =>
          have H := HA.out
          clear HA
          simp only [pairingref5_ParseDuration.j1] at H
          have HC9 := Aside0.mk H
          clear H
          go_upto_region 5 with (fail)
          go_cut [32] (fun v32 wc => ∃ (kq : Nat) (x32_8 : Bool), v32 = .bool x32_8 ∧ Aside0 (pairingref5_ParseDuration.j2 kq x0_5 x4_1 (wrap64 ((x0_5.size : Int) - 3)) x32_8 = some (r1, r2)) ∧ Aside0 (kq ≤ kj5) ∧ Drawn0 w wc)
          case first =>
            have H := HC9.out
            clear HC9
            by_cases c10 : (wrap64 ((x0_5.size : Int) - 3)) < 1
            · rw [if_pos c10] at H
              have c10b0 : decide ((wrap64 ((x0_5.size : Int) - 3)) < 1) = true := decide_eq_true c10
              clear c10
              (first | rw [c10b0] | (simp only [i64_w, i32_w]; rw [c10b0]) | skip)
              have H' := Aside0.mk H
              clear H
              go_wp2
              go_meet
              case rel => exact ⟨_, (true), (by first | rfl | (simp; done) | (simp [*]; done)), H', ⟨by have := HJ1.out; have := HJ5.out; first | omega | exact Nat.le_refl _⟩, by repeat (first | exact Drawn0.refl _ | apply Drawn0.step)⟩
            · rw [if_neg c10] at H
              have c10b0 : decide ((wrap64 ((x0_5.size : Int) - 3)) < 1) = false := decide_eq_false c10
              clear c10
              (first | rw [c10b0] | (simp only [i64_w, i32_w]; rw [c10b0]) | skip)
              obtain ⟨ji11, hji11⟩ : ∃ j_ : Int, (wrap64 ((x0_5.size : Int) - 3)) = j_ := ⟨_, rfl⟩
              replace H : (if 0 ≤ (ji11) then (if (ji11) < (x0_5.size : Int) then (pairingref5_ParseDuration.j2 kj5 x0_5 x4_1 ji11 ((bt x0_5 (ji11)) != 58)) else (none)) else (none)) = some (r1, r2) := by first | (rw [hji11] at H; exact H) | (simp only [hji11] at H ⊢; exact H)
              (try rw [hji11] at c10b0)
              have hji11w : (IntKind.i64.wrap ((x0_5.size : Int) - 3)) = ji11 := (i64_w _).trans hji11
              by_cases c12 : 0 ≤ (ji11)
              · rw [if_pos c12] at H
                have c12b0 : decide (0 ≤ (ji11)) = true := decide_eq_true c12
                clear c12
                by_cases c13 : (ji11) < (x0_5.size : Int)
                · rw [if_pos c13] at H
                  have c13b0 : decide ((ji11) < (x0_5.size : Int)) = true := decide_eq_true c13
                  clear c13
                  have H' := Aside0.mk H
                  clear H
                  have p14 : 0 ≤ ((ji11) : Int) := of_decide_eq_true (by first | (with_reducible assumption) | assumption)
                  have q14 : (ji11) < (x0_5.size : Int) := of_decide_eq_true (by first | (with_reducible assumption) | assumption)
                  have hx14 := bt_at x0_5 (ji11)
                  replace p14 := eq_true p14
                  replace q14 := eq_true q14
                  go_wp2
                  go_meet
                  case rel => exact ⟨_, (((bt x0_5 (ji11)) != 58)), (by first | rfl | (simp; done) | (simp only [← hji11] <;> (first | rfl | simp)) | (simp [*]; done)), (by first | exact H' | (simp only [hji11]; exact H')), ⟨by have := HJ1.out; have := HJ5.out; first | omega | exact Nat.le_refl _⟩, by repeat (first | exact Drawn0.refl _ | apply Drawn0.step)⟩
                · rw [if_neg c13] at H
                  exact absurd H (by simp)
              · rw [if_neg c12] at H
                exact absurd H (by simp)
          case rest =>
            clear HC9
            try clear c1
            try clear p1
            try clear q1
            try clear hx1
            try clear p2
            try clear c3
            try clear c3b0
            try clear c3b1
            try clear c4
            try clear c4b0
            try clear c4b1
            try clear c5
            try clear p5
            try clear q5
            try clear hx5
            try clear qi5
            try clear p6
            try clear c7
            try clear c8
            try clear c8b0
            try clear c8b1
            try clear c10
            try clear c10b0
            try clear c12
            try clear c12b0
            try clear c13
            try clear c13b0
            try clear p14
            try clear q14
            try clear hx14
            try clear p14
            try clear p2
            try clear p5
            try clear q14
            try clear q5
            obtain ⟨kq, x32_8, rfl, HA, HJ8, ⟨mc8, rfl⟩⟩ := hcut
            cases kq with
            | zero => exact absurd HA.out (by simp [pairingref5_ParseDuration.j2])
            | succ kj8 =>
              have H := HA.out
              clear HA
              simp only [pairingref5_ParseDuration.j2] at H
              by_cases c15 : x32_8 = true
              · subst c15
                have H1 : (some (0, 1)) = some (r1, r2) := by rw [if_pos rfl] at H; exact H
                clear H
                have H := H1
                clear H1
                simp only [Option.some.injEq, Prod.mk.injEq] at H
                obtain ⟨rfl, rfl⟩ := H
                go_wp2
                go_ret2
                exact ⟨by first | rfl | (simp; done) | (simp [*]; done), by repeat (first | exact Drawn0.refl _ | apply Drawn0.step)⟩
              · replace c15 := Bool.eq_false_iff.mpr c15
                subst c15
                have H1 : (if 0 ≤ (wrap64 ((x0_5.size : Int) - 3)) then (if (wrap64 ((x0_5.size : Int) - 3)) ≤ (x0_5.size : Int) then ((pairingref5_Digits.f kj8 (x0_5.extract 0 ((wrap64 ((x0_5.size : Int) - 3)) : Int).toNat) 1 11).bind fun bt356 => (if 0 ≤ (wrap64 ((wrap64 ((x0_5.size : Int) - 3)) + 1)) then (if (wrap64 ((wrap64 ((x0_5.size : Int) - 3)) + 1)) ≤ (x0_5.size : Int) then ((pairingref5_Digits.f kj8 (x0_5.extract ((wrap64 ((wrap64 ((x0_5.size : Int) - 3)) + 1)) : Int).toNat x0_5.size) 2 2).bind fun bt358 => (if bt356.2 = true then (if bt358.2 = true then ((pairingref5_plain.f (x0_5.extract 0 ((wrap64 ((x0_5.size : Int) - 3)) : Int).toNat)).bind fun t360 => (if t360 = true then (if x4_1 = true then (if bt356.1 = 0 then (pairingref5_ParseDuration.j3 kj8 x4_1 bt356.1 bt358.1 (bt358.1 == 0)) else (pairingref5_ParseDuration.j3 kj8 x4_1 bt356.1 bt358.1 false)) else (pairingref5_ParseDuration.j3 kj8 x4_1 bt356.1 bt358.1 false)) else (pairingref5_ParseDuration.j3 kj8 x4_1 bt356.1 bt358.1 true))) else (pairingref5_ParseDuration.j3 kj8 x4_1 bt356.1 bt358.1 true)) else (pairingref5_ParseDuration.j3 kj8 x4_1 bt356.1 bt358.1 true))) else (none)) else (none))) else (none)) else (none)) = some (r1, r2) := by rw [if_neg (show ¬ (false = true) by decide)] at H; exact H
                clear H
                have H := H1
                clear H1
                obtain ⟨ji16, hji16⟩ : ∃ j_ : Int, (wrap64 ((x0_5.size : Int) - 3)) = j_ := ⟨_, rfl⟩
                replace H : (if 0 ≤ (ji16) then (if (ji16) ≤ (x0_5.size : Int) then ((pairingref5_Digits.f kj8 (x0_5.extract 0 ((ji16) : Int).toNat) 1 11).bind fun bt356 => (if 0 ≤ (wrap64 ((ji16) + 1)) then (if (wrap64 ((ji16) + 1)) ≤ (x0_5.size : Int) then ((pairingref5_Digits.f kj8 (x0_5.extract ((wrap64 ((ji16) + 1)) : Int).toNat x0_5.size) 2 2).bind fun bt358 => (if bt356.2 = true then (if bt358.2 = true then ((pairingref5_plain.f (x0_5.extract 0 ((ji16) : Int).toNat)).bind fun t360 => (if t360 = true then (if x4_1 = true then (if bt356.1 = 0 then (pairingref5_ParseDuration.j3 kj8 x4_1 bt356.1 bt358.1 (bt358.1 == 0)) else (pairingref5_ParseDuration.j3 kj8 x4_1 bt356.1 bt358.1 false)) else (pairingref5_ParseDuration.j3 kj8 x4_1 bt356.1 bt358.1 false)) else (pairingref5_ParseDuration.j3 kj8 x4_1 bt356.1 bt358.1 true))) else (pairingref5_ParseDuration.j3 kj8 x4_1 bt356.1 bt358.1 true)) else (pairingref5_ParseDuration.j3 kj8 x4_1 bt356.1 bt358.1 true))) else (none)) else (none))) else (none)) else (none)) = some (r1, r2) := by first | (rw [hji16] at H; exact H) | (simp only [hji16] at H ⊢; exact H)
                have hji16w : (IntKind.i64.wrap ((x0_5.size : Int) - 3)) = ji16 := (i64_w _).trans hji16
                by_cases c17 : 0 ≤ (ji16)
                · rw [if_pos c17] at H
                  have c17b0 := eq_true c17
                  have c17b1 : decide (0 ≤ (ji16)) = true := decide_eq_true c17
                  clear c17
                  by_cases c18 : (ji16) ≤ (x0_5.size : Int)
                  · rw [if_pos c18] at H
                    have c18b0 := eq_true c18
                    have c18b1 : decide ((ji16) ≤ (x0_5.size : Int)) = true := decide_eq_true c18
                    clear c18
                    replace H := Option.bind_eq_some_iff.mp H
                    obtain ⟨⟨t356, t357⟩, A190, H⟩ := H
                    replace H : (if 0 ≤ (wrap64 ((ji16) + 1)) then (if (wrap64 ((ji16) + 1)) ≤ (x0_5.size : Int) then ((pairingref5_Digits.f kj8 (x0_5.extract ((wrap64 ((ji16) + 1)) : Int).toNat x0_5.size) 2 2).bind fun bt358 => (if t357 = true then (if bt358.2 = true then ((pairingref5_plain.f (x0_5.extract 0 ((ji16) : Int).toNat)).bind fun t360 => (if t360 = true then (if x4_1 = true then (if t356 = 0 then (pairingref5_ParseDuration.j3 kj8 x4_1 t356 bt358.1 (bt358.1 == 0)) else (pairingref5_ParseDuration.j3 kj8 x4_1 t356 bt358.1 false)) else (pairingref5_ParseDuration.j3 kj8 x4_1 t356 bt358.1 false)) else (pairingref5_ParseDuration.j3 kj8 x4_1 t356 bt358.1 true))) else (pairingref5_ParseDuration.j3 kj8 x4_1 t356 bt358.1 true)) else (pairingref5_ParseDuration.j3 kj8 x4_1 t356 bt358.1 true))) else (none)) else (none)) = some (r1, r2) := H
                    have A19 := Aside0.mk A190
                    clear A190
                    obtain ⟨ji20, hji20⟩ : ∃ j_ : Int, (wrap64 ((ji16) + 1)) = j_ := ⟨_, rfl⟩
                    replace H : (if 0 ≤ (ji20) then (if (ji20) ≤ (x0_5.size : Int) then ((pairingref5_Digits.f kj8 (x0_5.extract ((ji20) : Int).toNat x0_5.size) 2 2).bind fun bt358 => (if t357 = true then (if bt358.2 = true then ((pairingref5_plain.f (x0_5.extract 0 ((ji16) : Int).toNat)).bind fun t360 => (if t360 = true then (if x4_1 = true then (if t356 = 0 then (pairingref5_ParseDuration.j3 kj8 x4_1 t356 bt358.1 (bt358.1 == 0)) else (pairingref5_ParseDuration.j3 kj8 x4_1 t356 bt358.1 false)) else (pairingref5_ParseDuration.j3 kj8 x4_1 t356 bt358.1 false)) else (pairingref5_ParseDuration.j3 kj8 x4_1 t356 bt358.1 true))) else (pairingref5_ParseDuration.j3 kj8 x4_1 t356 bt358.1 true)) else (pairingref5_ParseDuration.j3 kj8 x4_1 t356 bt358.1 true))) else (none)) else (none)) = some (r1, r2) := by first | (rw [hji20] at H; exact H) | (simp only [hji20] at H ⊢; exact H)
                    (try rw [hji20] at A19)
                    have hji20w : (IntKind.i64.wrap ((ji16) + 1)) = ji20 := (i64_w _).trans hji20
                    by_cases c21 : 0 ≤ (ji20)
                    · rw [if_pos c21] at H
                      have c21b0 := eq_true c21
                      have c21b1 : decide (0 ≤ (ji20)) = true := decide_eq_true c21
                      clear c21
                      by_cases c22 : (ji20) ≤ (x0_5.size : Int)
                      · rw [if_pos c22] at H
                        have c22b0 := eq_true c22
                        have c22b1 : decide ((ji20) ≤ (x0_5.size : Int)) = true := decide_eq_true c22
                        clear c22
                        replace H := Option.bind_eq_some_iff.mp H
                        obtain ⟨⟨t358, t359⟩, A230, H⟩ := H
                        replace H : (if t357 = true then (if t359 = true then ((pairingref5_plain.f (x0_5.extract 0 ((ji16) : Int).toNat)).bind fun t360 => (if t360 = true then (if x4_1 = true then (if t356 = 0 then (pairingref5_ParseDuration.j3 kj8 x4_1 t356 t358 (t358 == 0)) else (pairingref5_ParseDuration.j3 kj8 x4_1 t356 t358 false)) else (pairingref5_ParseDuration.j3 kj8 x4_1 t356 t358 false)) else (pairingref5_ParseDuration.j3 kj8 x4_1 t356 t358 true))) else (pairingref5_ParseDuration.j3 kj8 x4_1 t356 t358 true)) else (pairingref5_ParseDuration.j3 kj8 x4_1 t356 t358 true)) = some (r1, r2) := H
                        have A23 := Aside0.mk A230
                        clear A230
                        have HC24 := Aside0.mk H
                        clear H
                        go_upto_region 9 with (first | ((with_reducible refine gate_callee (f := 46) rfl ?_); refine goesL_ (some 37) rfl rfl Tryd.func46 (by kernel_rfl) rfl #[.string (x0_5.extract 0 ((ji16) : Int).toNat), .int .i64 1, .int .i64 11] rfl (by (try simp only [List.map_toArray, List.map_cons, List.map_nil]); first | done | (simp only [hji16]; rfl) | rfl | (simp only [List.length_drop, List.length_take]; rfl)) ?_; (with_reducible refine (pairingref5_Digits.calls kj8 (x0_5.extract 0 ((ji16) : Int).toNat) 1 11 t356 t357 _ A19.out).mono ?_); rintro e w' ⟨rfl, ⟨nd, rfl⟩⟩; refine ⟨_, rfl, ?_⟩) | ((with_reducible refine gate_callee (f := 46) rfl ?_); refine goesL_ (some 45) rfl rfl Tryd.func46 (by kernel_rfl) rfl #[.string (x0_5.extract ((ji20) : Int).toNat x0_5.size), .int .i64 2, .int .i64 2] rfl (by (try simp only [List.map_toArray, List.map_cons, List.map_nil]); first | done | (simp only [hji20]; rfl) | rfl | (simp only [List.length_drop, List.length_take]; rfl)) ?_; (with_reducible refine (pairingref5_Digits.calls kj8 (x0_5.extract ((ji20) : Int).toNat x0_5.size) 2 2 t358 t359 _ A23.out).mono ?_); rintro e w' ⟨rfl, ⟨nd, rfl⟩⟩; refine ⟨_, rfl, ?_⟩))
                        (try simp only [Act.put, List.setIfInBounds_toArray, List.set_cons_zero, List.set_cons_succ])
                        go_cut [71] (fun v71 wc => ∃ (kq : Nat) (x71_23 : Bool), v71 = .bool x71_23 ∧ Aside0 (pairingref5_ParseDuration.j3 kq x4_1 t356 t358 x71_23 = some (r1, r2)) ∧ Aside0 (kq ≤ kj8) ∧ Drawn0 w wc)
                        case first =>
                          have H := HC24.out
                          clear HC24
                          by_cases c25 : t357 = true
                          · subst c25
                            have H1 : (if t359 = true then ((pairingref5_plain.f (x0_5.extract 0 ((ji16) : Int).toNat)).bind fun t360 => (if t360 = true then (if x4_1 = true then (if t356 = 0 then (pairingref5_ParseDuration.j3 kj8 x4_1 t356 t358 (t358 == 0)) else (pairingref5_ParseDuration.j3 kj8 x4_1 t356 t358 false)) else (pairingref5_ParseDuration.j3 kj8 x4_1 t356 t358 false)) else (pairingref5_ParseDuration.j3 kj8 x4_1 t356 t358 true))) else (pairingref5_ParseDuration.j3 kj8 x4_1 t356 t358 true)) = some (r1, r2) := by rw [if_pos rfl] at H; exact H
                            clear H
                            have H := H1
                            clear H1
                            by_cases c26 : t359 = true
                            · subst c26
                              have H1 : ((pairingref5_plain.f (x0_5.extract 0 ((ji16) : Int).toNat)).bind fun t360 => (if t360 = true then (if x4_1 = true then (if t356 = 0 then (pairingref5_ParseDuration.j3 kj8 x4_1 t356 t358 (t358 == 0)) else (pairingref5_ParseDuration.j3 kj8 x4_1 t356 t358 false)) else (pairingref5_ParseDuration.j3 kj8 x4_1 t356 t358 false)) else (pairingref5_ParseDuration.j3 kj8 x4_1 t356 t358 true))) = some (r1, r2) := by rw [if_pos rfl] at H; exact H
                              clear H
                              have H := H1
                              clear H1
                              have c27b0 := eq_true (of_decide_eq_true (by first | (with_reducible assumption) | assumption) : 0 ≤ (ji16))
                              have c28b0 := eq_true (of_decide_eq_true (by first | (with_reducible assumption) | assumption) : (ji16) ≤ (x0_5.size : Int))
                              replace H := Option.bind_eq_some_iff.mp H
                              obtain ⟨t360, A290, H⟩ := H
                              replace H : (if t360 = true then (if x4_1 = true then (if t356 = 0 then (pairingref5_ParseDuration.j3 kj8 x4_1 t356 t358 (t358 == 0)) else (pairingref5_ParseDuration.j3 kj8 x4_1 t356 t358 false)) else (pairingref5_ParseDuration.j3 kj8 x4_1 t356 t358 false)) else (pairingref5_ParseDuration.j3 kj8 x4_1 t356 t358 true)) = some (r1, r2) := H
                              have A29 := Aside0.mk A290
                              clear A290
                              by_cases c30 : t360 = true
                              · subst c30
                                have H1 : (if x4_1 = true then (if t356 = 0 then (pairingref5_ParseDuration.j3 kj8 x4_1 t356 t358 (t358 == 0)) else (pairingref5_ParseDuration.j3 kj8 x4_1 t356 t358 false)) else (pairingref5_ParseDuration.j3 kj8 x4_1 t356 t358 false)) = some (r1, r2) := by rw [if_pos rfl] at H; exact H
                                clear H
                                have H := H1
                                clear H1
                                by_cases c31 : x4_1 = true
                                · subst c31
                                  have H1 : (if t356 = 0 then (pairingref5_ParseDuration.j3 kj8 true t356 t358 (t358 == 0)) else (pairingref5_ParseDuration.j3 kj8 true t356 t358 false)) = some (r1, r2) := by rw [if_pos rfl] at H; exact H
                                  clear H
                                  have H := H1
                                  clear H1
                                  by_cases c32 : t356 = 0
                                  · rw [if_pos c32] at H
                                    have c32b0 : (t356 == 0) = true := beq_iff_eq.mpr c32
                                    have c32b1 : (t356 != 0) = false := bne_eq_false_iff_eq.mpr c32
                                    clear c32
                                    (first | rw [c32b0] | (simp only [i64_w, i32_w]; rw [c32b0]) | skip)
                                    have H' := Aside0.mk H
                                    clear H
                                    go_wp2_with (first | (go_at_call 51; (with_reducible refine (pairingref5_plain.calls (x0_5.extract 0 ((ji16) : Int).toNat) true _ A29.out).mono ?_); rintro e w' ⟨rfl, ⟨nd, rfl⟩⟩))
                                    go_meet
                                    case rel => exact ⟨_, ((t358 == 0)), (by first | rfl | (simp; done) | (simp [*]; done)), (by first | exact H' | (simp only [hji16, hji20]; exact H')), ⟨by have := HJ1.out; have := HJ5.out; have := HJ8.out; first | omega | exact Nat.le_refl _⟩, by repeat (first | exact Drawn0.refl _ | apply Drawn0.step)⟩
                                  · rw [if_neg c32] at H
                                    have c32b0 : (t356 == 0) = false := beq_eq_false_iff_ne.mpr c32
                                    have c32b1 : (t356 != 0) = true := bne_iff_ne.mpr c32
                                    (first | rw [c32b0] | (simp only [i64_w, i32_w]; rw [c32b0]) | skip)
                                    have H' := Aside0.mk H
                                    clear H
                                    go_wp2_with (first | (go_at_call 51; (with_reducible refine (pairingref5_plain.calls (x0_5.extract 0 ((ji16) : Int).toNat) true _ A29.out).mono ?_); rintro e w' ⟨rfl, ⟨nd, rfl⟩⟩))
                                    go_meet
                                    case rel => exact ⟨_, (false), (by first | rfl | (simp; done) | (simp [*]; done)), (by first | exact H' | (simp only [hji16, hji20]; exact H')), ⟨by have := HJ1.out; have := HJ5.out; have := HJ8.out; first | omega | exact Nat.le_refl _⟩, by repeat (first | exact Drawn0.refl _ | apply Drawn0.step)⟩
                                · replace c31 := Bool.eq_false_iff.mpr c31
                                  subst c31
                                  have H1 : (pairingref5_ParseDuration.j3 kj8 false t356 t358 false) = some (r1, r2) := by rw [if_neg (show ¬ (false = true) by decide)] at H; exact H
                                  clear H
                                  have H := H1
                                  clear H1
                                  have H' := Aside0.mk H
                                  clear H
                                  go_wp2_with (first | (go_at_call 51; (with_reducible refine (pairingref5_plain.calls (x0_5.extract 0 ((ji16) : Int).toNat) true _ A29.out).mono ?_); rintro e w' ⟨rfl, ⟨nd, rfl⟩⟩))
                                  go_meet
                                  case rel => exact ⟨_, (false), (by first | rfl | (simp; done) | (simp [*]; done)), (by first | exact H' | (simp only [hji16, hji20]; exact H')), ⟨by have := HJ1.out; have := HJ5.out; have := HJ8.out; first | omega | exact Nat.le_refl _⟩, by repeat (first | exact Drawn0.refl _ | apply Drawn0.step)⟩
                              · replace c30 := Bool.eq_false_iff.mpr c30
                                subst c30
                                have H1 : (pairingref5_ParseDuration.j3 kj8 x4_1 t356 t358 true) = some (r1, r2) := by rw [if_neg (show ¬ (false = true) by decide)] at H; exact H
                                clear H
                                have H := H1
                                clear H1
                                have H' := Aside0.mk H
                                clear H
                                go_wp2_with (first | (go_at_call 51; (with_reducible refine (pairingref5_plain.calls (x0_5.extract 0 ((ji16) : Int).toNat) false _ A29.out).mono ?_); rintro e w' ⟨rfl, ⟨nd, rfl⟩⟩))
                                go_meet
                                case rel => exact ⟨_, (true), (by first | rfl | (simp; done) | (simp [*]; done)), (by first | exact H' | (simp only [hji16, hji20]; exact H')), ⟨by have := HJ1.out; have := HJ5.out; have := HJ8.out; first | omega | exact Nat.le_refl _⟩, by repeat (first | exact Drawn0.refl _ | apply Drawn0.step)⟩
                            · replace c26 := Bool.eq_false_iff.mpr c26
                              subst c26
                              have H1 : (pairingref5_ParseDuration.j3 kj8 x4_1 t356 t358 true) = some (r1, r2) := by rw [if_neg (show ¬ (false = true) by decide)] at H; exact H
                              clear H
                              have H := H1
                              clear H1
                              have H' := Aside0.mk H
                              clear H
                              go_wp2
                              go_meet
                              case rel => exact ⟨_, (true), (by first | rfl | (simp; done) | (simp [*]; done)), (by first | exact H' | (simp only [hji16, hji20]; exact H')), ⟨by have := HJ1.out; have := HJ5.out; have := HJ8.out; first | omega | exact Nat.le_refl _⟩, by repeat (first | exact Drawn0.refl _ | apply Drawn0.step)⟩
                          · replace c25 := Bool.eq_false_iff.mpr c25
                            subst c25
                            have H1 : (pairingref5_ParseDuration.j3 kj8 x4_1 t356 t358 true) = some (r1, r2) := by rw [if_neg (show ¬ (false = true) by decide)] at H; exact H
                            clear H
                            have H := H1
                            clear H1
                            have H' := Aside0.mk H
                            clear H
                            go_wp2
                            go_meet
                            case rel => exact ⟨_, (true), (by first | rfl | (simp; done) | (simp [*]; done)), (by first | exact H' | (simp only [hji16, hji20]; exact H')), ⟨by have := HJ1.out; have := HJ5.out; have := HJ8.out; first | omega | exact Nat.le_refl _⟩, by repeat (first | exact Drawn0.refl _ | apply Drawn0.step)⟩
                        case rest =>
                          clear HC24
                          try clear c1
                          try clear p1
                          try clear q1
                          try clear hx1
                          try clear c2
                          try clear p2
                          try clear c3
                          try clear c3b0
                          try clear c3b1
                          try clear c4
                          try clear c4b0
                          try clear c4b1
                          try clear c5
                          try clear p5
                          try clear q5
                          try clear hx5
                          try clear qi5
                          try clear p6
                          try clear c7
                          try clear c8
                          try clear c8b0
                          try clear c8b1
                          try clear c10
                          try clear c10b0
                          try clear c12
                          try clear c12b0
                          try clear c13
                          try clear c13b0
                          try clear p14
                          try clear q14
                          try clear hx14
                          try clear c15
                          try clear c17
                          try clear c17b0
                          try clear c17b1
                          try clear c18
                          try clear c18b0
                          try clear c18b1
                          try clear c21
                          try clear c21b0
                          try clear c21b1
                          try clear c22
                          try clear c22b0
                          try clear c22b1
                          try clear c25
                          try clear c26
                          try clear c27
                          try clear c27b0
                          try clear c28
                          try clear c28b0
                          try clear c30
                          try clear c31
                          try clear c32
                          try clear c32b0
                          try clear c32b1
                          try clear p1
                          try clear p14
                          try clear p2
                          try clear p5
                          try clear p6
                          try clear q1
                          try clear q14
                          try clear q5
                          obtain ⟨kq, x71_23, rfl, HA, HJ23, ⟨mc23, rfl⟩⟩ := hcut
                          cases kq with
                          | zero => exact absurd HA.out (by simp [pairingref5_ParseDuration.j3])
                          | succ kj23 =>
                            have H := HA.out
                            clear HA
                            simp only [pairingref5_ParseDuration.j3] at H
                            by_cases c33 : x71_23 = true
                            · subst c33
                              have H1 : (some (0, 1)) = some (r1, r2) := by rw [if_pos rfl] at H; exact H
                              clear H
                              have H := H1
                              clear H1
                              simp only [Option.some.injEq, Prod.mk.injEq] at H
                              obtain ⟨rfl, rfl⟩ := H
                              go_wp2
                              go_ret2
                              exact ⟨by first | rfl | (simp; done) | (simp only [← hji16, ← hji20] <;> (first | rfl | simp)) | (simp [*]; done), by repeat (first | exact Drawn0.refl _ | apply Drawn0.step)⟩
                            · replace c33 := Bool.eq_false_iff.mpr c33
                              subst c33
                              have H1 : (if t358 > 59 then (pairingref5_ParseDuration.j4 kj23 x4_1 (wrap64 ((wrap64 (60 * t356)) + t358)) true) else (pairingref5_ParseDuration.j4 kj23 x4_1 (wrap64 ((wrap64 (60 * t356)) + t358)) (decide ((wrap64 ((wrap64 (60 * t356)) + t358)) > 1099511627776)))) = some (r1, r2) := by rw [if_neg (show ¬ (false = true) by decide)] at H; exact H
                              clear H
                              have H := H1
                              clear H1
                              have HC34 := Aside0.mk H
                              clear H
                              go_upto_region 12 with (fail)
                              go_cut [81] (fun v81 wc => ∃ (kq : Nat) (x81_33 : Bool), v81 = .bool x81_33 ∧ Aside0 (pairingref5_ParseDuration.j4 kq x4_1 (wrap64 ((wrap64 (60 * t356)) + t358)) x81_33 = some (r1, r2)) ∧ Aside0 (kq ≤ kj23) ∧ Drawn0 w wc)
                              case first =>
                                have H := HC34.out
                                clear HC34
                                by_cases c35 : t358 > 59
                                · rw [if_pos c35] at H
                                  have c35b0 : decide (59 < t358) = true := decide_eq_true c35
                                  clear c35
                                  (first | rw [c35b0] | (simp only [i64_w, i32_w]; rw [c35b0]) | skip)
                                  have H' := Aside0.mk H
                                  clear H
                                  go_wp2
                                  go_meet
                                  case rel => exact ⟨_, (true), (by first | rfl | (simp; done) | (simp [*]; done)), (by first | exact H' | (simp only [hji16, hji20]; exact H')), ⟨by have := HJ1.out; have := HJ5.out; have := HJ8.out; have := HJ23.out; first | omega | exact Nat.le_refl _⟩, by repeat (first | exact Drawn0.refl _ | apply Drawn0.step)⟩
                                · rw [if_neg c35] at H
                                  have c35b0 : decide (59 < t358) = false := decide_eq_false c35
                                  clear c35
                                  (first | rw [c35b0] | (simp only [i64_w, i32_w]; rw [c35b0]) | skip)
                                  have H' := Aside0.mk H
                                  clear H
                                  go_wp2
                                  go_meet
                                  case rel => exact ⟨_, (decide ((wrap64 ((wrap64 (60 * t356)) + t358)) > 1099511627776)), (by first | rfl | (simp; done) | (simp [*]; done)), (by first | exact H' | (simp only [hji16, hji20]; exact H')), ⟨by have := HJ1.out; have := HJ5.out; have := HJ8.out; have := HJ23.out; first | omega | exact Nat.le_refl _⟩, by repeat (first | exact Drawn0.refl _ | apply Drawn0.step)⟩
                              case rest =>
                                clear HC34
                                try clear c1
                                try clear p1
                                try clear q1
                                try clear hx1
                                try clear c2
                                try clear p2
                                try clear c3
                                try clear c3b0
                                try clear c3b1
                                try clear c4
                                try clear c4b0
                                try clear c4b1
                                try clear c5
                                try clear p5
                                try clear q5
                                try clear hx5
                                try clear qi5
                                try clear p6
                                try clear c7
                                try clear c8
                                try clear c8b0
                                try clear c8b1
                                try clear c10
                                try clear c10b0
                                try clear c12
                                try clear c12b0
                                try clear c13
                                try clear c13b0
                                try clear p14
                                try clear q14
                                try clear hx14
                                try clear c15
                                try clear c17
                                try clear c17b0
                                try clear c17b1
                                try clear c18
                                try clear c18b0
                                try clear c18b1
                                try clear c21
                                try clear c21b0
                                try clear c21b1
                                try clear c22
                                try clear c22b0
                                try clear c22b1
                                try clear c23
                                try clear c25
                                try clear c26
                                try clear c27
                                try clear c27b0
                                try clear c28
                                try clear c28b0
                                try clear c30
                                try clear c31
                                try clear c32
                                try clear c32b0
                                try clear c32b1
                                try clear c33
                                try clear c35
                                try clear c35b0
                                try clear p1
                                try clear p14
                                try clear p2
                                try clear p5
                                try clear p6
                                try clear q1
                                try clear q14
                                try clear q5
                                obtain ⟨kq, x81_33, rfl, HA, HJ33, ⟨mc33, rfl⟩⟩ := hcut
                                cases kq with
                                | zero => exact absurd HA.out (by simp [pairingref5_ParseDuration.j4])
                                | succ kj33 =>
                                  have H := HA.out
                                  clear HA
                                  simp only [pairingref5_ParseDuration.j4] at H
                                  by_cases c36 : x81_33 = true
                                  · subst c36
                                    have H1 : (some (0, 5)) = some (r1, r2) := by rw [if_pos rfl] at H; exact H
                                    clear H
                                    have H := H1
                                    clear H1
                                    simp only [Option.some.injEq, Prod.mk.injEq] at H
                                    obtain ⟨rfl, rfl⟩ := H
                                    go_wp2
                                    go_ret2
                                    exact ⟨by first | rfl | (simp; done) | (simp only [← hji16, ← hji20] <;> (first | rfl | simp)) | (simp [*]; done), by repeat (first | exact Drawn0.refl _ | apply Drawn0.step)⟩
                                  · replace c36 := Bool.eq_false_iff.mpr c36
                                    subst c36
                                    have H1 : (if x4_1 = true then (some (wrap64 (-(wrap64 ((wrap64 (60 * t356)) + t358))), 0)) else (some ((wrap64 ((wrap64 (60 * t356)) + t358)), 0))) = some (r1, r2) := by rw [if_neg (show ¬ (false = true) by decide)] at H; exact H
                                    clear H
                                    have H := H1
                                    clear H1
                                    by_cases c37 : x4_1 = true
                                    · subst c37
                                      have H1 : (some (wrap64 (-(wrap64 ((wrap64 (60 * t356)) + t358))), 0)) = some (r1, r2) := by rw [if_pos rfl] at H; exact H
                                      clear H
                                      have H := H1
                                      clear H1
                                      simp only [Option.some.injEq, Prod.mk.injEq] at H
                                      obtain ⟨rfl, rfl⟩ := H
                                      go_wp2
                                      go_ret2
                                      exact ⟨by first | rfl | (simp; done) | (simp only [← hji16, ← hji20] <;> (first | rfl | simp)) | (simp [*]; done), by repeat (first | exact Drawn0.refl _ | apply Drawn0.step)⟩
                                    · replace c37 := Bool.eq_false_iff.mpr c37
                                      subst c37
                                      have H1 : (some ((wrap64 ((wrap64 (60 * t356)) + t358)), 0)) = some (r1, r2) := by rw [if_neg (show ¬ (false = true) by decide)] at H; exact H
                                      clear H
                                      have H := H1
                                      clear H1
                                      simp only [Option.some.injEq, Prod.mk.injEq] at H
                                      obtain ⟨rfl, rfl⟩ := H
                                      go_wp2
                                      go_ret2
                                      exact ⟨by first | rfl | (simp; done) | (simp only [← hji16, ← hji20] <;> (first | rfl | simp)) | (simp [*]; done), by repeat (first | exact Drawn0.refl _ | apply Drawn0.step)⟩
                      · rw [if_neg c22] at H
                        exact absurd H (by simp)
                    · rw [if_neg c21] at H
                      exact absurd H (by simp)
                  · rw [if_neg c18] at H
                    exact absurd H (by simp)
                · rw [if_neg c17] at H
                  exact absurd H (by simp)

/-! ### calendar_FormatDuration: function 37 -/
def calendar_FormatDuration.j0 : Nat → Int → Bool → Option (ByteArray × Int)
  | 0, _, _ => none
  | k + 1, x0, x10 => if x10 = true then (some ((⟨#[]⟩ : ByteArray), 5)) else (if x0 < 0 then ((strconv_Itoa.f (wrap64 (Int.tdiv (wrap64 (-x0)) 60))).bind fun t361 => (if 1 + t361.size ≤ 9223372036854775807 then (if 1 + t361.size + 1 ≤ 9223372036854775807 then ((calendar_pad.f k (Int.tmod (wrap64 (-x0)) 60) 2).bind fun t362 => (if 1 + t361.size + 1 + t362.size ≤ 9223372036854775807 then (some ((((⟨#[45]⟩ : ByteArray) ++ t361) ++ (⟨#[58]⟩ : ByteArray)) ++ t362, 0)) else (none))) else (none)) else (none))) else ((strconv_Itoa.f (wrap64 (Int.tdiv x0 60))).bind fun t363 => (if 0 + t363.size ≤ 9223372036854775807 then (if 0 + t363.size + 1 ≤ 9223372036854775807 then ((calendar_pad.f k (Int.tmod x0 60) 2).bind fun t364 => (if 0 + t363.size + 1 + t364.size ≤ 9223372036854775807 then (some ((((⟨#[]⟩ : ByteArray) ++ t363) ++ (⟨#[58]⟩ : ByteArray)) ++ t364, 0)) else (none))) else (none)) else (none))))
def calendar_FormatDuration.f (k : Nat) (a0 : Int) : Option (ByteArray × Int) := if a0 < (-1099511627776) then (calendar_FormatDuration.j0 k a0 true) else (calendar_FormatDuration.j0 k a0 (decide (a0 > 1099511627776)))
theorem calendar_FormatDuration.mono_l : ∀ k, (∀ y0 y1, LeO (calendar_FormatDuration.j0 k y0 y1) (calendar_FormatDuration.j0 (k + 1) y0 y1))
  | 0 => fun _ _ r h => by simp [calendar_FormatDuration.j0] at h
  | k + 1 => by
    have ih0 := calendar_FormatDuration.mono_l k
    · intro y0 y1
      unfold calendar_FormatDuration.j0
      repeat' first
      | (with_reducible exact ih0 _ _)
      | (with_reducible exact calendar_pad.mono _ _ _)
      | (with_reducible exact LeO.refl _)
      | (with_reducible exact LeO.none _)
      | (with_reducible refine LeO.ite ?_ ?_)
      | (with_reducible refine LeO.bind ?_ (fun _ => ?_))
      | exact ih0 _ _
      | exact calendar_pad.mono _ _ _
      | exact LeO.none _
      | refine LeO.ite ?_ ?_
      | refine LeO.bind ?_ (fun _ => ?_)
theorem calendar_FormatDuration.mono : ∀ a0 k, LeO (calendar_FormatDuration.f k a0) (calendar_FormatDuration.f (k + 1) a0) := by
  intro a0 k
  have ih0 := calendar_FormatDuration.mono_l k
  unfold calendar_FormatDuration.f
  repeat' first
      | (with_reducible exact ih0 _ _)
      | (with_reducible exact calendar_pad.mono _ _ _)
      | (with_reducible exact LeO.refl _)
      | (with_reducible exact LeO.none _)
      | (with_reducible refine LeO.ite ?_ ?_)
      | (with_reducible refine LeO.bind ?_ (fun _ => ?_))
      | exact ih0 _ _
      | exact calendar_pad.mono _ _ _
      | exact LeO.none _
      | refine LeO.ite ?_ ?_
      | refine LeO.bind ?_ (fun _ => ?_)
set_option maxHeartbeats 8000000 in
set_option maxRecDepth 100000 in
theorem calendar_FormatDuration.calls (k : Nat) (a0 : Int) (r1 : ByteArray) (r2 : Int) (w : World) (hT_p10 : Tab_p10 w) (h : calendar_FormatDuration.f k a0 = some (r1, r2)) :
    Calls Tryd.prog 37 #[.int .i64 a0] w fun e w' => e = .returned (.tuple #[.string r1, .int .i64 r2]) ∧ Below w.heap.size w w' := by
  have HB := Aside0.mk (Below.refl w.heap.size w)
  have H : (if a0 < (-1099511627776) then (calendar_FormatDuration.j0 k a0 true) else (calendar_FormatDuration.j0 k a0 (decide (a0 > 1099511627776)))) = some (r1, r2) := h
  clear h
  have HC2 := Aside0.mk H
  clear H
  go_enter Tryd.func37, Tryd.ntmps37
  go_upto_region 1 with (fail)
  go_cut [10] (fun v10 wc => ∃ (kq : Nat) (x10_1 : Bool), v10 = .bool x10_1 ∧ Aside0 (calendar_FormatDuration.j0 kq a0 x10_1 = some (r1, r2)) ∧ Aside0 (kq ≤ k) ∧ Aside0 (Below w.heap.size w wc))
  case first =>
    have H := HC2.out
    clear HC2
    by_cases c3 : a0 < (-1099511627776)
    · rw [if_pos c3] at H
      have c3b0 : decide (a0 < (-1099511627776)) = true := decide_eq_true c3
      clear c3
      (first | rw [c3b0] | (simp only [i64_w, i32_w]; rw [c3b0]) | skip)
      have H' := Aside0.mk H
      clear H
      go_wp2
      go_meet
      case rel => exact ⟨_, (true), (by first | rfl | (simp; done) | (simp [*]; done)), H', ⟨by first | omega | exact Nat.le_refl _⟩, ⟨by repeat (first | (with_reducible first | exact HB.out | apply below_alloc | apply pw_below_drewN | apply below_drew1) | exact HB.out)⟩⟩
    · rw [if_neg c3] at H
      have c3b0 : decide (a0 < (-1099511627776)) = false := decide_eq_false c3
      clear c3
      (first | rw [c3b0] | (simp only [i64_w, i32_w]; rw [c3b0]) | skip)
      have H' := Aside0.mk H
      clear H
      go_wp2
      go_meet
      case rel => exact ⟨_, (decide (a0 > 1099511627776)), (by first | rfl | (simp; done) | (simp [*]; done)), H', ⟨by first | omega | exact Nat.le_refl _⟩, ⟨by repeat (first | (with_reducible first | exact HB.out | apply below_alloc | apply pw_below_drewN | apply below_drew1) | exact HB.out)⟩⟩
  case rest =>
    clear HC2
    try clear p2
    try clear c3
    try clear c3b0
    obtain ⟨kq, x10_1, rfl, HA, HJ1, HB⟩ := hcut
    cases kq with
    | zero => exact absurd HA.out (by simp [calendar_FormatDuration.j0])
    | succ kj1 =>
      have H := HA.out
      clear HA
      simp only [calendar_FormatDuration.j0] at H
      by_cases c4 : x10_1 = true
      · subst c4
        have H1 : (some ((⟨#[]⟩ : ByteArray), 5)) = some (r1, r2) := by rw [if_pos rfl] at H; exact H
        clear H
        have H := H1
        clear H1
        simp only [Option.some.injEq, Prod.mk.injEq] at H
        obtain ⟨rfl, rfl⟩ := H
        go_wp2
        go_ret2
        exact ⟨by first | rfl | (simp [errW_none, errW_some] <;> rfl) | (simp [*, errW_none, errW_some] <;> rfl), by repeat (first | (with_reducible first | exact HB.out | apply below_alloc | apply pw_below_drewN | apply below_drew1) | exact HB.out)⟩
      · replace c4 := Bool.eq_false_iff.mpr c4
        subst c4
        have H1 : (if a0 < 0 then ((strconv_Itoa.f (wrap64 (Int.tdiv (wrap64 (-a0)) 60))).bind fun t361 => (if 1 + t361.size ≤ 9223372036854775807 then (if 1 + t361.size + 1 ≤ 9223372036854775807 then ((calendar_pad.f kj1 (Int.tmod (wrap64 (-a0)) 60) 2).bind fun t362 => (if 1 + t361.size + 1 + t362.size ≤ 9223372036854775807 then (some ((((⟨#[45]⟩ : ByteArray) ++ t361) ++ (⟨#[58]⟩ : ByteArray)) ++ t362, 0)) else (none))) else (none)) else (none))) else ((strconv_Itoa.f (wrap64 (Int.tdiv a0 60))).bind fun t363 => (if 0 + t363.size ≤ 9223372036854775807 then (if 0 + t363.size + 1 ≤ 9223372036854775807 then ((calendar_pad.f kj1 (Int.tmod a0 60) 2).bind fun t364 => (if 0 + t363.size + 1 + t364.size ≤ 9223372036854775807 then (some ((((⟨#[]⟩ : ByteArray) ++ t363) ++ (⟨#[58]⟩ : ByteArray)) ++ t364, 0)) else (none))) else (none)) else (none)))) = some (r1, r2) := by rw [if_neg (show ¬ (false = true) by decide)] at H; exact H
        clear H
        have H := H1
        clear H1
        by_cases c5 : a0 < 0
        · rw [if_pos c5] at H
          have c5b0 : decide (a0 < 0) = true := decide_eq_true c5
          clear c5
          replace H := Option.bind_eq_some_iff.mp H
          obtain ⟨t361, A60, H⟩ := H
          replace H : (if 1 + t361.size ≤ 9223372036854775807 then (if 1 + t361.size + 1 ≤ 9223372036854775807 then ((calendar_pad.f kj1 (Int.tmod (wrap64 (-a0)) 60) 2).bind fun t362 => (if 1 + t361.size + 1 + t362.size ≤ 9223372036854775807 then (some ((((⟨#[45]⟩ : ByteArray) ++ t361) ++ (⟨#[58]⟩ : ByteArray)) ++ t362, 0)) else (none))) else (none)) else (none)) = some (r1, r2) := H
          have A6 := Aside0.mk A60
          clear A60
          by_cases c7 : 1 + t361.size ≤ 9223372036854775807
          · rw [if_pos c7] at H
            have c7b0 := eq_true c7
            have c7b1 : decide (1 + t361.size ≤ 9223372036854775807) = true := decide_eq_true c7
            try have c7b2 : (9223372036854775807 < 1 + t361.size) = False := eq_false (Nat.not_lt.2 c7)
            by_cases c8 : 1 + t361.size + 1 ≤ 9223372036854775807
            · rw [if_pos c8] at H
              have c8b0 := eq_true c8
              have c8b1 : decide (1 + t361.size + 1 ≤ 9223372036854775807) = true := decide_eq_true c8
              try have c8b2 : (9223372036854775807 < 1 + t361.size + 1) = False := eq_false (Nat.not_lt.2 c8)
              replace H := Option.bind_eq_some_iff.mp H
              obtain ⟨t362, A90, H⟩ := H
              replace H : (if 1 + t361.size + 1 + t362.size ≤ 9223372036854775807 then (some ((((⟨#[45]⟩ : ByteArray) ++ t361) ++ (⟨#[58]⟩ : ByteArray)) ++ t362, 0)) else (none)) = some (r1, r2) := H
              have A9 := Aside0.mk A90
              clear A90
              by_cases c10 : 1 + t361.size + 1 + t362.size ≤ 9223372036854775807
              · rw [if_pos c10] at H
                have c10b0 := eq_true c10
                have c10b1 : decide (1 + t361.size + 1 + t362.size ≤ 9223372036854775807) = true := decide_eq_true c10
                try have c10b2 : (9223372036854775807 < 1 + t361.size + 1 + t362.size) = False := eq_false (Nat.not_lt.2 c10)
                simp only [Option.some.injEq, Prod.mk.injEq] at H
                obtain ⟨rfl, rfl⟩ := H
                go_wp2_with (first | ((with_reducible refine gate_callee (f := 52) rfl ?_); refine goesL_ (some 18) rfl rfl Tryd.func52 (by kernel_rfl) rfl #[.int .i64 (wrap64 (Int.tdiv (wrap64 (-a0)) 60))] rfl (by (try simp only [List.map_toArray, List.map_cons, List.map_nil]); first | done | rfl | (simp only [List.length_drop, List.length_take]; rfl)) ?_; (with_reducible refine (strconv_Itoa.calls (wrap64 (Int.tdiv (wrap64 (-a0)) 60)) t361 _ ?side1 A6.out).mono ?_); (case side1 => first | (with_reducible exact hT_p10) | exact Tab_p10.below hT_p10 (by repeat (first | (with_reducible first | exact HB.out | apply below_alloc | apply pw_below_drewN | apply below_drew1) | exact HB.out))); rintro e w11 ⟨rfl, hb⟩; refine ⟨_, rfl, ?_⟩; have n0_ := Aside0.mk (below_step (by repeat (first | (with_reducible first | exact HB.out | apply below_alloc | apply pw_below_drewN | apply below_drew1) | exact HB.out)) hb); clear HB; have HB := n0_; clear n0_; (try clear hb); (try clear hb2); (try clear hk); (try clear hi)) | ((with_reducible refine gate_callee (f := 47) rfl ?_); refine goesL_ (some 23) rfl rfl Tryd.func47 (by kernel_rfl) rfl #[.int .i64 (Int.tmod (wrap64 (-a0)) 60), .int .i64 2] rfl (by (try simp only [List.map_toArray, List.map_cons, List.map_nil]); first | done | rfl | (simp only [List.length_drop, List.length_take]; rfl)) ?_; (with_reducible refine (calendar_pad.calls kj1 (Int.tmod (wrap64 (-a0)) 60) 2 t362 _ ?side1 A9.out).mono ?_); (case side1 => first | (with_reducible exact hT_p10) | exact Tab_p10.below hT_p10 (by repeat (first | (with_reducible first | exact HB.out | apply below_alloc | apply pw_below_drewN | apply below_drew1) | exact HB.out))); rintro e w12 ⟨rfl, hb⟩; refine ⟨_, rfl, ?_⟩; have n0_ := Aside0.mk (below_step (by repeat (first | (with_reducible first | exact HB.out | apply below_alloc | apply pw_below_drewN | apply below_drew1) | exact HB.out)) hb); clear HB; have HB := n0_; clear n0_; (try clear hb); (try clear hb2); (try clear hk); (try clear hi)))
                go_ret2
                exact ⟨by first | rfl | (simp [errW_none, errW_some] <;> rfl) | (simp [*, errW_none, errW_some] <;> rfl), by repeat (first | (with_reducible first | exact HB.out | apply below_alloc | apply pw_below_drewN | apply below_drew1) | exact HB.out)⟩
              · rw [if_neg c10] at H
                exact absurd H (by simp)
            · rw [if_neg c8] at H
              exact absurd H (by simp)
          · rw [if_neg c7] at H
            exact absurd H (by simp)
        · rw [if_neg c5] at H
          have c5b0 : decide (a0 < 0) = false := decide_eq_false c5
          clear c5
          replace H := Option.bind_eq_some_iff.mp H
          obtain ⟨t363, A130, H⟩ := H
          replace H : (if 0 + t363.size ≤ 9223372036854775807 then (if 0 + t363.size + 1 ≤ 9223372036854775807 then ((calendar_pad.f kj1 (Int.tmod a0 60) 2).bind fun t364 => (if 0 + t363.size + 1 + t364.size ≤ 9223372036854775807 then (some ((((⟨#[]⟩ : ByteArray) ++ t363) ++ (⟨#[58]⟩ : ByteArray)) ++ t364, 0)) else (none))) else (none)) else (none)) = some (r1, r2) := H
          have A13 := Aside0.mk A130
          clear A130
          by_cases c14 : 0 + t363.size ≤ 9223372036854775807
          · rw [if_pos c14] at H
            have c14b0 := eq_true c14
            have c14b1 : decide (0 + t363.size ≤ 9223372036854775807) = true := decide_eq_true c14
            try have c14b2 : (9223372036854775807 < 0 + t363.size) = False := eq_false (Nat.not_lt.2 c14)
            by_cases c15 : 0 + t363.size + 1 ≤ 9223372036854775807
            · rw [if_pos c15] at H
              have c15b0 := eq_true c15
              have c15b1 : decide (0 + t363.size + 1 ≤ 9223372036854775807) = true := decide_eq_true c15
              try have c15b2 : (9223372036854775807 < 0 + t363.size + 1) = False := eq_false (Nat.not_lt.2 c15)
              replace H := Option.bind_eq_some_iff.mp H
              obtain ⟨t364, A160, H⟩ := H
              replace H : (if 0 + t363.size + 1 + t364.size ≤ 9223372036854775807 then (some ((((⟨#[]⟩ : ByteArray) ++ t363) ++ (⟨#[58]⟩ : ByteArray)) ++ t364, 0)) else (none)) = some (r1, r2) := H
              have A16 := Aside0.mk A160
              clear A160
              by_cases c17 : 0 + t363.size + 1 + t364.size ≤ 9223372036854775807
              · rw [if_pos c17] at H
                have c17b0 := eq_true c17
                have c17b1 : decide (0 + t363.size + 1 + t364.size ≤ 9223372036854775807) = true := decide_eq_true c17
                try have c17b2 : (9223372036854775807 < 0 + t363.size + 1 + t364.size) = False := eq_false (Nat.not_lt.2 c17)
                simp only [Option.some.injEq, Prod.mk.injEq] at H
                obtain ⟨rfl, rfl⟩ := H
                go_wp2_with (first | ((with_reducible refine gate_callee (f := 52) rfl ?_); refine goesL_ (some 18) rfl rfl Tryd.func52 (by kernel_rfl) rfl #[.int .i64 (wrap64 (Int.tdiv a0 60))] rfl (by (try simp only [List.map_toArray, List.map_cons, List.map_nil]); first | done | rfl | (simp only [List.length_drop, List.length_take]; rfl)) ?_; (with_reducible refine (strconv_Itoa.calls (wrap64 (Int.tdiv a0 60)) t363 _ ?side1 A13.out).mono ?_); (case side1 => first | (with_reducible exact hT_p10) | exact Tab_p10.below hT_p10 (by repeat (first | (with_reducible first | exact HB.out | apply below_alloc | apply pw_below_drewN | apply below_drew1) | exact HB.out))); rintro e w18 ⟨rfl, hb⟩; refine ⟨_, rfl, ?_⟩; have n0_ := Aside0.mk (below_step (by repeat (first | (with_reducible first | exact HB.out | apply below_alloc | apply pw_below_drewN | apply below_drew1) | exact HB.out)) hb); clear HB; have HB := n0_; clear n0_; (try clear hb); (try clear hb2); (try clear hk); (try clear hi)) | ((with_reducible refine gate_callee (f := 47) rfl ?_); refine goesL_ (some 23) rfl rfl Tryd.func47 (by kernel_rfl) rfl #[.int .i64 (Int.tmod a0 60), .int .i64 2] rfl (by (try simp only [List.map_toArray, List.map_cons, List.map_nil]); first | done | rfl | (simp only [List.length_drop, List.length_take]; rfl)) ?_; (with_reducible refine (calendar_pad.calls kj1 (Int.tmod a0 60) 2 t364 _ ?side1 A16.out).mono ?_); (case side1 => first | (with_reducible exact hT_p10) | exact Tab_p10.below hT_p10 (by repeat (first | (with_reducible first | exact HB.out | apply below_alloc | apply pw_below_drewN | apply below_drew1) | exact HB.out))); rintro e w19 ⟨rfl, hb⟩; refine ⟨_, rfl, ?_⟩; have n0_ := Aside0.mk (below_step (by repeat (first | (with_reducible first | exact HB.out | apply below_alloc | apply pw_below_drewN | apply below_drew1) | exact HB.out)) hb); clear HB; have HB := n0_; clear n0_; (try clear hb); (try clear hb2); (try clear hk); (try clear hi)))
                go_ret2
                exact ⟨by first | rfl | (simp [errW_none, errW_some] <;> rfl) | (simp [*, errW_none, errW_some] <;> rfl), by repeat (first | (with_reducible first | exact HB.out | apply below_alloc | apply pw_below_drewN | apply below_drew1) | exact HB.out)⟩
              · rw [if_neg c17] at H
                exact absurd H (by simp)
            · rw [if_neg c15] at H
              exact absurd H (by simp)
          · rw [if_neg c14] at H
            exact absurd H (by simp)

/-! ### pairingref5_FormatDuration: function 38 -/
def pairingref5_FormatDuration.j0 : Nat → Int → Bool → Option (ByteArray × Int)
  | 0, _, _ => none
  | k + 1, x0, x10 => if x10 = true then (some ((⟨#[]⟩ : ByteArray), 5)) else (if x0 < 0 then ((pairingref5_FormatInt.f (wrap64 (Int.tdiv (wrap64 (-x0)) 60))).bind fun t365 => (if 1 + t365.size ≤ 9223372036854775807 then (if 1 + t365.size + 1 ≤ 9223372036854775807 then ((pairingref5_two.f k (Int.tmod (wrap64 (-x0)) 60) 2).bind fun t366 => (if 1 + t365.size + 1 + t366.size ≤ 9223372036854775807 then (some ((((⟨#[45]⟩ : ByteArray) ++ t365) ++ (⟨#[58]⟩ : ByteArray)) ++ t366, 0)) else (none))) else (none)) else (none))) else ((pairingref5_FormatInt.f (wrap64 (Int.tdiv x0 60))).bind fun t367 => (if 0 + t367.size ≤ 9223372036854775807 then (if 0 + t367.size + 1 ≤ 9223372036854775807 then ((pairingref5_two.f k (Int.tmod x0 60) 2).bind fun t368 => (if 0 + t367.size + 1 + t368.size ≤ 9223372036854775807 then (some ((((⟨#[]⟩ : ByteArray) ++ t367) ++ (⟨#[58]⟩ : ByteArray)) ++ t368, 0)) else (none))) else (none)) else (none))))
def pairingref5_FormatDuration.f (k : Nat) (a0 : Int) : Option (ByteArray × Int) := if a0 < (-1099511627776) then (pairingref5_FormatDuration.j0 k a0 true) else (pairingref5_FormatDuration.j0 k a0 (decide (a0 > 1099511627776)))
theorem pairingref5_FormatDuration.mono_l : ∀ k, (∀ y0 y1, LeO (pairingref5_FormatDuration.j0 k y0 y1) (pairingref5_FormatDuration.j0 (k + 1) y0 y1))
  | 0 => fun _ _ r h => by simp [pairingref5_FormatDuration.j0] at h
  | k + 1 => by
    have ih0 := pairingref5_FormatDuration.mono_l k
    · intro y0 y1
      unfold pairingref5_FormatDuration.j0
      repeat' first
      | (with_reducible exact ih0 _ _)
      | (with_reducible exact pairingref5_two.mono _ _ _)
      | (with_reducible exact LeO.refl _)
      | (with_reducible exact LeO.none _)
      | (with_reducible refine LeO.ite ?_ ?_)
      | (with_reducible refine LeO.bind ?_ (fun _ => ?_))
      | exact ih0 _ _
      | exact pairingref5_two.mono _ _ _
      | exact LeO.none _
      | refine LeO.ite ?_ ?_
      | refine LeO.bind ?_ (fun _ => ?_)
theorem pairingref5_FormatDuration.mono : ∀ a0 k, LeO (pairingref5_FormatDuration.f k a0) (pairingref5_FormatDuration.f (k + 1) a0) := by
  intro a0 k
  have ih0 := pairingref5_FormatDuration.mono_l k
  unfold pairingref5_FormatDuration.f
  repeat' first
      | (with_reducible exact ih0 _ _)
      | (with_reducible exact pairingref5_two.mono _ _ _)
      | (with_reducible exact LeO.refl _)
      | (with_reducible exact LeO.none _)
      | (with_reducible refine LeO.ite ?_ ?_)
      | (with_reducible refine LeO.bind ?_ (fun _ => ?_))
      | exact ih0 _ _
      | exact pairingref5_two.mono _ _ _
      | exact LeO.none _
      | refine LeO.ite ?_ ?_
      | refine LeO.bind ?_ (fun _ => ?_)
set_option maxHeartbeats 8000000 in
set_option maxRecDepth 100000 in
theorem pairingref5_FormatDuration.calls (k : Nat) (a0 : Int) (r1 : ByteArray) (r2 : Int) (w : World) (hT_p10 : Tab_p10 w) (h : pairingref5_FormatDuration.f k a0 = some (r1, r2)) :
    Calls Tryd.prog 38 #[.int .i64 a0] w fun e w' => e = .returned (.tuple #[.string r1, .int .i64 r2]) ∧ Below w.heap.size w w' := by
  have HB := Aside0.mk (Below.refl w.heap.size w)
  have H : (if a0 < (-1099511627776) then (pairingref5_FormatDuration.j0 k a0 true) else (pairingref5_FormatDuration.j0 k a0 (decide (a0 > 1099511627776)))) = some (r1, r2) := h
  clear h
  have HC2 := Aside0.mk H
  clear H
  go_enter Tryd.func38, Tryd.ntmps38
  go_upto_region 1 with (fail)
  go_cut [10] (fun v10 wc => ∃ (kq : Nat) (x10_1 : Bool), v10 = .bool x10_1 ∧ Aside0 (pairingref5_FormatDuration.j0 kq a0 x10_1 = some (r1, r2)) ∧ Aside0 (kq ≤ k) ∧ Aside0 (Below w.heap.size w wc))
  case first =>
    have H := HC2.out
    clear HC2
    by_cases c3 : a0 < (-1099511627776)
    · rw [if_pos c3] at H
      have c3b0 : decide (a0 < (-1099511627776)) = true := decide_eq_true c3
      clear c3
      (first | rw [c3b0] | (simp only [i64_w, i32_w]; rw [c3b0]) | skip)
      have H' := Aside0.mk H
      clear H
      go_wp2
      go_meet
      case rel => exact ⟨_, (true), (by first | rfl | (simp; done) | (simp [*]; done)), H', ⟨by first | omega | exact Nat.le_refl _⟩, ⟨by repeat (first | (with_reducible first | exact HB.out | apply below_alloc | apply pw_below_drewN | apply below_drew1) | exact HB.out)⟩⟩
    · rw [if_neg c3] at H
      have c3b0 : decide (a0 < (-1099511627776)) = false := decide_eq_false c3
      clear c3
      (first | rw [c3b0] | (simp only [i64_w, i32_w]; rw [c3b0]) | skip)
      have H' := Aside0.mk H
      clear H
      go_wp2
      go_meet
      case rel => exact ⟨_, (decide (a0 > 1099511627776)), (by first | rfl | (simp; done) | (simp [*]; done)), H', ⟨by first | omega | exact Nat.le_refl _⟩, ⟨by repeat (first | (with_reducible first | exact HB.out | apply below_alloc | apply pw_below_drewN | apply below_drew1) | exact HB.out)⟩⟩
  case rest =>
    clear HC2
    try clear p2
    try clear c3
    try clear c3b0
    obtain ⟨kq, x10_1, rfl, HA, HJ1, HB⟩ := hcut
    cases kq with
    | zero => exact absurd HA.out (by simp [pairingref5_FormatDuration.j0])
    | succ kj1 =>
      have H := HA.out
      clear HA
      simp only [pairingref5_FormatDuration.j0] at H
      by_cases c4 : x10_1 = true
      · subst c4
        have H1 : (some ((⟨#[]⟩ : ByteArray), 5)) = some (r1, r2) := by rw [if_pos rfl] at H; exact H
        clear H
        have H := H1
        clear H1
        simp only [Option.some.injEq, Prod.mk.injEq] at H
        obtain ⟨rfl, rfl⟩ := H
        go_wp2
        go_ret2
        exact ⟨by first | rfl | (simp [errW_none, errW_some] <;> rfl) | (simp [*, errW_none, errW_some] <;> rfl), by repeat (first | (with_reducible first | exact HB.out | apply below_alloc | apply pw_below_drewN | apply below_drew1) | exact HB.out)⟩
      · replace c4 := Bool.eq_false_iff.mpr c4
        subst c4
        have H1 : (if a0 < 0 then ((pairingref5_FormatInt.f (wrap64 (Int.tdiv (wrap64 (-a0)) 60))).bind fun t365 => (if 1 + t365.size ≤ 9223372036854775807 then (if 1 + t365.size + 1 ≤ 9223372036854775807 then ((pairingref5_two.f kj1 (Int.tmod (wrap64 (-a0)) 60) 2).bind fun t366 => (if 1 + t365.size + 1 + t366.size ≤ 9223372036854775807 then (some ((((⟨#[45]⟩ : ByteArray) ++ t365) ++ (⟨#[58]⟩ : ByteArray)) ++ t366, 0)) else (none))) else (none)) else (none))) else ((pairingref5_FormatInt.f (wrap64 (Int.tdiv a0 60))).bind fun t367 => (if 0 + t367.size ≤ 9223372036854775807 then (if 0 + t367.size + 1 ≤ 9223372036854775807 then ((pairingref5_two.f kj1 (Int.tmod a0 60) 2).bind fun t368 => (if 0 + t367.size + 1 + t368.size ≤ 9223372036854775807 then (some ((((⟨#[]⟩ : ByteArray) ++ t367) ++ (⟨#[58]⟩ : ByteArray)) ++ t368, 0)) else (none))) else (none)) else (none)))) = some (r1, r2) := by rw [if_neg (show ¬ (false = true) by decide)] at H; exact H
        clear H
        have H := H1
        clear H1
        by_cases c5 : a0 < 0
        · rw [if_pos c5] at H
          have c5b0 : decide (a0 < 0) = true := decide_eq_true c5
          clear c5
          replace H := Option.bind_eq_some_iff.mp H
          obtain ⟨t365, A60, H⟩ := H
          replace H : (if 1 + t365.size ≤ 9223372036854775807 then (if 1 + t365.size + 1 ≤ 9223372036854775807 then ((pairingref5_two.f kj1 (Int.tmod (wrap64 (-a0)) 60) 2).bind fun t366 => (if 1 + t365.size + 1 + t366.size ≤ 9223372036854775807 then (some ((((⟨#[45]⟩ : ByteArray) ++ t365) ++ (⟨#[58]⟩ : ByteArray)) ++ t366, 0)) else (none))) else (none)) else (none)) = some (r1, r2) := H
          have A6 := Aside0.mk A60
          clear A60
          by_cases c7 : 1 + t365.size ≤ 9223372036854775807
          · rw [if_pos c7] at H
            have c7b0 := eq_true c7
            have c7b1 : decide (1 + t365.size ≤ 9223372036854775807) = true := decide_eq_true c7
            try have c7b2 : (9223372036854775807 < 1 + t365.size) = False := eq_false (Nat.not_lt.2 c7)
            by_cases c8 : 1 + t365.size + 1 ≤ 9223372036854775807
            · rw [if_pos c8] at H
              have c8b0 := eq_true c8
              have c8b1 : decide (1 + t365.size + 1 ≤ 9223372036854775807) = true := decide_eq_true c8
              try have c8b2 : (9223372036854775807 < 1 + t365.size + 1) = False := eq_false (Nat.not_lt.2 c8)
              replace H := Option.bind_eq_some_iff.mp H
              obtain ⟨t366, A90, H⟩ := H
              replace H : (if 1 + t365.size + 1 + t366.size ≤ 9223372036854775807 then (some ((((⟨#[45]⟩ : ByteArray) ++ t365) ++ (⟨#[58]⟩ : ByteArray)) ++ t366, 0)) else (none)) = some (r1, r2) := H
              have A9 := Aside0.mk A90
              clear A90
              by_cases c10 : 1 + t365.size + 1 + t366.size ≤ 9223372036854775807
              · rw [if_pos c10] at H
                have c10b0 := eq_true c10
                have c10b1 : decide (1 + t365.size + 1 + t366.size ≤ 9223372036854775807) = true := decide_eq_true c10
                try have c10b2 : (9223372036854775807 < 1 + t365.size + 1 + t366.size) = False := eq_false (Nat.not_lt.2 c10)
                simp only [Option.some.injEq, Prod.mk.injEq] at H
                obtain ⟨rfl, rfl⟩ := H
                go_wp2_with (first | ((with_reducible refine gate_callee (f := 53) rfl ?_); refine goesL_ (some 18) rfl rfl Tryd.func53 (by kernel_rfl) rfl #[.int .i64 (wrap64 (Int.tdiv (wrap64 (-a0)) 60))] rfl (by (try simp only [List.map_toArray, List.map_cons, List.map_nil]); first | done | rfl | (simp only [List.length_drop, List.length_take]; rfl)) ?_; (with_reducible refine (pairingref5_FormatInt.calls (wrap64 (Int.tdiv (wrap64 (-a0)) 60)) t365 _ ?side1 A6.out).mono ?_); (case side1 => first | (with_reducible exact hT_p10) | exact Tab_p10.below hT_p10 (by repeat (first | (with_reducible first | exact HB.out | apply below_alloc | apply pw_below_drewN | apply below_drew1) | exact HB.out))); rintro e w11 ⟨rfl, hb⟩; refine ⟨_, rfl, ?_⟩; have n0_ := Aside0.mk (below_step (by repeat (first | (with_reducible first | exact HB.out | apply below_alloc | apply pw_below_drewN | apply below_drew1) | exact HB.out)) hb); clear HB; have HB := n0_; clear n0_; (try clear hb); (try clear hb2); (try clear hk); (try clear hi)) | ((with_reducible refine gate_callee (f := 48) rfl ?_); refine goesL_ (some 23) rfl rfl Tryd.func48 (by kernel_rfl) rfl #[.int .i64 (Int.tmod (wrap64 (-a0)) 60), .int .i64 2] rfl (by (try simp only [List.map_toArray, List.map_cons, List.map_nil]); first | done | rfl | (simp only [List.length_drop, List.length_take]; rfl)) ?_; (with_reducible refine (pairingref5_two.calls kj1 (Int.tmod (wrap64 (-a0)) 60) 2 t366 _ ?side1 A9.out).mono ?_); (case side1 => first | (with_reducible exact hT_p10) | exact Tab_p10.below hT_p10 (by repeat (first | (with_reducible first | exact HB.out | apply below_alloc | apply pw_below_drewN | apply below_drew1) | exact HB.out))); rintro e w12 ⟨rfl, hb⟩; refine ⟨_, rfl, ?_⟩; have n0_ := Aside0.mk (below_step (by repeat (first | (with_reducible first | exact HB.out | apply below_alloc | apply pw_below_drewN | apply below_drew1) | exact HB.out)) hb); clear HB; have HB := n0_; clear n0_; (try clear hb); (try clear hb2); (try clear hk); (try clear hi)))
                go_ret2
                exact ⟨by first | rfl | (simp [errW_none, errW_some] <;> rfl) | (simp [*, errW_none, errW_some] <;> rfl), by repeat (first | (with_reducible first | exact HB.out | apply below_alloc | apply pw_below_drewN | apply below_drew1) | exact HB.out)⟩
              · rw [if_neg c10] at H
                exact absurd H (by simp)
            · rw [if_neg c8] at H
              exact absurd H (by simp)
          · rw [if_neg c7] at H
            exact absurd H (by simp)
        · rw [if_neg c5] at H
          have c5b0 : decide (a0 < 0) = false := decide_eq_false c5
          clear c5
          replace H := Option.bind_eq_some_iff.mp H
          obtain ⟨t367, A130, H⟩ := H
          replace H : (if 0 + t367.size ≤ 9223372036854775807 then (if 0 + t367.size + 1 ≤ 9223372036854775807 then ((pairingref5_two.f kj1 (Int.tmod a0 60) 2).bind fun t368 => (if 0 + t367.size + 1 + t368.size ≤ 9223372036854775807 then (some ((((⟨#[]⟩ : ByteArray) ++ t367) ++ (⟨#[58]⟩ : ByteArray)) ++ t368, 0)) else (none))) else (none)) else (none)) = some (r1, r2) := H
          have A13 := Aside0.mk A130
          clear A130
          by_cases c14 : 0 + t367.size ≤ 9223372036854775807
          · rw [if_pos c14] at H
            have c14b0 := eq_true c14
            have c14b1 : decide (0 + t367.size ≤ 9223372036854775807) = true := decide_eq_true c14
            try have c14b2 : (9223372036854775807 < 0 + t367.size) = False := eq_false (Nat.not_lt.2 c14)
            by_cases c15 : 0 + t367.size + 1 ≤ 9223372036854775807
            · rw [if_pos c15] at H
              have c15b0 := eq_true c15
              have c15b1 : decide (0 + t367.size + 1 ≤ 9223372036854775807) = true := decide_eq_true c15
              try have c15b2 : (9223372036854775807 < 0 + t367.size + 1) = False := eq_false (Nat.not_lt.2 c15)
              replace H := Option.bind_eq_some_iff.mp H
              obtain ⟨t368, A160, H⟩ := H
              replace H : (if 0 + t367.size + 1 + t368.size ≤ 9223372036854775807 then (some ((((⟨#[]⟩ : ByteArray) ++ t367) ++ (⟨#[58]⟩ : ByteArray)) ++ t368, 0)) else (none)) = some (r1, r2) := H
              have A16 := Aside0.mk A160
              clear A160
              by_cases c17 : 0 + t367.size + 1 + t368.size ≤ 9223372036854775807
              · rw [if_pos c17] at H
                have c17b0 := eq_true c17
                have c17b1 : decide (0 + t367.size + 1 + t368.size ≤ 9223372036854775807) = true := decide_eq_true c17
                try have c17b2 : (9223372036854775807 < 0 + t367.size + 1 + t368.size) = False := eq_false (Nat.not_lt.2 c17)
                simp only [Option.some.injEq, Prod.mk.injEq] at H
                obtain ⟨rfl, rfl⟩ := H
                go_wp2_with (first | ((with_reducible refine gate_callee (f := 53) rfl ?_); refine goesL_ (some 18) rfl rfl Tryd.func53 (by kernel_rfl) rfl #[.int .i64 (wrap64 (Int.tdiv a0 60))] rfl (by (try simp only [List.map_toArray, List.map_cons, List.map_nil]); first | done | rfl | (simp only [List.length_drop, List.length_take]; rfl)) ?_; (with_reducible refine (pairingref5_FormatInt.calls (wrap64 (Int.tdiv a0 60)) t367 _ ?side1 A13.out).mono ?_); (case side1 => first | (with_reducible exact hT_p10) | exact Tab_p10.below hT_p10 (by repeat (first | (with_reducible first | exact HB.out | apply below_alloc | apply pw_below_drewN | apply below_drew1) | exact HB.out))); rintro e w18 ⟨rfl, hb⟩; refine ⟨_, rfl, ?_⟩; have n0_ := Aside0.mk (below_step (by repeat (first | (with_reducible first | exact HB.out | apply below_alloc | apply pw_below_drewN | apply below_drew1) | exact HB.out)) hb); clear HB; have HB := n0_; clear n0_; (try clear hb); (try clear hb2); (try clear hk); (try clear hi)) | ((with_reducible refine gate_callee (f := 48) rfl ?_); refine goesL_ (some 23) rfl rfl Tryd.func48 (by kernel_rfl) rfl #[.int .i64 (Int.tmod a0 60), .int .i64 2] rfl (by (try simp only [List.map_toArray, List.map_cons, List.map_nil]); first | done | rfl | (simp only [List.length_drop, List.length_take]; rfl)) ?_; (with_reducible refine (pairingref5_two.calls kj1 (Int.tmod a0 60) 2 t368 _ ?side1 A16.out).mono ?_); (case side1 => first | (with_reducible exact hT_p10) | exact Tab_p10.below hT_p10 (by repeat (first | (with_reducible first | exact HB.out | apply below_alloc | apply pw_below_drewN | apply below_drew1) | exact HB.out))); rintro e w19 ⟨rfl, hb⟩; refine ⟨_, rfl, ?_⟩; have n0_ := Aside0.mk (below_step (by repeat (first | (with_reducible first | exact HB.out | apply below_alloc | apply pw_below_drewN | apply below_drew1) | exact HB.out)) hb); clear HB; have HB := n0_; clear n0_; (try clear hb); (try clear hb2); (try clear hk); (try clear hi)))
                go_ret2
                exact ⟨by first | rfl | (simp [errW_none, errW_some] <;> rfl) | (simp [*, errW_none, errW_some] <;> rfl), by repeat (first | (with_reducible first | exact HB.out | apply below_alloc | apply pw_below_drewN | apply below_drew1) | exact HB.out)⟩
              · rw [if_neg c17] at H
                exact absurd H (by simp)
            · rw [if_neg c15] at H
              exact absurd H (by simp)
          · rw [if_neg c14] at H
            exact absurd H (by simp)

end Go.Proofs.YtdpkemjbiengfaaDoor.QCal
