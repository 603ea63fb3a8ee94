/- Written by a program (wip/myprint.py): the Go functions that the laws reach, each as a plain Lean function, and a proof that the machine's call answers as that function says. -/
import Derived.Test.YtpgmodghkamihaaDoorQTxt0
import Derived.Test.YtpgmodghkamihaaDoorQTxt9
namespace Go.Proofs.YtpgmodghkamihaaDoor.QTxt
open Go.RowKit Go.Proofs.YtpgmodghkamihaaDoorW.PrintWords Go.Proofs.YtpgmodghkamihaaDoorW.PrintLast Go.Proofs.YtpgmodghkamihaaDoorW.PrintMore
attribute [local go_sem] max2_int min2_int max_two min_two max_three min_three max_four min_four   -- for this text's walks alone
set_option linter.unusedVariables false
set_option linter.unusedSimpArgs false

/-! ### pairinglaw5_awake: function 10 -/
def pairinglaw5_awake.f (k : Nat)  : Option (Bool) := (text_Fields.f k (⟨#[32, 102, 108, 105, 103, 104, 116, 32, 65, 66, 49, 32, 35, 32, 108, 97, 116, 101]⟩ : ByteArray)).bind fun t136 => (if (t136.length : Int) = 2 then (if 0 < (t136.length : Int) then (if (rdOf ByteArray.empty t136 0).toList = ([102, 108, 105, 103, 104, 116] : List UInt8) then (if 1 < (t136.length : Int) then (some ((rdOf ByteArray.empty t136 1).toList == ([65, 66, 49] : List UInt8))) else (none)) else (some false)) else (none)) else (some false))
theorem pairinglaw5_awake.mono : ∀ k, LeO (pairinglaw5_awake.f k ) (pairinglaw5_awake.f (k + 1) ) := by
  intro  k
  unfold pairinglaw5_awake.f
  repeat' first
      | (with_reducible exact text_Fields.mono _ _)
      | (with_reducible exact LeO.refl _)
      | (with_reducible exact LeO.none _)
      | (with_reducible refine LeO.ite ?_ ?_)
      | (with_reducible refine LeO.bind ?_ (fun _ => ?_))
      | exact text_Fields.mono _ _
      | exact LeO.none _
      | refine LeO.ite ?_ ?_
      | refine LeO.bind ?_ (fun _ => ?_)
set_option maxHeartbeats 8000000 in
set_option maxRecDepth 100000 in
theorem pairinglaw5_awake.calls (k : Nat)  (r : Bool) (w : World) (h : pairinglaw5_awake.f k  = some r) :
    Calls Tryd.prog 10 #[] w fun e w' => e = .returned (.bool r) ∧ Below w.heap.size w w' := by
  have HB := Aside0.mk (Below.refl w.heap.size w)
  have H : ((text_Fields.f k (⟨#[32, 102, 108, 105, 103, 104, 116, 32, 65, 66, 49, 32, 35, 32, 108, 97, 116, 101]⟩ : ByteArray)).bind fun t136 => (if (t136.length : Int) = 2 then (if 0 < (t136.length : Int) then (if (rdOf ByteArray.empty t136 0).toList = ([102, 108, 105, 103, 104, 116] : List UInt8) then (if 1 < (t136.length : Int) then (some ((rdOf ByteArray.empty t136 1).toList == ([65, 66, 49] : List UInt8))) else (none)) else (some false)) else (none)) else (some false))) = some r := h
  clear h
  replace H := Option.bind_eq_some_iff.mp H
  obtain ⟨t136, A10, H⟩ := H
  replace H : (if (t136.length : Int) = 2 then (if 0 < (t136.length : Int) then (if (rdOf ByteArray.empty t136 0).toList = ([102, 108, 105, 103, 104, 116] : List UInt8) then (if 1 < (t136.length : Int) then (some ((rdOf ByteArray.empty t136 1).toList == ([65, 66, 49] : List UInt8))) else (none)) else (some false)) else (none)) else (some false)) = some r := H
  have A1 := Aside0.mk A10
  clear A10
  by_cases c2 : (t136.length : Int) = 2
  · rw [if_pos c2] at H
    have c2b0 : ((t136.length : Int) == 2) = true := beq_iff_eq.mpr c2
    have c2b1 : ((t136.length : Int) != 2) = false := bne_eq_false_iff_eq.mpr c2
    clear c2
    by_cases c3 : 0 < (t136.length : Int)
    · rw [if_pos c3] at H
      have c3b0 : decide (0 < (t136.length : Int)) = true := decide_eq_true c3
      have c3b1 : decide (0 < t136.length) = true := decide_eq_true (by omega)
      clear c3
      by_cases c4 : (rdOf ByteArray.empty t136 0).toList = ([102, 108, 105, 103, 104, 116] : List UInt8)
      · rw [if_pos c4] at H
        have c4b0 : ((rdOf ByteArray.empty t136 0).toList == ([102, 108, 105, 103, 104, 116] : List UInt8)) = true := beq_iff_eq.mpr c4
        have c4b1 : ((rdOf ByteArray.empty t136 0).toList != ([102, 108, 105, 103, 104, 116] : List UInt8)) = false := bne_eq_false_iff_eq.mpr c4
        clear c4
        by_cases c5 : 1 < (t136.length : Int)
        · rw [if_pos c5] at H
          have c5b0 : decide (1 < (t136.length : Int)) = true := decide_eq_true c5
          have c5b1 : decide (1 < t136.length) = true := decide_eq_true (by omega)
          clear c5
          obtain rfl := Option.some.inj H
          go_enter Tryd.func10, Tryd.ntmps10
          go_wp2_with (first | ((with_reducible refine gate_callee (f := 12) rfl ?_); refine goesL_ (some 2) rfl rfl Tryd.func12 (by kernel_rfl) rfl #[.string (⟨#[32, 102, 108, 105, 103, 104, 116, 32, 65, 66, 49, 32, 35, 32, 108, 97, 116, 101]⟩ : ByteArray)] rfl (by (try simp only [List.map_toArray, List.map_cons, List.map_nil]); first | done | rfl | (simp only [List.length_drop, List.length_take]; rfl)) ?_; (with_reducible refine (text_Fields.calls k (⟨#[32, 102, 108, 105, 103, 104, 116, 32, 65, 66, 49, 32, 35, 32, 108, 97, 116, 101]⟩ : ByteArray) t136 _ A1.out).mono ?_); rintro e w6 ⟨v137, rfl, ho0, hb⟩; refine ⟨_, rfl, ?_⟩; have n0_ := Aside0.mk (Kd.R_lower ho0 (below_size (by repeat (first | (with_reducible first | exact HB.out | apply below_alloc | apply pw_below_drewN | apply below_drew1) | exact HB.out)))); have n1_ := Aside0.mk (below_step (by repeat (first | (with_reducible first | exact HB.out | apply below_alloc | apply pw_below_drewN | apply below_drew1) | exact HB.out)) hb); clear HB; have HO138 := n0_; have HB := n1_; clear n0_ n1_; (try clear hb); (try clear hb2); (try clear hk); (try clear hi); (try clear ho0); obtain ⟨Ao7, co7, eo7⟩ := Kd.R_slice HO138.out; subst eo7; have p139 : 0 ≤ (0 : Int) := (by omega); have q139 : 0 < (t136.length : Int) := of_decide_eq_true (by first | (with_reducible assumption) | assumption); obtain ⟨ad139, e139, hx139_0⟩ := Kd.at_string (Kd.R_reads' HO138.out).2.2 0 p139 q139; cases e139; have qi139 : (0 < t136.length) = True := eq_true (by omega); (try rw [show ((0 : Int)).toNat = 0 from rfl] at hx139_0); (try rw [Addr.add_zero'] at hx139_0); replace p139 := eq_true p139; replace q139 := eq_true q139; have p140 : 0 ≤ (1 : Int) := (by omega); have q140 : 1 < (t136.length : Int) := of_decide_eq_true (by first | (with_reducible assumption) | assumption); obtain ⟨ad140, e140, hx140_0⟩ := Kd.at_string (Kd.R_reads' HO138.out).2.2 1 p140 q140; obtain rfl : ad139 = ad140 := (by injection e140); (try simp only [show (1 : Int).toNat = 1 from rfl, Nat.reduceMul, Nat.reduceEqDiff, Go.Addr.add, ↓reduceIte] at hx140_0); have qi140 : (1 < t136.length) = True := eq_true (by omega); (try rw [show ((1 : Int)).toNat = 1 from rfl] at hx140_0); replace p140 := eq_true p140; replace q140 := eq_true q140))
          go_ret
          exact ⟨by first | rfl | (simp [errW_none, errW_some] <;> rfl) | (simp [*, errW_none, errW_some] <;> rfl), by repeat (first | (with_reducible first | exact HB.out | apply below_alloc | apply pw_below_drewN | apply below_drew1) | exact HB.out)⟩
        · rw [if_neg c5] at H
          exact absurd H (by simp)
      · rw [if_neg c4] at H
        have c4b0 : ((rdOf ByteArray.empty t136 0).toList == ([102, 108, 105, 103, 104, 116] : List UInt8)) = false := beq_eq_false_iff_ne.mpr c4
        have c4b1 : ((rdOf ByteArray.empty t136 0).toList != ([102, 108, 105, 103, 104, 116] : List UInt8)) = true := bne_iff_ne.mpr c4
        obtain rfl := Option.some.inj H
        go_enter Tryd.func10, Tryd.ntmps10
        go_wp2_with (first | ((with_reducible refine gate_callee (f := 12) rfl ?_); refine goesL_ (some 2) rfl rfl Tryd.func12 (by kernel_rfl) rfl #[.string (⟨#[32, 102, 108, 105, 103, 104, 116, 32, 65, 66, 49, 32, 35, 32, 108, 97, 116, 101]⟩ : ByteArray)] rfl (by (try simp only [List.map_toArray, List.map_cons, List.map_nil]); first | done | rfl | (simp only [List.length_drop, List.length_take]; rfl)) ?_; (with_reducible refine (text_Fields.calls k (⟨#[32, 102, 108, 105, 103, 104, 116, 32, 65, 66, 49, 32, 35, 32, 108, 97, 116, 101]⟩ : ByteArray) t136 _ A1.out).mono ?_); rintro e w8 ⟨v137, rfl, ho0, hb⟩; refine ⟨_, rfl, ?_⟩; have n0_ := Aside0.mk (Kd.R_lower ho0 (below_size (by repeat (first | (with_reducible first | exact HB.out | apply below_alloc | apply pw_below_drewN | apply below_drew1) | exact HB.out)))); have n1_ := Aside0.mk (below_step (by repeat (first | (with_reducible first | exact HB.out | apply below_alloc | apply pw_below_drewN | apply below_drew1) | exact HB.out)) hb); clear HB; have HO138 := n0_; have HB := n1_; clear n0_ n1_; (try clear hb); (try clear hb2); (try clear hk); (try clear hi); (try clear ho0); obtain ⟨Ao9, co9, eo9⟩ := Kd.R_slice HO138.out; subst eo9; have p139 : 0 ≤ (0 : Int) := (by omega); have q139 : 0 < (t136.length : Int) := of_decide_eq_true (by first | (with_reducible assumption) | assumption); obtain ⟨ad139, e139, hx139_0⟩ := Kd.at_string (Kd.R_reads' HO138.out).2.2 0 p139 q139; cases e139; have qi139 : (0 < t136.length) = True := eq_true (by omega); (try rw [show ((0 : Int)).toNat = 0 from rfl] at hx139_0); (try rw [Addr.add_zero'] at hx139_0); replace p139 := eq_true p139; replace q139 := eq_true q139))
        go_ret
        exact ⟨by first | rfl | (simp [errW_none, errW_some] <;> rfl) | (simp [*, errW_none, errW_some] <;> rfl), by repeat (first | (with_reducible first | exact HB.out | apply below_alloc | apply pw_below_drewN | apply below_drew1) | exact HB.out)⟩
    · rw [if_neg c3] at H
      exact absurd H (by simp)
  · rw [if_neg c2] at H
    have c2b0 : ((t136.length : Int) == 2) = false := beq_eq_false_iff_ne.mpr c2
    have c2b1 : ((t136.length : Int) != 2) = true := bne_iff_ne.mpr c2
    obtain rfl := Option.some.inj H
    go_enter Tryd.func10, Tryd.ntmps10
    go_wp2_with (first | ((with_reducible refine gate_callee (f := 12) rfl ?_); refine goesL_ (some 2) rfl rfl Tryd.func12 (by kernel_rfl) rfl #[.string (⟨#[32, 102, 108, 105, 103, 104, 116, 32, 65, 66, 49, 32, 35, 32, 108, 97, 116, 101]⟩ : ByteArray)] rfl (by (try simp only [List.map_toArray, List.map_cons, List.map_nil]); first | done | rfl | (simp only [List.length_drop, List.length_take]; rfl)) ?_; (with_reducible refine (text_Fields.calls k (⟨#[32, 102, 108, 105, 103, 104, 116, 32, 65, 66, 49, 32, 35, 32, 108, 97, 116, 101]⟩ : ByteArray) t136 _ A1.out).mono ?_); rintro e w10 ⟨v137, rfl, ho0, hb⟩; refine ⟨_, rfl, ?_⟩; have n0_ := Aside0.mk (Kd.R_lower ho0 (below_size (by repeat (first | (with_reducible first | exact HB.out | apply below_alloc | apply pw_below_drewN | apply below_drew1) | exact HB.out)))); have n1_ := Aside0.mk (below_step (by repeat (first | (with_reducible first | exact HB.out | apply below_alloc | apply pw_below_drewN | apply below_drew1) | exact HB.out)) hb); clear HB; have HO138 := n0_; have HB := n1_; clear n0_ n1_; (try clear hb); (try clear hb2); (try clear hk); (try clear hi); (try clear ho0); obtain ⟨Ao11, co11, eo11⟩ := Kd.R_slice HO138.out; subst eo11))
    go_ret
    exact ⟨by first | rfl | (simp [errW_none, errW_some] <;> rfl) | (simp [*, errW_none, errW_some] <;> rfl), by repeat (first | (with_reducible first | exact HB.out | apply below_alloc | apply pw_below_drewN | apply below_drew1) | exact HB.out)⟩

end Go.Proofs.YtpgmodghkamihaaDoor.QTxt
