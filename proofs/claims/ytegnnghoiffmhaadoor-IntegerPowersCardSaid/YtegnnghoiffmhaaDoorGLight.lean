/- The laws' Light, at one, two and three integers. -/
import Derived.Test.YtegnnghoiffmhaaDoorMB
import Derived.Test.YtegnnghoiffmhaaDoorGKeep
namespace Go.Proofs.YtegnnghoiffmhaaDoor.Big
open Go.RowKit Go.Proofs.YtegnnghoiffmhaaDoorW.PrintWords

theorem Light_1 (n0 : Bool) (A0 : Option Addr) (l0 c0 : Nat) (t : TypeId) (W : World) (hl0 : l0 ≤ 35184372088832) (b : Bool) (hb : decide ([l0].sum ≤ 60) = b) :
    Calls Tryd.prog 12 #[.slice (some ⟨W.heap.size, 0, none⟩) 1 1] (W.alloc (.cells #[.bool n0, .slice A0 l0 c0] t)) fun e w' => e = .returned (.bool b) ∧ Below (W.alloc (.cells #[.bool n0, .slice A0 l0 c0] t)).heap.size (W.alloc (.cells #[.bool n0, .slice A0 l0 c0] t)) w' := by
  have hls : ∀ i, i < [l0].length → lz [l0] i ≤ 35184372088832 := by
    intro i hi
    match i, hi with
    | 0, _ => exact hl0
  refine (Light_any W.heap.size 1 [l0] _ rfl (by omega) (light_cells1 W n0 A0 l0 c0 t rfl W.heap.size rfl) hls b hb).mono ?_
  rintro e w' ⟨rfl, rfl⟩
  exact ⟨rfl, Below.refl _ _⟩
theorem Light_2 (n0 n1 : Bool) (A0 A1 : Option Addr) (l0 c0 l1 c1 : Nat) (t : TypeId) (W : World) (hl0 : l0 ≤ 35184372088832) (hl1 : l1 ≤ 35184372088832) (b : Bool) (hb : decide ([l0, l1].sum ≤ 60) = b) :
    Calls Tryd.prog 12 #[.slice (some ⟨W.heap.size, 0, none⟩) 2 2] (W.alloc (.cells #[.bool n0, .slice A0 l0 c0, .bool n1, .slice A1 l1 c1] t)) fun e w' => e = .returned (.bool b) ∧ Below (W.alloc (.cells #[.bool n0, .slice A0 l0 c0, .bool n1, .slice A1 l1 c1] t)).heap.size (W.alloc (.cells #[.bool n0, .slice A0 l0 c0, .bool n1, .slice A1 l1 c1] t)) w' := by
  have hls : ∀ i, i < [l0, l1].length → lz [l0, l1] i ≤ 35184372088832 := by
    intro i hi
    match i, hi with
    | 0, _ => exact hl0
    | 1, _ => exact hl1
  refine (Light_any W.heap.size 2 [l0, l1] _ rfl (by omega) (light_cells2 W n0 n1 A0 A1 l0 l1 c0 c1 t rfl W.heap.size rfl) hls b hb).mono ?_
  rintro e w' ⟨rfl, rfl⟩
  exact ⟨rfl, Below.refl _ _⟩
theorem Light_3 (n0 n1 n2 : Bool) (A0 A1 A2 : Option Addr) (l0 c0 l1 c1 l2 c2 : Nat) (t : TypeId) (W : World) (hl0 : l0 ≤ 35184372088832) (hl1 : l1 ≤ 35184372088832) (hl2 : l2 ≤ 35184372088832) (b : Bool) (hb : decide ([l0, l1, l2].sum ≤ 60) = b) :
    Calls Tryd.prog 12 #[.slice (some ⟨W.heap.size, 0, none⟩) 3 3] (W.alloc (.cells #[.bool n0, .slice A0 l0 c0, .bool n1, .slice A1 l1 c1, .bool n2, .slice A2 l2 c2] t)) fun e w' => e = .returned (.bool b) ∧ Below (W.alloc (.cells #[.bool n0, .slice A0 l0 c0, .bool n1, .slice A1 l1 c1, .bool n2, .slice A2 l2 c2] t)).heap.size (W.alloc (.cells #[.bool n0, .slice A0 l0 c0, .bool n1, .slice A1 l1 c1, .bool n2, .slice A2 l2 c2] t)) w' := by
  have hls : ∀ i, i < [l0, l1, l2].length → lz [l0, l1, l2] i ≤ 35184372088832 := by
    intro i hi
    match i, hi with
    | 0, _ => exact hl0
    | 1, _ => exact hl1
    | 2, _ => exact hl2
  refine (Light_any W.heap.size 3 [l0, l1, l2] _ rfl (by omega) (light_cells3 W n0 n1 n2 A0 A1 A2 l0 l1 l2 c0 c1 c2 t rfl W.heap.size rfl) hls b hb).mono ?_
  rintro e w' ⟨rfl, rfl⟩
  exact ⟨rfl, Below.refl _ _⟩
end Go.Proofs.YtegnnghoiffmhaaDoor.Big
