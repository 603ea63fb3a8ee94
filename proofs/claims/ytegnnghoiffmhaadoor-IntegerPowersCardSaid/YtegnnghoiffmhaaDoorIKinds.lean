/- The kinds of the laws' parameters. -/
import Derived.Test.YtegnnghoiffmhaaDoorMA
import Derived.DataShut
namespace Go.Proofs.YtegnnghoiffmhaaDoor.Big
open Go.RowKit Go.Proofs.YtegnnghoiffmhaaDoorW.PrintWords
set_option linter.unusedVariables false
structure S24 where
  f0 : Bool
  f1 : (List Int)
def k24 : Kd S24 := Kd.iso (Kd.pair Kd.bool (Kd.slice 57 (Kd.int .u32))) (fun x : S24 => (x.f0, x.f1))
theorem k24_open {w : World} {x : S24} {cs : List Value} (h : k24.K w x cs) : ∃ A1 c1, cs = [.bool x.f0, .slice A1 x.f1.length c1] ∧ x.f1.length ≤ c1 ∧ (Kd.int .u32).C w A1 x.f1.length x.f1 := by
  obtain ⟨_, _, rfl, rfl, ⟨A1, c1, rfl, l1, g1⟩⟩ := h
  exact ⟨A1, c1, rfl, l1, g1⟩
theorem int_rd {w : World} {x : S24} {A : Option Addr} {c : Nat} (hw : True ∧ (x.f1.length * 4 ≤ 140737488351232 ∧ ∀ y ∈ x.f1, (Lit.int .u32 y).wf = true)) (l : x.f1.length ≤ c) (g : (Kd.int .u32).C w A x.f1.length x.f1) : Rd w A c x.f1 :=
  ⟨g, l, fun y hy => by have h := (Lit.wf_int_iff .u32 y).1 (hw.2.2 y hy); simpa [IntKind.min, IntKind.max, IntKind.bits, IntKind.signed] using h⟩
theorem int_len {x : S24} (hw : True ∧ (x.f1.length * 4 ≤ 140737488351232 ∧ ∀ y ∈ x.f1, (Lit.int .u32 y).wf = true)) : x.f1.length ≤ 35184372088832 := by have := hw.2.1; omega
end Go.Proofs.YtegnnghoiffmhaaDoor.Big
