/- What a function over integers keeps: its variables and the rows that it reads. The contracts with the values named. -/
import Derived.Test.YtegnnghoiffmhaaDoorISame
namespace Go.Proofs.YtegnnghoiffmhaaDoor.Big
open Go.RowKit Go.Proofs.YtegnnghoiffmhaaDoorW.PrintWords Go.Proofs.YtegnnghoiffmhaaDoorW.PrintLast
set_option linter.unusedVariables false
set_option linter.unusedSimpArgs false
structure Keep (w w' : World) (l : List (Nat × Value × Value)) (rs : List (Option Addr × Nat × List Int)) : Prop where
  be : Below w.heap.size w w'
  bx : ∀ g a b, (g, a, b) ∈ l → Box w' g a b 24
  ge : ∀ g a b, (g, a, b) ∈ l → w.heap.size ≤ g
  nd : (l.map (·.1)).Nodup
  rd : ∀ A c xs, (A, c, xs) ∈ rs → Rd w' A c xs
section
variable {w w' w1 : World} {l : List (Nat × Value × Value)} {rs rs' : List (Option Addr × Nat × List Int)} {g : Nat} {a b : Value}
theorem Keep.start (w : World) : Keep w w [] [] := ⟨Below.refl _ _, (by intro g a b h; cases h), (by intro g a b h; cases h), List.nodup_nil, (by intro A c xs h; cases h)⟩
theorem Keep.below (h : Keep w w' l rs) (hb : Below w'.heap.size w' w1) : Keep w w1 l rs := ⟨keep_below hb h.be, fun g a b hm => (h.bx g a b hm).below hb, h.ge, h.nd, fun A c xs hm => (h.rd A c xs hm).below hb⟩
theorem Keep.drew (h : Keep w w' l rs) : Keep w w'.drew l rs := h.below (below_drew (Below.refl _ _))
theorem Keep.drewN (h : Keep w w' l rs) (n : Nat) : Keep w (w'.drewN n) l rs := h.below (pw_below_drewN (Below.refl _ _) n)
theorem Keep.row (h : Keep w w' l rs) {A : Option Addr} {c : Nat} {xs : List Int} (hr : Rd w' A c xs) : Keep w w' l ((A, c, xs) :: rs) := ⟨h.be, h.bx, h.ge, h.nd, fun A' c' xs' hm => by
  rcases List.mem_cons.1 hm with e | hm
  · simp only [Prod.mk.injEq] at e; obtain ⟨rfl, rfl, rfl⟩ := e; exact hr
  · exact h.rd _ _ _ hm⟩
theorem Keep.sub (h : Keep w w' l rs) (hs : ∀ x, x ∈ rs' → x ∈ rs) : Keep w w' l rs' := ⟨h.be, h.bx, h.ge, h.nd, fun A c xs hm => h.rd A c xs (hs _ hm)⟩
theorem Keep.alloc (h : Keep w w' l rs) (o : Obj) : Keep w (w'.alloc o) l rs := h.below (below_alloc (Below.refl _ _) o)
theorem Keep.lt (h : Keep w w' l rs) (hm : (g, a, b) ∈ l) : g < w'.heap.size := (Array.getElem?_eq_some_iff.1 (h.bx _ _ _ hm).blk).1
theorem Keep.new (h : Keep w w' l rs) (a b : Value) : Keep w (w'.alloc (.cells #[a, b] 24)) ((w'.heap.size, a, b) :: l) rs := ⟨(h.alloc _).be, fun g' a' b' hm => by
  rcases List.mem_cons.1 hm with e | hm
  · simp only [Prod.mk.injEq] at e; obtain ⟨rfl, rfl, rfl⟩ := e; exact Box.new w' _ _ _
  · exact (h.alloc _).bx _ _ _ hm, fun g' a' b' hm => by
  rcases List.mem_cons.1 hm with e | hm
  · simp only [Prod.mk.injEq] at e; obtain ⟨rfl, rfl, rfl⟩ := e; exact h.be.size
  · exact h.ge _ _ _ hm, by
  rw [List.map_cons, List.nodup_cons]
  refine ⟨fun hm => ?_, h.nd⟩
  obtain ⟨⟨g', a', b'⟩, hm, e⟩ := List.mem_map.1 hm
  have := h.lt hm
  simp only at e
  omega, (h.alloc _).rd⟩
theorem Keep.set {n0 : Bool} {B0 : Option Addr} {l0 d0 : Nat} (h : Keep w w' ((g, .bool n0, .slice B0 l0 d0) :: l) rs) (n1 : Bool) (B1 : Option Addr) (l1 d1 : Nat) : Keep w ((w'.setCell ⟨g, 0, none⟩ (.bool n1)).setCell ⟨g, 1, none⟩ (.slice B1 l1 d1)) ((g, .bool n1, .slice B1 l1 d1) :: l) rs := by
  have hb := h.bx _ _ _ List.mem_cons_self
  have hge := h.ge _ _ _ List.mem_cons_self
  refine ⟨(h.be.setCell (by simpa using hge) _).setCell (by simpa using hge) _, fun g' a' b' hm => ?_, fun g' a' b' hm => ?_, h.nd, fun A c xs hm => (h.rd _ _ _ hm).boxed hb.blk⟩
  · rcases List.mem_cons.1 hm with e | hm2
    · simp only [Prod.mk.injEq] at e; obtain ⟨rfl, rfl, rfl⟩ := e; exact hb.set _ _
    · have hne : g' ≠ g := by
        rintro rfl
        have := h.nd
        rw [List.map_cons, List.nodup_cons] at this
        exact this.1 (List.mem_map.2 ⟨_, hm2, rfl⟩)
      exact ((h.bx _ _ _ (List.mem_cons_of_mem _ hm2)).put hne _).put hne _
  · rcases List.mem_cons.1 hm with e | hm2
    · simp only [Prod.mk.injEq] at e; obtain ⟨rfl, rfl, rfl⟩ := e; exact hge
    · exact h.ge _ _ _ (List.mem_cons_of_mem _ hm2)
theorem Keep.at0 (h : Keep w w' l rs) (hm : (g, a, b) ∈ l) : w'.cell? ⟨g, 0, none⟩ = some a := (h.bx _ _ _ hm).at0
theorem Keep.room (h : Keep w w' ((g, a, b) :: l) rs) : w'.cell? ⟨g, 0, none⟩ = some a ∧ w'.cell? ⟨g, 1, none⟩ = some b ∧ w'.frozen? ⟨g, 0, none⟩ = false ∧ w'.frozen? ⟨g, 1, none⟩ = false := ⟨(h.bx _ _ _ List.mem_cons_self).at0, (h.bx _ _ _ List.mem_cons_self).at1, (h.bx _ _ _ List.mem_cons_self).free 0, (h.bx _ _ _ List.mem_cons_self).free 1⟩
theorem Keep.at1 (h : Keep w w' l rs) (hm : (g, a, b) ∈ l) : w'.cell? ⟨g, 1, none⟩ = some b := (h.bx _ _ _ hm).at1
end
theorem mg_iv_le (n : Bool) {xs : List Int} (h : ∀ x ∈ xs, 0 ≤ x ∧ x ≤ 4294967295) {k : Nat} (hk : xs.length ≤ k) : (mg (iv n xs)).length ≤ k := Nat.le_trans (mg_iv_len n h) hk
theorem mg_bound {z : Int} {k : Nat} (h : (mg z).length ≤ k) : -pw k < z ∧ z < pw k := by
  have h1 := mg_lt z
  have h2 := pw_le h
  omega
theorem mg_add {x y : Int} {i j k : Nat} (hx : (mg x).length ≤ i) (hy : (mg y).length ≤ j) (hi : i < k) (hj : j < k) : (mg (x + y)).length ≤ k := by
  have h1 := mg_bound hx
  have h2 := mg_bound hy
  have h3 := pw_le (show i ≤ k - 1 by omega)
  have h4 := pw_le (show j ≤ k - 1 by omega)
  have h5 : pw k = 4294967296 * pw (k - 1) := by obtain ⟨m, rfl⟩ : ∃ m, k = m + 1 := ⟨k - 1, by omega⟩; rw [Nat.add_sub_cancel, pw]; omega
  have h6 := pw_pos (k - 1)
  exact mg_len (by omega) (by omega)
theorem mg_neg {x : Int} : (mg (-x)).length = (mg x).length := by unfold mg; rw [Int.natAbs_neg]
theorem mg_sub {x y : Int} {i j k : Nat} (hx : (mg x).length ≤ i) (hy : (mg y).length ≤ j) (hi : i < k) (hj : j < k) : (mg (x - y)).length ≤ k := by
  rw [Int.sub_eq_add_neg]; exact mg_add hx (by rw [mg_neg]; exact hy) hi hj
theorem mg_abs {x : Int} : (mg (x.natAbs : Int)).length = (mg x).length := by unfold mg; rw [Int.natAbs_natCast]
theorem mg_mul {x y : Int} {i j k : Nat} (hx : (mg x).length ≤ i) (hy : (mg y).length ≤ j) (hk : i + j ≤ k) : (mg (x * y)).length ≤ k := by
  have h1 := mg_bound hx
  have h2 := mg_bound hy
  have h3 := pw_le hk
  rw [pw_add] at h3
  have h4 : (x * y).natAbs < (pw i * pw j).natAbs ∨ x * y = 0 := by
    rw [Int.natAbs_mul, Int.natAbs_mul]
    left
    exact Nat.mul_lt_mul'' (by omega) (by omega)
  have h5 : 0 < pw i * pw j := Int.mul_pos (pw_pos i) (pw_pos j)
  exact mg_len (by rcases h4 with h4 | h4 <;> omega) (by rcases h4 with h4 | h4 <;> omega)
section
variable (n0 n1 : Bool) (A0 A1 : Option Addr) (c0 c1 : Nat) (xs ys : List Int) (w : World)
theorem add_v (h0 : Rd w A0 c0 xs) (h1 : Rd w A1 c1 ys) (hl0 : xs.length ≤ 274877906944) (hl1 : ys.length ≤ 274877906944) (x y z : Int) (hx : iv n0 xs = x) (hy : iv n1 ys = y) (hz : x + y = z) :
    Calls Tryd.prog 17 #[.agg #[.bool n0, .slice A0 xs.length c0], .agg #[.bool n1, .slice A1 ys.length c1]] w fun e w' => Res e w w' z := by subst hx hy hz; exact add_any n0 n1 A0 A1 c0 c1 xs ys w h0 h1 hl0 hl1
theorem sub_v (h0 : Rd w A0 c0 xs) (h1 : Rd w A1 c1 ys) (hl0 : xs.length ≤ 274877906944) (hl1 : ys.length ≤ 274877906944) (x y z : Int) (hx : iv n0 xs = x) (hy : iv n1 ys = y) (hz : x - y = z) :
    Calls Tryd.prog 20 #[.agg #[.bool n0, .slice A0 xs.length c0], .agg #[.bool n1, .slice A1 ys.length c1]] w fun e w' => Res e w w' z := by subst hx hy hz; exact sub_any n0 n1 A0 A1 c0 c1 xs ys w h0 h1 hl0 hl1
theorem mul_v (h0 : Rd w A0 c0 xs) (h1 : Rd w A1 c1 ys) (hl0 : xs.length ≤ 274877906944) (hl1 : ys.length ≤ 274877906944) (x y z : Int) (hx : iv n0 xs = x) (hy : iv n1 ys = y) (hz : x * y = z) :
    Calls Tryd.prog 18 #[.agg #[.bool n0, .slice A0 xs.length c0], .agg #[.bool n1, .slice A1 ys.length c1]] w fun e w' => Res e w w' z := by subst hx hy hz; exact mul_any n0 n1 A0 A1 c0 c1 xs ys w h0 h1 hl0 hl1
theorem abs_v (h0 : Rd w A0 c0 xs) (hl0 : xs.length ≤ 274877906944) (x z : Int) (hx : iv n0 xs = x) (hz : (x.natAbs : Int) = z) :
    Calls Tryd.prog 26 #[.agg #[.bool n0, .slice A0 xs.length c0]] w fun e w' => Res e w w' z := by subst hx hz; exact abs_any n0 A0 c0 xs w h0 hl0
theorem negate_v (h0 : Rd w A0 c0 xs) (hl0 : xs.length ≤ 274877906944) (x z : Int) (hx : iv n0 xs = x) (hz : -x = z) :
    Calls Tryd.prog 29 #[.agg #[.bool n0, .slice A0 xs.length c0]] w fun e w' => Res e w w' z := by subst hx hz; exact negate_any n0 A0 c0 xs w h0 hl0
theorem sign_v (h0 : Rd w A0 c0 xs) (hl0 : xs.length ≤ 274877906944) (x r : Int) (hx : iv n0 xs = x) (hr : cmpZ x 0 = r) :
    Calls Tryd.prog 19 #[.agg #[.bool n0, .slice A0 xs.length c0]] w fun e w' => e = .returned (.int .i64 r) ∧ Below w.heap.size w w' := by subst hx; exact sign_any n0 A0 c0 xs w h0 hl0 r hr
theorem compare_v (h0 : Rd w A0 c0 xs) (h1 : Rd w A1 c1 ys) (hl0 : xs.length ≤ 274877906944) (hl1 : ys.length ≤ 274877906944) (x y r : Int) (hx : iv n0 xs = x) (hy : iv n1 ys = y) (hr : cmpZ x y = r) :
    Calls Tryd.prog 25 #[.agg #[.bool n0, .slice A0 xs.length c0], .agg #[.bool n1, .slice A1 ys.length c1]] w fun e w' => e = .returned (.int .i64 r) ∧ Below w.heap.size w w' := by subst hx hy; exact Compare_any n0 n1 A0 A1 c0 c1 xs ys w h0 h1 hl0 hl1 r hr
theorem divmod_v (h0 : Rd w A0 c0 xs) (h1 : Rd w A1 c1 ys) (hl0 : xs.length ≤ 274877906944) (hl1 : ys.length ≤ 274877906944) (x y q r : Int) (hx : iv n0 xs = x) (hy : iv n1 ys = y) (hy0 : y ≠ 0) (hq : x.fdiv y = q) (hr : x.fmod y = r) :
    Calls Tryd.prog 14 #[.agg #[.bool n0, .slice A0 xs.length c0], .agg #[.bool n1, .slice A1 ys.length c1]] w fun e w' => Res2 e w w' q r 0 := by subst hx hy hq hr; exact DivMod_any n0 n1 A0 A1 c0 c1 xs ys w h0 h1 hl0 hl1 hy0
theorem same_v (x y : Int) (h0 : Rd w A0 c0 (mg x)) (h1 : Rd w A1 c1 (mg y)) (hl0 : (mg x).length ≤ 274877906944) (hl1 : (mg y).length ≤ 274877906944) (e : x = y) :
    Calls Tryd.prog 16 #[.agg #[.bool (ng x), .slice A0 (mg x).length c0], .agg #[.bool (ng y), .slice A1 (mg y).length c1]] w fun e w' => e = .returned (.bool true) ∧ Below w.heap.size w w' := by subst e; exact same_z x A0 A1 c0 c1 w h0 h1 hl0
end
theorem fdm (a b : Int) (hb : b ≠ 0) : (0 ≤ a.fmod b ∧ a.fmod b < b ∨ b < a.fmod b ∧ a.fmod b ≤ 0) ∧ b * a.fdiv b + a.fmod b = a := by
  rcases (show 0 < b ∨ b < 0 by omega) with h | h
  · have h1 := (Int.fdiv_fmod_unique (a := a) h).1 ⟨rfl, rfl⟩
    omega
  · have h1 := (Int.fdiv_fmod_unique' (a := a) h).1 ⟨rfl, rfl⟩
    omega
theorem mg_fdiv {a b : Int} {k : Nat} (hb : b ≠ 0) (ha : (mg a).length ≤ k) : (mg (a.fdiv b)).length ≤ k + 1 := by
  have h1 := mg_bound ha
  obtain ⟨h2, h3⟩ := fdm a b hb
  have hp := pw_pos k
  have h5 : pw (k + 1) = 4294967296 * pw k := by rw [pw]; omega
  have hab : (a.fdiv b).natAbs ≤ a.natAbs + 1 := by
    have h6 : (b * a.fdiv b).natAbs ≤ a.natAbs + b.natAbs := by omega
    rw [Int.natAbs_mul] at h6
    rcases Nat.eq_zero_or_pos (a.fdiv b).natAbs with e | e
    · omega
    · have h7 : b.natAbs * ((a.fdiv b).natAbs - 1) ≤ a.natAbs := by rw [Nat.mul_sub_one]; omega
      have h8 : 1 * ((a.fdiv b).natAbs - 1) ≤ b.natAbs * ((a.fdiv b).natAbs - 1) := Nat.mul_le_mul_right _ (by omega)
      omega
  exact mg_len (by omega) (by omega)
theorem keep3 (w : World) (a0 b0 a1 b1 a2 b2 : Value) (o : Obj) {wb : World} (h : (((w.alloc (.cells #[a0, b0] 24)).alloc (.cells #[a1, b1] 24)).alloc (.cells #[a2, b2] 24)).alloc o = wb) :
    Keep w wb [(w.heap.size, a0, b0), (w.heap.size + 1, a1, b1), (w.heap.size + 1 + 1, a2, b2)] [] := by
  subst h
  have h := (((Keep.start w).new a0 b0).new a1 b1).new a2 b2
  have h2 := h.alloc o
  refine ⟨h2.be, fun g a b hm => h2.bx g a b ?_, fun g a b hm => h2.ge g a b ?_, by simp; try omega, h2.rd⟩
  all_goals
    simp only [List.mem_cons, List.not_mem_nil, or_false, Prod.mk.injEq] at hm ⊢
    rcases hm with ⟨rfl, rfl, rfl⟩ | ⟨rfl, rfl, rfl⟩ | ⟨rfl, rfl, rfl⟩ <;> simp
theorem keep2 (w : World) (a0 b0 a1 b1 : Value) (o : Obj) {wb : World} (h : ((w.alloc (.cells #[a0, b0] 24)).alloc (.cells #[a1, b1] 24)).alloc o = wb) :
    Keep w wb [(w.heap.size, a0, b0), (w.heap.size + 1, a1, b1)] [] := by
  subst h
  have h := ((Keep.start w).new a0 b0).new a1 b1
  have h2 := h.alloc o
  refine ⟨h2.be, fun g a b hm => h2.bx g a b ?_, fun g a b hm => h2.ge g a b ?_, by simp; try omega, h2.rd⟩
  all_goals
    simp only [List.mem_cons, List.not_mem_nil, or_false, Prod.mk.injEq] at hm ⊢
    rcases hm with ⟨rfl, rfl, rfl⟩ | ⟨rfl, rfl, rfl⟩ <;> simp
theorem light_cells3 (W : World) (n0 n1 n2 : Bool) (A0 A1 A2 : Option Addr) (l0 l1 l2 c0 c1 c2 : Nat) (t : TypeId) {wb : World} (h : W.alloc (.cells #[.bool n0, .slice A0 l0 c0, .bool n1, .slice A1 l1 c1, .bool n2, .slice A2 l2 c2] t) = wb) (g : Nat) (hg : W.heap.size = g) :
    ∀ i, i < 3 → ∃ A c, wb.cell? ⟨g, i * 2 + 1, none⟩ = some (.slice A (lz [l0, l1, l2] i) c) := by
  subst hg
  intro i hi
  have hb : wb.heap[W.heap.size]? = some (.cells #[.bool n0, .slice A0 l0 c0, .bool n1, .slice A1 l1 c1, .bool n2, .slice A2 l2 c2] t (0, 0)) := by rw [← h]; exact heap_alloc_new W _
  match i, hi with
  | 0, _ => exact ⟨A0, c0, by simp [World.cell?, hb, lz]⟩
  | 1, _ => exact ⟨A1, c1, by simp [World.cell?, hb, lz]⟩
  | 2, _ => exact ⟨A2, c2, by simp [World.cell?, hb, lz]⟩
theorem light_cells2 (W : World) (n0 n1 : Bool) (A0 A1 : Option Addr) (l0 l1 c0 c1 : Nat) (t : TypeId) {wb : World} (h : W.alloc (.cells #[.bool n0, .slice A0 l0 c0, .bool n1, .slice A1 l1 c1] t) = wb) (g : Nat) (hg : W.heap.size = g) :
    ∀ i, i < 2 → ∃ A c, wb.cell? ⟨g, i * 2 + 1, none⟩ = some (.slice A (lz [l0, l1] i) c) := by
  subst hg
  intro i hi
  have hb : wb.heap[W.heap.size]? = some (.cells #[.bool n0, .slice A0 l0 c0, .bool n1, .slice A1 l1 c1] t (0, 0)) := by rw [← h]; exact heap_alloc_new W _
  match i, hi with
  | 0, _ => exact ⟨A0, c0, by simp [World.cell?, hb, lz]⟩
  | 1, _ => exact ⟨A1, c1, by simp [World.cell?, hb, lz]⟩
theorem light_cells1 (W : World) (n0 : Bool) (A0 : Option Addr) (l0 c0 : Nat) (t : TypeId) {wb : World} (h : W.alloc (.cells #[.bool n0, .slice A0 l0 c0] t) = wb) (g : Nat) (hg : W.heap.size = g) :
    ∀ i, i < 1 → ∃ A c, wb.cell? ⟨g, i * 2 + 1, none⟩ = some (.slice A (lz [l0] i) c) := by
  subst hg
  intro i hi
  have hb : wb.heap[W.heap.size]? = some (.cells #[.bool n0, .slice A0 l0 c0] t (0, 0)) := by rw [← h]; exact heap_alloc_new W _
  match i, hi with
  | 0, _ => exact ⟨A0, c0, by simp [World.cell?, hb, lz]⟩
end Go.Proofs.YtegnnghoiffmhaaDoor.Big
