/- Words of our own on rows of whole numbers: a row that is read (it stays as it is for ever), and a row of the call's own. -/
import Derived.Test.YtegnnghoiffmhaaDoorProg
import Derived.Test.YtegnnghoiffmhaaDoorWWords
import Derived.Test.YtegnnghoiffmhaaDoorIMath
import Derived.IntWalk
namespace Go.Proofs.YtegnnghoiffmhaaDoor.Big
open Go.RowKit Go.Proofs.YtegnnghoiffmhaaDoorW.PrintWords
set_option linter.unusedVariables false
set_option linter.unusedSimpArgs false

/-- A row of digits that is read. -/
structure Rd (w : World) (A : Option Addr) (c : Nat) (xs : List Int) : Prop where
  reads : (Kd.int .u32).C w A xs.length xs
  le : xs.length ≤ c
  dig : ∀ x ∈ xs, 0 ≤ x ∧ x ≤ 4294967295
/-- A row of digits of the call's own. -/
structure Ow (w : World) (base : Nat) (v : Value) (xs : List Int) : Prop where
  own : (Kd.int .u32).R 57 w base (fun _ => True) v xs
  dig : ∀ x ∈ xs, 0 ≤ x ∧ x ≤ 4294967295
section
variable {w w' W : World} {A : Option Addr} {c base base' : Nat} {xs : List Int} {v : Value}
theorem Rd.below (h : Rd w A c xs) (hb : Below w.heap.size w w') : Rd w' A c xs := ⟨Kd.C_below h.reads hb, h.le, h.dig⟩
theorem Rd.drewN (h : Rd w A c xs) (n : Nat) : Rd (w.drewN n) A c xs := h.below (pw_below_drewN (Below.refl _ _) n)
theorem Rd.at_ (h : Rd w A c xs) (k : Nat) (hk : k < xs.length) : ∃ ad, A = some ad ∧ w.cell? (ad.add k) = some (.int .u32 (dg xs k)) := by
  obtain ⟨ad, e, hc⟩ := Kd.at_int h.reads (k : Int) (by omega) (by omega)
  exact ⟨ad, e, by simpa [rd, dg] using hc⟩
theorem dg_dig {xs : List Int} (h : ∀ x ∈ xs, 0 ≤ x ∧ x ≤ 4294967295) (k : Nat) : 0 ≤ dg xs k ∧ dg xs k ≤ 4294967295 := by
  unfold dg
  by_cases hk : k < xs.length
  · rw [List.getD_eq_getElem?_getD, List.getElem?_eq_getElem hk]; exact h _ (List.getElem_mem hk)
  · rw [List.getD_eq_getElem?_getD, List.getElem?_eq_none (by omega)]; simp
theorem Rd.take (h : Rd w A c xs) {m : Nat} (hm : m ≤ xs.length) : Rd w A c (xs.take m) :=
  ⟨Kd.C_take h.reads hm, by have := h.le; rw [List.length_take]; omega, fun x hx => h.dig x (List.mem_of_mem_take hx)⟩
theorem Rd.trim (h : Rd w A c xs) : Rd w A c (trimL xs) := by
  rw [trimL_prefix xs]; exact h.take (trimL_len xs)
theorem Rd.nil (w : World) : Rd w none 0 [] := ⟨Kd.C_nil _ w, Nat.le_refl _, fun x hx => by cases hx⟩
theorem Ow.rd (h : Ow w base v xs) : ∃ A c, v = .slice A xs.length c ∧ Rd w A c xs := by
  obtain ⟨A, c, e, hl, hr⟩ := Kd.R_reads h.own
  exact ⟨A, c, e, hr, hl, h.dig⟩
theorem Ow.lower (h : Ow w base v xs) (hb : base' ≤ base) : Ow w base' v xs := ⟨Kd.R_lower h.own hb, h.dig⟩
theorem Ow.below (h : Ow w base v xs) (hb : Below w.heap.size w w') : Ow w' base v xs := ⟨Kd.R_below h.own hb, h.dig⟩
theorem Ow.form (h : Ow w base v xs) (hp : 0 < xs.length) : ∃ g cap, v = .slice (some ⟨g, 0, none⟩) xs.length cap ∧ base ≤ g ∧ g < w.heap.size := by
  obtain ⟨g, cap, e, h1, h2, _⟩ := Kd.R_form h.own hp
  exact ⟨g, cap, e, h1, h2⟩
theorem Ow.cell {g n cap : Nat} (h : Ow w base (.slice (some ⟨g, 0, none⟩) n cap) xs) (k : Nat) (hk : k < n) : w.cell? ⟨g, k, none⟩ = some (.int .u32 (dg xs k)) ∧ w.frozen? ⟨g, k, none⟩ = false := by
  obtain ⟨h1, h2⟩ := Kd.R_celln (0 : Int) h.own (k : Int) (by omega) (by omega)
  exact ⟨by simpa [rdOf, dg] using h1, by simpa using h2⟩
theorem Ow.from_ (h : Ow w base v xs) : ∀ k, v.ownBlock = some k → base ≤ k := fun k hk => Kd.R_base h.own k hk
theorem Ow.rd' {A : Option Addr} {n c : Nat} (h : Ow w base (.slice A n c) xs) : n = xs.length ∧ Rd w A c xs := by
  obtain ⟨A', c', e, hr⟩ := h.rd
  simp only [Value.slice.injEq] at e
  obtain ⟨rfl, e2, rfl⟩ := e
  exact ⟨e2, hr⟩
theorem Ow.len {A : Option Addr} {n cap : Nat} (h : Ow w base (.slice A n cap) xs) : n = xs.length := (Kd.R_reads' h.own).1
theorem mem_set_dig {xs : List Int} {k : Nat} {x : Int} (h : ∀ x ∈ xs, 0 ≤ x ∧ x ≤ 4294967295) (hx : 0 ≤ x ∧ x ≤ 4294967295) : ∀ y ∈ xs.set k x, 0 ≤ y ∧ y ≤ 4294967295 := by
  intro y hy
  rcases List.mem_or_eq_of_mem_set hy with h1 | h1
  · exact h y h1
  · rw [h1]; exact hx
theorem Ow.put {g n cap : Nat} (h : Ow w base (.slice (some ⟨g, 0, none⟩) n cap) xs) (k : Nat) (x : Int) (hx : 0 ≤ x ∧ x ≤ 4294967295) : Ow (w.setCell ⟨g, k, none⟩ (.int .u32 x)) base (.slice (some ⟨g, 0, none⟩) n cap) (xs.set k x) := by
  have h1 := (Kd.R_putg h.own (k : Int) x).1
  rw [Int.toNat_natCast] at h1
  exact ⟨h1, mem_set_dig h.dig hx⟩
end
theorem info_u32 : (Tryd.prog.info? 57).map (fun i => (i.zero, i.size, i.bytes)) = some (some (.int .u32 0), 1, 4) := by kernel_rfl
section
variable {P : Program} {ops : Array Oper} {rest : List Oper} {o : Oper} {a : Act} {Q : Exit → Act → World → Prop} {W : World}
/-- make([]uint32, n) -/
theorem make_u32 (hgd : o.guard = none) {N : Tmp} (hd : o.dst = some N) (x y : Operand) (ho : o.op = .makeSlice 22 x y) (n : Nat) (hx : a.eval x = .int .i64 (n : Int)) (hy : a.eval y = .int .i64 (n : Int)) (hn : n ≤ 1099511627776)
    (h : ∀ v w1, Ow w1 W.heap.size v (List.replicate n 0) → Below W.heap.size W w1 → wpList Tryd.prog ops Q rest (a.put o.dst v) w1) : wpList Tryd.prog ops Q (o :: rest) a W := by
  refine Kd.R_make (Kd.int .u32) (w0 := W) W.heap.size 57 hgd hd 22 x y ho (n : Int) hx hy Tryd.underlying22 (.int .u32 0) 4 info_u32 rfl (by decide) (by omega) 0 (ok := fun _ => True) (okp := fun _ => True) rfl (fun _ hk => hk) trivial (by omega) (by simp; omega) (Below.refl _ _) (Nat.le_refl _) ?_
  intro v1 w1 h1 h2 _ _
  exact h v1 w1 ⟨by simpa using h1, fun x hx => by rw [(List.mem_replicate.1 hx).2]; omega⟩ h2
/-- append(v, ys...) to a row of the call's own -/
theorem app_u32 {w0 : World} {base : Nat} (hgd : o.guard = none) (s x : Operand) (ho : o.op = .call { callee := .builtin .append, args := #[s, x], argTypes := #[22, 22] }) (v : Value) (xs ys : List Int) (A : Option Addr) (c : Nat)
    (hs : a.eval s = v) (hx : a.eval x = .slice A ys.length c) (HO : Ow W base v xs) (HR : Rd W A c ys) (HB : Below base w0 W) (hbase : base ≤ W.heap.size) (hl : xs.length + ys.length ≤ 2199023255552)
    (h : ∀ v1 w1, Ow w1 base v1 (xs ++ ys) → Below base w0 w1 → wpList Tryd.prog ops Q rest (a.put o.dst v1) w1) : wpList Tryd.prog ops Q (o :: rest) a W := by
  refine Kd.R_append_rows (Kd.int .u32) (w0 := w0) base hgd s x 22 57 (.int .u32 0) 4 ho Tryd.underlying22 info_u32 rfl (by decide) (by omega) v xs ys A ys.length c (fun _ => True) (fun _ => False) hs hx HO.own HR.reads (fun _ _ h => h) (fun _ h => h.elim) (fun _ _ => trivial) HB hbase (by omega) ?_
  intro v1 w1 h1 h2 _ _
  exact h v1 w1 ⟨h1, fun x hx => (List.mem_append.1 hx).elim (HO.dig x) (HR.dig x)⟩ h2
end
theorem Ow.nil (w : World) (base : Nat) : Ow w base (.slice none 0 0) [] := ⟨Kd.R_nil _ _ _ _ _, fun x hx => by cases hx⟩
/-- A literal of two digits. -/
theorem Ow.lit2 (W : World) (base : Nat) (a b : Int) (ha : 0 ≤ a ∧ a ≤ 4294967295) (hb : 0 ≤ b ∧ b ≤ 4294967295) (h : base ≤ W.heap.size) : Ow (W.alloc (.cells #[.int .u32 a, .int .u32 b] 57)) base (.slice (some ⟨W.heap.size, 0, none⟩) 2 2) [a, b] :=
  ⟨⟨fun _ _ => trivial, OwnRow.lit (ps := [a, b]) (inner := [.int .u32 a, .int .u32 b]) W base ⟨rfl, fun j p hj => by
    match j, hj with
    | 0, hj => simp at hj; subst hj; rfl
    | 1, hj => simp at hj; subst hj; rfl
    | j + 2, hj => simp at hj⟩ h (by simp)⟩, fun x hx => by
      simp at hx
      rcases hx with rfl | rfl
      · exact ha
      · exact hb⟩
/-- A row of the call's own, and what was there when the call began is as it was. -/
structure Own (w0 w : World) (v : Value) (xs : List Int) : Prop where
  ow : Ow w w0.heap.size v xs
  be : Below w0.heap.size w0 w
theorem Own.put {w0 w : World} {g n cap : Nat} {xs : List Int} (h : Own w0 w (.slice (some ⟨g, 0, none⟩) n cap) xs) (k : Nat) (x : Int) (hk : k < xs.length) (hx : 0 ≤ x ∧ x ≤ 4294967295) : Own w0 (w.setCell ⟨g, k, none⟩ (.int .u32 x)) (.slice (some ⟨g, 0, none⟩) n cap) (xs.set k x) := by
  refine ⟨h.ow.put k x hx, ?_⟩
  obtain ⟨g', cap', e, hg, _⟩ := h.ow.form (by omega)
  cases e
  exact below_set h.be hg
/-- Behind a call that only made memory: what was there is as it was. -/
theorem bcell {W w1 : World} (hb : Below W.heap.size W w1) : (∀ b o, b < W.heap.size → w1.cell? ⟨b, o, none⟩ = W.cell? ⟨b, o, none⟩) ∧ (∀ b o, b < W.heap.size → w1.frozen? ⟨b, o, none⟩ = W.frozen? ⟨b, o, none⟩) :=
  ⟨fun b o h => hb.cell (p := ⟨b, o, none⟩) h, fun b o h => hb.frozen (p := ⟨b, o, none⟩) h⟩
/-- A store into a block that holds no digit. -/
theorem Rd.far {w : World} {A : Option Addr} {c : Nat} {xs : List Int} (h : Rd w A c xs) {g i : Nat} (hg : ∀ o x, w.cell? ⟨g, o, none⟩ ≠ some (.int .u32 x)) (u : Value) : Rd (w.setCell ⟨g, i, none⟩ u) A c xs := by
  have keep : ∀ (a : Addr) (x : Int), w.cell? a = some (.int .u32 x) → (w.setCell ⟨g, i, none⟩ u).cell? a = some (.int .u32 x) := by
    intro a x ha
    by_cases hb : a.block = g
    · exfalso
      obtain ⟨b, o, s⟩ := a
      cases s with
      | none => subst hb; exact hg o x ha
      | some s =>
        simp only [World.cell?] at ha
        split at ha <;> simp at ha
    · rw [World.cell?_of_block (Below.heap_setCell w ⟨g, i, none⟩ u a.block hb)]; exact ha
  refine ⟨?_, h.le, h.dig⟩
  obtain ⟨h1, h2, h3⟩ := h.reads
  refine ⟨h1, h2, fun hn => ?_⟩
  obtain ⟨ad, e, h4⟩ := h3 hn
  refine ⟨ad, e, fun j p hj => ?_⟩
  obtain ⟨cs, hl, hk, hc⟩ := h4 j p hj
  refine ⟨cs, hl, hk, fun q u' hu => ?_⟩
  have hk' : cs = [Value.int .u32 p] := hk
  subst hk'
  have hq : q = 0 := by have := (List.getElem?_eq_some_iff.1 hu).1; simp at this; exact this
  subst hq
  simp at hu
  subst hu
  exact keep _ _ (hc 0 _ rfl)
theorem two_cells {w : World} {g : Nat} {a b : Value} {t : TypeId} {fr : Nat × Nat} (h : w.heap[g]? = some (.cells #[a, b] t fr)) (ha : ∀ x, a ≠ .int .u32 x) (hb : ∀ x, b ≠ .int .u32 x) : ∀ o x, w.cell? ⟨g, o, none⟩ ≠ some (.int .u32 x) := by
  intro o x he
  simp only [World.cell?, h] at he
  match o, he with
  | 0, he => simp at he; exact ha x he
  | 1, he => simp at he; exact hb x he
  | o + 2, he => simp at he
theorem heap_set1 {w : World} {g i : Nat} {cs : Array Value} {t : TypeId} {fr : Nat × Nat} (h : w.heap[g]? = some (.cells cs t fr)) (u : Value) : (w.setCell ⟨g, i, none⟩ u).heap[g]? = some (.cells (cs.setIfInBounds i u) t fr) := by
  simp [World.setCell, Array.getElem?_modify, h]
theorem Rd.boxed {w : World} {A : Option Addr} {c : Nat} {xs : List Int} (h : Rd w A c xs) {g : Nat} {n0 n : Bool} {A0 A1 : Option Addr} {l0 c0 l1 c1 : Nat} {t : TypeId} {fr : Nat × Nat} (hg : w.heap[g]? = some (.cells #[.bool n0, .slice A0 l0 c0] t fr)) :
    Rd ((w.setCell ⟨g, 0, none⟩ (.bool n)).setCell ⟨g, 1, none⟩ (.slice A1 l1 c1)) A c xs :=
  (h.far (two_cells hg (by simp) (by simp)) _).far (two_cells (a := .bool n) (b := .slice A0 l0 c0) (by simpa using heap_set1 (i := 0) hg (.bool n)) (by simp) (by simp)) _
/-- A store into the row that may be written. -/
theorem grown_set {w W : World} {g i : Nat} {u : Value} (h : w.grownBy W (some g)) : w.grownBy (W.setCell ⟨g, i, none⟩ u) (some g) :=
  ⟨h.os, h.tape, h.output, by have := h.size; simpa [World.setCell] using this, fun k hk hne => by rw [Below.heap_setCell W ⟨g, i, none⟩ u k (fun e => hne (by rw [e]))]; exact h.block k hk hne⟩
theorem Rd.grown {w W : World} {A : Option Addr} {c : Nat} {xs : List Int} (h : Rd w A c xs) {row : Option Nat} (hg : w.grownBy W row) (hA : ∀ ad, A = some ad → some ad.block ≠ row) : Rd W A c xs := by
  refine ⟨?_, h.le, h.dig⟩
  obtain ⟨h1, h2, h3⟩ := h.reads
  refine ⟨h1, h2, fun hn => ?_⟩
  obtain ⟨ad, e, h4⟩ := h3 hn
  refine ⟨ad, e, fun j p hj => ?_⟩
  obtain ⟨cs, hl, hk, hc⟩ := h4 j p hj
  refine ⟨cs, hl, hk, fun q u hu => ?_⟩
  have h5 := hc q u hu
  have hb : ∀ n, (ad.add n).block = ad.block := fun n => by unfold Addr.add; split <;> rfl
  rw [World.cell?_of_block (hg.block _ (World.block_lt_of_cell? w _ h5) (by rw [hb]; exact hA ad e))]
  exact h5
theorem Ow.other {w w1 : World} {base : Nat} {v : Value} {xs : List Int} {row : Option Nat} (h : Ow w base v xs) (hg : w.grownBy w1 row) (hne : v.ownBlock = none ∨ v.ownBlock ≠ row) : Ow w1 base v xs := ⟨⟨h.own.1, h.own.2.other hg hne⟩, h.dig⟩
theorem grown_self (W : World) (g i : Nat) (u : Value) : W.grownBy (W.setCell ⟨g, i, none⟩ u) (some g) := grown_set ⟨rfl, rfl, rfl, Nat.le_refl _, fun _ _ _ => rfl⟩
/-- The integer z handed back in canonical form. -/
def Res (e : Ending) (w w' : World) (z : Int) : Prop := ∃ (A : Option Addr) (c : Nat), e = .returned (.agg #[.bool (ng z), .slice A (mg z).length c]) ∧ Rd w' A c (mg z) ∧ Below w.heap.size w w'
theorem Res.boxed {w W w1 : World} {z : Int} {A : Option Addr} {c g : Nat} (hr : Rd w1 A c (mg z)) (hb : Below (W.alloc (.cells #[.bool false, .slice none 0 0] 24)).heap.size (W.alloc (.cells #[.bool false, .slice none 0 0] 24)) w1) (hW : Below w.heap.size w W) (hg : g = W.heap.size) :
    Res (.returned (.agg #[.bool (ng z), .slice A (mg z).length c])) w ((w1.setCell ⟨g, 0, none⟩ (.bool (ng z))).setCell ⟨g, 1, none⟩ (.slice A (mg z).length c)) z := by
  subst hg
  have h1 : w1.heap[W.heap.size]? = some (.cells #[.bool false, .slice none 0 0] 24 (0, 0)) := (hb.block _ (by simp)).trans (heap_alloc_new W _)
  refine ⟨A, c, rfl, hr.boxed h1, ?_⟩
  have h2 : Below w.heap.size w w1 := (below_alloc hW _).trans (hb.mono (by have := hW.size; simp; omega))
  exact (h2.setCell (by exact hW.size) _).setCell (by exact hW.size) _
theorem keep_cell {W w1 : World} {a : Addr} {v : Value} (hb : Below W.heap.size W w1) (h : W.cell? a = some v) : w1.cell? a = some v := (hb.cell (World.block_lt_of_cell? W _ h)).trans h
theorem keep_below {w W w1 : World} (hb : Below W.heap.size W w1) (h : Below w.heap.size w W) : Below w.heap.size w w1 := h.trans (hb.mono h.size)
theorem far_cell {W : World} {p q : Addr} {u v : Value} (hb : q.block ≠ p.block) (h : W.cell? q = some v) : (W.setCell p u).cell? q = some v := (World.cell?_of_block (Below.heap_setCell W p u q.block hb)).trans h
theorem keep_blk {W w1 : World} {g : Nat} {o : Obj} (hb : Below W.heap.size W w1) (h : W.heap[g]? = some o) : w1.heap[g]? = some o := (hb.block g (Array.getElem?_eq_some_iff.1 h).1).trans h
/-- A variable of two cells. -/
structure Box (w : World) (g : Nat) (a b : Value) (t : TypeId) : Prop where
  blk : w.heap[g]? = some (.cells #[a, b] t (0, 0))
theorem Box.new (w : World) (a b : Value) (t : TypeId) : Box (w.alloc (.cells #[a, b] t)) w.heap.size a b t := ⟨heap_alloc_new w _⟩
theorem Box.below {W w1 : World} {g : Nat} {a b : Value} {t : TypeId} (h : Box W g a b t) (hb : Below W.heap.size W w1) : Box w1 g a b t := ⟨keep_blk hb h.blk⟩
theorem Box.alloc {W : World} {g : Nat} {a b : Value} {t : TypeId} (h : Box W g a b t) (o : Obj) : Box (W.alloc o) g a b t := h.below (below_alloc (Below.refl _ _) o)
theorem Box.drew {W : World} {g : Nat} {a b : Value} {t : TypeId} (h : Box W g a b t) : Box W.drew g a b t := ⟨h.blk⟩
theorem Box.at0 {w : World} {g : Nat} {a b : Value} {t : TypeId} (h : Box w g a b t) : w.cell? ⟨g, 0, none⟩ = some a := by simp [World.cell?, h.blk]
theorem Box.at1 {w : World} {g : Nat} {a b : Value} {t : TypeId} (h : Box w g a b t) : w.cell? ⟨g, 1, none⟩ = some b := by simp [World.cell?, h.blk]
theorem Box.free {w : World} {g : Nat} {a b : Value} {t : TypeId} (h : Box w g a b t) (i : Nat) : w.frozen? ⟨g, i, none⟩ = false := by simp [World.frozen?, h.blk]
/-- Two arguments and a result, each in a variable of its own. -/
theorem boxes3 (w : World) (a0 b0 a1 b1 a2 b2 : Value) (t0 t1 t2 : TypeId) {wb : World} (h : ((w.alloc (.cells #[a0, b0] t0)).alloc (.cells #[a1, b1] t1)).alloc (.cells #[a2, b2] t2) = wb) :
    Below w.heap.size w wb ∧ Box wb w.heap.size a0 b0 t0 ∧ Box wb (w.heap.size + 1) a1 b1 t1 ∧ Box wb (w.heap.size + 1 + 1) a2 b2 t2 := by
  subst h
  refine ⟨below_alloc (below_alloc (below_alloc (Below.refl _ _) _) _) _, ((Box.new w a0 b0 t0).alloc _).alloc _, ?_, ?_⟩
  · have h := (Box.new (w.alloc (.cells #[a0, b0] t0)) a1 b1 t1).alloc (.cells #[a2, b2] t2)
    simpa using h
  · have h := Box.new ((w.alloc (.cells #[a0, b0] t0)).alloc (.cells #[a1, b1] t1)) a2 b2 t2
    simpa using h
theorem boxes2 (w : World) (a0 b0 a1 b1 : Value) (t0 t1 : TypeId) {wb : World} (h : (w.alloc (.cells #[a0, b0] t0)).alloc (.cells #[a1, b1] t1) = wb) :
    Below w.heap.size w wb ∧ Box wb w.heap.size a0 b0 t0 ∧ Box wb (w.heap.size + 1) a1 b1 t1 := by
  subst h
  refine ⟨below_alloc (below_alloc (Below.refl _ _) _) _, (Box.new w a0 b0 t0).alloc _, ?_⟩
  have h := Box.new (w.alloc (.cells #[a0, b0] t0)) a1 b1 t1
  simpa using h
/-- Two arguments and the result, each in a variable of its own, at a later world. -/
structure Two (w w' : World) (a0 b0 a1 b1 : Value) : Prop where
  be : Below w.heap.size w w'
  x : Box w' w.heap.size a0 b0 24
  y : Box w' (w.heap.size + 1) a1 b1 24
  r : Box w' (w.heap.size + 1 + 1) (.bool false) (.slice none 0 0) 24
section
variable {w w' w1 : World} {a0 b0 a1 b1 : Value}
theorem Two.start (w : World) (a0 b0 a1 b1 : Value) {wb : World} (h : ((w.alloc (.cells #[a0, b0] 24)).alloc (.cells #[a1, b1] 24)).alloc (.cells #[.bool false, .slice none 0 0] 24) = wb) : Two w wb a0 b0 a1 b1 := by
  obtain ⟨h1, h2, h3, h4⟩ := boxes3 w _ _ _ _ _ _ _ _ _ h
  exact ⟨h1, h2, h3, h4⟩
theorem Two.drew (h : Two w w' a0 b0 a1 b1) : Two w w'.drew a0 b0 a1 b1 := ⟨below_drew h.be, h.x.drew, h.y.drew, h.r.drew⟩
theorem Two.below (h : Two w w' a0 b0 a1 b1) (hb : Below w'.heap.size w' w1) : Two w w1 a0 b0 a1 b1 := ⟨keep_below hb h.be, h.x.below hb, h.y.below hb, h.r.below hb⟩
theorem Two.cells (h : Two w w' a0 b0 a1 b1) : w'.cell? ⟨w.heap.size, 0, none⟩ = some a0 ∧ w'.cell? ⟨w.heap.size, 1, none⟩ = some b0 ∧ w'.cell? ⟨w.heap.size + 1, 0, none⟩ = some a1 ∧ w'.cell? ⟨w.heap.size + 1, 1, none⟩ = some b1 := ⟨h.x.at0, h.x.at1, h.y.at0, h.y.at1⟩
theorem Two.room (h : Two w w' a0 b0 a1 b1) : w'.cell? ⟨w.heap.size + 1 + 1, 0, none⟩ = some (.bool false) ∧ w'.cell? ⟨w.heap.size + 1 + 1, 1, none⟩ = some (.slice none 0 0) ∧ w'.frozen? ⟨w.heap.size + 1 + 1, 0, none⟩ = false ∧ w'.frozen? ⟨w.heap.size + 1 + 1, 1, none⟩ = false := ⟨h.r.at0, h.r.at1, h.r.free 0, h.r.free 1⟩
theorem Two.res (h : Two w w' a0 b0 a1 b1) {z : Int} {A : Option Addr} {c : Nat} (hr : Rd w' A c (mg z)) : Res (.returned (.agg #[.bool (ng z), .slice A (mg z).length c])) w ((w'.setCell ⟨w.heap.size + 1 + 1, 0, none⟩ (.bool (ng z))).setCell ⟨w.heap.size + 1 + 1, 1, none⟩ (.slice A (mg z).length c)) z :=
  ⟨A, c, rfl, hr.boxed h.r.blk, (h.be.setCell (by simp; omega) _).setCell (by simp; omega) _⟩
theorem Two.after (h : Two w w' a0 b0 a1 b1) (u v : Value) : ∀ q x, q.block = w.heap.size ∨ q.block = w.heap.size + 1 → w'.cell? q = some x → ((w'.setCell ⟨w.heap.size + 1 + 1, 0, none⟩ u).setCell ⟨w.heap.size + 1 + 1, 1, none⟩ v).cell? q = some x :=
  fun q x hq hx => far_cell (by simp; omega) (far_cell (by simp; omega) hx)
end
/-- One argument and the result. -/
structure One (w w' : World) (a0 b0 : Value) : Prop where
  be : Below w.heap.size w w'
  x : Box w' w.heap.size a0 b0 24
  r : Box w' (w.heap.size + 1) (.bool false) (.slice none 0 0) 24
/-- Arguments alone. -/
structure Arg1 (w w' : World) (a0 b0 : Value) : Prop where
  be : Below w.heap.size w w'
  x : Box w' w.heap.size a0 b0 24
structure Arg2 (w w' : World) (a0 b0 a1 b1 : Value) : Prop where
  be : Below w.heap.size w w'
  x : Box w' w.heap.size a0 b0 24
  y : Box w' (w.heap.size + 1) a1 b1 24
section
variable {w w' w1 : World} {a0 b0 a1 b1 : Value}
theorem One.start (w : World) (a0 b0 : Value) {wb : World} (h : (w.alloc (.cells #[a0, b0] 24)).alloc (.cells #[.bool false, .slice none 0 0] 24) = wb) : One w wb a0 b0 := by
  obtain ⟨h1, h2, h3⟩ := boxes2 w _ _ _ _ _ _ h
  exact ⟨h1, h2, h3⟩
theorem One.drew (h : One w w' a0 b0) : One w w'.drew a0 b0 := ⟨below_drew h.be, h.x.drew, h.r.drew⟩
theorem One.below (h : One w w' a0 b0) (hb : Below w'.heap.size w' w1) : One w w1 a0 b0 := ⟨keep_below hb h.be, h.x.below hb, h.r.below hb⟩
theorem One.cells (h : One w w' a0 b0) : w'.cell? ⟨w.heap.size, 0, none⟩ = some a0 ∧ w'.cell? ⟨w.heap.size, 1, none⟩ = some b0 := ⟨h.x.at0, h.x.at1⟩
theorem One.room (h : One w w' a0 b0) : w'.cell? ⟨w.heap.size + 1, 0, none⟩ = some (.bool false) ∧ w'.cell? ⟨w.heap.size + 1, 1, none⟩ = some (.slice none 0 0) ∧ w'.frozen? ⟨w.heap.size + 1, 0, none⟩ = false ∧ w'.frozen? ⟨w.heap.size + 1, 1, none⟩ = false := ⟨h.r.at0, h.r.at1, h.r.free 0, h.r.free 1⟩
theorem One.res (h : One w w' a0 b0) {z : Int} {A : Option Addr} {c : Nat} (hr : Rd w' A c (mg z)) : Res (.returned (.agg #[.bool (ng z), .slice A (mg z).length c])) w ((w'.setCell ⟨w.heap.size + 1, 0, none⟩ (.bool (ng z))).setCell ⟨w.heap.size + 1, 1, none⟩ (.slice A (mg z).length c)) z :=
  ⟨A, c, rfl, hr.boxed h.r.blk, (h.be.setCell (by simp) _).setCell (by simp) _⟩
theorem One.after (h : One w w' a0 b0) (u v : Value) : ∀ q x, q.block = w.heap.size → w'.cell? q = some x → ((w'.setCell ⟨w.heap.size + 1, 0, none⟩ u).setCell ⟨w.heap.size + 1, 1, none⟩ v).cell? q = some x :=
  fun q x hq hx => far_cell (by simp; omega) (far_cell (by simp; omega) hx)
theorem Arg1.start (w : World) (a0 b0 : Value) {wb : World} (h : w.alloc (.cells #[a0, b0] 24) = wb) : Arg1 w wb a0 b0 := by
  subst h; exact ⟨below_alloc (Below.refl _ _) _, Box.new w a0 b0 _⟩
theorem Arg1.drew (h : Arg1 w w' a0 b0) : Arg1 w w'.drew a0 b0 := ⟨below_drew h.be, h.x.drew⟩
theorem Arg1.below (h : Arg1 w w' a0 b0) (hb : Below w'.heap.size w' w1) : Arg1 w w1 a0 b0 := ⟨keep_below hb h.be, h.x.below hb⟩
theorem Arg1.cells (h : Arg1 w w' a0 b0) : w'.cell? ⟨w.heap.size, 0, none⟩ = some a0 ∧ w'.cell? ⟨w.heap.size, 1, none⟩ = some b0 := ⟨h.x.at0, h.x.at1⟩
theorem Arg2.start (w : World) (a0 b0 a1 b1 : Value) {wb : World} (h : (w.alloc (.cells #[a0, b0] 24)).alloc (.cells #[a1, b1] 24) = wb) : Arg2 w wb a0 b0 a1 b1 := by
  obtain ⟨h1, h2, h3⟩ := boxes2 w _ _ _ _ _ _ h
  exact ⟨h1, h2, h3⟩
theorem Arg2.drew (h : Arg2 w w' a0 b0 a1 b1) : Arg2 w w'.drew a0 b0 a1 b1 := ⟨below_drew h.be, h.x.drew, h.y.drew⟩
theorem Arg2.below (h : Arg2 w w' a0 b0 a1 b1) (hb : Below w'.heap.size w' w1) : Arg2 w w1 a0 b0 a1 b1 := ⟨keep_below hb h.be, h.x.below hb, h.y.below hb⟩
theorem Arg2.cells (h : Arg2 w w' a0 b0 a1 b1) : w'.cell? ⟨w.heap.size, 0, none⟩ = some a0 ∧ w'.cell? ⟨w.heap.size, 1, none⟩ = some b0 ∧ w'.cell? ⟨w.heap.size + 1, 0, none⟩ = some a1 ∧ w'.cell? ⟨w.heap.size + 1, 1, none⟩ = some b1 := ⟨h.x.at0, h.x.at1, h.y.at0, h.y.at1⟩
end
end Go.Proofs.YtegnnghoiffmhaaDoor.Big
