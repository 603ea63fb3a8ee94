/- What a function keeps: variables of any cells, and rows that it reads. -/
import Derived.Test.YtegnnghoiffmhaaDoorMB
namespace Go.Proofs.YtegnnghoiffmhaaDoor.Big
open Go.RowKit Go.Proofs.YtegnnghoiffmhaaDoorW.PrintWords Go.Proofs.YtegnnghoiffmhaaDoorW.PrintLast
set_option linter.unusedVariables false
set_option linter.unusedSimpArgs false
/-- No digit among the cells. -/
def NoDig (cs : List Value) : Prop := ∀ x ∈ cs, ∀ v, x ≠ .int .u32 v
theorem NoDig.nil : NoDig [] := by intro x h; cases h
theorem NoDig.bool {cs : List Value} (b : Bool) (h : NoDig cs) : NoDig (.bool b :: cs) := by
  intro x hx v e
  rcases List.mem_cons.1 hx with rfl | hx
  · cases e
  · exact h x hx v e
theorem NoDig.slice {cs : List Value} (A : Option Addr) (n c : Nat) (h : NoDig cs) : NoDig (.slice A n c :: cs) := by
  intro x hx v e
  rcases List.mem_cons.1 hx with rfl | hx
  · cases e
  · exact h x hx v e
theorem NoDig.i64 {cs : List Value} (n : Int) (h : NoDig cs) : NoDig (.int .i64 n :: cs) := by
  intro x hx v e
  rcases List.mem_cons.1 hx with rfl | hx
  · cases e
  · exact h x hx v e
theorem NoDig.string {cs : List Value} (s : ByteArray) (h : NoDig cs) : NoDig (.string s :: cs) := by
  intro x hx v e
  rcases List.mem_cons.1 hx with rfl | hx
  · cases e
  · exact h x hx v e
theorem NoDig.set {cs : List Value} (h : NoDig cs) (i : Nat) (u : Value) (hu : ∀ v, u ≠ .int .u32 v) : NoDig (cs.set i u) := by
  intro x hx v e
  rcases List.mem_or_eq_of_mem_set hx with h1 | h1
  · exact h x h1 v e
  · exact hu v (h1 ▸ e)
theorem cells_nodig {w : World} {g : Nat} {cs : List Value} {t : TypeId} {fr : Nat × Nat} (h : w.heap[g]? = some (.cells cs.toArray t fr)) (hn : NoDig cs) : ∀ o x, w.cell? ⟨g, o, none⟩ ≠ some (.int .u32 x) := by
  intro o x he
  simp only [World.cell?, h] at he
  simp only [List.getElem?_toArray] at he
  obtain ⟨hi, e⟩ := List.getElem?_eq_some_iff.1 he
  exact hn _ (List.getElem_mem hi) x e
structure KP (w w' : World) (l : List (Nat × List Value × TypeId)) (rs : List (Option Addr × Nat × List Int)) : Prop where
  be : Below w.heap.size w w'
  bx : ∀ g cs t, (g, cs, t) ∈ l → w'.heap[g]? = some (.cells cs.toArray t (0, 0))
  ge : ∀ g cs t, (g, cs, t) ∈ l → w.heap.size ≤ g
  nd : (l.map (·.1)).Nodup
  no : ∀ g cs t, (g, cs, t) ∈ l → NoDig cs
  rd : ∀ A c xs, (A, c, xs) ∈ rs → Rd w' A c xs
section
variable {w w' w1 : World} {l l' : List (Nat × List Value × TypeId)} {rs rs' : List (Option Addr × Nat × List Int)} {g : Nat} {cs : List Value} {t : TypeId}
theorem KP.start (w : World) : KP w w [] [] := ⟨Below.refl _ _, (by intro g a b h; cases h), (by intro g a b h; cases h), List.nodup_nil, (by intro g a b h; cases h), (by intro A c xs h; cases h)⟩
theorem KP.below (h : KP w w' l rs) (hb : Below w'.heap.size w' w1) : KP w w1 l rs := ⟨keep_below hb h.be, fun g a b hm => keep_blk hb (h.bx g a b hm), h.ge, h.nd, h.no, fun A c xs hm => (h.rd A c xs hm).below hb⟩
theorem KP.drew (h : KP w w' l rs) : KP w w'.drew l rs := h.below (below_drew (Below.refl _ _))
theorem KP.drewN (h : KP w w' l rs) (n : Nat) : KP w (w'.drewN n) l rs := h.below (pw_below_drewN (Below.refl _ _) n)
theorem KP.row (h : KP w w' l rs) {A : Option Addr} {c : Nat} {xs : List Int} (hr : Rd w' A c xs) : KP w w' l ((A, c, xs) :: rs) := ⟨h.be, h.bx, h.ge, h.nd, h.no, fun A' c' xs' hm => by
  rcases List.mem_cons.1 hm with e | hm
  · simp only [Prod.mk.injEq] at e; obtain ⟨rfl, rfl, rfl⟩ := e; exact hr
  · exact h.rd _ _ _ hm⟩
theorem KP.sub (h : KP w w' l rs) (hs : ∀ x, x ∈ rs' → x ∈ rs) : KP w w' l rs' := ⟨h.be, h.bx, h.ge, h.nd, h.no, fun A c xs hm => h.rd A c xs (hs _ hm)⟩
theorem KP.perm (h : KP w w' l rs) (hp : l'.Perm l) : KP w w' l' rs := ⟨h.be, fun g a b hm => h.bx g a b (hp.mem_iff.1 hm), fun g a b hm => h.ge g a b (hp.mem_iff.1 hm), ((hp.map (·.1)).nodup_iff).2 h.nd, fun g a b hm => h.no g a b (hp.mem_iff.1 hm), h.rd⟩
theorem KP.swap {x y : Nat × List Value × TypeId} (h : KP w w' (x :: y :: l) rs) : KP w w' (y :: x :: l) rs := h.perm (List.Perm.swap _ _ _)
theorem KP.alloc (h : KP w w' l rs) (o : Obj) : KP w (w'.alloc o) l rs := h.below (below_alloc (Below.refl _ _) o)
theorem KP.lt (h : KP w w' l rs) (hm : (g, cs, t) ∈ l) : g < w'.heap.size := (Array.getElem?_eq_some_iff.1 (h.bx _ _ _ hm)).1
theorem KP.new (h : KP w w' l rs) (cs : List Value) (t : TypeId) (hn : NoDig cs) (hg : w'.heap.size = g) : KP w (w'.alloc (.cells cs.toArray t)) ((g, cs, t) :: l) rs := by
  subst hg
  refine ⟨(h.alloc _).be, fun g' a' b' hm => ?_, fun g' a' b' hm => ?_, ?_, fun g' a' b' hm => ?_, (h.alloc _).rd⟩
  · rcases List.mem_cons.1 hm with e | hm
    · simp only [Prod.mk.injEq] at e; obtain ⟨rfl, rfl, rfl⟩ := e; exact heap_alloc_new w' _
    · exact (h.alloc _).bx _ _ _ hm
  · rcases List.mem_cons.1 hm with e | hm
    · simp only [Prod.mk.injEq] at e; obtain ⟨rfl, rfl, rfl⟩ := e; exact h.be.size
    · exact h.ge _ _ _ hm
  · rw [List.map_cons, List.nodup_cons]
    refine ⟨fun hm => ?_, h.nd⟩
    obtain ⟨⟨g', a', b'⟩, hm, e⟩ := List.mem_map.1 hm
    have := h.lt hm
    simp only at e
    omega
  · rcases List.mem_cons.1 hm with e | hm
    · simp only [Prod.mk.injEq] at e; obtain ⟨rfl, rfl, rfl⟩ := e; exact hn
    · exact h.no _ _ _ hm
theorem KP.at_ (h : KP w w' l rs) (hm : (g, cs, t) ∈ l) (i : Nat) {v : Value} (hi : cs[i]? = some v) : w'.cell? ⟨g, i, none⟩ = some v := by
  simp only [World.cell?, h.bx _ _ _ hm, List.getElem?_toArray]
  exact hi
theorem KP.free (h : KP w w' l rs) (hm : (g, cs, t) ∈ l) (i : Nat) : w'.frozen? ⟨g, i, none⟩ = false := by simp [World.frozen?, h.bx _ _ _ hm]
/-- A store into a variable. -/
theorem KP.put (h : KP w w' l rs) (k i : Nat) (v : Value) (hk : l[k]? = some (g, cs, t)) (hv : ∀ x, v ≠ .int .u32 x) (hl : l.set k (g, cs.set i v, t) = l') : KP w (w'.setCell ⟨g, i, none⟩ v) l' rs := by
  subst hl
  have hm : (g, cs, t) ∈ l := List.mem_of_getElem? hk
  have hb := h.bx _ _ _ hm
  have hge := h.ge _ _ _ hm
  have hkl : k < l.length := (List.getElem?_eq_some_iff.1 hk).1
  have ek : l[k] = (g, cs, t) := (List.getElem?_eq_some_iff.1 hk).2
  have key : ∀ g' cs' t', (g', cs', t') ∈ l.set k (g, cs.set i v, t) → (g', cs', t') = (g, cs.set i v, t) ∨ ((g', cs', t') ∈ l ∧ g' ≠ g) := by
    intro g' cs' t' hm'
    obtain ⟨j, hj, e⟩ := List.mem_iff_getElem.1 hm'
    rw [List.getElem_set] at e
    split at e
    · exact Or.inl e.symm
    · rename_i hne
      rw [List.length_set] at hj
      refine Or.inr ⟨e ▸ List.getElem_mem hj, ?_⟩
      rintro rfl
      have hn := h.nd
      rw [List.nodup_iff_pairwise_ne, List.pairwise_iff_getElem] at hn
      have e1 : (l.map (·.1))[j]'(by simpa using hj) = g' := by simp [e]
      have e2 : (l.map (·.1))[k]'(by simpa using hkl) = g' := by simp [ek]
      rcases Nat.lt_or_ge j k with hlt | hge2
      · exact hn j k (by simpa using hj) (by simpa using hkl) hlt (e1.trans e2.symm)
      · exact hn k j (by simpa using hkl) (by simpa using hj) (by omega) (e2.trans e1.symm)
  refine ⟨h.be.setCell (by simpa using hge) _, fun g' cs' t' hm' => ?_, fun g' cs' t' hm' => ?_, ?_, fun g' cs' t' hm' => ?_, fun A c xs hr => (h.rd _ _ _ hr).far (cells_nodig hb (h.no _ _ _ hm)) _⟩
  · rcases key _ _ _ hm' with e | ⟨hm2, hne⟩
    · simp only [Prod.mk.injEq] at e; obtain ⟨rfl, rfl, rfl⟩ := e
      have := heap_set1 (i := i) hb v
      simpa using this
    · exact (Below.heap_setCell w' ⟨g, i, none⟩ v g' hne).trans (h.bx _ _ _ hm2)
  · rcases key _ _ _ hm' with e | ⟨hm2, hne⟩
    · simp only [Prod.mk.injEq] at e; obtain ⟨rfl, rfl, rfl⟩ := e; exact hge
    · exact h.ge _ _ _ hm2
  · have : (l.set k (g, cs.set i v, t)).map (·.1) = l.map (·.1) := by
      rw [List.map_set]
      refine List.ext_getElem (by simp) (fun j h1 h2 => ?_)
      rw [List.getElem_set]
      split
      · rename_i e; subst e; simp [ek]
      · rfl
    rw [this]; exact h.nd
  · rcases key _ _ _ hm' with e | ⟨hm2, hne⟩
    · simp only [Prod.mk.injEq] at e; obtain ⟨rfl, rfl, rfl⟩ := e; exact (h.no _ _ _ hm).set i v hv
    · exact h.no _ _ _ hm2
theorem KP.room {a b : Value} (h : KP w w' ((g, a :: b :: cs, t) :: l) rs) : w'.cell? ⟨g, 0, none⟩ = some a ∧ w'.cell? ⟨g, 1, none⟩ = some b ∧ w'.frozen? ⟨g, 0, none⟩ = false ∧ w'.frozen? ⟨g, 1, none⟩ = false ∧ ¬ g = w'.heap.size ∧ ¬ w'.heap.size = g :=
  ⟨h.at_ List.mem_cons_self 0 rfl, h.at_ List.mem_cons_self 1 rfl, h.free List.mem_cons_self 0, h.free List.mem_cons_self 1, by have := h.lt List.mem_cons_self; omega, by have := h.lt List.mem_cons_self; omega⟩
theorem KP.tail {x : Nat × List Value × TypeId} (h : KP w w' (x :: l) rs) : KP w w' l rs := ⟨h.be, fun g a b hm => h.bx g a b (List.mem_cons_of_mem _ hm), fun g a b hm => h.ge g a b (List.mem_cons_of_mem _ hm), (List.nodup_cons.1 (by simpa using h.nd)).2, fun g a b hm => h.no g a b (List.mem_cons_of_mem _ hm), h.rd⟩
theorem KP.ne2 {x y : Nat × List Value × TypeId} (h : KP w w' (x :: y :: l) rs) : ¬ x.1 = y.1 ∧ ¬ y.1 = x.1 := by
  have := h.nd
  simp only [List.map_cons, List.nodup_cons, List.mem_cons, not_or] at this
  exact ⟨this.1.1, fun e => this.1.1 e.symm⟩
theorem KP.apart (h : KP w w' l rs) (i j : Nat) {x y : Nat × List Value × TypeId} (hi : l[i]? = some x) (hj : l[j]? = some y) (hij : (i == j) = false) : ¬ x.1 = y.1 ∧ ¬ y.1 = x.1 := by
  have hn := h.nd
  rw [List.nodup_iff_pairwise_ne, List.pairwise_iff_getElem] at hn
  obtain ⟨h1, e1⟩ := List.getElem?_eq_some_iff.1 hi
  obtain ⟨h2, e2⟩ := List.getElem?_eq_some_iff.1 hj
  have hne : i ≠ j := by simpa using hij
  have key : ¬ x.1 = y.1 := by
    intro e
    rcases Nat.lt_or_ge i j with hlt | hge
    · exact hn i j (by simpa using h1) (by simpa using h2) hlt (by simp [e1, e2, e])
    · exact hn j i (by simpa using h2) (by simpa using h1) (by omega) (by simp [e1, e2, e])
  exact ⟨key, fun e => key e.symm⟩
theorem KP.room2 {g2 : Nat} {cs2 : List Value} {t2 : TypeId} {a b a2 b2 : Value} (h : KP w w' ((g, a :: b :: cs, t) :: (g2, a2 :: b2 :: cs2, t2) :: l) rs) : (w'.cell? ⟨g, 0, none⟩ = some a ∧ w'.cell? ⟨g, 1, none⟩ = some b ∧ w'.frozen? ⟨g, 0, none⟩ = false ∧ w'.frozen? ⟨g, 1, none⟩ = false ∧ ¬ g = w'.heap.size ∧ ¬ w'.heap.size = g) ∧ (w'.cell? ⟨g2, 0, none⟩ = some a2 ∧ w'.cell? ⟨g2, 1, none⟩ = some b2 ∧ w'.frozen? ⟨g2, 0, none⟩ = false ∧ w'.frozen? ⟨g2, 1, none⟩ = false ∧ ¬ g2 = w'.heap.size ∧ ¬ w'.heap.size = g2) ∧ ¬ g = g2 ∧ ¬ g2 = g := ⟨h.room, h.tail.room, h.ne2⟩
end
theorem kp_alloc_cell {w : World} {p : Addr} {v : Value} {o : Obj} (h : w.cell? p = some v) : (w.alloc o).cell? p = some v := keep_cell (below_alloc (Below.refl _ _) o) h
theorem kp_drew_cell {w : World} {p : Addr} {v : Value} (h : w.cell? p = some v) : w.drew.cell? p = some v := h
theorem mg_i64 {n : Int} (h0 : -9223372036854775808 ≤ n) (h1 : n ≤ 9223372036854775807) : (mg n).length ≤ 3 := mg_len (k := 3) (by simp only [pw]; omega) (by simp only [pw]; omega)
theorem mg_fmod {a b : Int} {k : Nat} (hb : b ≠ 0) (h : (mg b).length ≤ k) : (mg (a.fmod b)).length ≤ k := by
  have h1 := mg_bound h
  obtain ⟨h2, h3⟩ := fdm a b hb
  exact mg_len (by omega) (by omega)
end Go.Proofs.YtegnnghoiffmhaaDoor.Big
