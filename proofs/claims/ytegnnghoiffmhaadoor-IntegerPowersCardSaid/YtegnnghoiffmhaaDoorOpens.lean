/- What a row hands its walk: an argument that reads as data is a value of its kind (numbers in range, strings and slices within the form's reach). Of no program. -/
import Derived.Test.YtegnnghoiffmhaaDoorWWords
import Derived.Test.YtegnnghoiffmhaaDoorWShare
import Derived.Test.YtegnnghoiffmhaaDoorWMore
import Derived.ChangeArms
import Derived.ChangeReads
import Derived.DataReads
import Derived.WideShapes
import Derived.SizedLaws
import Derived.OpenShut
import Derived.Deep.DeepHandedRow
import Derived.Lib.LaidTab
import Derived.Stop.LaidErr
namespace Go.Proofs.YtegnnghoiffmhaaDoor.Opens
open Go.RowKit Go.Proofs.YtegnnghoiffmhaaDoorW.PrintWords Go.WideShapes

/-- Cells of type t that read as data within the reach hold a value of kind d that meets wf. -/
structure Opens (P : Program) (t : TypeId) {α : Type} (d : Kd α) (wf : α → Prop) : Prop where
  mk :: (out : ∀ {H : Type} (enc : TypeId × Value → H) (W : World) (base : Nat) (sp : Nat → Bool) (held : Bool) (fuel : Nat) (cs : List Value) (D : DataW H) (ps : List MemPlace),
    DataW.trod enc P W base sp held fuel t cs = some (D, ps) → (∀ n ∈ D.weights P t, n ≤ 140737488351232) → ∃ x : α, d.K W x cs ∧ wf x)

section
variable {P : Program} {t e : TypeId}
theorem opens_int {k : IntKind} (h : P.underlying t = some (.int k)) : Opens P t (Kd.int k) (fun x => (Lit.int k x).wf = true) := by
  refine ⟨?_⟩
  intro H enc W base sp held fuel cs D ps ht _
  obtain ⟨n, rfl, _, hw⟩ := DataW.trod_int h ht
  exact ⟨n, rfl, hw⟩
theorem opens_bool (h : P.underlying t = some .bool) : Opens P t Kd.bool (fun _ => True) := by
  refine ⟨?_⟩
  intro H enc W base sp held fuel cs D ps ht _
  obtain ⟨b, rfl, _⟩ := DataW.trod_bool h ht
  exact ⟨b, rfl, trivial⟩
theorem opens_string (h : P.underlying t = some .string) : Opens P t Kd.string (fun x => x.size ≤ 140737488351232) := by
  refine ⟨?_⟩
  intro H enc W base sp held fuel cs D ps ht hw
  obtain ⟨s, rfl, hx, _⟩ := DataW.trod_string h ht
  cases hx
  exact ⟨s, rfl, by have := hw s.data.toList.length (by simp [DataW.weights]); simpa using this⟩

theorem list_of {α : Type} {Q : Nat → α → Prop} : ∀ n : Nat, (∀ i, i < n → ∃ x, Q i x) → ∃ xs : List α, xs.length = n ∧ ∀ i x, xs[i]? = some x → Q i x
  | 0, _ => ⟨[], rfl, fun i x h => by simp at h⟩
  | n + 1, h => by
    obtain ⟨xs, hl, hq⟩ := list_of n (fun i hi => h i (by omega))
    obtain ⟨x, hx⟩ := h n (by omega)
    refine ⟨xs ++ [x], by simp [hl], fun i y hy => ?_⟩
    rcases Nat.lt_or_ge i xs.length with hi | hi
    · rw [List.getElem?_append_left hi] at hy; exact hq i y hy
    · have hi' : i = xs.length := by
        have := (List.getElem?_eq_some_iff.1 hy).1
        rw [List.length_append, List.length_singleton] at this
        omega
      subst hi'
      rw [List.getElem?_append_right (Nat.le_refl _)] at hy
      simp at hy
      subst hy
      rw [hl]
      exact hx
theorem weightsAll_mem {H : Type} {d : DataW H} {n : Nat} : ∀ {l : List (DataW H)}, d ∈ l → n ∈ d.weights P e → n ∈ DataW.weightsAll P e l
  | x :: l, hd, hn => by
    unfold DataW.weightsAll
    rcases List.mem_cons.1 hd with rfl | hd
    · exact List.mem_append_left _ hn
    · exact List.mem_append_right _ (weightsAll_mem hd hn)
theorem weightsEach_mem {H : Type} {d : DataW H} {n : Nat} {t : TypeId} : ∀ {ts : List TypeId} {ds : List (DataW H)} {i : Nat}, ts[i]? = some t → ds[i]? = some d → n ∈ d.weights P t → n ∈ DataW.weightsEach P ts ds
  | [], _, i, h, _, _ => by simp at h
  | _ :: _, [], i, _, h, _ => by simp at h
  | t0 :: ts, d0 :: ds, i, ht, hd, hn => by
    unfold DataW.weightsEach
    cases i with
    | zero =>
      simp at ht hd
      subst ht hd
      exact List.mem_append_left _ hn
    | succ i => exact List.mem_append_right _ (weightsEach_mem (by simpa using ht) (by simpa using hd) hn)
theorem add_add_ (a : Addr) (i j : Nat) : (a.add i).add j = a.add (i + j) := by
  unfold Addr.add
  repeat' split
  all_goals simp_all
  all_goals omega
theorem opens_slice {α : Type} {d : Kd α} {wf : α → Prop} (ht : P.underlying t = some (.slice e)) (hc : P.cellsOf e = d.sz) (he : Opens P e d wf) (B : Nat) (hB : P.bytesOf e = B) :
    Opens P t (Kd.slice e d) (fun xs => xs.length * B ≤ 140737488351232 ∧ ∀ x ∈ xs, wf x) := by
  refine ⟨?_⟩
  intro H enc W base sp held fuel cs D ps h hw
  rcases DataW.trod_slice ht h with ⟨rfl, hx⟩ | ⟨a, len, cap, elems, rest, n, rfl, rfl, hx, hb, hl, hm, hel, hcell, _⟩
  · exact ⟨[], ⟨none, 0, rfl, by simp, ⟨rfl, by simp, fun h0 => absurd h0 (by simp)⟩⟩, by simp, by simp⟩
  · cases hx
    have hwt : ∀ m ∈ (elems.map (·.1)).length * B :: [], m ≤ 140737488351232 := by
      intro m hm'
      simp only [List.mem_singleton] at hm'
      subst hm'
      have := hw (((elems.map (·.1)).length + (rest.map (·.1)).length) * P.bytesOf e) (by simp [DataW.weights, ht])
      rw [hB] at this
      exact Nat.le_trans (Nat.mul_le_mul_right _ (by omega)) this
    have each : ∀ i, i < len → ∃ x : α, (∃ c, W.cells? base (a.add (i * P.cellsOf e)) (P.cellsOf e) = some c ∧ d.K W x c) ∧ wf x := by
      intro i hi
      have h1 := hcell i hi
      have hi' : i < elems.length := by omega
      rw [List.getElem?_eq_getElem hi'] at h1
      obtain ⟨c, hc1, hc2⟩ := Option.bind_eq_some_iff.1 h1
      obtain ⟨x, hK, hwf⟩ := he.out enc W base sp held n c _ _ hc2 (fun m hm' => hw m (by
        simp only [DataW.weights, ht]
        exact List.mem_cons_of_mem _ (List.mem_append_left _ (weightsAll_mem (List.mem_map_of_mem (List.getElem_mem hi')) hm'))))
      exact ⟨x, ⟨c, hc1, hK⟩, hwf⟩
    obtain ⟨xs, hxl, hxs⟩ := list_of len each
    refine ⟨xs, ⟨some a, cap, by rw [hxl], by omega, ⟨rfl, ?_, fun _ => ⟨a, rfl, fun j p hj => ?_⟩⟩⟩, ?_, ?_⟩
    · have : maxLen = 9223372036854775807 := rfl
      omega
    · obtain ⟨⟨c, hc1, hK⟩, _⟩ := hxs j p hj
      rw [hc] at hc1
      obtain ⟨_, hlen, hcl⟩ := World.cells?_some hc1
      exact ⟨c, hlen, hK, fun i u hu => by
        have hi : i < c.length := (List.getElem?_eq_some_iff.1 hu).1
        have h2 := hcl i (by omega)
        rw [add_add_] at h2
        rw [h2]; exact hu⟩
    · have := hwt ((elems.map (·.1)).length * B) (by simp)
      rw [List.length_map] at this
      rw [hxl]
      rw [hel] at this
      exact this
    · intro x hx
      obtain ⟨i, hi⟩ := List.getElem?_of_mem hx
      exact (hxs i x hi).2

/-- The fields of a struct, from the one whose cells begin at place o on. -/
structure OpensF (P : Program) (fs : List Field) (o : Nat) {β : Type} (d : Kd β) (wf : β → Prop) : Prop where
  mk :: (out : ∀ {H : Type} (enc : TypeId × Value → H) (W : World) (base : Nat) (sp : Nat → Bool) (held : Bool) (n : Nat) (cs : List Value) (xs : List (DataW H × List MemPlace)),
    cs.length = o + d.sz → xs.length = fs.length → (∀ (i : Nat) (f : Field), fs[i]? = some f → DataW.trod enc P W base sp held n f.type ((cs.drop f.offset).take (P.cellsOf f.type)) = xs[i]?) →
    (∀ m ∈ DataW.weightsEach P (fs.map (·.type)) (xs.map (·.1)), m ≤ 140737488351232) → ∃ x : β, d.K W x (cs.drop o) ∧ wf x)
theorem opensF_last {f : Field} {β : Type} {d : Kd β} {wf : β → Prop} (hc : P.cellsOf f.type = d.sz) (h : Opens P f.type d wf) : OpensF P [f] f.offset d wf := by
  refine ⟨?_⟩
  intro H enc W base sp held n cs xs hl hx hf hw
  match xs, hx with
  | [x], _ =>
    have h1 := hf 0 f rfl
    simp only [List.getElem?_cons_zero] at h1
    rw [hc, List.take_of_length_le (by rw [List.length_drop]; omega)] at h1
    exact h.out enc W base sp held n _ x.1 x.2 h1 (fun m hm => hw m (weightsEach_mem (i := 0) rfl rfl hm))
theorem opensF_cons {f g : Field} {r : List Field} {β γ : Type} {d : Kd β} {d2 : Kd γ} {wf : β → Prop} {wf2 : γ → Prop} {o : Nat} (ho : f.offset = o) (hc : P.cellsOf f.type = d.sz) (h : Opens P f.type d wf)
    (h2 : OpensF P (g :: r) (o + d.sz) d2 wf2) : OpensF P (f :: g :: r) o (Kd.pair d d2) (fun x => wf x.1 ∧ wf2 x.2) := by
  refine ⟨?_⟩
  intro H enc W base sp held n cs xs hl hx hf hw
  match xs, hx with
  | x :: ys, hx =>
    have h1 := hf 0 f rfl
    simp only [List.getElem?_cons_zero] at h1
    rw [hc, ho] at h1
    obtain ⟨y, hy, hwy⟩ := h.out enc W base sp held n _ x.1 x.2 h1 (fun m hm => hw m (weightsEach_mem (i := 0) rfl rfl hm))
    have hl2 : cs.length = o + (d.sz + d2.sz) := hl
    obtain ⟨z, hz, hwz⟩ := h2.out enc W base sp held n cs ys (by omega) (by simpa using hx) (fun i f' hi => by simpa using hf (i + 1) f' (by simpa using hi)) (fun m hm => hw m (by
      simp only [List.map_cons, DataW.weightsEach]
      exact List.mem_append_right _ hm))
    refine ⟨(y, z), ⟨(cs.drop o).take d.sz, cs.drop (o + d.sz), ?_, hy, hz⟩, hwy, hwz⟩
    rw [← List.drop_drop, List.take_append_drop]
theorem opens_struct {fs : Array Field} {β : Type} {d : Kd β} {wf : β → Prop} (ht : P.underlying t = some (.struct fs)) (hc : P.cellsOf t = d.sz) (h : OpensF P fs.toList 0 d wf) : Opens P t d wf := by
  refine ⟨?_⟩
  intro H enc W base sp held fuel cs D ps hd hw
  obtain ⟨xs, n, rfl, hx, hcl, hxl, hf⟩ := DataW.trod_struct ht hd
  cases hx
  obtain ⟨x, hK, hwf⟩ := h.out enc W base sp held n cs xs (by omega) (by simpa using hxl) (fun i f hi => hf i f (by simpa using hi)) (fun m hm => hw m (by
    simp only [DataW.weights, ht]
    exact hm))
  exact ⟨x, by simpa using hK, hwf⟩
theorem opens_iso {α β : Type} {d : Kd α} {wf : α → Prop} (f : β → α) (g : α → β) (hfg : ∀ a, f (g a) = a) (h : Opens P t d wf) : Opens P t (Kd.iso d f) (fun x => wf (f x)) := by
  refine ⟨?_⟩
  intro H enc W base sp held fuel cs D ps hd hw
  obtain ⟨x, hK, hwf⟩ := h.out enc W base sp held fuel cs D ps hd hw
  exact ⟨g x, by show d.K W (f (g x)) cs; rw [hfg]; exact hK, by show wf (f (g x)); rw [hfg]; exact hwf⟩
theorem opens_imp {α : Type} {d : Kd α} {wf wf' : α → Prop} (h : Opens P t d wf) (hw : ∀ x, wf x → wf' x) : Opens P t d wf' := by
  refine ⟨?_⟩
  intro H enc W base sp held fuel cs D ps hd hwt
  obtain ⟨x, hK, hwf⟩ := h.out enc W base sp held fuel cs D ps hd hwt
  exact ⟨x, hK, hw x hwf⟩

/-- An argument. -/
theorem Opens.arg {α : Type} {d : Kd α} {wf : α → Prop} (h : Opens P t d wf) {H : Type} {enc : TypeId × Value → H} {W : World} {base : Nat} {sp : Nat → Bool} {held : Bool} {v : Value} {D : DataW H} {ps : List MemPlace}
    (hd : DataW.Trod enc P W base sp held t v D ps) (hw : ∀ n ∈ D.weights P t, n ≤ 140737488351232) : ∃ x : α, d.K W x v.cells.toList ∧ wf x := by
  obtain ⟨fuel, hf⟩ := hd
  exact h.out enc W base sp held fuel _ D ps hf hw
theorem weights_arg {H : Type} {ts : List TypeId} {ds : List (DataW H)} {D : DataW H} {t : TypeId} (i : Nat) (hsz : (DataW.weightsEach P ts ds).all (· ≤ reachBytes) = true) (ht : ts[i]? = some t) (hd : ds[i]? = some D) : ∀ n ∈ D.weights P t, n ≤ 140737488351232 := by
  intro n hn
  have := List.all_eq_true.1 hsz n (weightsEach_mem ht hd hn)
  exact (of_decide_eq_true this : n ≤ reachBytes)
end
end Go.Proofs.YtegnnghoiffmhaaDoor.Opens
