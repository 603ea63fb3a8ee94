/- integer.Format: an integer's decimal notation. -/
import Derived.Test.YtegnnghoiffmhaaDoorIMag
import Derived.Test.YtegnnghoiffmhaaDoorIShrunk
import Derived.Test.YtegnnghoiffmhaaDoorIText
import Derived.Test.YtegnnghoiffmhaaDoorShelf
import Derived.Lib.LaidTab
import Derived.Lib.AppendIntMem
namespace Go.Proofs.YtegnnghoiffmhaaDoor.Big
open Go.RowKit Go.Proofs.YtegnnghoiffmhaaDoorW.PrintWords
set_option linter.unusedVariables false
set_option linter.unusedSimpArgs false
def Tab_p10 (w : World) : Prop := Lib.TabIs Tryd.prog w "internal/strconv.uint64pow10" .u64 Lib.pow10Tab
theorem Tab_p10.below {w w1 : World} (h : Tab_p10 w) (hb : Below w.heap.size w w1) : Tab_p10 w1 := Lib.tabBelow_of_tabIs h w1 hb
section
variable {P : Program} {ops : Array Oper} {rest : List Oper} {o : Oper} {a : Act} {Q : Exit → Act → World → Prop} {W : World}
/-- append(v, x) to a row of the call's own: where the new row lies. -/
theorem app1_u32 {base : Nat} (hgd : o.guard = none) (s x : Operand) (ho : o.op = .call { callee := .builtin .append, args := #[s, x], argTypes := #[22, 22] }) (v : Value) (xs : List Int) (y : Int) (hy : 0 ≤ y ∧ y ≤ 4294967295)
    (hs : a.eval s = v) (hx : a.eval x = .slice (some ⟨W.heap.size, 0, none⟩) 1 1) (HO : Ow W base v xs) (hbase : base ≤ W.heap.size) (hl : xs.length + 1 ≤ 2199023255552 * 8)
    (h : ∀ v1 w1, Ow w1 base v1 (xs ++ [y]) → W.grownBy w1 v.ownBlock → (v1.ownBlock = v.ownBlock ∨ ∃ b, v1.ownBlock = some b ∧ W.heap.size ≤ b) → wpList Tryd.prog ops Q rest (a.put o.dst v1) w1) : wpList Tryd.prog ops Q (o :: rest) a (W.alloc (.cells #[.int .u32 y] 57)) := by
  refine Kd.R_append (Kd.int .u32) (w0 := W) base hgd s x 22 57 (.int .u32 0) 4 ho Tryd.underlying22 info_u32 rfl (by decide) (by omega) v xs y [.int .u32 y] (fun _ => True) (fun k => some k ≠ v.ownBlock) hs hx ?_ (fun k hk => ⟨trivial, hk⟩) (fun _ _ => trivial) HO.own (Below.refl _ _ |>.mono hbase) hbase (by omega) ?_
  · rfl
  intro v1 w1 h1 h2 h3 h4
  exact h v1 w1 ⟨h1, fun z hz => (List.mem_append.1 hz).elim (HO.dig z) (fun h => by rw [List.mem_singleton.1 h]; exact hy)⟩ h3 h4
theorem info_u8 : (Tryd.prog.info? 5).map (fun i => (i.zero, i.size, i.bytes)) = some (some (.int .u8 0), 1, 1) := by kernel_rfl
/-- A row of bytes of the call's own. -/
def Bw (w : World) (base : Nat) (v : Value) (bs : List Int) : Prop := w.ownsRow base 5 1 v bs.length (nums .u8 bs)
theorem Bw.below {w w1 : World} {base : Nat} {v : Value} {bs : List Int} (h : Bw w base v bs) (hb : Below w.heap.size w w1) : Bw w1 base v bs := pw_own_below h hb
theorem Bw.nil (w : World) (base : Nat) : Bw w base (.slice none 0 0) [] := own_nil _ _ _ _
theorem app1_u8 {w0 : World} {base : Nat} (hgd : o.guard = none) (s x : Operand) (ho : o.op = .call { callee := .builtin .append, args := #[s, x], argTypes := #[63, 63] }) (v : Value) (bs : List Int) (y : Int)
    (hs : a.eval s = v) (hx : a.eval x = .slice (some ⟨W.heap.size, 0, none⟩) 1 1) (HO : Bw W base v bs) (HB : Below base w0 W) (hbase : base ≤ W.heap.size) (hl : bs.length + 1 ≤ 140737488355328)
    (h : ∀ v1 w1, Bw w1 base v1 (bs ++ [y]) → Below base w0 w1 → W.grownBy w1 v.ownBlock → wpList Tryd.prog ops Q rest (a.put o.dst v1) w1) : wpList Tryd.prog ops Q (o :: rest) a (W.alloc (.cells #[.int .u8 y] 5)) :=
  print_append_num base hgd s x 63 5 .u8 1 ho Tryd.underlying63 info_u8 (by omega) v bs y hs hx HO HB hbase (by omega) fun v1 w1 h1 h2 h3 _ => h v1 w1 h1 h2 h3
theorem app_str {w0 : World} {base : Nat} (hgd : o.guard = none) (s x : Operand) (ho : o.op = .call { callee := .builtin .append, args := #[s, x], argTypes := #[63, 9] }) (v : Value) (bs : List Int) (y : ByteArray)
    (hs : a.eval s = v) (hx : a.eval x = .string y) (HO : Bw W base v bs) (HB : Below base w0 W) (hbase : base ≤ W.heap.size) (hl : bs.length + y.size ≤ 140737488355328)
    (h : ∀ v1 w1, Bw w1 base v1 (bs ++ bytesOf y) → Below base w0 w1 → W.grownBy w1 v.ownBlock → wpList Tryd.prog ops Q rest (a.put o.dst v1) w1) : wpList Tryd.prog ops Q (o :: rest) a W :=
  print_append_str base hgd s x 63 9 5 ho Tryd.underlying63 Tryd.underlying9 info_u8 v bs y hs hx HO HB hbase hl h
end
theorem Arg1.grown {w W W' : World} {a0 b0 : Value} {row : Option Nat} (h : Arg1 w W a0 b0) (hg : W.grownBy W' row) (hr : ∀ k, row = some k → w.heap.size + 1 ≤ k) : Arg1 w W' a0 b0 :=
  ⟨h.be.grown hg h.be.size (fun k hk => by have := hr k hk; omega), ⟨(hg.block _ (Array.getElem?_eq_some_iff.1 h.x.blk).1 (fun e => by have := hr _ e.symm; omega)).trans h.x.blk⟩⟩
/-- What the loop over the digits keeps. -/
def FI (w w' : World) (n : Bool) (A0 : Option Addr) (c0 : Nat) (xs : List Int) (A : Option Addr) (c : Nat) (G : Value) (cs gs : List Int) (kq : Nat) : Prop :=
  trimL cs = cs ∧ cs.length ≤ xs.length ∧ val cs * 1000000000 ^ gs.length + gv gs = val xs ∧ (∀ g ∈ gs, 0 ≤ g ∧ g < 1000000000) ∧ (cs = [] → 0 < dg gs (gs.length - 1)) ∧ (val cs < 2 ^ kq ∧ kq + gs.length ≤ 32 * xs.length) ∧
  Ow w' (w.heap.size + 1) (.slice A cs.length c) cs ∧ Ow w' (w.heap.size + 1) G gs ∧ ((Value.slice A cs.length c).ownBlock = none ∨ (Value.slice A cs.length c).ownBlock ≠ G.ownBlock) ∧ Arg1 w w' (.bool n) (.slice A0 xs.length c0)
theorem Ow.take {w : World} {base n c m : Nat} {A : Option Addr} {xs : List Int} (h : Ow w base (.slice A n c) xs) (hm : m ≤ xs.length) : Ow w base (.slice A m c) (xs.take m) :=
  ⟨Kd.R_take h.own hm, fun x hx => h.dig x (List.mem_of_mem_take hx)⟩
theorem Ow.trim {w : World} {base n c : Nat} {A : Option Addr} {xs : List Int} (h : Ow w base (.slice A n c) xs) : Ow w base (.slice A (trimL xs).length c) (trimL xs) := by
  have e := trimL_prefix xs
  have h1 := h.take (trimL_len xs)
  rw [← e] at h1
  exact h1
theorem val_pos {cs : List Int} (hd : ∀ x ∈ cs, 0 ≤ x ∧ x ≤ 4294967295) (ht : trimL cs = cs) (hc : cs ≠ []) : 0 < val cs := by
  have h1 := val_ge cs hd ht (List.length_pos_iff.2 hc)
  have h2 := pw_pos (cs.length - 1)
  omega
theorem val_pos' {xs : List Int} (ht : trimL xs ≠ []) (hd : ∀ x ∈ xs, 0 ≤ x ∧ x ≤ 4294967295) : 0 < val xs := by
  have h := val_pos (cs := trimL xs) (fun x hx => by rw [trimL_prefix xs] at hx; exact hd x (List.mem_of_mem_take hx)) (trimL_trimL _) ht
  rwa [val_trim] at h
theorem addr_add0 (g k : Nat) : (⟨g, 0, none⟩ : Addr).add k = ⟨g, k, none⟩ := by unfold Addr.add; split <;> simp_all
theorem fi_next (w w' w1 w3 w4 : World) (n : Bool) (A0 : Option Addr) (c0 : Nat) (xs : List Int) (g c : Nat) (G G' : Value) (cs gs ys : List Int) (kq : Nat) (h : FI w w' n A0 c0 xs (some ⟨g, 0, none⟩) c G cs gs kq) (hc : cs ≠ [])
    (hy : Ow w1 (w.heap.size + 1) (.slice (some ⟨g, 0, none⟩) cs.length c) ys) (hv : val ys = val cs / 1000000000) (hl : ys.length = cs.length) (hg1 : w'.grownBy w1 (some g)) (hG : Ow w3 (w.heap.size + 1) G' (gs ++ [val cs % 1000000000])) (hg2 : w1.grownBy w3 G.ownBlock)
    (hat : G'.ownBlock = G.ownBlock ∨ ∃ b, G'.ownBlock = some b ∧ w1.heap.size ≤ b) (hb : Below w3.heap.size w3 w4) :
    1 ≤ kq ∧ FI w w4 n A0 c0 xs (some ⟨g, 0, none⟩) c G' (trimL ys) (gs ++ [val cs % 1000000000]) (kq - 1) := by
  obtain ⟨h1, h2, h3, h4, h5, ⟨h6, h7⟩, h8, h9, h10, h11⟩ := h
  have hp := val_pos h8.dig h1 hc
  have hk : 1 ≤ kq := by
    rcases Nat.eq_zero_or_pos kq with e | e
    · subst e; simp at h6; omega
    · exact e
  have e1 := Int.mul_ediv_add_emod (val cs) 1000000000
  have hgl : 0 < cs.length := List.length_pos_iff.2 hc
  obtain ⟨g', cap', e, hg0, hglt⟩ := h8.form hgl
  have e3 : g = g' := by simp only [Value.slice.injEq, Option.some.injEq, Addr.mk.injEq] at e; exact e.1.1
  rw [← e3] at hg0 hglt
  have hne : some g ≠ G.ownBlock := by
    rcases h10 with h | h
    · simp [Value.ownBlock] at h
    · simpa [Value.ownBlock] using h
  refine ⟨hk, trimL_trimL _, by have := trimL_len ys; omega, ?_, ?_, ?_, ⟨?_, by rw [List.length_append]; simp; omega⟩, ?_, hG.below hb, Or.inr ?_, ?_⟩
  · rw [val_trim, hv, gv_append, List.length_append, List.length_singleton, Int.pow_succ]
    generalize (1000000000 : Int) ^ gs.length = P at *
    grind
  · intro x hx
    rcases List.mem_append.1 hx with hx | hx
    · exact h4 x hx
    · rw [List.mem_singleton.1 hx]; omega
  · intro hn
    have : val ys = 0 := by rw [← val_trim, hn]; rfl
    rw [List.length_append, List.length_singleton, Nat.add_sub_cancel]
    simp [dg, List.getD_eq_getElem?_getD]
    omega
  · rw [val_trim, hv]
    have : (2 : Int) ^ kq = 2 ^ (kq - 1) * 2 := by obtain ⟨k', rfl⟩ : ∃ k', kq = k' + 1 := ⟨kq - 1, by omega⟩; rw [Nat.add_sub_cancel, Int.pow_succ]
    omega
  · exact ((hy.other hg2 (Or.inr (by simpa [Value.ownBlock] using hne))).below hb).trim
  · show some g ≠ G'.ownBlock
    rcases hat with e | ⟨b, e, hb2⟩
    · rw [e]; exact hne
    · rw [e]; intro e4; have := hg1.size; injection e4 with e4; omega
  · refine ((h11.grown hg1 ?_).grown hg2 ?_).below hb
    · intro k e; injection e with e; omega
    · intro k e; exact h9.from_ k e
theorem two_pow_pw (n : Nat) : pw n = 2 ^ (32 * n) := by
  induction n with
  | zero => rfl
  | succ n ih => rw [pw, ih, show 32 * (n + 1) = 32 * n + 32 by omega, Int.pow_add]; omega
set_option maxHeartbeats 4000000 in
set_option maxRecDepth 100000 in
theorem Format_any (n : Bool) (A0 : Option Addr) (c0 : Nat) (xs : List Int) (w : World) (h0 : Rd w A0 c0 xs) (hl0 : xs.length ≤ 274877906944) (hT : Tab_p10 w) :
    Calls Tryd.prog 35 #[.agg #[.bool n, .slice A0 xs.length c0]] w fun e w' => e = .returned (.string ⟨(Lib.itoa (iv n xs)).toArray⟩) ∧ Below w.heap.size w w' := by
  have L0 := trimL_len xs
  have HT := Aside0.mk hT
  clear hT
  go_enter Tryd.func35, Tryd.ntmps35
  by_cases hz : trimL xs = []
  · have hz0 : (((trimL xs).length : Int) == 0) = true := by rw [hz]; rfl
    have HZ := Aside0.mk hz
    clear hz
    go_wp2_with (first | (go_at_call 50; generalize hwb : World.alloc _ _ = wb; have hA := Arg1.start w _ _ hwb; clear hwb; (with_reducible refine (magnitude_any n A0 c0 xs _ (h0.below hA.be) (by omega)).mono ?_); rintro e w1 ⟨rfl, hb⟩; replace hA := hA.below hb; clear hb) | (go_at_call 59; (with_reducible refine (clone_any A0 c0 (trimL xs) _ (h0.trim.below hA.be) (by omega)).mono ?_); rintro e w2 ⟨v, rfl, ho, hb⟩; obtain ⟨A, c, rfl, hR⟩ := ho.rd; replace hA := hA.below hb; clear hb ho))
    go_ret
    have hv : val xs = 0 := by rw [← val_trim, HZ.out]; rfl
    have hi : iv n xs = 0 := by unfold iv; rw [hv]; split <;> rfl
    refine ⟨?_, hA.be⟩
    rw [hi]
    simp [Lib.itoa, Lib.decDigits_one]
  · have hz0 : (((trimL xs).length : Int) == 0) = false := by rw [beq_eq_false_iff_ne]; intro h; exact hz (List.eq_nil_of_length_eq_zero (by omega))
    have HZ := Aside0.mk hz
    clear hz
    go_wp2_with (first | (go_at_call 50; generalize hwb : World.alloc _ _ = wb; have hA := Arg1.start w _ _ hwb; clear hwb; (with_reducible refine (magnitude_any n A0 c0 xs _ (h0.below hA.be) (by omega)).mono ?_); rintro e w1 ⟨rfl, hb⟩; replace hA := hA.below hb; clear hb) | (go_at_call 59; (with_reducible refine (clone_any A0 c0 (trimL xs) _ (h0.trim.below hA.be) (by omega)).mono ?_); rintro e w2 ⟨v, rfl, ho, hb⟩; have hbox := (Array.getElem?_eq_some_iff.1 hA.x.blk).1; replace hA := hA.below hb; obtain ⟨A, c, rfl, hR⟩ := ho.rd; have HO := Aside0.mk (ho.lower hbox); have HA := Aside0.mk hA; clear hb ho hR hbox))
    go_loopg [3, 4] (32 * xs.length) (fun kq v3 v4 w' => ∃ (cs gs : List Int) (A : Option Addr) (c : Nat) (G : Value), v3 = .slice A cs.length c ∧ G = v4 ∧ Aside0 (FI w w' n A0 c0 xs A c G cs gs kq))
    case atStart => exact ⟨trimL xs, [], A, c, _, rfl, rfl, ⟨trimL_trimL _, L0, by rw [val_trim]; simp [gv], by simp, fun h => absurd h HZ.out, ⟨by rw [val_trim, ← two_pow_pw]; exact (val_bounds xs h0.dig).2, by simp⟩, HO.out, Ow.nil _ _, by cases A <;> simp [Value.ownBlock], HA.out⟩⟩
    case round =>
      clear HO HA
      obtain ⟨cs, gs, A, c, G, rfl, rfl, HF⟩ := hrel
      by_cases hc : cs = []
      · subst hc
        have hF := HF.out
        have hlen : 0 < gs.length := by
          rcases Nat.eq_zero_or_pos gs.length with e | e
          · have h := hF.2.2.2.2.1 rfl
            rw [List.eq_nil_of_length_eq_zero e] at h
            simp [dg] at h
          · exact e
        have hgv : gv gs = val xs := by have := hF.2.2.1; simpa [val] using this
        obtain ⟨g, cap, rfl, hg0, hglt⟩ := hF.2.2.2.2.2.2.2.1.form hlen
        have hRG := hF.2.2.2.2.2.2.2.1.rd'.2
        have hbox := hF.2.2.2.2.2.2.2.2.2
        have hb0 := hbox.x.at0
        have hgl : gs.length ≤ 8796093022208 := by have := hF.2.2.2.2.2.1.2; omega
        have GS := Aside0.mk (And.intro hF.2.2.2.1 (hF.2.2.2.2.1 rfl))
        have GR := Aside0.mk (And.intro hRG hbox.be)
        have GV := Aside0.mk hgv
        clear hF hRG hbox hgv hg0 hglt HF
        obtain ⟨wo, rfl⟩ : ∃ wo : World, wo = wr := ⟨_, rfl⟩
        go_upto_if 27 with (fail)
        go_cut [5] (fun v5 wc => ∃ V : Value, V = v5 ∧ Aside0 (Bw wc wo.heap.size V (tx (sgn n)) ∧ Below wo.heap.size wo wc))
        case first =>
          cases n with
          | true =>
            go_wp2_with (first | (at_builtin; refine app1_u8 (w0 := wo) (base := wo.heap.size) rfl _ _ rfl (.slice none 0 0) [] 45 rfl rfl (Bw.nil _ _) (Below.refl _ _) (Nat.le_refl _) (by simp) ?_; intro v6 w6 hv hb hg))
            go_meet
            case rel => exact ⟨_, rfl, ⟨hv, hb⟩⟩
          | false =>
            go_wp2
            go_meet
            case rel => exact ⟨_, rfl, ⟨Bw.nil _ _, Below.refl _ _⟩⟩
        case rest =>
          obtain ⟨V, rfl, HV⟩ := hcut
          go_wp2
          go_loopg [5, 6] gs.length (fun kq v5 v6 w' => ∃ (k : Nat) (bs : List Int) (V : Value), V = v5 ∧ v6 = .int .i64 ((k : Int) - 1) ∧ Aside0 (k = kq ∧ k ≤ gs.length ∧ bs = tx (sgn n ++ tt gs k) ∧ bs.length + 9 * k ≤ 9 * gs.length + 1 ∧ Bw w' wo.heap.size V bs ∧ Below wo.heap.size wo w'))
          case atStart => exact ⟨gs.length, tx (sgn n), _, rfl, rfl, ⟨rfl, Nat.le_refl _, by rw [tt_len, List.append_nil], by rw [tx_length]; cases n <;> simp [sgn] <;> omega, HV.out.1, HV.out.2⟩⟩
          case round =>
            clear HV
            obtain ⟨k, bs, V, rfl, rfl, HA⟩ := hrel
            cases k with
            | zero =>
              have hcv := own_string (P := Tryd.prog) (src := 63) (dst := 9) Tryd.underlying63 Tryd.underlying5 Tryd.underlying9 HA.out.2.2.2.2.1
              go_wp2
              go_ret
              have hA := HA.out
              have hxp : 0 < val xs := val_pos' HZ.out h0.dig
              refine ⟨?_, keep_below hA.2.2.2.2.2 GR.out.2⟩
              rw [hA.2.2.1, strOfNums_tx, text_iv n xs gs GV.out hxp hlen]
              rfl
            | succ k =>
              have hk : k < gs.length := by have := HA.out.2.1; omega
              obtain ⟨x0, e0, hx⟩ := GR.out.1.at_ k hk
              cases e0
              have hx2 : wr.cell? ⟨g, k, none⟩ = some (.int .u32 (dg gs k)) := by
                have h := (HA.out.2.2.2.2.2.cell (World.block_lt_of_cell? wo _ hx)).trans hx
                rw [addr_add0] at h
                exact h
              clear hx
              obtain ⟨d0, d1⟩ := gv_dg gs GS.out.1 k
              have hkl : k < 8796093022208 := by omega
              obtain ⟨nd, hnd⟩ : ∃ nd, Lib.nDigits (dg gs k).toNat = nd := ⟨_, rfl⟩
              have HN := Aside0.mk (show (Lib.decDigits (dg gs k).toNat).length = nd ∧ 1 ≤ nd ∧ nd ≤ 9 by
                rw [Lib.decDigits_length, hnd, ← hnd]; exact ⟨rfl, Lib.nDigits_pos _, nDigits_le 8 _ (by omega)⟩)
              have HNN := Aside0.mk hnd
              have hit : ∀ w1 : World, Below wo.heap.size wo w1 → Calls Tryd.prog 66 #[.int .i64 (dg gs k)] w1 fun e w' => e = .returned (.string ⟨(Lib.decDigits (dg gs k).toNat).toArray⟩) ∧ Below w1.heap.size w1 w' := by
                intro w1 hb
                refine (Tryd.strconv_Itoa (dg gs k) (by omega) (by omega) w1 (HT.out.below (keep_below hb GR.out.2))).mono ?_
                rintro e w' ⟨rfl, j, os, rfl⟩
                exact ⟨by rw [itoa_pos _ d0], Lib.below_grow _ w1 (Nat.le_refl _) j os⟩
              have HIT := Aside0.mk hit
              have hsz : (⟨(Lib.decDigits (dg gs k).toNat).toArray⟩ : ByteArray).size = nd := HN.out.1
              clear hit hnd
              rw [show (((k + 1 : Nat) : Int) - 1) = (k : Int) by omega]
              go_wp2_with (first | (go_at_call 66; (with_reducible refine (HIT.out _ HA.out.2.2.2.2.2).mono ?_); rintro e w5 ⟨rfl, hb⟩; have HB5 := Aside0.mk hb; clear hb))
              go_loopg [5, 8] (9 - nd) (fun kq v5 v8 w' => ∃ (t : Nat) (cs : List Int) (V2 : Value), V2 = v5 ∧ v8 = .int .i64 ((nd + t : Nat) : Int) ∧ Aside0 (t + kq = 9 - nd ∧ cs = bs ++ List.replicate t 48 ∧ (k + 1 = gs.length → t = 0) ∧ Bw w' wo.heap.size V2 cs ∧ Below wo.heap.size wo w'))
              case atStart => exact ⟨0, bs, _, rfl, rfl, ⟨by omega, by simp, fun _ => rfl, HA.out.2.2.2.2.1.below HB5.out, HA.out.2.2.2.2.2.trans (HB5.out.mono HA.out.2.2.2.2.2.size)⟩⟩
              case round =>
                obtain ⟨t, cs, V2, rfl, rfl, HB⟩ := hrel
                have hnd9 : nd ≤ 9 := HN.out.2.2
                have htl : t ≤ 9 := by have := HB.out.1; omega
                have HC7 := Aside0.mk (show cs.length + 9 ≤ 140737488355328 by rw [HB.out.2.1, List.length_append, List.length_replicate]; have := HA.out.2.2.2.1; omega)
                by_cases h9 : nd + t < 9
                · by_cases hkt : k + 1 < gs.length
                  · have h9i : ((nd + t : Nat) : Int) < 9 := by omega
                    have hki : (k : Int) < (gs.length : Int) - 1 := by omega
                    go_wp2_with (first | (at_builtin; refine app1_u8 (w0 := wo) (base := wo.heap.size) rfl _ _ rfl V2 cs 48 rfl rfl HB.out.2.2.2.1 HB.out.2.2.2.2 HB.out.2.2.2.2.size (by have := HC7.out; omega) ?_; intro v6 w6 hv hb hg; have HV6 := Aside0.mk (And.intro hv hb); clear hv hb hg))
                    go_roundg (gk - 1)
                    case measure => have := HB.out.1; omega
                    case rel => exact ⟨t + 1, _, _, rfl, by go_num, ⟨by have := HB.out.1; omega, by rw [HB.out.2.1, List.append_assoc, ← List.replicate_succ'], fun h => absurd h (by omega), HV6.out.1, HV6.out.2⟩⟩
                  · have h9i : ((nd + t : Nat) : Int) < 9 := by omega
                    have hki : ¬ ((k : Int) < (gs.length : Int) - 1) := by omega
                    have ht0 : t = 0 := HB.out.2.2.1 (by omega)
                    have TT : (k + 1 = gs.length ∧ t = 0) ∨ (k + 1 < gs.length ∧ t = 9 - Lib.nDigits (dg gs k).toNat) := Or.inl ⟨by omega, ht0⟩
                    go_wp2_with (first | (at_builtin; refine app_str (w0 := wo) (base := wo.heap.size) rfl _ _ rfl V2 cs ⟨(Lib.decDigits (dg gs k).toNat).toArray⟩ rfl rfl HB.out.2.2.2.1 HB.out.2.2.2.2 HB.out.2.2.2.2.size (by rw [hsz]; have := HC7.out; omega) ?_; intro v7 w7 hv hb hg; have HV7 := Aside0.mk (And.intro hv hb); clear hv hb hg))
                    go_roundg k
                    case measure => have := HA.out; omega
                    case rel =>
                      have hs := tt_step gs GS.out.1 GS.out.2 k t hk TT
                      refine ⟨k, _, _, rfl, by go_num, ⟨rfl, by omega, ?_, ?_, HV7.out.1, HV7.out.2⟩⟩
                      · rw [HB.out.2.1, HA.out.2.2.1, bytesOf_tx, hs, tx_append, tx_append, tx_append, tx_append, tx_replicate]
                        simp [List.append_assoc]
                      · rw [HB.out.2.1]
                        have h1 := HA.out.2.2.2.1
                        have h2 := HN.out
                        have h3 := HNN.out
                        have h4 := HB.out.1
                        rw [bytesOf_tx, List.length_append, List.length_append, List.length_replicate, tx_length]
                        omega
                · have h9i : ¬ (((nd + t : Nat) : Int) < 9) := by omega
                  have TT : (k + 1 = gs.length ∧ t = 0) ∨ (k + 1 < gs.length ∧ t = 9 - Lib.nDigits (dg gs k).toNat) := by
                    by_cases hkt : k + 1 = gs.length
                    · exact Or.inl ⟨hkt, HB.out.2.2.1 hkt⟩
                    · exact Or.inr ⟨by omega, by rw [HNN.out]; have := HB.out.1; omega⟩
                  go_wp2_with (first | (at_builtin; refine app_str (w0 := wo) (base := wo.heap.size) rfl _ _ rfl V2 cs ⟨(Lib.decDigits (dg gs k).toNat).toArray⟩ rfl rfl HB.out.2.2.2.1 HB.out.2.2.2.2 HB.out.2.2.2.2.size (by rw [hsz]; have := HC7.out; omega) ?_; intro v7 w7 hv hb hg; have HV7 := Aside0.mk (And.intro hv hb); clear hv hb hg))
                  go_roundg k
                  case measure => have := HA.out; omega
                  case rel =>
                    have hs := tt_step gs GS.out.1 GS.out.2 k t hk TT
                    refine ⟨k, _, _, rfl, by go_num, ⟨rfl, by omega, ?_, ?_, HV7.out.1, HV7.out.2⟩⟩
                    · rw [HB.out.2.1, HA.out.2.2.1, bytesOf_tx, hs, tx_append, tx_append, tx_append, tx_append, tx_replicate]
                      simp [List.append_assoc]
                    · rw [HB.out.2.1]
                      have h1 := HA.out.2.2.2.1
                      have h2 := HN.out
                      have h3 := HNN.out
                      have h4 := HB.out.1
                      rw [bytesOf_tx, List.length_append, List.length_append, List.length_replicate, tx_length]
                      omega
      · have hcl : 0 < cs.length := List.length_pos_iff.2 hc
        have HC := Aside0.mk hc
        clear hc
        have hF := HF.out
        obtain ⟨g, cap, e, hg0, hglt⟩ := hF.2.2.2.2.2.2.1.form hcl
        simp only [Value.slice.injEq] at e
        obtain ⟨rfl, _, rfl⟩ := e
        have hgl : gs.length + 1 ≤ 2199023255552 * 8 := by have := hF.2.2.2.2.2.1.2; omega
        have hcs : cs.length ≤ 274877906944 := by have := hF.2.1; omega
        have hGw : ∀ w1, wr.grownBy w1 (some g) → Ow w1 (w.heap.size + 1) G gs := by
          intro w1 hg1
          refine hF.2.2.2.2.2.2.2.1.other hg1 ?_
          rcases hF.2.2.2.2.2.2.2.2.1 with h | h
          · simp [Value.ownBlock] at h
          · right; intro e; exact h (by rw [e]; rfl)
        have HG := Aside0.mk hGw
        have HW := Aside0.mk hF.2.2.2.2.2.2.1
        clear hF hGw hg0 hglt
        have hbs : ∀ w1 : World, wr.grownBy w1 (some g) → w.heap.size + 1 ≤ w1.heap.size := by
          intro w1 hg1
          have h1 := HF.out.2.2.2.2.2.2.2.2.2
          have := (Array.getElem?_eq_some_iff.1 h1.x.blk).1
          have := hg1.size
          omega
        have HBS := Aside0.mk hbs
        have hm : ∀ (w1 w3 : World) (ys : List Int), Ow w1 (w.heap.size + 1) (.slice (some ⟨g, 0, none⟩) cs.length c) ys → w1.grownBy w3 G.ownBlock → ys.length = cs.length → Calls Tryd.prog 50 #[.agg #[.bool false, .slice (some ⟨g, 0, none⟩) cs.length c]] w3 fun e w' => e = .returned (.slice (some ⟨g, 0, none⟩) (trimL ys).length c) ∧ Below w3.heap.size w3 w' := by
          intro w1 w3 ys hy hg2 hl
          have h := HF.out.2.2.2.2.2.2.2.2.1
          have h2 := magnitude_any false (some ⟨g, 0, none⟩) c ys w3 (hy.other hg2 (h.imp id id)).rd'.2 (by omega)
          rw [hl] at h2
          exact h2
        have HM := Aside0.mk hm
        clear hm
        clear hbs
        go_wp2_with (first
          | (go_at_call 65; (with_reducible refine (shrunk_any (some ⟨g, 0, none⟩) c (w.heap.size + 1) cs 1000000000 _ HW.out (by omega) (by omega)).mono ?_); rintro e w1 ⟨ys, rfl, hy, hv, hl, hg1⟩; have HY := Aside0.mk (And.intro hy (And.intro hv hl)); have HG1 := Aside0.mk (show wr.grownBy w1 (some g) from hg1); clear hy hv hl hg1)
          | (at_builtin; refine app1_u32 (base := w.heap.size + 1) rfl _ _ rfl G gs (val cs % 1000000000) (by omega) rfl rfl (HG.out _ HG1.out) (HBS.out _ HG1.out) hgl ?_; intro v5 w3 hG hg2 hat; have HG3 := Aside0.mk (And.intro hG (And.intro hg2 hat)); clear hG hg2 hat)
          | (go_at_call 50; (with_reducible refine (HM.out _ _ _ HY.out.1 HG3.out.2.1 HY.out.2.2).mono ?_); rintro e w4 ⟨rfl, hb⟩))
        have FN := fi_next w wr w1 _ w4 n A0 c0 xs g c G _ cs gs ys gk HF.out HC.out HY.out.1 HY.out.2.1 HY.out.2.2 HG1.out HG3.out.1 HG3.out.2.1 HG3.out.2.2 hb
        go_roundg (gk - 1)
        case measure => have := FN.1; omega
        case rel => exact ⟨_, _, _, _, _, rfl, rfl, ⟨FN.2⟩⟩
end Go.Proofs.YtegnnghoiffmhaaDoor.Big
